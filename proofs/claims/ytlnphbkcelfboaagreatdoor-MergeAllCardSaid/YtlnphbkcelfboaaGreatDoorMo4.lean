/-
  What an operation does in the abstract machine, reckoned by a function, and that it is so. The abstract machine's operations are sound. Regions that draw their order: one walk in the order of the text, if what may change places does not touch.
-/
import Derived.Test.YtlnphbkcelfboaaGreatDoorMo3
set_option linter.unusedSimpArgs false
set_option linter.unusedVariables false
section
set_option maxRecDepth 100000
namespace Go.Sx
open Go
def fcL{α β:Type}:List α→(List α→β)→β
 |[],k=>k []
 |x::t,k=>fcL t fun t'=>k (x::t')
theorem fcL_eq{α β:Type}: ∀(l:List α) (k:List α→β),fcL l k=k l
 |[],_=>rfl
 |x::t,k=>by rw[fcL,fcL_eq t]
def takeX:List FX→Nat→Nat→Option (List FX)
 |_,0,0=>some []
 |[],0,_+1=>none
 |v::t,0,k+1=>match takeX t 0 k with|some l=>some (v::l)|none=>none
 |[],_+1,_=>none
 |_::t,off+1,k=>takeX t off k
def ovX:List FX→Nat→List FX→List FX
 |[],_,_=>[]
 |c::t,0,vs=>match vs with
  |[]=>c::t
  |v::vs=>v::ovX t 0 vs
 |c::t,off+1,vs=>c::ovX t off vs
theorem ovw_nil: ∀(n:List Value) (off:Nat),ovw [] off n=[]
 |[],_=>rfl
 |_::n,off=>ovw_nil n (off+1)
theorem ovw_cons: ∀(n:List Value) (y:Value) (m:List Value) (off:Nat),ovw (y::m) (off+1) n=y::ovw m off n
 |[],_,_,_=>rfl
 |v::n,y,m,off=>ovw_cons n y (m.set off v) (off+1)
section
variable {ρ:NE} {G:Gh}
theorem IsXs.takeX: ∀{ds:List FX} {m:List Value} {off k:Nat} {l:List FX},IsXs ρ G ds m→takeX ds off k=some l→ ∃n,takeL m off k=some n∧IsXs ρ G l n
 |[],m,0,0,l,h,e=>by cases e;rw[show m=[] from h];exact⟨[],rfl,rfl⟩
 |d::t,m,0,0,l,⟨y,n,e1,h1,h2⟩,e=>by subst e1;cases e;exact⟨[],rfl,rfl⟩
 |[],m,0,k+1,l,h,e=>by simp[Sx.takeX] at e
 |d::t,m,0,k+1,l,⟨y,n,e1,h1,h2⟩,e=>by
  subst e1
  simp only[Sx.takeX] at e
  split at e
  ·rename_i l' hl'
   cases e
   obtain⟨q,hq,hl⟩:=h2.takeX hl'
   exact⟨y::q,by simp only[takeL,hq],y,q,rfl,h1,hl⟩
  ·cases e
 |[],m,off+1,k,l,h,e=>by simp[Sx.takeX] at e
 |d::t,m,off+1,k,l,⟨y,n,e1,h1,h2⟩,e=>by subst e1;exact h2.takeX (off:=off) (k:=k) e
theorem IsXs.ov: ∀{ds:List FX} {m:List Value} {off:Nat} {vs:List FX} {n:List Value},IsXs ρ G ds m→IsXs ρ G vs n→IsXs ρ G (ovX ds off vs) (ovw m off n)
 |[],m,off,vs,n,h,k=>by rw[show m=[] from h,ovw_nil];rfl
 |d::t,m,0,[],n,h,k=>by rw[show n=[] from k];exact h
 |d::t,m,0,v::vs,n,⟨y,m',e,h1,h2⟩,⟨u,n',e',k1,k2⟩=>by
  subst e e'
  show IsXs ρ G (v::ovX t 0 vs) (ovw (u::m') 1 n')
  rw[ovw_cons]
  exact⟨u,_,rfl,k1,h2.ov k2⟩
 |d::t,m,off+1,vs,n,⟨y,m',e,h1,h2⟩,k=>by
  subst e
  rw[ovw_cons]
  exact⟨y,_,rfl,h1,h2.ov k⟩
def unmix:List FX→Option (List DV×Nat×List DV)
 |[]=>none
 |f::t=>match f with
  | .rw nm=>match toDXs t with
   |some post=>some ([],nm,post)
   |none=>none
  |f=>match toDX f,unmix t with
   |some d,some (pre,nm,post)=>some (d::pre,nm,post)
   |_,_=>none
theorem unmix_is: ∀{l:List FX} {m:List Value} {pre:List DV} {nm:Nat} {post:List DV},IsXs ρ G l m→unmix l=some (pre,nm,post)→ ∃m1 m2,m=m1++Value.slice (ρ nm).a (ρ nm).n (ρ nm).c::m2∧IsLs G pre m1∧IsLs G post m2
 |[],m,pre,nm,post,h,e=>by cases e
 |f::t,m,pre,nm,post,⟨y,n,e1,h1,h2⟩,e=>by
  subst e1
  simp only[unmix] at e
  split at e
  ·split at e<;>cases e
   rename_i hp
   cases (show y=_ from h1)
   exact⟨[],n,rfl, .nil,toDXs_is h2 hp⟩
  ·split at e<;>cases e
   rename_i hd hu
   obtain⟨m1,m2,rfl,k1,k2⟩:=unmix_is h2 hu
   exact⟨y::m1,m2,rfl, .cons (toDX_is h1 hd) k1,k2⟩
def agX(l:List FX):Option FX:=match toDXs l with
 |some ds=>some (.d (.ag ds))
 |none=>match unmix l with
  |some (pre,nm,post)=>some (.bx false pre nm post)
  |none=>none
theorem agX_is{l:List FX}{n:List Value}{f:FX}(h:IsXs ρ G l n)(e:agX l=some f):IsX ρ G f (.agg ⟨n⟩):=by
 unfold agX at e
 split at e
 ·rename_i hd;cases e;exact is_ag.2 ⟨n,rfl,toDXs_is h hd⟩
 ·split at e<;>cases e
  rename_i hu
  obtain⟨m1,m2,rfl,k1,k2⟩:=unmix_is h hu
  exact⟨m1,m2,rfl,k1,k2⟩
def exB:Nat→List DV→Nat→List DV→Option FX
 |0,[],nm,_=>some (.rw nm)
 |i+1,[],_,post=>match post[i]? with
  |some d=>some (.d d)
  |none=>none
 |0,d::_,_,_=>some (.d d)
 |i+1,_::t,nm,post=>exB i t nm post
theorem exB_is: ∀{i:Nat} {pre:List DV} {nm:Nat} {post:List DV} {f:FX} {m1 m2:List Value},exB i pre nm post=some f→IsLs G pre m1→IsLs G post m2→ ∃y,(m1++Value.slice (ρ nm).a (ρ nm).n (ρ nm).c::m2)[i]? =some y∧IsX ρ G f y
 |0,[],nm,post,f,m1,m2,e,h1,h2=>by cases e;rw[isl_nil.1 h1];exact⟨_,rfl,rfl⟩
 |i+1,[],nm,post,f,m1,m2,e,h1,h2=>by
  rw[isl_nil.1 h1]
  simp only[exB] at e
  split at e<;>cases e
  rename_i hp
  obtain⟨l',h3,h4⟩:=h2.get hp
  exact⟨l',by simpa using h3,h4⟩
 |0,d::t,nm,post,f,m1,m2,e,h1,h2=>by
  cases e
  obtain⟨y,n,rfl,k1,k2⟩:=isl_cons.1 h1
  exact⟨y,rfl,k1⟩
 |i+1,d::t,nm,post,f,m1,m2,e,h1,h2=>by
  obtain⟨y,n,rfl,k1,k2⟩:=isl_cons.1 h1
  obtain⟨u,h3,h4⟩:=exB_is (i:=i) e k2 h2
  exact⟨u,by simpa using h3,h4⟩
end
structure CR where
 vc:Option Prop
 f:FX
 bl:List (Nat×Option Bk)
 nw:List Nat
def kq:IntKind→IntKind→Bool
 | .i64, .i64=>true
 | .u64, .u64=>true
 | .u32, .u32=>true
 | .u8, .u8=>true
 | .i32, .i32=>true
 |_,_=>false
theorem kq_eq{k j:IntKind}(h:kq k j=true):j=k:=by cases k<;>cases j<;>first|rfl|(simp[kq] at h)
def rng{α:Type}(k:IntKind)(x:Int)(K:Prop→Option α):Option α:=match k with
 | .i64=>K (-9223372036854775808≤x∧x≤9223372036854775807)
 | .u64=>K (0≤x∧x≤18446744073709551615)
 | .u32=>K (0≤x∧x≤4294967295)
 | .u8=>K (0≤x∧x≤255)
 | .i32=>K (-2147483648≤x∧x≤2147483647)
 |_=>none
theorem rng_ok{α:Type}{k:IntKind}{x:Int}{K:Prop→Option α}{r:α}(h:rng k x K=some r): ∃p,K p=some r∧(p→k.min≤x∧x≤k.max):=by
 cases k<;>first|(simp[rng] at h;done)|exact⟨_,h,id⟩
def vcI(k:IntKind)(x:Int):Option (Option Prop×FX):=rng k x fun p=>some (some p, .d (.v (.int k x)))
def arX(op:BinOp)(k:IntKind)(p q:Int):Option (Option Prop×FX):=match op with
 | .add=>vcI k (p+q)
 | .sub=>vcI k (p-q)
 | .mul=>vcI k (p*q)
 | .quo=>match k with
  | .u64=>some (some (0≤p∧p≤18446744073709551615∧0<q), .d (.v (.int .u64 (p/q))))
  |k=>some (some (q≠0), .d (.v (.int k (k.wrap (p.tdiv q)))))
 | .rem=>match k with
  | .u64=>some (some (0≤p∧q≠0), .d (.v (.int .u64 (p%q))))
  | .u32=>some (some (0≤p∧q≠0), .d (.v (.int .u32 (p%q))))
  |k=>some (some (q≠0), .d (.v (.int k (p.tmod q))))
 | .shr=>some (some (0≤q), .d (.v (.int k (p.fdiv (2^min q.toNat k.bits)))))
 | .shl=>some (some (0≤q), .d (.v (.int k (k.wrap (p*2^min q.toNat k.bits)))))
 | .or=>match k with
  | .u64=>some (none, .d (.v (.int .u64 ((BitVec.ofInt 64 p ||| BitVec.ofInt 64 q).toNat:Nat))))
  | .u32=>some (none, .d (.v (.int .u32 ((BitVec.ofInt 32 p ||| BitVec.ofInt 32 q).toNat:Nat))))
  |_=>none
 | .and=>match k with
  | .u64=>some (none, .d (.v (.int .u64 ((BitVec.ofInt 64 p &&& BitVec.ofInt 64 q).toNat:Nat))))
  | .u32=>some (none, .d (.v (.int .u32 ((BitVec.ofInt 32 p &&& BitVec.ofInt 32 q).toNat:Nat))))
  |_=>none
 | .lss=>some (none, .pr (p<q) inferInstance)
 | .leq=>some (none, .pr (p≤q) inferInstance)
 | .gtr=>some (none, .pr (q<p) inferInstance)
 | .geq=>some (none, .pr (q≤p) inferInstance)
 | .eql=>some (none, .pr (p=q) inferInstance)
 | .neq=>some (none, .pr (p≠q) inferInstance)
 |_=>none
def toB:FX→Option Bool
 | .tt=>some true
 | .ff=>some false
 | .pr p h=>some (@decide p h)
 | .d (.v (.bool b))=>some b
 |_=>none
theorem toB_is{ρ:NE}{G:Gh}{f:FX}{b:Bool}{y:Value}(h:IsX ρ G f y)(e:toB f=some b):y= .bool b:=by
 unfold toB at e
 split at e<;>first|(cases e;done)|(cases e;exact h)|(cases e;exact(is_v (G:=G)).1 h)
def ngX:FX→Option FX
 | .tt=>some .ff
 | .ff=>some .tt
 | .pr p h=>some (.pr (¬p) (@instDecidableNot p h))
 | .d (.v (.bool b))=>some (.d (.v (.bool (!b))))
 |_=>none
theorem ngX_is{ρ:NE}{G:Gh}{f g:FX}{y:Value}(h:IsX ρ G f y)(e:ngX f=some g): ∃b,y= .bool b∧IsX ρ G g (.bool (!b)):=by
 unfold ngX at e
 split at e
 ·cases e;exact⟨true,h,rfl⟩
 ·cases e;exact⟨false,h,rfl⟩
 ·rename_i p hp
  cases e
  refine⟨@decide p hp,h,?_⟩
  show Value.bool _= .bool _
  congr 1
  cases hp<;>rfl
 ·rename_i b;cases e;exact⟨b,(is_v (G:=G)).1 h,(is_v (G:=G)).2 rfl⟩
 ·cases e
def nilX(T:TT)(t:TypeId)(f:FX)(y:Operand):Option Bool:=match lookT T t with
 |some ⟨.fc,_,_,_⟩=>match y,f with
  | .const .nilIface, .d (.v .nilIface)=>some true
  | .const .nilIface, .d (.v (.iface _ _))=>some false
  |_,_=>none
 |some ⟨.pt,_,_,_⟩=>match y,f with
  | .const (.pointer none), .d (.v (.pointer none))=>some true
  | .const (.pointer none), .ov _ _=>some false
  | .const (.pointer none), .ep _=>some false
  | .const (.pointer none), .be _ _ _ _=>some false
  | .const (.pointer none), .d (.pt _)=>some false
  |_,_=>none
 |some ⟨.sl _ _ _,_,_,_⟩=>match y,f with
  | .const (.slice none _ _), .nl=>some true
  |_,_=>none
 |_=>none
def opX(T:TT)(op:BinOp)(t:TypeId)(b:Bool):Option (Option Prop×FX):=match lookT T t with
 |some ⟨.pt,_,_,_⟩=>match op with
  | .eql=>some (none, .pr (b=false) inferInstance)
  | .neq=>some (none, .pr (b=true) inferInstance)
  |_=>none
 |_=>none
def boX(T:TT)(op:BinOp)(t:TypeId)(f g:FX)(y:Operand):Option (Option Prop×FX):=
 match f,g with
 | .d (.v (.int k p)), .d (.v (.int j q))=>match op with
  | .shr=>arX .shr k p q
  | .shl=>arX .shl k p q
  |op=>bif kq k j then arX op k p q else none
 | .d (.op b _), .d (.v (.pointer none))=>opX T op t b
 |f,g=>match nilX T t f y with
  |some b=>match op with
   | .eql=>some (none,bif b then .tt else .ff)
   | .neq=>some (none,bif b then .ff else .tt)
   |_=>none
  |none=>match lookT T t,toB f,toB g with
   |some ⟨.bl,_,_,_⟩,some a,some b=>match op with
    | .eql=>some (none, .d (.v (.bool (a==b))))
    | .neq=>some (none, .d (.v (.bool (!(a==b)))))
    |_=>none
   |_,_,_=>none
def mmX(mx:Bool)(f g:FX):Option FX:=match f,g with
 | .d (.v (.int k p)), .d (.v (.int j q))=>bif kq k j then(match mx with
  |true=>some (.d (.v (.int k (if q>p then q else p))))
  |false=>some (.d (.v (.int k (if q<p then q else p))))) else none
 |_,_=>none
def ldX(bk:BM)(i:TI)(f:FX):Option FX:=match i.ag with
 |some (some k)=>match f with
  | .ov nm off=>match bk nm with
   |some (.o _ cs _)=>match takeX cs off k with
    |some l=>agX l
    |none=>none
   |_=>none
  | .ep cs=>match takeD cs 0 k with
   |some l=>some (.d (.ag l))
   |none=>none
  |_=>none
 |some none=>match f with
  | .ov nm off=>match bk nm with
   |some (.o _ cs _)=>cs[off]?
   |_=>none
  | .ep cs=>match cs with
   |d::_=>some (.d d)
   |[]=>none
  |_=>none
 |none=>none
def FX.flat:FX→Bool
 | .d x=>x.flat
 | .bx _ _ _ _=>false
 | .un=>false
 | .no=>false
 |_=>true
def nmNe(f:FX)(d:Nat):Bool:=match f.nm with
 |some m=>!Nat.beq m d
 |none=>true
def stX(bk:BM)(i:TI)(fa fv:FX):Option (List (Nat×Option Bk)):=match fa with
 | .ov nm off=>match bk nm with
  |some (.o ty cs lo)=>match i.ag with
   |some (some k)=>bif fv.okc&&(Nat.beq fv.cells.length k&&Nat.ble (off+k) cs.length) then fcL (ovX cs off fv.cells) fun cs'=>some [(nm,some (.o ty cs' lo))] else none
   |some none=>bif fv.flat&&Nat.blt off cs.length then fcL (cs.set off fv) fun cs'=>some [(nm,some (.o ty cs' lo))] else none
   |none=>none
  |_=>none
 |_=>none
def bldX(lk:LK)(fo:List (Nat×Nat×Nat)):List FX→List (Nat×Operand)→Option (List FX)
 |cs,[]=>some cs
 |cs,(i,x)::r=>match fo[i]?,evX lk x with
  |some (off,_,k),some d=>bif d.okc&&(Nat.beq d.cells.length k&&Nat.ble (off+k) cs.length) then bldX lk fo (ovX cs off d.cells) r else none
  |_,_=>none
def lenX(bk:BM)(f:FX):Option FX:=match f with
 | .nl=>some (.d (.v (.int .i64 0)))
 | .d (.sl l)=>some (.d (.v (.int .i64 (l.length:Nat))))
 | .ct l=>some (.d (.v (.int .i64 (l.length:Nat))))
 | .rw nm=>match bk nm with
  |some (.b _ _ ds _)=>some (.d (.v (.int .i64 (ds.length:Nat))))
  |_=>none
 |_=>none
def faX(fo:List (Nat×Nat×Nat))(i:Nat)(f:FX):Option FX:=match fo[i]? with
 |some (off,_,_+1)=>match f with
  | .ov nm o=>some (.ov nm (o+off))
  | .ep l=>bif Nat.ble off l.length then fcL (l.drop off) fun l'=>some (.ep l') else none
  | .be nm s i j=>some (.be nm s i (j+off))
  |_=>none
 |_=>none
def fdX(T:TT)(fo:List (Nat×Nat×Nat))(i:Nat)(f:FX):Option FX:=match f with
 | .d (.ag cs)=>match fo[i]? with
  |some (off,ft,_)=>match lookT T ft with
   |some j=>match j.ag with
    |some (some k)=>match takeD cs off k with
     |some l=>some (.d (.ag l))
     |none=>none
    |some none=>match cs[off]? with
     |some c=>some (.d c)
     |none=>none
    |none=>none
   |none=>none
  |none=>none
 |_=>none
def cvX(T:TT)(t t':TypeId)(f:FX):Option (Option Prop×FX):=match lookT T t,lookT T t' with
 |some ⟨.int k,_,_,_⟩,some ⟨.int k',_,_,_⟩=>match f with
  | .d (.v (.int j p))=>bif kq k j then(match k' with
   | .u32=>some (none, .d (.v (.int .u32 (p%4294967296))))
   |k'=>vcI k' p) else none
  |_=>none
 |_,_=>none
def ixX(T:TT)(bk:BM)(t:TypeId)(f g:FX):Option (Option Prop×FX):=match f with
 | .rw nm=>match bk nm with
  |some (.b _ s ds _)=>match lookT T t with
   |some ⟨.sl _ s' _,_,_,_⟩=>match g with
    | .d (.v (.int _ i))=>bif Nat.beq s s' then some (some (0≤i∧i<(ds.length:Nat)), .be nm s i.toNat 0) else none
    |_=>none
   |_=>none
  |_=>none
 |_=>none
def pr1(r:Option FX):Option CR:=match r with
 |some f=>some ⟨none,f,[],[]⟩
 |none=>none
def pr2(r:Option (Option Prop×FX)):Option CR:=match r with
 |some (v,f)=>some ⟨v,f,[],[]⟩
 |none=>none
def ev2{α:Type}(lk:LK)(x y:Operand)(K:FX→FX→Option α):Option α:=match evX lk x with
 |some f=>match evX lk y with
  |some g=>K f g
  |none=>none
 |none=>none
def ev1{α:Type}(lk:LK)(x:Operand)(K:FX→Option α):Option α:=match evX lk x with
 |some f=>K f
 |none=>none
def tyS{α:Type}(T:TT)(t:TypeId)(K:List (Nat×Nat×Nat)→TI→Option α):Option α:=match lookT T t with
 |some ⟨.st fo,sz,z,za⟩=>K fo ⟨.st fo,sz,z,za⟩
 |_=>none
def tyI{α:Type}(T:TT)(t:TypeId)(K:TI→Option α):Option α:=match lookT T t with
 |some i=>K i
 |none=>none
def extX(i:Nat)(f:FX):Option FX:=match f with
 | .d (.tp ds)=>match ds[i]? with
  |some d=>some (.d d)
  |none=>none
 | .bx true pre nm post=>exB i pre nm post
 |_=>none
def nckX(f:FX):Option (Option Prop×FX):=match f with
 | .ov a b=>some (none, .ov a b)
 | .ep l=>some (none, .ep l)
 | .be a b c d=>some (none, .be a b c d)
 | .d (.pt l)=>some (none, .ep l)
 | .d (.op b l)=>some (some (b=true), .ep l)
 |_=>none
def pckX(c f g:FX):Option FX:=match c with
 | .tt=>some f
 | .ff=>some g
 |_=>none
def unX(op:UnOp)(f:FX):Option (Option Prop×FX):=match op with
 | .not=>match ngX f with
  |some g=>some (none,g)
  |none=>none
 | .neg=>match f with
  | .d (.v (.int k p))=>vcI k (-p)
  |_=>none
 |_=>none
def core(T:TT)(lk:LK)(bk:BM)(dst:Option Nat)(op:Op):Option CR:=match op with
 | .move x=>pr1 (evX lk x)
 | .assign x=>pr1 (evX lk x)
 | .pick c x y=>ev1 lk c fun c=>ev2 lk x y fun f g=>pr1 (pckX c f g)
 | .alloc t=>match dst with
  |some d=>tyI T t fun i=>match i.z with
   |some z=>fcL z fun cs=>some ⟨none, .ov d 0,[(d,some (.o t cs true))],[d]⟩
   |none=>none
  |none=>none
 | .box t x=>match dst with
  |some d=>ev1 lk x fun f=>bif f.okc&&nmNe f d then fcL f.cells fun cs=>some ⟨none, .ov d 0,[(d,some (.o t cs true))],[d]⟩ else none
  |none=>none
 | .nilCheck x=>ev1 lk x fun f=>pr2 (nckX f)
 | .fieldAddr t x i=>tyS T t fun fo _=>ev1 lk x fun f=>pr1 (faX fo i f)
 | .field t x i=>tyS T t fun fo _=>ev1 lk x fun f=>pr1 (fdX T fo i f)
 | .load t x=>tyI T t fun i=>ev1 lk x fun f=>pr1 (ldX bk i f)
 | .store t x y=>tyI T t fun i=>ev2 lk x y fun f g=>match stX bk i f g with
  |some bl=>some ⟨none, .un,bl,[]⟩
  |none=>none
 | .extract x i=>ev1 lk x fun f=>pr1 (extX i f)
 | .build t parts=>tyS T t fun fo i=>match i.z with
  |some z=>match bldX lk fo z parts.toList with
   |some cs=>match agX cs with
    |some f=>some ⟨none,f,[],[]⟩
    |none=>none
   |none=>none
  |none=>none
 | .binOp op t x y _=>ev2 lk x y fun f g=>pr2 (boX T op t f g y)
 | .unOp op _ x=>ev1 lk x fun f=>pr2 (unX op f)
 | .convert t t' x=>ev1 lk x fun f=>pr2 (cvX T t t' f)
 | .indexAddr t x y=>ev2 lk x y fun f g=>pr2 (ixX T bk t f g)
 | .call ⟨.builtin .len,⟨[x]⟩,⟨[t]⟩⟩=>match lookT T t with
  |some ⟨.sl _ _ _,_,_,_⟩=>ev1 lk x fun f=>pr1 (lenX bk f)
  |_=>none
 | .call ⟨.builtin .max,⟨[x,y]⟩,⟨[_,_]⟩⟩=>ev2 lk x y fun f g=>pr1 (mmX true f g)
 | .call ⟨.builtin .min,⟨[x,y]⟩,⟨[_,_]⟩⟩=>ev2 lk x y fun f g=>pr1 (mmX false f g)
 |_=>none
end Go.Sx
end

section
set_option maxRecDepth 100000
namespace Go.Sx
open Go
section
variable {P:Program} {T:TT} {GB:Gh} {C:Ctx} {n:Nat} {lk:LK} {bk:BM} {ρ:NE} {G:Gh} {ov:List Own} {a:Act} {w:World}
variable {dst:Option Nat} {t t' ty':TypeId} {pos:String} {af:Array Edge} {gd:Option (Nat×Bool)} {x y z:Operand}
def CRok(P:Program)(GB:Gh)(C:Ctx)(n:Nat)(lk:LK)(bk:BM)(o:Oper)(r:CR):Prop:=(∀p,r.vc=some p→p)→OpR P GB C n lk bk o r.f r.bl r.nw
theorem pr1_ok{r:Option FX}{c:CR}(h:pr1 r=some c): ∃f,r=some f∧c=⟨none,f,[],[]⟩:=by
 unfold pr1 at h
 split at h
 ·cases h;exact⟨_,rfl,rfl⟩
 ·cases h
theorem pr2_ok{r:Option (Option Prop×FX)}{c:CR}(h:pr2 r=some c): ∃v f,r=some (v,f)∧c=⟨v,f,[],[]⟩:=by
 unfold pr2 at h
 split at h
 ·cases h;exact⟨_,_,rfl,rfl⟩
 ·cases h
theorem ev1_ok{α:Type}{K:FX→Option α}{r:α}(h:ev1 lk x K=some r): ∃f,evX lk x=some f∧K f=some r:=by
 unfold ev1 at h
 split at h
 ·exact⟨_,by assumption,h⟩
 ·cases h
theorem ev2_ok{α:Type}{K:FX→FX→Option α}{r:α}(h:ev2 lk x y K=some r): ∃f g,evX lk x=some f∧evX lk y=some g∧K f g=some r:=by
 unfold ev2 at h
 split at h
 ·split at h
  ·exact⟨_,_,by assumption,by assumption,h⟩
  ·cases h
 ·cases h
theorem tyI_ok{α:Type}{K:TI→Option α}{r:α}(hT:TOK P T)(h:tyI T t K=some r): ∃i,tiOf P t=some i∧K i=some r:=by
 unfold tyI at h
 split at h
 ·rename_i i hi;exact⟨i,hT _ _ hi,h⟩
 ·cases h
theorem tyS_ok{α:Type}{K:List (Nat×Nat×Nat)→TI→Option α}{r:α}(hT:TOK P T)(h:tyS T t K=some r): ∃fo i,tiOf P t=some i∧i.k= .st fo∧K fo i=some r:=by
 unfold tyS at h
 split at h
 ·rename_i fo sz z za hi;exact⟨fo,_,hT _ _ hi,rfl,h⟩
 ·cases h
theorem OpR.x1{o:Oper}{f g:FX}(e:evX lk x=some f)(h: ∀ρ G ov (a:Act) w y,HRel C ov G w→RlX GB C n lk bk ρ G ov a w→opv (frA a) x=some y→IsX ρ G f y→ ∃u,IsX ρ G g u∧Yd P C (frA a) ov G o u):OpR P GB C n lk bk o g [] []:=
 .yd fun ρ G ov a w r=>by
  obtain⟨y,h1,h2⟩:=r.ev e
  exact h ρ G ov a w y r.h r h1 h2
theorem ok_move{f:FX}(e:evX lk x=some f):OpR P GB C n lk bk ⟨dst, .move x,ty',pos,af,gd⟩ f [] []:= .x1 e fun _ _ _ _ _ y _ _ h1 h2=>⟨y,h2,yd_move h1⟩
theorem ok_assign{f:FX}(e:evX lk x=some f):OpR P GB C n lk bk ⟨dst, .assign x,ty',pos,af,gd⟩ f [] []:= .x1 e fun _ _ _ _ _ y _ _ h1 h2=>⟨y,h2,yd_assign h1⟩
theorem ok_pick{c f g v:FX}(ec:evX lk z=some c)(e1:evX lk x=some f)(e2:evX lk y=some g)(h:pckX c f g=some v):OpR P GB C n lk bk ⟨dst, .pick z x y,ty',pos,af,gd⟩ v [] []:= .yd fun ρ G ov a w r=>by
 obtain⟨u,h1,h2⟩:=r.ev ec
 unfold pckX at h
 split at h
 ·cases h;cases h2;obtain⟨u,h3,h4⟩:=r.ev e1;exact⟨u,h4,yd_pickT h1 h3⟩
 ·cases h;cases h2;obtain⟨u,h3,h4⟩:=r.ev e2;exact⟨u,h4,yd_pickF h1 h3⟩
 ·cases h
theorem ok_nck{f g:FX}{v:Option Prop}(e:evX lk x=some f)(h:nckX f=some (v,g))(hv: ∀r,v=some r→r):OpR P GB C n lk bk ⟨dst, .nilCheck x,ty',pos,af,gd⟩ g [] []:= .x1 e fun ρ G ov a w y _ _ h1 h2=>by
 have key: ∀l,Is G (.pt l) y→ ∃u,IsX ρ G (.ep l) u∧Yd P C (frA a) ov G ⟨dst, .nilCheck x,ty',pos,af,gd⟩ u:=fun l h2=>by
  obtain⟨b,m,rfl,hb,hm⟩:=is_pt.1 h2
  refine⟨_,⟨b,0,m,m,rfl,hb,?_,hm⟩,yd_nilCheck h1⟩
  rw[takeL_of _ _ _ (by rw[hm.len];omega),List.drop_zero,List.take_of_length_le (by rw[hm.len];omega)]
 unfold nckX at h
 split at h<;>cases h
 ·obtain⟨b,hb,rfl⟩:=h2;exact⟨_,⟨b,hb,rfl⟩,yd_nilCheck h1⟩
 ·obtain⟨b,o,cs,m,rfl,h3⟩:=h2;exact⟨_,⟨b,o,cs,m,rfl,h3⟩,yd_nilCheck h1⟩
 ·obtain⟨b,hb,rfl⟩:=h2;exact⟨_,⟨b,hb,rfl⟩,yd_nilCheck h1⟩
 ·exact key _ h2
 ·rcases is_op.1 (show Is G _ y from h2) with⟨e,_⟩|⟨_,h3⟩
  ·have:=hv _ rfl;rw[e] at this;cases this
  ·exact key _ h3
theorem ok_fa{f g:FX}{fo:List (Nat×Nat×Nat)}{i:TI}{k:Nat}(hi:tiOf P t=some i)(hk:i.k= .st fo)(e:evX lk x=some f)(h:faX fo k f=some g):OpR P GB C n lk bk ⟨dst, .fieldAddr t x k,ty',pos,af,gd⟩ g [] []:= .x1 e fun ρ G ov a w y _ _ h1 h2=>by
 unfold faX at h
 split at h
 ·rename_i off ft s ho
  have:=ti_fa hi hk ho
  split at h
  ·cases h;obtain⟨b,hb,rfl⟩:=h2;exact⟨_,⟨b,hb,rfl⟩,yd_fieldAddr h1⟩
  ·rename_i l
   cases hb:Nat.ble off l.length with
   |false=>rw[hb] at h;cases h
   |true=>
    rw[hb,cond_true,fcL_eq] at h;cases h
    obtain⟨b,o,cs,m,rfl,hb',ht,hm⟩:=h2
    refine⟨_,⟨b,o+off,cs,m.drop off,rfl,hb',?_,hm.drop _⟩,yd_fieldAddr h1⟩
    rw[List.length_drop]
    exact takeL_dr ht (by simpa using hb)
  ·cases h
   obtain⟨b,hb,rfl⟩:=h2
   exact⟨_,⟨b,hb,rfl⟩,by rw[←Nat.add_assoc];exact yd_fieldAddr h1⟩
  ·cases h
 ·cases h
theorem ok_fd{f g:FX}{fo:List (Nat×Nat×Nat)}{i:TI}{k:Nat}(hT:TOK P T)(hi:tiOf P t=some i)(hk:i.k= .st fo)(e:evX lk x=some f)(h:fdX T fo k f=some g):OpR P GB C n lk bk ⟨dst, .field t x k,ty',pos,af,gd⟩ g [] []:= .x1 e fun ρ G ov a w y _ _ h1 h2=>by
 unfold fdX at h
 split at h<;>try (cases h;done)
 rename_i cs
 split at h<;>try (cases h;done)
 rename_i off ft s ho
 split at h<;>try (cases h;done)
 rename_i j hj
 obtain⟨m,rfl,hm⟩:=is_ag.1 (show Is G _ y from h2)
 have:=ti_fd hi hk ho
 split at h<;>try (cases h;done)
 ·rename_i q ha
  have:=ti_agA (hT _ _ hj) ha
  split at h<;>cases h
  rename_i l hl
  obtain⟨l',h3,h4⟩:=hm.takeD hl
  exact⟨.agg ⟨l'⟩,is_ag.2 ⟨l',rfl,h4⟩,yd_fieldA h1 h3⟩
 ·rename_i ha
  have:=ti_agS (hT _ _ hj) ha
  split at h<;>cases h
  rename_i c hc
  obtain⟨l',h3,h4⟩:=hm.get hc
  exact⟨l',h4,yd_fieldS h1 h3⟩
theorem RlX.own{nm off:Nat}{y:Value}{ty:TypeId}{cs:List FX}{lo:Bool}(r:RlX GB C n lk bk ρ G ov a w)(h2:IsX ρ G (.ov nm off) y)(hb:bk nm=some (.o ty cs lo)): ∃b m,y= .pointer (some ⟨b,off,none⟩)∧(ρ nm).a=some ⟨b,0,none⟩∧IsXs ρ G cs m∧⟨b,m,ty,lo⟩∈ov:=by
 obtain⟨os,⟨b,m,h3,rfl,h4⟩,h5⟩:=r.bx _ _ hb
 obtain⟨b',h6,rfl⟩:=h2
 rw[h3] at h6;cases h6
 exact⟨b,m,rfl,h3,h4,h5 _ List.mem_cons_self⟩
theorem ok_ld{f g:FX}{i:TI}(hi:tiOf P t=some i)(e:evX lk x=some f)(h:ldX bk i f=some g):OpR P GB C n lk bk ⟨dst, .load t x,ty',pos,af,gd⟩ g [] []:= .x1 e fun ρ G ov a w y _ r h1 h2=>by
 unfold ldX at h
 split at h<;>try (cases h;done)
 ·rename_i k ha
  have:=ti_agA hi ha
  split at h<;>try (cases h;done)
  ·split at h<;>try (cases h;done)
   rename_i hb
   split at h<;>try (cases h;done)
   rename_i l hl
   obtain⟨b,m,rfl,h3,h4,h5⟩:=r.own h2 hb
   obtain⟨l',h6,h7⟩:=h4.takeX hl
   have:OAt ov b m _ _:=⟨h5⟩
   exact⟨.agg ⟨l'⟩,agX_is h7 h,yd_load_own h1 h6⟩
  ·split at h<;>cases h
   rename_i hl
   obtain⟨b,o,ms,m,rfl,hb,ht,hm⟩:=h2
   obtain⟨l',h3,h4⟩:=hm.takeD hl
   exact⟨.agg ⟨l'⟩,is_ag.2 ⟨l',rfl,h4⟩,yd_load_gh h1 hb (by simpa using takeL_sub ht h3)⟩
 ·rename_i ha
  have:=ti_agS hi ha
  split at h<;>try (cases h;done)
  ·split at h<;>try (cases h;done)
   rename_i hb
   obtain⟨b,m,rfl,h3,h4,h5⟩:=r.own h2 hb
   obtain⟨l',h6,h7⟩:=h4.get h
   have:OAt ov b m _ _:=⟨h5⟩
   exact⟨l',h7,yd_load_own1 h1 h6⟩
  ·split at h<;>cases h
   obtain⟨b,o,ms,m,rfl,hb,ht,hm⟩:=h2
   obtain⟨l',h3,h4⟩:=hm.get (i:=0) rfl
   have:=get_of_takeL ht (i:=0) (Nat.succ_pos _)
   rw[Nat.add_zero] at this
   exact⟨l',h4,yd_load_gh1 h1 hb (by rw[this];exact h3)⟩
theorem ok_ext{f g:FX}{i:Nat}(e:evX lk x=some f)(h:extX i f=some g):OpR P GB C n lk bk ⟨dst, .extract x i,ty',pos,af,gd⟩ g [] []:= .x1 e fun ρ G ov a w y _ r h1 h2=>by
 unfold extX at h
 split at h<;>try (cases h;done)
 ·split at h<;>cases h
  rename_i hv
  obtain⟨m,rfl,hm⟩:=is_tp.1 (show Is G _ y from h2)
  obtain⟨l',h3,h4⟩:=hm.get hv
  exact⟨l',h4,yd_extract h1 (by simpa using h3)⟩
 ·obtain⟨m1,m2,rfl,k1,k2⟩:=h2
  obtain⟨l',h3,h4⟩:=exB_is (ρ:=ρ) h k1 k2
  exact⟨l',h4,yd_extract h1 (by simpa using h3)⟩
theorem bldX_bld{fo:List (Nat×Nat×Nat)}(r:RlX GB C n lk bk ρ G ov a w): ∀(ps:List (Nat×Operand)) (cs out:List FX) (m:List Value),bldX lk fo cs ps=some out→IsXs ρ G cs m→ ∃l,bld (frA a) (fo.map fun x=>(x.1,x.2.2)) m ps=some l∧IsXs ρ G out l
 |[],cs,out,m,e,hm=>by simp only[bldX] at e;cases e;exact⟨m,rfl,hm⟩
 |(i,x)::ps,cs,out,m,e,hm=>by
  simp only[bldX] at e
  split at e
  ·rename_i off q k d ho hd
   cases hc:(d.okc&&(Nat.beq d.cells.length k&&Nat.ble (off+k) cs.length)) with
   |false=>rw[hc] at e;cases e
   |true=>
    rw[hc] at e
    simp only[Bool.and_eq_true,Nat.beq_eq_true_eq,Nat.ble_eq] at hc
    obtain⟨h1,h2,h3⟩:=hc
    replace h2:=Nat.eq_of_beq_eq_true h2
    obtain⟨y,hy,hy'⟩:=r.ev hd
    obtain⟨c1,_⟩:=hy'.cells h1
    have c2:=c1.len
    obtain⟨l,hl1,hl2⟩:=bldX_bld r ps _ out _ e (hm.ov c1 (off:=off))
    refine⟨l,?_,hl2⟩
    simp only[bld,List.getElem?_map,ho,Option.map_some,hy]
    rw[if_pos ⟨by rw[c2,h2],by rw[hm.len];exact h3⟩]
    exact hl1
  ·cases e
theorem ok_build{fo:List (Nat×Nat×Nat)}{i:TI}{zx:List FX}{cs:List FX}{f:FX}{parts:Array (Nat×Operand)}(hi:tiOf P t=some i)(hk:i.k= .st fo)(hz:i.z=some zx)(h:bldX lk fo zx parts.toList=some cs)(hf:agX cs=some f):
  OpR P GB C n lk bk ⟨dst, .build t parts,ty',pos,af,gd⟩ f [] []:= .yd fun ρ G ov a w r=>by
 obtain⟨v,hv,hv'⟩:=ti_zero hi hz
 have:=ti_sty hi hk
 obtain⟨l,h1,h2⟩:=bldX_bld r _ _ _ _ h (hv' ρ G)
 exact⟨.agg ⟨l⟩,agX_is h2 hf,yd_build h1⟩
theorem vcI_ok{k:IntKind}{p:Int}{v:Option Prop}{f:FX}(h:vcI k p=some (v,f)):f= .d (.v (.int k p))∧((∀q,v=some q→q)→k.min≤p∧p≤k.max):=by
 obtain⟨q,h1,h2⟩:=rng_ok h
 cases h1
 exact⟨rfl,fun k=>h2 (k _ rfl)⟩
theorem isX_int{k:IntKind}{p:Int}{y:Value}:IsX ρ G (.d (.v (.int k p))) y↔y= .int k p:=is_v (G:=G)
theorem wrapB64(b:BitVec 64):IntKind.u64.wrap (b.toNat:Int)=(b.toNat:Int):=wrap_in ⟨by show(0:Int)≤_;omega,by have:=b.isLt;show _≤(18446744073709551615:Int);omega⟩
theorem wrapB32(b:BitVec 32):IntKind.u32.wrap (b.toNat:Int)=(b.toNat:Int):=wrap_in ⟨by show(0:Int)≤_;omega,by have:=b.isLt;show _≤(4294967295:Int);omega⟩
theorem sh_ok{op:BinOp}{k j:IntKind}{p q:Int}{v:Option Prop}{f:FX}(h:arX op k p q=some (v,f))(hop:op= .shr∨op= .shl)(hv: ∀r,v=some r→r){fr:Fr}(hx:opv fr x=some (.int k p))(hy:opv fr y=some (.int j q)): ∃u,IsX ρ G f u∧Yd P C fr ov G ⟨dst, .binOp op t x y t',ty',pos,af,gd⟩ u:=by
 rcases hop with rfl|rfl<;>cases h
 ·exact⟨_,isX_int.2 rfl,yd_shr hx hy (hv _ rfl)⟩
 ·exact⟨_,isX_int.2 rfl,yd_shl hx hy (hv _ rfl)⟩
theorem ar_ok{op:BinOp}{k:IntKind}{p q:Int}{v:Option Prop}{f:FX}(h:arX op k p q=some (v,f))(hv: ∀r,v=some r→r){fr:Fr}(hx:opv fr x=some (.int k p))(hy:opv fr y=some (.int k q)): ∃u,IsX ρ G f u∧Yd P C fr ov G ⟨dst, .binOp op t x y t',ty',pos,af,gd⟩ u:=by
 cases op with
 |add=>obtain⟨rfl,h2⟩:=vcI_ok h;exact⟨_,isX_int.2 rfl,yd_add hx hy (h2 hv)⟩
 |sub=>obtain⟨rfl,h2⟩:=vcI_ok h;exact⟨_,isX_int.2 rfl,yd_sub hx hy (h2 hv)⟩
 |mul=>obtain⟨rfl,h2⟩:=vcI_ok h;exact⟨_,isX_int.2 rfl,yd_mul hx hy (h2 hv)⟩
 |quo=>
  cases k<;>cases h<;>first
   |exact⟨_,isX_int.2 rfl,yd_quow hx hy (hv _ rfl)⟩
   |(obtain⟨h1,h2,h3⟩:=hv _ rfl;exact⟨_,isX_int.2 rfl,yd_quoU hx hy h1 h2 h3⟩)
 |rem=>
  cases k<;>cases h<;>first
   |exact⟨_,isX_int.2 rfl,yd_rem hx hy (hv _ rfl)⟩
   |(obtain⟨h1,h2⟩:=hv _ rfl;exact⟨_,isX_int.2 rfl,yd_remU hx hy h1 h2⟩)
 |shr=>exact sh_ok h (.inl rfl) hv hx hy
 |shl=>exact sh_ok h (.inr rfl) hv hx hy
 |or=>
  cases k<;>cases h<;>refine⟨_,isX_int.2 rfl,yd_int hx hy fun w=>?_⟩
  ·show(pure (Value.int .u32 (IntKind.u32.wrap ((BitVec.ofInt 32 p ||| BitVec.ofInt 32 q).toNat:Int))):Sem Value).run P w=_
   rw[wrapB32];rfl
  ·show(pure (Value.int .u64 (IntKind.u64.wrap ((BitVec.ofInt 64 p ||| BitVec.ofInt 64 q).toNat:Int))):Sem Value).run P w=_
   rw[wrapB64];rfl
 |and=>
  cases k<;>cases h<;>refine⟨_,isX_int.2 rfl,yd_int hx hy fun w=>?_⟩
  ·show(pure (Value.int .u32 (IntKind.u32.wrap ((BitVec.ofInt 32 p &&& BitVec.ofInt 32 q).toNat:Int))):Sem Value).run P w=_
   rw[wrapB32];rfl
  ·show(pure (Value.int .u64 (IntKind.u64.wrap ((BitVec.ofInt 64 p &&& BitVec.ofInt 64 q).toNat:Int))):Sem Value).run P w=_
   rw[wrapB64];rfl
 |lss=>cases h;exact⟨_,rfl,yd_lss hx hy⟩
 |leq=>cases h;exact⟨_,rfl,yd_leq hx hy⟩
 |gtr=>cases h;exact⟨_,rfl,yd_gtr hx hy⟩
 |geq=>cases h;exact⟨_,rfl,yd_geq hx hy⟩
 |eql=>cases h;exact⟨_,rfl,yd_eql hx hy⟩
 |neq=>cases h;exact⟨_,rfl,yd_neq hx hy⟩
 |_=>cases h
theorem mm_ok{mx:Bool}{f g u:FX}(e1:evX lk x=some f)(e2:evX lk y=some g)(h:mmX mx f g=some u){t1 t2:TypeId}:OpR P GB C n lk bk ⟨dst, .call ⟨.builtin (if mx then .max else .min),⟨[x,y]⟩,⟨[t1,t2]⟩⟩,ty',pos,af,gd⟩ u [] []:= .yd fun ρ G ov a w r=>by
 obtain⟨p,h1,h2⟩:=r.ev e1
 obtain⟨q,h3,h4⟩:=r.ev e2
 unfold mmX at h
 split at h<;>try (cases h;done)
 rename_i k p' j q'
 rw[isX_int] at h2 h4
 subst h2 h4
 cases hk:kq k j with
 |false=>rw[hk] at h;cases h
 |true=>
  rw[hk] at h;cases kq_eq hk
  cases mx<;>cases h
  ·refine⟨_,isX_int.2 rfl,?_⟩
   intro a' w' hf hh
   simp only[Bool.false_eq_true,if_false,execOp,resolve,List.map_toArray,List.map_cons,List.map_nil,opv_eval hf h1,opv_eval hf h3]
   have h1:(Builtin.min_ #[t1,t2] ty' #[.int k p', .int k q']).run P w'= .ok (.int k (if q'<p' then q' else p')) w':=by
    simp[Builtin.min_,Builtin.min2,run_pure]
   exact value_of h1
  ·refine⟨_,isX_int.2 rfl,?_⟩
   intro a' w' hf hh
   simp only[if_true,execOp,resolve,List.map_toArray,List.map_cons,List.map_nil,opv_eval hf h1,opv_eval hf h3]
   have h1:(Builtin.max_ #[t1,t2] ty' #[.int k p', .int k q']).run P w'= .ok (.int k (if q'>p' then q' else p')) w':=by
    simp[Builtin.max_,Builtin.max2,run_pure]
   exact value_of h1
theorem nil_ok{f g:FX}{b:Bool}(hT:TOK P T)(h:nilX T t f y=some b)(hx: ∃v,opv (frA a) x=some v∧IsX ρ G f v)(hy:evX lk y=some g):
  Yd P C (frA a) ov G ⟨dst, .binOp .eql t x y t',ty',pos,af,gd⟩ (.bool b)∧Yd P C (frA a) ov G ⟨dst, .binOp .neq t x y t',ty',pos,af,gd⟩ (.bool (!b)):=by
 obtain⟨v,h1,h2⟩:=hx
 unfold nilX at h
 split at h<;>try (cases h;done)
 ·rename_i hi
  have:=ti_fc (hT _ _ hi) rfl
  split at h<;>cases h
  ·cases (is_v (G:=G)).1 h2;exact⟨yd_eqN (.inl rfl) h1,yd_neN (.inl rfl) h1⟩
  ·cases (is_v (G:=G)).1 h2;exact⟨yd_eqN (.inr ⟨_,_,rfl⟩) h1,yd_neN (.inr ⟨_,_,rfl⟩) h1⟩
 ·rename_i hi
  have:=ti_pt (hT _ _ hi) rfl
  have key: ∀p,v= .pointer (some p)→Yd P C (frA a) ov G ⟨dst, .binOp .eql t x (.const (.pointer none)) t',ty',pos,af,gd⟩ (.bool false)∧Yd P C (frA a) ov G ⟨dst, .binOp .neq t x (.const (.pointer none)) t',ty',pos,af,gd⟩ (.bool (!false)):=fun p e=>by
   subst e;exact⟨yd_eqP h1 rfl,yd_neP h1 rfl⟩
  split at h<;>cases h
  ·cases (is_v (G:=G)).1 h2;exact⟨yd_eqP h1 rfl,yd_neP h1 rfl⟩
  ·obtain⟨b,_,e⟩:=h2;exact key _ e
  ·obtain⟨b,o,cs,m,e,_⟩:=h2;exact key _ e
  ·obtain⟨b,_,e⟩:=h2;exact key _ e
  ·obtain⟨b,m,e,_⟩:=is_pt.1 (show Is G _ v from h2);exact key _ e
 ·rename_i hi
  have:=ti_sl (hT _ _ hi) rfl
  split at h<;>cases h
  cases h2;exact⟨yd_eqS h1 rfl,yd_neS h1 rfl⟩
theorem ok_bo{op:BinOp}{f g u:FX}{v:Option Prop}(hT:TOK P T)(e1:evX lk x=some f)(e2:evX lk y=some g)(h:boX T op t f g y=some (v,u))(hv: ∀r,v=some r→r):OpR P GB C n lk bk ⟨dst, .binOp op t x y t',ty',pos,af,gd⟩ u [] []:= .yd fun ρ G ov a w r=>by
 obtain⟨p,h1,h2⟩:=r.ev e1
 obtain⟨q,h3,h4⟩:=r.ev e2
 unfold boX at h
 split at h
 ·rename_i k p' j q'
  rw[isX_int] at h2 h4
  subst h2 h4
  split at h
  ·exact sh_ok h (.inl rfl) hv h1 h3
  ·exact sh_ok h (.inr rfl) hv h1 h3
  ·cases hk:kq k j with
   |false=>rw[hk] at h;cases h
   |true=>rw[hk] at h;cases kq_eq hk;exact ar_ok h hv h1 h3
 ·unfold opX at h
  split at h<;>try (cases h;done)
  rename_i hi
  have:=ti_pt (hT _ _ hi) rfl
  cases (is_v (G:=G)).1 h4
  split at h<;>cases h<;>rcases is_op.1 (show Is G _ p from h2) with⟨rfl,rfl⟩|⟨rfl,k⟩
  ·exact⟨_,rfl,yd_eqP h1 h3⟩
  ·obtain⟨b,m,rfl,_⟩:=is_pt.1 k;exact⟨_,rfl,yd_eqP h1 h3⟩
  ·exact⟨_,rfl,yd_neP h1 h3⟩
  ·obtain⟨b,m,rfl,_⟩:=is_pt.1 k;exact⟨_,rfl,yd_neP h1 h3⟩
 ·split at h
  ·rename_i b hb
   obtain⟨k1,k2⟩:=nil_ok (ρ:=ρ) (G:=G) (C:=C) (ov:=ov) (dst:=dst) (t':=t') (ty':=ty') (pos:=pos) (af:=af) (gd:=gd) hT hb ⟨p,h1,h2⟩ e2
   split at h<;>cases h
   ·exact⟨_,by cases b<;>rfl,k1⟩
   ·exact⟨_,by cases b<;>rfl,k2⟩
  ·split at h<;>try (cases h;done)
   rename_i hi ha hb
   have:=ti_bl (hT _ _ hi) rfl
   have e3:=toB_is h2 ha
   have e4:=toB_is h4 hb
   subst e3 e4
   split at h<;>cases h
   ·exact⟨_,(is_v (G:=G)).2 rfl,yd_eqB h1 h3⟩
   ·exact⟨_,(is_v (G:=G)).2 rfl,yd_neB h1 h3⟩
theorem ok_un{op:UnOp}{f u:FX}{v:Option Prop}(e1:evX lk x=some f)(h:unX op f=some (v,u))(hv: ∀r,v=some r→r):OpR P GB C n lk bk ⟨dst, .unOp op t x,ty',pos,af,gd⟩ u [] []:= .x1 e1 fun ρ G ov a w y _ r h1 h2=>by
 unfold unX at h
 split at h<;>try (cases h;done)
 ·split at h<;>cases h
  rename_i g hg
  obtain⟨b,rfl,h3⟩:=ngX_is h2 hg
  exact⟨_,h3,yd_not h1⟩
 ·split at h<;>try (cases h;done)
  obtain⟨rfl,h3⟩:=vcI_ok h
  rw[isX_int] at h2;subst h2
  refine⟨_,isX_int.2 rfl,?_⟩
  have:=yd_neg (P:=P) (C:=C) (own:=ov) (G:=G) (dst:=dst) (ty':=ty') (pos:=pos) (af:=af) (gd:=gd) (t:=t) h1
  rwa [Int.zero_sub,wrap_in (h3 hv)] at this
theorem ok_cv{f u:FX}{v:Option Prop}(hT:TOK P T)(e1:evX lk x=some f)(h:cvX T t t' f=some (v,u))(hv: ∀r,v=some r→r):OpR P GB C n lk bk ⟨dst, .convert t t' x,ty',pos,af,gd⟩ u [] []:= .x1 e1 fun ρ G ov a w y _ r h1 h2=>by
 unfold cvX at h
 split at h<;>try (cases h;done)
 rename_i k _ _ _ k' _ _ _ hi hi'
 have:=ti_int (hT _ _ hi) rfl
 have:=ti_int (hT _ _ hi') rfl
 split at h<;>try (cases h;done)
 rename_i j p
 rw[isX_int] at h2;subst h2
 cases hk:kq k j with
 |false=>rw[hk] at h;cases h
 |true=>
  rw[hk,cond_true] at h;cases kq_eq hk
  split at h
  ·cases h;exact⟨_,isX_int.2 rfl,yd_toU32 h1⟩
  ·obtain⟨rfl,h3⟩:=vcI_ok h;exact⟨_,isX_int.2 rfl,yd_convi h1 (h3 hv)⟩
theorem RlX.row{nm:Nat}{y:Value}{ty:TypeId}{s:Nat}{ds:List DV}{lo:Bool}(r:RlX GB C n lk bk ρ G ov a w)(hb:bk nm=some (.b ty s ds lo)): ∃B,BufIs G ⟨ρ nm,s,ty,ds,lo⟩ B∧ ∀o∈B,o∈ov:=by
 obtain⟨os,h1,h2⟩:=r.bx _ _ hb
 exact⟨os,h1,h2⟩
theorem BufIs.len{β:BufD}{B:List Own}(h:BufIs G β B):β.x.n=β.ds.length:=by
 obtain⟨vs,h1,h2,_⟩:=h
 rw[h1.len,h2.len]
theorem ok_ix{f g u:FX}{v:Option Prop}(hT:TOK P T)(e1:evX lk x=some f)(e2:evX lk y=some g)(h:ixX T bk t f g=some (v,u))(hv: ∀r,v=some r→r):OpR P GB C n lk bk ⟨dst, .indexAddr t x y,ty',pos,af,gd⟩ u [] []:= .yd fun ρ G ov a w r=>by
 obtain⟨p,h1,h2⟩:=r.ev e1
 obtain⟨q,h3,h4⟩:=r.ev e2
 unfold ixX at h
 split at h<;>try (cases h;done)
 rename_i nm
 split at h<;>try (cases h;done)
 rename_i ty s ds lo hb
 split at h<;>try (cases h;done)
 rename_i e' s' by_ _ _ _ hi
 have:=ti_sl (hT _ _ hi) rfl
 split at h<;>try (cases h;done)
 rename_i k i
 cases hs:Nat.beq s s' with
 |false=>rw[hs] at h;cases h
 |true=>
  rw[hs,cond_true] at h;cases h
  cases Nat.eq_of_beq_eq_true hs
  rw[isX_int] at h4;subst h4
  cases h2
  obtain⟨B,hB,hBo⟩:=r.row (y:= .nilFunc) hb
  have hl:=hB.len
  simp only at hl
  obtain⟨h5,h6⟩:=hv _ rfl
  obtain⟨vs,hB1,hB2,_⟩:=hB
  rcases hB1 with⟨e5,_,_⟩|⟨b,rest,lo',e5,_⟩
  ·subst e5;have:=hB2.len;simp at this;rw[←this] at h6;simp at h6;omega
  ·have hw:(ρ nm).a=some ⟨b,0,none⟩:=by simp only at e5;rw[e5]
   rw[hw] at h1
   refine⟨_,⟨b,hw,rfl⟩,?_⟩
   have:=yd_index (P:=P) (C:=C) (own:=ov) (G:=G) (dst:=dst) (ty':=ty') (pos:=pos) (af:=af) (gd:=gd) (t:=t) h1 h3 h5 (by rw[hl];exact h6)
   simpa using this
theorem ok_len{f g:FX}{e s by_:Nat}(hS:TySl P t e s by_)(e1:evX lk x=some f)(h:lenX bk f=some g):OpR P GB C n lk bk ⟨dst, .call ⟨.builtin .len,⟨[x]⟩,⟨[t]⟩⟩,ty',pos,af,gd⟩ g [] []:= .x1 e1 fun ρ G ov a w y _ r h1 h2=>by
 have key: ∀l:List DV,Is G (.sl l) y→ ∃u,IsX ρ G (.d (.v (.int .i64 (l.length:Nat)))) u∧Yd P C (frA a) ov G ⟨dst, .call ⟨.builtin .len,⟨[x]⟩,⟨[t]⟩⟩,ty',pos,af,gd⟩ u:=fun l hl=>by
  obtain⟨k,z,es,rfl,hs,hl⟩:=is_sl.1 hl
  have:=hs.len
  rw[hl.len] at this
  exact⟨_,isX_int.2 rfl,by rw[←this];exact yd_len h1⟩
 unfold lenX at h
 split at h
 ·cases h;cases h2;exact⟨_,isX_int.2 rfl,yd_len h1⟩
 ·cases h;exact key _ h2
 ·cases h;exact key _ h2.2
 ·split at h<;>cases h
  rename_i hb
  cases h2
  obtain⟨B,hB,_⟩:=r.row (y:= .nilFunc) hb
  have:=hB.len
  simp only at this
  exact⟨_,isX_int.2 rfl,by rw[←this];exact yd_len h1⟩
 ·cases h
theorem cells_nm{f g:FX}{d:Nat}(hg:g∈f.cells)(h:nmNe f d=true):g.nm≠some d:=by
 have key:g.nm=f.nm∨g.nm=none:=by
  unfold FX.cells at hg
  split at hg
  ·obtain⟨x,_,rfl⟩:=List.mem_map.1 hg;exact .inr rfl
  ·rcases List.mem_append.1 hg with hg|hg
   ·obtain⟨x,_,rfl⟩:=List.mem_map.1 hg;exact .inr rfl
   ·rcases List.mem_cons.1 hg with rfl|hg
    ·exact .inl rfl
    ·obtain⟨x,_,rfl⟩:=List.mem_map.1 hg;exact .inr rfl
  ·exact .inl (by rw[List.mem_singleton.1 hg])
 rcases key with h'|h'
 ·intro e;unfold nmNe at h;rw[←h',e] at h;simp at h
 ·rw[h'];simp
theorem RlX.alloc(r:RlX GB C n lk bk ρ G ov a w){d b:Nat}{cs:List Value}{zs:List FX}{K:Act→World→Prop}{a':Act}{w':World}(hf:FreshX [d] (some d) lk bk)(hz:IsXs ρ G zs cs)(hn: ∀g∈zs,g.nm≠some d)
  (hk:SX GB C n (upL lk (some d) (.ov d 0)) (Sx.upB bk [(d,some (.o t zs true))]) K)(rl:Rel C n (Sx.put (frA a) (some d) (.pointer (some ⟨b,0,none⟩))) (⟨b,cs,t,true⟩::ov) G a' w'):K a' w':=by
 have hnd:=(List.pairwise_cons.1 rl.h.nd).1
 have hy:IsX (fun k=>if k=d then⟨some ⟨b,0,none⟩,0,0⟩ else ρ k) G (.ov d 0) (.pointer (some ⟨b,0,none⟩)):=⟨b,by simp,rfl⟩
 have hB:BkIs (fun k=>if k=d then⟨some ⟨b,0,none⟩,0,0⟩ else ρ k) G d (.o t zs true) [⟨b,cs,t,true⟩]:=
  ⟨b,cs,by simp,rfl,hz.ren fun g hg m hm=>neN _ fun e'=>hn g hg (by rw[hm,e'])⟩
 refine hk.run _ _ _ a' w' (r.new hf (GLe.refl _) rl.h hB ?_ (fun o ho=>List.mem_cons_of_mem _ ho) ?_ hy (putA_rel rl))
 ·intro o ho;rw[List.mem_singleton.1 ho];exact List.mem_cons_self
 ·intro o ho e';cases e';exact hnd o ho rfl
theorem ok_box{d:Nat}{f:FX}(e:evX lk x=some f)(hc:f.okc=true)(hn:nmNe f d=true):OpR P GB C n lk bk ⟨some d, .box t x,ty',pos,af,gd⟩ (.ov d 0) [(d,some (.o t f.cells true))] [d]:=by
 intro hd tl tb K s1 s2 hf hk
 refine⟨fun ρ G ov a w r Q=>?_⟩
 obtain⟨y,h1,h2⟩:=(r.mono s1 s2).ev e
 exact ch_box h1 hd (fun b a' w' rl=>r.alloc hf (h2.cells hc).1 (fun g hg=>cells_nm hg hn) hk rl) a w Q ⟨r.h,r.sz,frA_ok a,r.df⟩
theorem fxOf_nm(v:Value):(fxOf v).nm=none:=by unfold fxOf;split<;>rfl
theorem ok_alloc{d:Nat}{i:TI}{z:List FX}(hi:tiOf P t=some i)(hz:i.z=some z):OpR P GB C n lk bk ⟨some d, .alloc t,ty',pos,af,gd⟩ (.ov d 0) [(d,some (.o t z true))] [d]:=by
 intro hd tl tb K s1 s2 hf hk
 refine⟨fun ρ G ov a w r Q=>?_⟩
 obtain⟨v,hv,hv'⟩:=ti_zero hi hz
 refine ch_alloc hd (fun b a' w' rl=>r.alloc hf (hv' ρ G) (fun g hg=>?_) hk rl) a w Q ⟨r.h,r.sz,frA_ok a,r.df⟩
 obtain⟨j,_,rfl⟩:=ti_info hi
 cases hj:j.zero with
 |none=>simp only[hj] at hz;cases hz
 |some u=>
  simp only[hj] at hz;cases hz
  obtain⟨x,_,rfl⟩:=List.mem_map.1 hg
  rw[fxOf_nm];simp
theorem OUpd.of_mem{b:Nat}{cs cs':List Value}{ty:TypeId}{lo:Bool}: ∀{own:List Own},⟨b,cs,ty,lo⟩∈own→ ∃own',OUpd own b cs ty lo cs' own'∧⟨b,cs',ty,lo⟩∈own'∧ ∀o∈own,o.b≠b→o∈own'
 |[],h=>by cases h
 |x::t,h=>by
  rcases List.mem_cons.1 h with rfl|h
  ·exact⟨_, .hd ..,List.mem_cons_self,fun o ho hb=>(List.mem_cons.1 ho).elim (fun e=>absurd (by rw[e]) hb) (fun e=>List.mem_cons_of_mem _ e)⟩
  ·obtain⟨own',h1,h2,h3⟩:=OUpd.of_mem h
   exact⟨x::own', .tl _ _ _ _ _ _ _ _ h1,List.mem_cons_of_mem _ h2,fun o ho hb=>(List.mem_cons.1 ho).elim (fun e=>by rw[e];exact List.mem_cons_self) (fun e=>List.mem_cons_of_mem _ (h3 o e hb))⟩
theorem RlX.wrote{nm:Nat}{b:Nat}{m m':List Value}{ty:TypeId}{cs cs':List FX}{lo:Bool}(r:RlX GB C n lk bk ρ G ov a w)(hb:bk nm=some (.o ty cs lo))(ha:(ρ nm).a=some ⟨b,0,none⟩){own':List Own}(hm':IsXs ρ G cs' m')(h1:⟨b,m',ty,lo⟩∈own')(h2: ∀o∈ov,o.b≠b→o∈own')
  {K:Act→World→Prop}(hk:SX GB C n (upL lk dst .un) (Sx.upB bk [(nm,some (.o ty cs' lo))]) K){a':Act}{w':World}(rl:Rel C n (Sx.put (frA a) dst undef) own' G a' w'):K a' w':=by
 have r2:=r.upB (G':=G) (ov':=own') (w':=w') (B':= .o ty cs' lo) (os:=[⟨b,m',ty,lo⟩]) (GLe.refl _) rl.h ⟨b,m',ha,rfl,hm'⟩ (fun o ho=>by rw[List.mem_singleton.1 ho];exact h1) (fun o ho hne=>h2 o ho fun e=>hne (by rw[ha,e])) ⟨_,hb⟩
 exact hk.run _ _ _ a' w' (r2.put rfl (putA_rel rl))
theorem flat_okc{f:FX}(h:f.flat=true):f.okc=true:=by
 cases f with
 |d x=>cases x<;>first|exact h|(cases h;done)
 |bx=>cases h
 |_=>exact h
theorem flat_cells{f:FX}(h:f.flat=true):f.cells=[f]:=by
 cases f with
 |d x=>cases x<;>first|rfl|(cases h;done)
 |bx=>cases h
 |_=>rfl
theorem IsX.flat{f:FX}{y:Value}(h:IsX ρ G f y)(k:f.flat=true):Go.Sx.flat y=true:=by
 obtain⟨h1,h2⟩:=h.cells (flat_okc k)
 rw[flat_cells k] at h1
 have hl:=h1.len
 cases y with
 |agg l=>
  obtain⟨z,q,e,h4,h5⟩:=h1
  cases f with
  |d x=>cases x with
   |v u=>exact Is.flat (show Is G _ _ from h) k
   |ag l=>cases k
   |tp l=>cases k
   |pt l=>exact Is.flat (show Is G _ _ from h) k
   |op b l=>exact Is.flat (show Is G _ _ from h) k
   |sl l=>exact Is.flat (show Is G _ _ from h) k
  |ep l=>obtain⟨_,_,_,_,e,_⟩:=h;cases e
  |ov _ _=>obtain⟨_,_,e⟩:=h;cases e
  |be _ _ _ _=>obtain⟨_,_,e⟩:=h;cases e
  |ct l=>obtain⟨⟨_,_,e⟩,_⟩:=h;cases e
  |bx=>cases k
  |un=>cases k
  |no=>cases k
  |_=>cases h
 |_=>exact h2 _ (by simp[cellsL])
theorem ok_store{fa fv:FX}{bl:List (Nat×Option Bk)}{i:TI}(hi:tiOf P t=some i)(e1:evX lk x=some fa)(e2:evX lk y=some fv)(h:stX bk i fa fv=some bl):OpR P GB C n lk bk ⟨dst, .store t x y,ty',pos,af,gd⟩ .un bl []:=by
 intro hd tl tb K s1 s2 hf hk
 refine⟨fun ρ G ov a w r Q=>?_⟩
 have r1:=r.mono s1 s2
 obtain⟨p,h1,h2⟩:=r1.ev e1
 obtain⟨q,h3,h4⟩:=r1.ev e2
 unfold stX at h
 split at h<;>try (cases h;done)
 rename_i nm off
 split at h<;>try (cases h;done)
 rename_i ty cs lo hb
 obtain⟨b,m,rfl,ha,h5,h6⟩:=r1.own h2 hb
 split at h<;>try (cases h;done)
 ·rename_i k hk'
  have:=ti_agA hi hk'
  cases hc:(fv.okc&&(Nat.beq fv.cells.length k&&Nat.ble (off+k) cs.length)) with
  |false=>rw[hc] at h;cases h
  |true=>
   rw[hc,cond_true,fcL_eq] at h;cases h
   simp only[Bool.and_eq_true,Nat.beq_eq_true_eq,Nat.ble_eq] at hc
   obtain⟨c1,c2,c3⟩:=hc
   replace c2:=Nat.eq_of_beq_eq_true c2
   obtain⟨h7,h8⟩:=h4.cells c1
   obtain⟨own',u1,u2,u3⟩:=OUpd.of_mem (cs':=ovw m off (cellsL q)) h6
   exact ch_store h1 h3 u1 (by rw[h7.len,c2]) (by rw[h5.len];exact c3) (List.all_eq_true.2 h8) hd (fun a' w' rl=>r.wrote (m:=m) (s2 _ _ hb) ha (h5.ov h7) u2 u3 hk rl) a w Q ⟨r.h,r.sz,frA_ok a,r.df⟩
 ·rename_i hk'
  have:=ti_agS hi hk'
  cases hc:(fv.flat&&Nat.blt off cs.length) with
  |false=>rw[hc] at h;cases h
  |true=>
   rw[hc,cond_true,fcL_eq] at h;cases h
   simp only[Bool.and_eq_true,Nat.blt_eq] at hc
   obtain⟨own',u1,u2,u3⟩:=OUpd.of_mem (cs':=m.set off q) h6
   exact ch_store1 h1 h3 u1 (by rw[h5.len];exact hc.2) (h4.flat hc.1) hd (fun a' w' rl=>r.wrote (m:=m) (s2 _ _ hb) ha (h5.set off h4) u2 u3 hk rl) a w Q ⟨r.h,r.sz,frA_ok a,r.df⟩
theorem core_ok{op:Op}{r:CR}(hT:TOK P T)(h:core T lk bk dst op=some r):CRok P GB C n lk bk ⟨dst,op,ty',pos,af,gd⟩ r:=by
 intro hv
 unfold core at h
 split at h
 ·obtain⟨f,h1,rfl⟩:=pr1_ok h;exact ok_move h1
 ·obtain⟨f,h1,rfl⟩:=pr1_ok h;exact ok_assign h1
 ·obtain⟨c,hc,h⟩:=ev1_ok h
  obtain⟨f,g,h1,h2,h⟩:=ev2_ok h
  obtain⟨u,h3,rfl⟩:=pr1_ok h
  exact ok_pick hc h1 h2 h3
 ·split at h<;>try (cases h;done)
  obtain⟨i,hi,h⟩:=tyI_ok hT h
  split at h<;>try (cases h;done)
  rename_i z hz
  rw[fcL_eq] at h;cases h
  exact ok_alloc hi hz
 ·split at h<;>try (cases h;done)
  obtain⟨f,hf,h⟩:=ev1_ok h
  rw[fcL_eq,cond_eq_ite] at h
  split at h<;>cases h
  rename_i hc
  simp only[Bool.and_eq_true] at hc
  exact ok_box hf hc.1 hc.2
 ·obtain⟨f,h1,h⟩:=ev1_ok h;obtain⟨v,u,h3,rfl⟩:=pr2_ok h;exact ok_nck h1 h3 hv
 ·obtain⟨fo,i,hi,hk,h⟩:=tyS_ok hT h
  obtain⟨f,h1,h⟩:=ev1_ok h;obtain⟨u,h3,rfl⟩:=pr1_ok h;exact ok_fa hi hk h1 h3
 ·obtain⟨fo,i,hi,hk,h⟩:=tyS_ok hT h
  obtain⟨f,h1,h⟩:=ev1_ok h;obtain⟨u,h3,rfl⟩:=pr1_ok h;exact ok_fd hT hi hk h1 h3
 ·obtain⟨i,hi,h⟩:=tyI_ok hT h
  obtain⟨f,h1,h⟩:=ev1_ok h;obtain⟨u,h3,rfl⟩:=pr1_ok h;exact ok_ld hi h1 h3
 ·obtain⟨i,hi,h⟩:=tyI_ok hT h
  obtain⟨f,g,h1,h2,h⟩:=ev2_ok h
  cases hb:stX bk i f g with
  |none=>simp only[hb] at h;cases h
  |some bl=>simp only[hb] at h;cases h;exact ok_store hi h1 h2 hb
 ·obtain⟨f,h1,h⟩:=ev1_ok h;obtain⟨u,h3,rfl⟩:=pr1_ok h;exact ok_ext h1 h3
 ·obtain⟨fo,i,hi,hk,h⟩:=tyS_ok hT h
  split at h<;>try (cases h;done)
  rename_i z hz
  split at h<;>try (cases h;done)
  rename_i cs hcs
  split at h<;>cases h
  rename_i g hg
  exact ok_build hi hk hz hcs hg
 ·obtain⟨f,g,h1,h2,h⟩:=ev2_ok h;obtain⟨v,u,h3,rfl⟩:=pr2_ok h;exact ok_bo hT h1 h2 h3 hv
 ·obtain⟨f,h1,h⟩:=ev1_ok h;obtain⟨v,u,h3,rfl⟩:=pr2_ok h;exact ok_un h1 h3 hv
 ·obtain⟨f,h1,h⟩:=ev1_ok h;obtain⟨v,u,h3,rfl⟩:=pr2_ok h;exact ok_cv hT h1 h3 hv
 ·obtain⟨f,g,h1,h2,h⟩:=ev2_ok h;obtain⟨v,u,h3,rfl⟩:=pr2_ok h;exact ok_ix hT h1 h2 h3 hv
 ·split at h<;>try (cases h;done)
  rename_i hi
  obtain⟨f,h1,h⟩:=ev1_ok h;obtain⟨u,h3,rfl⟩:=pr1_ok h
  exact ok_len (ti_sl (hT _ _ hi) rfl) h1 h3
 ·obtain⟨f,g,h1,h2,h⟩:=ev2_ok h;obtain⟨u,h3,rfl⟩:=pr1_ok h;exact mm_ok (mx:=true) h1 h2 h3
 ·obtain⟨f,g,h1,h2,h⟩:=ev2_ok h;obtain⟨u,h3,rfl⟩:=pr1_ok h;exact mm_ok (mx:=false) h1 h2 h3
 ·cases h
end
end Go.Sx
end

section
set_option maxRecDepth 100000
namespace Go.Sx
open Go
def memN:List Nat→Nat→Bool
 |[],_=>false
 |x::t,k=>Nat.beq x k||memN t k
structure Rc where
 rs:List Nat
 d:Option Nat
 f:FX
 rn:List Nat
 bl:List (Nat×Option Bk)
 nw:List Nat
abbrev ST:=LK×BM
def Rc.ap(r:Rc)(s:ST):ST:=(upL s.1 r.d r.f,upB s.2 r.bl)
def sel(p:Nat→Bool):Nat→ST→List Rc→ST
 |_,s,[]=>s
 |k,s,r::t=>sel p (k+1) (if p k then r.ap s else s) t
def rsX{α:Type}(l:List Nat)(g:Nat→Option α):Nat→Option α:=fun k=>bif memN l k then g k else none
theorem upB_get{nm:Nat}: ∀{bl:List (Nat×Option Bk)} {s s':BM},((∀e∈bl,e.1≠nm)→s nm=s' nm)→upB s bl nm=upB s' bl nm
 |[],s,s',h=>h (by simp)
 |(k,B)::t,s,s',h=>by
  simp only[upB]
  refine upB_get fun ht=>?_
  by_cases e:nm=k
  ·simp[e]
  ·simp only[e,if_false];exact h fun x hx=>(List.mem_cons.1 hx).elim (fun c=>by rw[c];exact Ne.symm e) (ht x)
theorem upB_no{nm:Nat}: ∀{bl:List (Nat×Option Bk)} {s:BM},(∀e∈bl,e.1≠nm)→upB s bl nm=s nm
 |[],s,h=>rfl
 |(k,B)::t,s,h=>by
  simp only[upB]
  rw[upB_no fun e he=>h e (List.mem_cons_of_mem _ he)]
  simp[Ne.symm (h _ List.mem_cons_self)]
theorem upL_no{x:Nat}{d:Option Nat}{f:FX}{s:LK}(h:d≠some x):upL s d f x=s x:=by
 cases d with
 |none=>rfl
 |some d=>simp only[upL];rw[if_neg fun e=>h (by rw[e])]
theorem sel_L{x:Nat}{p q:Nat→Bool}: ∀{us:List Rc} {k:Nat} {s s':ST},s.1 x=s'.1 x→(∀j r,us[j]? =some r→r.d=some x→p (k+j)=q (k+j))→(sel p k s us).1 x=(sel q k s' us).1 x
 |[],k,s,s',h,_=>h
 |r::t,k,s,s',h,hp=>by
  simp only[sel]
  refine sel_L ?_ fun j u hj hd=>by have:=hp (j+1) u (by simpa using hj) hd;rwa [show k+(j+1)=k+1+j by omega] at this
  by_cases hd:r.d=some x
  ·have:=hp 0 r rfl hd
   rw[Nat.add_zero] at this
   rw[this]
   split
   ·simp only[Rc.ap,upL,hd,if_true]
   ·exact h
  ·have: ∀(b:Bool) (s:ST),(if b then r.ap s else s).1 x=s.1 x:=fun b s=>by cases b<;>simp[Rc.ap,upL_no hd]
   rw[this,this,h]
theorem sel_B{nm:Nat}{p q:Nat→Bool}: ∀{us:List Rc} {k:Nat} {s s':ST},s.2 nm=s'.2 nm→(∀j r,us[j]? =some r→(∃e∈r.bl,e.1=nm)→p (k+j)=q (k+j))→(sel p k s us).2 nm=(sel q k s' us).2 nm
 |[],k,s,s',h,_=>h
 |r::t,k,s,s',h,hp=>by
  simp only[sel]
  refine sel_B ?_ fun j u hj hd=>by have:=hp (j+1) u (by simpa using hj) hd;rwa [show k+(j+1)=k+1+j by omega] at this
  by_cases hd: ∃e∈r.bl,e.1=nm
  ·have:=hp 0 r rfl hd
   rw[Nat.add_zero] at this
   rw[this]
   split
   ·exact upB_get fun _=>h
   ·exact h
  ·have: ∀(b:Bool) (s:ST),(if b then r.ap s else s).2 nm=s.2 nm:=fun b s=>by
    cases b
    ·rfl
    ·exact upB_no fun e he hc=>hd ⟨e,he,hc⟩
   rw[this,this,h]
theorem sel_fromL{x:Nat}{f:FX}{p:Nat→Bool}: ∀{us:List Rc} {k:Nat} {s:ST},(sel p k s us).1 x=some f→s.1 x=some f∨ ∃j r,us[j]? =some r∧p (k+j)=true∧r.d=some x∧r.f=f
 |[],k,s,h=> .inl h
 |r::t,k,s,h=>by
  simp only[sel] at h
  rcases sel_fromL h with h|⟨j,u,h1,h2,h3⟩
  ·cases hp:p k with
   |false=>rw[hp] at h;exact .inl h
   |true=>
    rw[hp] at h
    simp only[if_true,Rc.ap] at h
    by_cases hd:r.d=some x
    ·rw[hd] at h;simp only[upL,if_true] at h;cases h;exact .inr ⟨0,r,rfl,by simpa using hp,hd,rfl⟩
    ·rw[upL_no hd] at h;exact .inl h
  ·exact .inr ⟨j+1,u,by simpa using h1,by rw[show k+(j+1)=k+1+j by omega];exact h2,h3⟩
theorem upB_from{nm:Nat}{B:Bk}: ∀{bl:List (Nat×Option Bk)} {s:BM},upB s bl nm=some B→s nm=some B∨(nm,some B)∈bl
 |[],s,h=> .inl h
 |(k,B')::t,s,h=>by
  simp only[upB] at h
  rcases upB_from h with h|h
  ·by_cases e:nm=k
   ·subst e;simp only[if_true] at h;subst h;exact .inr List.mem_cons_self
   ·simp only[e,if_false] at h;exact .inl h
  ·exact .inr (List.mem_cons_of_mem _ h)
theorem sel_fromB{nm:Nat}{B:Bk}{p:Nat→Bool}: ∀{us:List Rc} {k:Nat} {s:ST},(sel p k s us).2 nm=some B→s.2 nm=some B∨ ∃j r,us[j]? =some r∧p (k+j)=true∧(nm,some B)∈r.bl
 |[],k,s,h=> .inl h
 |r::t,k,s,h=>by
  simp only[sel] at h
  rcases sel_fromB h with h|⟨j,u,h1,h2,h3⟩
  ·cases hp:p k with
   |false=>rw[hp] at h;exact .inl h
   |true=>
    rw[hp] at h
    rcases upB_from h with h|h
    ·exact .inl h
    ·exact .inr ⟨0,r,rfl,by simpa using hp,h⟩
  ·exact .inr ⟨j+1,u,by simpa using h1,by rw[show k+(j+1)=k+1+j by omega];exact h2,h3⟩
/-! ### the order of the text -/
def mask(acc:List Nat)(l:List Edge):Nat:=l.foldl (fun s e=>if Region.binds .any e then(s ||| 2^e.on) ||| acc.getD e.on 0 else s) 0
def masks:List Oper→List Nat→List Nat
 |[],acc=>acc
 |o::r,acc=>masks r (acc++[mask acc o.after.toList])
inductive Bf (ops:List Oper):Nat→Nat→Prop
 |b {i:Nat} {o:Oper} {e:Edge} (ho:ops[i]? =some o) (he:e∈o.after) (hb:Region.binds .any e=true):Bf ops i e.on
 |s {i j:Nat} {o:Oper} {e:Edge} (ho:ops[i]? =some o) (he:e∈o.after) (hb:Region.binds .any e=true) (h:Bf ops e.on j):Bf ops i j
theorem mask_spec{acc:List Nat}{j:Nat}: ∀(l:List Edge) (s:Nat),(l.foldl (fun s e=>if Region.binds .any e then(s ||| 2^e.on) ||| acc.getD e.on 0 else s) s).testBit j=true→s.testBit j=true∨ ∃e∈l,Region.binds .any e=true∧(e.on=j∨(acc.getD e.on 0).testBit j=true)
 |[],s,h=> .inl h
 |e::t,s,h=>by
  rw[List.foldl_cons] at h
  rcases mask_spec t _ h with h|⟨e',h1,h2⟩
  ·split at h
   ·rename_i hb
    simp only[Nat.testBit_or,Bool.or_eq_true,Nat.testBit_two_pow,decide_eq_true_eq] at h
    rcases h with(h|h)|h
    ·exact .inl h
    ·exact .inr ⟨e,List.mem_cons_self,hb, .inl h⟩
    ·exact .inr ⟨e,List.mem_cons_self,hb, .inr h⟩
   ·exact .inl h
  ·exact .inr ⟨e',List.mem_cons_of_mem _ h1,h2⟩
theorem masks_spec{all:List Oper}: ∀(r:List Oper) (acc:List Nat) (pre:List Oper),all=pre++r→acc.length=pre.length→(∀i j,(acc.getD i 0).testBit j=true→Bf all i j)→ ∀i j,((masks r acc).getD i 0).testBit j=true→Bf all i j
 |[],acc,pre,_,_,h=>h
 |o::r,acc,pre,he,hl,h=>by
  refine masks_spec r _ (pre++[o]) (by rw[he];simp) (by simp[hl]) fun i j hij=>?_
  rw[List.getD_eq_getElem?_getD,List.getElem?_append] at hij
  split at hij
  ·rename_i hi
   exact h i j (by rw[List.getD_eq_getElem?_getD];exact hij)
  ·rename_i hi
   by_cases e:i=acc.length
   ·subst e
    simp only[Nat.sub_self,List.getElem?_cons_zero,Option.getD_some] at hij
    have ho:all[acc.length]? =some o:=by rw[he,hl];simp
    rcases mask_spec _ _ hij with h0|⟨e,h1,h2,h3⟩
    ·simp at h0
    ·rcases h3 with rfl|h3
     ·exact .b ho (by simpa using h1) h2
     ·exact .s ho (by simpa using h1) h2 (h _ _ h3)
   ·rw[List.getElem?_eq_none (by simp;omega)] at hij
    simp at hij
/-! ### what may change places -/
def opEq:Option Nat→Nat→Bool
 |some x,y=>Nat.beq x y
 |none,_=>false
def hit(a b:Rc):Bool:=(match a.d with|some x=>memN b.rs x||opEq b.d x|none=>false)||a.bl.any fun e=>memN b.rn e.1||b.bl.any fun e'=>Nat.beq e'.1 e.1
def menF(nm:Nat)(f:FX):Bool:=opEq f.nm nm
def menB(nm:Nat):Option Bk→Bool
 |some (.o _ cs _)=>cs.any (menF nm)
 |_=>false
def menR(r:Rc)(nm:Nat):Bool:=menF nm r.f||r.bl.any fun e=>menB nm e.2
def okPre(m:Nat)(r:Rc):Nat→List Rc→Bool
 |_,[]=>true
 |j,u::t=>(!(hit u r||hit r u||u.nw.any (menR r))||m.testBit j)&&!(r.nw.any (menR u))&&okPre m r (j+1) t
def okAll:List Nat→List Rc→List Rc→Bool
 |m::ms,pre,r::t=>okPre m r 0 pre&&okAll ms (pre++[r]) t
 |_,_,[]=>true
 |[],_,_::_=>false
def okEdge:Nat→List Oper→Bool
 |_,[]=>true
 |i,o::t=>o.after.all (fun e=>!Region.binds .any e||Nat.blt e.on i)&&okEdge (i+1) t
def fresh0(us:List Rc)(fr:List (Nat×FX))(own:List (Nat×Option Bk)):Bool:=us.all fun r=>r.nw.all fun nm=>fr.all (fun e=>!menF nm e.2)&&own.all fun e=>!menB nm e.2
theorem okPre_spec{m:Nat}{r:Rc}: ∀{l:List Rc} {k:Nat},okPre m r k l=true→ ∀j u,l[j]? =some u→((hit u r=true∨hit r u=true∨ ∃nm∈u.nw,menR r nm=true)→m.testBit (k+j)=true)∧ ∀nm∈r.nw,menR u nm=false
 |[],k,_,j,u,h=>by simp at h
 |x::t,k,h,j,u,hj=>by
  simp only[okPre,Bool.and_eq_true,Bool.or_eq_true,Bool.not_eq_true'] at h
  obtain⟨⟨h1,h2⟩,h3⟩:=h
  cases j with
  |zero=>
   simp at hj;subst hj
   refine⟨fun hh=>?_,fun nm hn=>by have:=List.any_eq_false.1 h2 nm hn;simpa using this⟩
   rcases h1 with h1|h1
   ·simp only[Bool.or_eq_false_iff] at h1
    rcases hh with hh|hh|⟨nm,hn,hh⟩
    ·rw[h1.1.1] at hh;cases hh
    ·rw[h1.1.2] at hh;cases hh
    ·have:=List.any_eq_false.1 h1.2 nm hn;exact absurd hh this
   ·simpa using h1
  |succ j=>
   have:=okPre_spec h3 j u (by simpa using hj)
   rwa [show k+(j+1)=k+1+j by omega]
theorem okAll_spec: ∀{ms:List Nat} {pre t:List Rc},okAll ms pre t=true→ ∀i r,t[i]? =some r→ ∀j u,(pre++t)[j]? =some u→j<pre.length+i→((hit u r=true∨hit r u=true∨ ∃nm∈u.nw,menR r nm=true)→(ms.getD i 0).testBit j=true)∧ ∀nm∈r.nw,menR u nm=false
 |[],pre,[],_,i,r,h=>by simp at h
 |_::_,pre,[],_,i,r,h=>by simp at h
 |[],pre,_::_,h,i,r,_=>by simp[okAll] at h
 |m::ms,pre,x::t,h,i,r,hi=>by
  simp only[okAll,Bool.and_eq_true] at h
  intro j u hj hlt
  cases i with
  |zero=>
   simp at hi;subst hi
   rw[List.getElem?_append_left (by omega)] at hj
   simpa using okPre_spec h.1 j u hj
  |succ i=>
   have:=okAll_spec h.2 i r (by simpa using hi) j u (by simpa using hj) (by simp;omega)
   simpa using this
theorem okEdge_spec: ∀{l:List Oper} {k:Nat},okEdge k l=true→ ∀i o,l[i]? =some o→ ∀e∈o.after,Region.binds .any e=true→e.on<k+i
 |[],k,_,i,o,h=>by simp at h
 |x::t,k,h,i,o,hi=>by
  simp only[okEdge,Bool.and_eq_true] at h
  intro e he hb
  cases i with
  |zero=>
   simp at hi;subst hi
   have:=Array.all_eq_true_iff_forall_mem.1 h.1 e he
   simpa[hb] using this
  |succ i=>have:=okEdge_spec h.2 i o (by simpa using hi) e he hb;omega
def wO(P:Program)(ops:Array Oper)(Q:Exit→Act→World→Prop)(o:Oper)(K:Act→World→Prop)(a:Act)(w:World):Prop:=
 if Region.wanted o (yielded ops a.tmps) then o.wp P a w K Q else K (a.put o.dst undef) w
section
variable {P:Program} {GB:Gh} {C:Ctx} {n:Nat} {ops:Array Oper} {Q:Exit→Act→World→Prop}
def OpS(P:Program)(GB:Gh)(C:Ctx)(n:Nat)(ops:Array Oper)(lk:LK)(bk:BM)(o:Oper)(f:FX)(bl:List (Nat×Option Bk))(nw:List Nat):Prop:=
 ∀(Q:Exit→Act→World→Prop) (tl:LK) (tb:BM) (K:Act→World→Prop),SubX lk tl→SubX bk tb→FreshX nw o.dst tl tb→SX GB C n (upL tl o.dst f) (upB tb bl) K→SX GB C n tl tb (wO P ops Q o K)
theorem SX.drew{lk:LK}{bk:BM}{Φ:Act→World→Prop}(h:SX GB C n lk bk Φ):SX GB C n lk bk (fun a w=>Φ a {w with drawn:=w.drawn+1}):=
 ⟨fun ρ G ov a w r=>h.run ρ G ov a _ ⟨r.gb,r.h.drew,r.sz,r.df,r.fx,r.bx,r.dj⟩⟩
structure Drawn (P:Program) (GB:Gh) (C:Ctx) (n:Nat) (ops:Array Oper) (us:List Rc) (s0:ST):Prop where
 len:us.length=ops.size
 snd: ∀i r o,us[i]? =some r→ops[i]? =some o→o.dst=r.d∧OpS P GB C n ops (rsX r.rs (sel (fun j=>decide (j<i)) 0 s0 us).1) (rsX r.rn (sel (fun j=>decide (j<i)) 0 s0 us).2) o r.f r.bl r.nw
 all:okAll (masks ops.toList []) [] us=true
 edge:okEdge 0 ops.toList=true
 fr0: ∀r∈us,∀nm∈r.nw,(∀k f,s0.1 k=some f→f.nm≠some nm)∧ ∀k B,s0.2 k=some B→ ¬B.men nm
theorem opEq_iff{o:Option Nat}{k:Nat}:opEq o k=true↔o=some k:=by cases o<;>simp[opEq]
theorem menB_of{B:Bk}{nm:Nat}(h:B.men nm):menB nm (some B)=true:=by
 cases B with
 |o ty cs lo=>obtain⟨f,hf,e⟩:=h;exact List.any_eq_true.2 ⟨f,hf,opEq_iff.2 e⟩
 |b=>cases h
 |c=>cases h
def lst(listed:Array Bool):Nat→Bool:=fun j=>listed.getD j false
def un(ops:Array Oper)(listed:Array Bool):Nat:=((List.range ops.size).filter fun j=>!listed.getD j true).length
theorem filter_lt{α:Type}{p q:α→Bool}{x:α}: ∀{l:List α},x∈l→(∀y,q y=true→p y=true)→p x=true→q x=false→(l.filter q).length<(l.filter p).length
 |[],h,_,_,_=>by cases h
 |y::t,h,hpq,h1,h2=>by
  have le: ∀l:List α,(l.filter q).length≤(l.filter p).length:=fun l=>by
   induction l with
   |nil=>exact Nat.le_refl _
   |cons z l ih=>
    simp only[List.filter_cons]
    cases hq:q z with
    |true=>simp[hpq z hq];omega
    |false=>cases hp:p z<;>simp<;>omega
  rcases List.mem_cons.1 h with rfl|h
  ·simp only[List.filter_cons,h1,h2,if_true];have:=le t;simp;omega
  ·have ih:=filter_lt h hpq h1 h2
   simp only[List.filter_cons]
   cases hq:q y with
   |true=>simp[hpq y hq];omega
   |false=>cases hp:p y<;>simp<;>omega
theorem Drawn.walk{us:List Rc}{s0:ST}(D:Drawn P GB C n ops us s0)(hk:SX GB C n (sel (fun _=>true) 0 s0 us).1 (sel (fun _=>true) 0 s0 us).2 (Q .normal)):
  ∀(fuel:Nat) (listed:Array Bool),listed.size=ops.size→(∀i o,ops[i]? =some o→lst listed i=true→ ∀e∈o.after,Region.binds .any e=true→lst listed e.on=true)→un ops listed≤fuel→
   SX GB C n (sel (lst listed) 0 s0 us).1 (sel (lst listed) 0 s0 us).2 (wpAny P .any ops Q fuel listed):=by
 -- what comes before something listed is listed
 have clo: ∀listed:Array Bool,(∀i o,ops[i]? =some o→lst listed i=true→ ∀e∈o.after,Region.binds .any e=true→lst listed e.on=true)→ ∀i j,Bf ops.toList i j→lst listed i=true→lst listed j=true:=by
  intro listed hc i j hb
  induction hb with
  |b ho he hb=>intro hi;exact hc _ _ (by simpa using ho) hi _ he hb
  |s ho he hb _ ih=>intro hi;exact ih (hc _ _ (by simpa using ho) hi _ he hb)
 have bf: ∀i j,((masks ops.toList []).getD i 0).testBit j=true→Bf ops.toList i j:=masks_spec ops.toList [] [] rfl rfl (fun i j h=>by simp at h)
 have spec: ∀i r,us[i]? =some r→ ∀j u,us[j]? =some u→j<i→((hit u r=true∨hit r u=true∨ ∃nm∈u.nw,menR r nm=true)→Bf ops.toList i j)∧ ∀nm∈r.nw,menR u nm=false:=fun i r hi j u hj hlt=>by
  have:=okAll_spec D.all i r hi j u (by simpa using hj) (by simpa using hlt)
  exact⟨fun h=>bf _ _ (this.1 h),this.2⟩
 have done: ∀listed:Array Bool,listed.size=ops.size→Region.ready .any ops listed=[]→ ∀i,i<ops.size→lst listed i=true:=by
  intro listed hsz hr i
  induction i using Nat.strongRecOn with
  |ind i ih=>
   intro hi
   cases hl:listed.getD i true with
   |true=>unfold lst;simp only[Array.getD_eq_getD_getElem?] at hl⊢;rw[Array.getElem?_eq_getElem (by omega)] at hl⊢;simpa using hl
   |false=>
    have:i∈Region.ready .any ops listed:=mem_ready.2 ⟨hl,ops[i],Array.getElem?_eq_getElem hi,fun e he hb=>by
     have hlt:=okEdge_spec D.edge i ops[i] (by simp[hi]) e he hb
     exact ih e.on (by omega) (by omega)⟩
    rw[hr] at this;cases this
 have same: ∀listed:Array Bool,listed.size=ops.size→(∀i,i<ops.size→lst listed i=true)→(sel (lst listed) 0 s0 us).1=(sel (fun _=>true) 0 s0 us).1∧(sel (lst listed) 0 s0 us).2=(sel (fun _=>true) 0 s0 us).2:=by
  intro listed hsz h
  refine⟨funext fun x=>sel_L rfl fun j r hj _=>?_,funext fun x=>sel_B rfl fun j r hj _=>?_⟩<;>
  ·rw[Nat.zero_add];exact h j (by have:=(List.getElem?_eq_some_iff.1 hj).1;rw[D.len] at this;exact this)
 intro fuel
 induction fuel with
 |zero=>
  intro listed hsz hc hu
  have all: ∀i,i<ops.size→lst listed i=true:=fun i hi=>by
   cases hl:listed.getD i true with
   |true=>unfold lst;simp only[Array.getD_eq_getD_getElem?] at hl⊢;rw[Array.getElem?_eq_getElem (by omega)] at hl⊢;simpa using hl
   |false=>
    have h0:=List.length_eq_zero_iff.1 (Nat.le_zero.1 hu)
    have:=List.filter_eq_nil_iff.1 h0 i (List.mem_range.2 hi)
    simp[hl] at this
  obtain⟨e1,e2⟩:=same listed hsz all
  rw[e1,e2]
  refine hk.imp fun a w h=>⟨?_,h⟩
  refine List.eq_nil_iff_forall_not_mem.2 fun i hi=>?_
  obtain⟨h1,o,ho,_⟩:=mem_ready.1 hi
  have hlt:=(Array.getElem?_eq_some_iff.1 ho).1
  have h2:=all i hlt
  unfold lst at h2
  simp only[Array.getD_eq_getD_getElem?] at h1 h2
  rw[Array.getElem?_eq_getElem (by omega)] at h1 h2
  simp at h1 h2
  rw[h1] at h2;cases h2
 |succ fuel ih=>
  intro listed hsz hc hu
  refine⟨fun ρ G ov a w r=>⟨fun hr=>?_,fun i hi=>?_⟩⟩
  ·obtain⟨e1,e2⟩:=same listed hsz (done listed hsz hr)
   rw[e1,e2] at r
   exact hk.run ρ G ov a w r
  ·obtain⟨h1,o,ho,hall⟩:=mem_ready.1 hi
   have hlt:=(Array.getElem?_eq_some_iff.1 ho).1
   have hli:lst listed i=false:=by
    unfold lst
    simp only[Array.getD_eq_getD_getElem?] at h1⊢
    rw[Array.getElem?_eq_getElem (by omega)] at h1⊢
    simpa using h1
   obtain⟨u,hui⟩: ∃u,us[i]? =some u:=⟨us[i]'(by rw[D.len];exact hlt),List.getElem?_eq_getElem _⟩
   obtain⟨hd,hop⟩:=D.snd i u o hui ho
   have bl: ∀j,Bf ops.toList i j→lst listed j=true:=fun j hb=>by
    cases hb with
    |b ho' he hb=>rw[Array.getElem?_toList,ho] at ho';cases ho';exact hall _ he hb
    |s ho' he hb h=>rw[Array.getElem?_toList,ho] at ho';cases ho';exact clo listed hc _ _ h (hall _ he hb)
   have nb: ∀j r,us[j]? =some r→(hit r u=true∨hit u r=true)→decide (j<i)=lst listed j:=fun j r hj hh=>by
    rcases Nat.lt_trichotomy j i with h|h|h
    ·rw[bl j ((spec i u hui j r hj h).1 (hh.imp id .inl))];simpa using h
    ·subst h;rw[hli];simp
    ·cases hl:lst listed j with
     |false=>simp;omega
     |true=>have:=clo listed hc j i ((spec j r hj i u hui h).1 (hh.symm.imp id .inl)) hl;rw[hli] at this;cases this
   have sz':(listed.setIfInBounds i true).size=ops.size:=by simpa using hsz
   have l': ∀j,j≠i→lst (listed.setIfInBounds i true) j=lst listed j:=fun j hj=>by unfold lst;rw[getD_set_ne false (Ne.symm hj)]
   have li':lst (listed.setIfInBounds i true) i=true:=by unfold lst;simp[hsz,hlt]
   have hc': ∀j o',ops[j]? =some o'→lst (listed.setIfInBounds i true) j=true→ ∀e∈o'.after,Region.binds .any e=true→lst (listed.setIfInBounds i true) e.on=true:=fun j o' hj hlj e he hb=>by
    by_cases hji:j=i
    ·subst hji;rw[ho] at hj;cases hj
     exact getD_set_true (hall e he hb)
    ·rw[l' j hji] at hlj
     exact getD_set_true (hc j o' hj hlj e he hb)
   have hu':un ops (listed.setIfInBounds i true)≤fuel:=by
    have:un ops (listed.setIfInBounds i true)<un ops listed:=by
     refine filter_lt (x:=i) (List.mem_range.2 hlt) (fun y hy=>?_) (by simp[h1]) (by simp[hsz,hlt])
     by_cases hyi:y=i
     ·subst hyi;simp[hsz,hlt] at hy
     ·rwa [getD_set_ne true (Ne.symm hyi)] at hy
    omega
   have next:=ih _ sz' hc' hu'
   have e1:(sel (lst (listed.setIfInBounds i true)) 0 s0 us).1=upL (sel (lst listed) 0 s0 us).1 o.dst u.f:=by
    funext x
    rw[hd]
    by_cases hx:u.d=some x
    ·-- i is the last to write x
     have key: ∀(us':List Rc) (k:Nat) (s:ST) (p:Nat→Bool) (m:Nat),us'[m]? =some u→p (k+m)=true→(∀j r,us'[j]? =some r→r.d=some x→j≠m→j<m∨p (k+j)=false)→(sel p k s us').1 x=some u.f:=by
      intro us'
      induction us' with
      |nil=>intro k s p m h;simp at h
      |cons r t iht=>
       intro k s p m h hp hj
       simp only[sel]
       cases m with
       |zero=>
        simp at h;subst h
        rw[Nat.add_zero] at hp
        rw[hp]
        have:(sel p (k+1) (r.ap s) t).1 x=(sel (fun _=>false) (k+1) (r.ap s) t).1 x:=sel_L rfl fun j r' hj' hd'=>by
         have:=hj (j+1) r' (by simpa using hj') hd' (by omega)
         rw[show k+(j+1)=k+1+j by omega] at this
         exact this.resolve_left (by omega)
        simp only[if_true,this]
        have nosel: ∀(l:List Rc) (k:Nat) (s:ST),sel (fun _=>false) k s l=s:=fun l=>by
         induction l with
         |nil=>intro k s;rfl
         |cons y l ih=>intro k s;exact ih _ _
        rw[nosel]
        simp[Rc.ap,upL,hx]
       |succ m=>
        refine iht _ _ p m (by simpa using h) (by rw[show k+1+m=k+(m+1) by omega];exact hp) fun j r' hj' hd' hne=>?_
        have:=hj (j+1) r' (by simpa using hj') hd' (by omega)
        rw[show k+1+j=k+(j+1) by omega]
        exact this.imp (fun h=>by omega) id
     rw[key us 0 s0 _ i hui (by rw[Nat.zero_add];exact li') fun j r hj hdr hne=>?_]
     ·rw[hx];simp[upL]
     ·rw[Nat.zero_add,l' j hne]
      have:=nb j r hj (.inl (by simp[hit,hdr,hx,opEq]))
      rw[←this]
      by_cases hji:j<i
      ·exact .inl hji
      ·exact .inr (by simpa using hji)
    ·rw[upL_no hx]
     refine sel_L rfl fun j r hj hdr=>?_
     rw[Nat.zero_add]
     exact l' j fun e=>by subst e;rw[hui] at hj;cases hj;exact hx hdr
   have e2:(sel (lst (listed.setIfInBounds i true)) 0 s0 us).2=upB (sel (lst listed) 0 s0 us).2 u.bl:=by
    funext x
    by_cases hx: ∃e∈u.bl,e.1=x
    ·have key: ∀(us':List Rc) (k:Nat) (s s':ST) (p q:Nat→Bool) (m:Nat),us'[m]? =some u→p (k+m)=true→(∀j r,us'[j]? =some r→(∃e∈r.bl,e.1=x)→j≠m→q (k+j)=p (k+j)∧(j<m∨p (k+j)=false))→q (k+m)=false→s.2 x=s'.2 x→(sel p k s us').2 x=upB (sel q k s' us').2 u.bl x:=by
      intro us'
      induction us' with
      |nil=>intro k s s' p q m h;simp at h
      |cons r t iht=>
       intro k s s' p q m h hp hj hq hs
       simp only[sel]
       cases m with
       |zero=>
        simp at h;subst h
        rw[Nat.add_zero] at hp hq
        rw[hp,hq]
        have nosel: ∀(l:List Rc) (k:Nat) (s:ST),sel (fun _=>false) k s l=s:=fun l=>by
         induction l with
         |nil=>intro k s;rfl
         |cons y l ih=>intro k s;exact ih _ _
        have a1:(sel p (k+1) (r.ap s) t).2 x=(sel (fun _=>false) (k+1) (r.ap s) t).2 x:=sel_B rfl fun j r' hj' hd'=>by
         have:=(hj (j+1) r' (by simpa using hj') hd' (by omega)).2
         rw[show k+(j+1)=k+1+j by omega] at this
         exact this.resolve_left (by omega)
        have a2:(sel q (k+1) s' t).2 x=(sel (fun _=>false) (k+1) s' t).2 x:=sel_B rfl fun j r' hj' hd'=>by
         obtain⟨h3,h4⟩:=hj (j+1) r' (by simpa using hj') hd' (by omega)
         rw[show k+(j+1)=k+1+j by omega] at h3 h4
         rw[h3];exact h4.resolve_left (by omega)
        simp only[if_true,Bool.false_eq_true,if_false,a1,nosel]
        exact upB_get fun _=>by rw[a2,nosel];exact hs
       |succ m=>
        refine iht _ _ _ p q m (by simpa using h) (by rw[show k+1+m=k+(m+1) by omega];exact hp) (fun j r' hj' hd' hne=>?_) (by rw[show k+1+m=k+(m+1) by omega];exact hq) ?_
        ·obtain⟨h3,h4⟩:=hj (j+1) r' (by simpa using hj') hd' (by omega)
         rw[show k+1+j=k+(j+1) by omega]
         exact⟨h3,h4.imp (fun h=>by omega) id⟩
        ·by_cases hr: ∃e∈r.bl,e.1=x
         ·have:=(hj 0 r rfl hr (by omega)).1
          rw[Nat.add_zero] at this
          rw[this]
          cases p k
          ·exact hs
          ·exact upB_get fun _=>hs
         ·have: ∀(b:Bool) (s:ST),(if b then r.ap s else s).2 x=s.2 x:=fun b s=>by
           cases b
           ·rfl
           ·exact upB_no fun e he hc=>hr ⟨e,he,hc⟩
          rw[this,this];exact hs
     refine key us 0 s0 s0 _ _ i hui (by rw[Nat.zero_add];exact li') (fun j r hj hdr hne=>?_) (by rw[Nat.zero_add];exact hli) rfl
     rw[Nat.zero_add]
     refine⟨(l' j hne).symm,?_⟩
     rw[l' j hne]
     obtain⟨e,he,rfl⟩:=hx
     obtain⟨e',he',hee⟩:=hdr
     have hh:hit u r=true:=by
      unfold hit
      rw[Bool.or_eq_true]
      exact .inr (List.any_eq_true.2 ⟨e,he,by rw[Bool.or_eq_true];exact .inr (List.any_eq_true.2 ⟨e',he',by simpa using hee⟩)⟩)
     rw[←nb j r hj (.inr hh)]
     by_cases hji:j<i
     ·exact .inl hji
     ·exact .inr (by simpa using hji)
    ·rw[upB_no fun e he hc=>hx ⟨e,he,hc⟩]
     refine sel_B rfl fun j r hj hdr=>?_
     rw[Nat.zero_add]
     exact l' j fun e=>by subst e;rw[hui] at hj;cases hj;exact hx hdr
   rw[e1,e2] at next
   have sub1:SubX (rsX u.rs (sel (fun j=>decide (j<i)) 0 s0 us).1) (sel (lst listed) 0 s0 us).1:=fun x f hx=>by
    unfold rsX at hx
    cases hm:memN u.rs x with
    |false=>rw[hm] at hx;cases hx
    |true=>
     rw[hm,cond_true] at hx
     rw[←hx]
     refine(sel_L rfl fun j r hj hdr=>?_).symm
     rw[Nat.zero_add]
     exact nb j r hj (.inl (by simp[hit,hdr,hm]))
   have sub2:SubX (rsX u.rn (sel (fun j=>decide (j<i)) 0 s0 us).2) (sel (lst listed) 0 s0 us).2:=fun x B hx=>by
    unfold rsX at hx
    cases hm:memN u.rn x with
    |false=>rw[hm] at hx;cases hx
    |true=>
     rw[hm,cond_true] at hx
     rw[←hx]
     refine(sel_B rfl fun j r hj hdr=>?_).symm
     rw[Nat.zero_add]
     obtain⟨e,he,rfl⟩:=hdr
     refine nb j r hj (.inl ?_)
     unfold hit
     rw[Bool.or_eq_true]
     exact .inr (List.any_eq_true.2 ⟨e,he,by rw[hm];rfl⟩)
   have fr:FreshX u.nw o.dst (sel (lst listed) 0 s0 us).1 (sel (lst listed) 0 s0 us).2:=fun nm hnm=>by
    obtain⟨g1,g2⟩:=D.fr0 u (List.mem_of_getElem? hui) nm hnm
    have men: ∀j r,us[j]? =some r→lst listed j=true→menR r nm=false:=fun j r hj hlj=>by
     rcases Nat.lt_trichotomy j i with h|h|h
     ·exact(spec i u hui j r hj h).2 nm hnm
     ·subst h;rw[hli] at hlj;cases hlj
     ·cases hm:menR r nm with
      |false=>rfl
      |true=>have:=clo listed hc j i ((spec j r hj i u hui h).1 (.inr (.inr ⟨nm,hnm,hm⟩))) hlj;rw[hli] at this;cases this
    refine⟨fun k f hk e=>?_,fun k B hk e hm=>?_⟩
    ·intro hc'
     rcases sel_fromL e with h|⟨j,r,h1,h2,h3,h4⟩
     ·exact g1 k f h hc'
     ·have:=men j r h1 (by simpa using h2)
      simp only[menR,Bool.or_eq_false_iff,menF] at this
      rw[h4,opEq_iff.2 hc'] at this
      cases this.1
    ·rcases sel_fromB e with h|⟨j,r,h1,h2,h3⟩
     ·exact g2 k B h hm
     ·have:=men j r h1 (by simpa using h2)
      simp only[menR,Bool.or_eq_false_iff] at this
      have:=List.any_eq_false.1 this.2 _ h3
      exact this (menB_of hm)
   have fin:=hop Q _ _ _ sub1 sub2 fr next
   have:=fin.run ρ G ov a w r
   unfold wO at this
   unfold wpOp
   rw[ho]
   simp only
   split
   ·rename_i hw;rw[if_pos hw] at this;exact .inl this
   ·rename_i hw;rw[if_neg hw] at this;exact this
theorem lst0(m k:Nat):lst (Array.replicate m false) k=false:=by unfold lst;simp[Array.getElem?_replicate];split<;>rfl
theorem Drawn.region{us:List Rc}{s0:ST}{id:Nat}(D:Drawn P GB C n ops us s0)(hm:P.follows .mixedOrders=true)(hk:SX GB C n (sel (fun _=>true) 0 s0 us).1 (sel (fun _=>true) 0 s0 us).2 (Q .normal)):SX GB C n s0.1 s0.2 ((Code.region id ops true).wp P Q):=by
 have h:=D.walk hk ops.size (Array.replicate ops.size false) (by simp) (fun i o _ hi=>by rw[lst0] at hi;cases hi) (by unfold un;exact Nat.le_trans (List.length_filter_le _ _) (by simp))
 have e:sel (lst (Array.replicate ops.size false)) 0 s0 us=s0:=by
  have: ∀(l:List Rc) (k:Nat) (s:ST),sel (lst (Array.replicate ops.size false)) k s l=s:=fun l=>by
   induction l with
   |nil=>intro k s;rfl
   |cons y l ih=>
    intro k s
    simp only[sel]
    rw[ih]
    rw[lst0];rfl
  exact this us 0 s0
 rw[e] at h
 exact h.drew.imp fun a w k=>wp_region_any hm k
end
end Go.Sx
end
