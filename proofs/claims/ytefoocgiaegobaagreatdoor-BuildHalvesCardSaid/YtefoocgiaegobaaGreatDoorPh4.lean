import Derived.Test.YtefoocgiaegobaaGreatDoorPh3
import Derived.CallsIn
import Derived.OrdersIn
import Derived.TacticsIn
import Derived.RangeFuncIn
import Derived.RangeFuncRecord
set_option linter.all false
set_option maxRecDepth 100000
section
namespace Go.Sx
open Go
def kr{α β:Type}:List α->(List α->β)->β
 |[],k=>k []
 |x::t,k=>kr t fun t'=>k (x::t')
def qB{α β:Type}: ∀(l:List α) (k:List α->β),kr l k=k l
 |[],_=>rfl
 |x::t,k=>by rw[kr,qB t]
def takeX:List FX->Nat->Nat->Option (List FX)
 |_,0,0=>some []
 |[],0,_+1=>none
 |v::t,0,k+1=>match takeX t 0 k with|some l=>some (v::l)|none=>none
 |[],_+1,_=>none
 |_::t,off+1,k=>takeX t off k
def vd:List FX->Nat->List FX->List FX
 |[],_,_=>[]
 |c::t,0,vs=>match vs with
  |[]=>c::t
  |v::vs=>v::vd t 0 vs
 |c::t,off+1,vs=>c::vd t off vs
def K0: ∀(n:List Value) (off:Nat),co [] off n=[]
 |[],_=>rfl
 |_::n,off=>K0 n (off+1)
def Dl: ∀(n:List Value) (y:Value) (m:List Value) (off:Nat),co (y::m) (off+1) n=y::co m off n
 |[],_,_,_=>rfl
 |v::n,y,m,off=>Dl n y (m.set off v) (off+1)
section
variable {ρ:NE} {G:Gh}
def dw.takeX: ∀{ds:List FX} {m:List Value} {off k:Nat} {l:List FX},dw ρ G ds m->takeX ds off k=some l-> ∃n,cx m off k=some n/\dw ρ G l n
 |[],m,0,0,l,h,e=>by cases e;rw[show m=[] from h];exact⟨[],J,J⟩
 |d::t,m,0,0,l,⟨y,n,e1,h1,h2⟩,e=>by subst e1;cases e;exact⟨[],J,J⟩
 |[],m,0,k+1,l,h,e=>by simp[Sx.takeX] at e
 |d::t,m,0,k+1,l,⟨y,n,e1,h1,h2⟩,e=>by
  subst e1;simp only[Sx.takeX] at e;split at e
  ·rename_i l' hl'
   cases e
   obtain⟨q,hq,hl⟩:=h2.takeX hl';exact⟨y::q,by simp only[cx,hq],y,q,J,h1,hl⟩
  ·cases e
 |[],m,off+1,k,l,h,e=>by simp[Sx.takeX] at e
 |d::t,m,off+1,k,l,⟨y,n,e1,h1,h2⟩,e=>by subst e1;exact h2.takeX (off:=off) (k:=k) e
def dw.ov: ∀{ds:List FX} {m:List Value} {off:Nat} {vs:List FX} {n:List Value},dw ρ G ds m->dw ρ G vs n->dw ρ G (vd ds off vs) (co m off n)
 |[],m,off,vs,n,h,k=>by rw[show m=[] from h,K0];rfl
 |d::t,m,0,[],n,h,k=>by rw[show n=[] from k];exact h
 |d::t,m,0,v::vs,n,⟨y,m',e,h1,h2⟩,⟨u,n',e',k1,k2⟩=>by
  subst e e';show dw ρ G (v::vd t 0 vs) (co (u::m') 1 n');rw[Dl];exact⟨u,_,J,k1,h2.ov k2⟩
 |d::t,m,off+1,vs,n,⟨y,m',e,h1,h2⟩,k=>by
  subst e;rw[Dl];exact⟨y,_,J,h1,h2.ov k⟩
def Cb:List FX->Option (List DV×Nat×List DV)
 |[]=>none
 |f::t=>match f with
  | .rw nm=>match lg t with
   |some post=>some ([],nm,post)
   |none=>none
  |f=>match jO f,Cb t with
   |some d,some (pre,nm,post)=>some (d::pre,nm,post)
   |_,_=>none
def J2: ∀{l:List FX} {m:List Value} {pre:List DV} {nm:Nat} {post:List DV},dw ρ G l m->Cb l=some (pre,nm,post)-> ∃m1 m2,m=m1++Value.slice (ρ nm).a (ρ nm).n (ρ nm).c::m2/\IsLs G pre m1/\IsLs G post m2
 |[],m,pre,nm,post,h,e=>by cases e
 |f::t,m,pre,nm,post,⟨y,n,e1,h1,h2⟩,e=>by
  subst e1;simp only[Cb] at e;split at e
  ·split at e<;>cases e
   rename_i hp
   cases (show y=_ from h1)
   exact⟨[],n,J, .nil,ud h2 hp⟩
  ·split at e<;>cases e
   rename_i hd hu;obtain⟨m1,m2,rfl,k1,k2⟩:=J2 h2 hu;exact⟨y::m1,m2,J, .cons (oh h1 hd) k1,k2⟩
def uL(l:List FX):Option FX:=match lg l with
 |some ds=>some (.d (.ag ds))
 |none=>match Cb l with
  |some (pre,nm,post)=>some (.bx false pre nm post)
  |none=>none
def Gu{l:List FX}{n:List Value}{f:FX}(h:dw ρ G l n)(e:uL l=some f):b7 ρ G f (.agg ⟨n⟩):=by
 unfold uL at e;split at e
 ·rename_i hd;cases e;exact cO.2 ⟨n,rfl,ud h hd⟩
 ·split at e<;>cases e
  rename_i hu;obtain⟨m1,m2,rfl,k1,k2⟩:=J2 h hu;exact⟨m1,m2,J,k1,k2⟩
def AE:Nat->List DV->Nat->List DV->Option FX
 |0,[],nm,_=>some (.rw nm)
 |i+1,[],_,post=>match post[i]? with
  |some d=>some (.d d)
  |none=>none
 |0,d::_,_,_=>some (.d d)
 |i+1,_::t,nm,post=>AE i t nm post
def I3: ∀{i:Nat} {pre:List DV} {nm:Nat} {post:List DV} {f:FX} {m1 m2:List Value},AE i pre nm post=some f->IsLs G pre m1->IsLs G post m2-> ∃y,(m1++Value.slice (ρ nm).a (ρ nm).n (ρ nm).c::m2)[i]? =some y/\b7 ρ G f y
 |0,[],nm,post,f,m1,m2,e,h1,h2=>by cases e;rw[cB.1 h1];exact⟨_,J,J⟩
 |i+1,[],nm,post,f,m1,m2,e,h1,h2=>by
  rw[cB.1 h1];simp only[AE] at e;split at e<;>cases e;rename_i hp;obtain⟨l',h3,h4⟩:=h2.get hp;exact⟨l',by simpa using h3,h4⟩
 |0,d::t,nm,post,f,m1,m2,e,h1,h2=>by
  cases e
  obtain⟨y,n,rfl,k1,k2⟩:=aO.1 h1;exact⟨y,J,k1⟩
 |i+1,d::t,nm,post,f,m1,m2,e,h1,h2=>by
  obtain⟨y,n,rfl,k1,k2⟩:=aO.1 h1;obtain⟨u,h3,h4⟩:=I3 (i:=i) e k2 h2;exact⟨u,by simpa using h3,h4⟩
end
structure CR where
 vc:Option Prop
 f:FX
 bl:List (Nat×Option Bk)
 nw:List Nat
def kq:IntKind->IntKind->Bool
 | .i64, .i64=>true
 | .u64, .u64=>true
 | .u32, .u32=>true
 | .u8, .u8=>true
 | .i32, .i32=>true
 |_,_=>false
def Al{k j:IntKind}(h:kq k j=true):j=k:=by cases k<;>cases j<;>first|rfl|(simp[kq] at h)
def DI{α:Type}(k:IntKind)(x:Int)(K:Prop->Option α):Option α:=match k with
 | .i64=>K (-9223372036854775808<=x/\x<=9223372036854775807)
 | .u64=>K (0<=x/\x<=18446744073709551615)
 | .u32=>K (0<=x/\x<=4294967295)
 | .u8=>K (0<=x/\x<=255)
 | .i32=>K (-2147483648<=x/\x<=2147483647)
 |_=>none
def aCc{α:Type}{k:IntKind}{x:Int}{K:Prop->Option α}{r:α}(h:DI k x K=some r): ∃p,K p=some r/\(p->k.min<=x/\x<=k.max):=by
 cases k<;>first|(simp[DI] at h;done)|exact⟨_,h,id⟩
def xk(k:IntKind)(x:Int):Option (Option Prop×FX):=DI k x fun p=>some (some p, .d (.v (.int k x)))
def xw(op:BinOp)(k:IntKind)(p q:Int):Option (Option Prop×FX):=match op with
 | .add=>xk k (p+q)
 | .sub=>xk k (p-q)
 | .mul=>xk k (p*q)
 | .quo=>match k with
  | .u64=>some (some (0<=p/\p<=18446744073709551615/\0<q), .d (.v (.int .u64 (p/q))))
  |k=>some (some (q≠0), .d (.v (.int k (k.wrap (p.tdiv q)))))
 | .rem=>match k with
  | .u64=>some (some (0<=p/\q≠0), .d (.v (.int .u64 (p%q))))
  | .u32=>some (some (0<=p/\q≠0), .d (.v (.int .u32 (p%q))))
  |k=>some (some (q≠0), .d (.v (.int k (p.tmod q))))
 | .shr=>some (some (0<=q), .d (.v (.int k (p.fdiv (2^min q.toNat k.bits)))))
 | .shl=>some (some (0<=q), .d (.v (.int k (k.wrap (p*2^min q.toNat k.bits)))))
 | .or=>match k with
  | .u64=>some (none, .d (.v (.int .u64 ((BitVec.ofInt 64 p ||| BitVec.ofInt 64 q).toNat:Nat))))
  | .u32=>some (none, .d (.v (.int .u32 ((BitVec.ofInt 32 p ||| BitVec.ofInt 32 q).toNat:Nat))))
  |_=>none
 | .and=>match k with
  | .u64=>some (none, .d (.v (.int .u64 ((BitVec.ofInt 64 p &&& BitVec.ofInt 64 q).toNat:Nat))))
  | .u32=>some (none, .d (.v (.int .u32 ((BitVec.ofInt 32 p &&& BitVec.ofInt 32 q).toNat:Nat))))
  |_=>none
 | .lss=>some (none, .pr (p<q) inferInstance)
 | .leq=>some (none, .pr (p<=q) inferInstance)
 | .gtr=>some (none, .pr (q<p) inferInstance)
 | .geq=>some (none, .pr (q<=p) inferInstance)
 | .eql=>some (none, .pr (p=q) inferInstance)
 | .neq=>some (none, .pr (p≠q) inferInstance)
 |_=>none
def ry:FX->Option Bool
 | .tt=>some true
 | .ff=>some false
 | .pr p h=>some (@decide p h)
 | .d (.v (.bool b))=>some b
 |_=>none
def uW{ρ:NE}{G:Gh}{f:FX}{b:Bool}{y:Value}(h:b7 ρ G f y)(e:ry f=some b):y= .bool b:=by
 unfold ry at e;split at e<;>first|(cases e;done)|(cases e;exact h)|(cases e;exact(aF (G:=G)).1 h)
def Eb:FX->Option FX
 | .tt=>some .ff
 | .ff=>some .tt
 | .pr p h=>some (.pr (¬p) (@instDecidableNot p h))
 | .d (.v (.bool b))=>some (.d (.v (.bool (!b))))
 |_=>none
def P2{ρ:NE}{G:Gh}{f g:FX}{y:Value}(h:b7 ρ G f y)(e:Eb f=some g): ∃b,y= .bool b/\b7 ρ G g (.bool (!b)):=by
 unfold Eb at e;split at e
 ·cases e;exact⟨true,h,J⟩
 ·cases e;exact⟨false,h,J⟩
 ·rename_i p hp
  cases e
  refine⟨@decide p hp,h,?_⟩;show Value.bool _= .bool _;congr 1
  cases hp<;>rfl
 ·rename_i b;cases e;exact⟨b,(aF (G:=G)).1 h,(aF (G:=G)).2 rfl⟩
 ·cases e
def Dc(T:TT)(t:TypeId)(f:FX)(y:Operand):Option Bool:=match dh T t with
 |some ⟨.fc,_,_,_⟩=>match y,f with
  | .const .nilIface, .d (.v .nilIface)=>some true
  | .const .nilIface, .d (.v (.iface _ _))=>some false
  |_,_=>none
 |some ⟨.pt,_,_,_⟩=>match y,f with
  | .const (.pointer none), .d (.v (.pointer none))=>some true
  | .const (.pointer none), .ov _ _=>some false
  | .const (.pointer none), .ep _=>some false
  | .const (.pointer none), .be _ _ _ _=>some false
  | .const (.pointer none), .d (.pt _)=>some false
  |_,_=>none
 |some ⟨.sl _ _ _,_,_,_⟩=>match y,f with
  | .const (.slice none _ _), .nl=>some true
  |_,_=>none
 |_=>none
def IW(T:TT)(op:BinOp)(t:TypeId)(b:Bool):Option (Option Prop×FX):=match dh T t with
 |some ⟨.pt,_,_,_⟩=>match op with
  | .eql=>some (none, .pr (b=false) inferInstance)
  | .neq=>some (none, .pr (b=true) inferInstance)
  |_=>none
 |_=>none
def Hm(T:TT)(op:BinOp)(t:TypeId)(f g:FX)(y:Operand):Option (Option Prop×FX):=
 match f,g with
 | .d (.v (.int k p)), .d (.v (.int j q))=>match op with
  | .shr=>xw .shr k p q
  | .shl=>xw .shl k p q
  |op=>bif kq k j then xw op k p q else none
 | .d (.op b _), .d (.v (.pointer none))=>IW T op t b
 |f,g=>match Dc T t f y with
  |some b=>match op with
   | .eql=>some (none,bif b then .tt else .ff)
   | .neq=>some (none,bif b then .ff else .tt)
   |_=>none
  |none=>match dh T t,ry f,ry g with
   |some ⟨.bl,_,_,_⟩,some a,some b=>match op with
    | .eql=>some (none, .d (.v (.bool (a==b))))
    | .neq=>some (none, .d (.v (.bool (!(a==b)))))
    |_=>none
   |_,_,_=>none
def B7(mx:Bool)(f g:FX):Option FX:=match f,g with
 | .d (.v (.int k p)), .d (.v (.int j q))=>bif kq k j then(match mx with
  |true=>some (.d (.v (.int k (if q>p then q else p))))
  |false=>some (.d (.v (.int k (if q<p then q else p))))) else none
 |_,_=>none
def Dx(bk:BM)(i:TI)(f:FX):Option FX:=match i.ag with
 |some (some k)=>match f with
  | .ov nm off=>match bk nm with
   |some (.o _ cs _)=>match takeX cs off k with
    |some l=>uL l
    |none=>none
   |_=>none
  | .ep cs=>match takeD cs 0 k with
   |some l=>some (.d (.ag l))
   |none=>none
  |_=>none
 |some none=>match f with
  | .ov nm off=>match bk nm with
   |some (.o _ cs _)=>cs[off]?
   |_=>none
  | .ep cs=>match cs with
   |d::_=>some (.d d)
   |[]=>none
  |_=>none
 |none=>none
def FX.flat:FX->Bool
 | .d x=>x.flat
 | .bx _ _ _ _=>false
 | .un=>false
 | .no=>false
 |_=>true
def wm(f:FX)(d:Nat):Bool:=match f.nm with
 |some m=>!Nat.beq m d
 |none=>true
def Ax(bk:BM)(i:TI)(fa fv:FX):Option (List (Nat×Option Bk)):=match fa with
 | .ov nm off=>match bk nm with
  |some (.o ty cs lo)=>match i.ag with
   |some (some k)=>bif fv.okc&&(Nat.beq fv.cells.length k&&Nat.ble (off+k) cs.length) then kr (vd cs off fv.cells) fun cs'=>some [(nm,some (.o ty cs' lo))] else none
   |some none=>bif fv.flat&&Nat.blt off cs.length then kr (cs.set off fv) fun cs'=>some [(nm,some (.o ty cs' lo))] else none
   |none=>none
  |_=>none
 |_=>none
def sN(lk:LK)(fo:List (Nat×Nat×Nat)):List FX->List (Nat×Operand)->Option (List FX)
 |cs,[]=>some cs
 |cs,(i,x)::r=>match fo[i]?,aI lk x with
  |some (off,_,k),some d=>bif d.okc&&(Nat.beq d.cells.length k&&Nat.ble (off+k) cs.length) then sN lk fo (vd cs off d.cells) r else none
  |_,_=>none
def GH(bk:BM)(f:FX):Option FX:=match f with
 | .nl=>some (.d (.v (.int .i64 0)))
 | .d (.sl l)=>some (.d (.v (.int .i64 (l.length:Nat))))
 | .ct l=>some (.d (.v (.int .i64 (l.length:Nat))))
 | .rw nm=>match bk nm with
  |some (.b _ _ ds _)=>some (.d (.v (.int .i64 (ds.length:Nat))))
  |_=>none
 |_=>none
def FJ(fo:List (Nat×Nat×Nat))(i:Nat)(f:FX):Option FX:=match fo[i]? with
 |some (off,_,_+1)=>match f with
  | .ov nm o=>some (.ov nm (o+off))
  | .ep l=>bif Nat.ble off l.length then kr (l.drop off) fun l'=>some (.ep l') else none
  | .be nm s i j=>some (.be nm s i (j+off))
  |_=>none
 |_=>none
def ET(T:TT)(fo:List (Nat×Nat×Nat))(i:Nat)(f:FX):Option FX:=match f with
 | .d (.ag cs)=>match fo[i]? with
  |some (off,ft,_)=>match dh T ft with
   |some j=>match j.ag with
    |some (some k)=>match takeD cs off k with
     |some l=>some (.d (.ag l))
     |none=>none
    |some none=>match cs[off]? with
     |some c=>some (.d c)
     |none=>none
    |none=>none
   |none=>none
  |none=>none
 |_=>none
def Hf(T:TT)(t t':TypeId)(f:FX):Option (Option Prop×FX):=match dh T t,dh T t' with
 |some ⟨.int k,_,_,_⟩,some ⟨.int k',_,_,_⟩=>match f with
  | .d (.v (.int j p))=>bif kq k j then(match k' with
   | .u32=>some (none, .d (.v (.int .u32 (p%4294967296))))
   |k'=>xk k' p) else none
  |_=>none
 |_,_=>none
def EM(T:TT)(bk:BM)(t:TypeId)(f g:FX):Option (Option Prop×FX):=match f with
 | .rw nm=>match bk nm with
  |some (.b _ s ds _)=>match dh T t with
   |some ⟨.sl _ s' _,_,_,_⟩=>match g with
    | .d (.v (.int _ i))=>bif Nat.beq s s' then some (some (0<=i/\i<(ds.length:Nat)), .be nm s i.toNat 0) else none
    |_=>none
   |_=>none
  |_=>none
 |_=>none
def ol(r:Option FX):Option CR:=match r with
 |some f=>some ⟨none,f,[],[]⟩
 |none=>none
def uw(r:Option (Option Prop×FX)):Option CR:=match r with
 |some (v,f)=>some ⟨v,f,[],[]⟩
 |none=>none
def tP{α:Type}(lk:LK)(x y:Operand)(K:FX->FX->Option α):Option α:=match aI lk x with
 |some f=>match aI lk y with
  |some g=>K f g
  |none=>none
 |none=>none
def oq{α:Type}(lk:LK)(x:Operand)(K:FX->Option α):Option α:=match aI lk x with
 |some f=>K f
 |none=>none
def xW{α:Type}(T:TT)(t:TypeId)(K:List (Nat×Nat×Nat)->TI->Option α):Option α:=match dh T t with
 |some ⟨.st fo,sz,z,za⟩=>K fo ⟨.st fo,sz,z,za⟩
 |_=>none
def yJ{α:Type}(T:TT)(t:TypeId)(K:TI->Option α):Option α:=match dh T t with
 |some i=>K i
 |none=>none
def DO(i:Nat)(f:FX):Option FX:=match f with
 | .d (.tp ds)=>match ds[i]? with
  |some d=>some (.d d)
  |none=>none
 | .bx true pre nm post=>AE i pre nm post
 |_=>none
def Ha(f:FX):Option (Option Prop×FX):=match f with
 | .ov a b=>some (none, .ov a b)
 | .ep l=>some (none, .ep l)
 | .be a b c d=>some (none, .be a b c d)
 | .d (.pt l)=>some (none, .ep l)
 | .d (.op b l)=>some (some (b=true), .ep l)
 |_=>none
def CL(c f g:FX):Option FX:=match c with
 | .tt=>some f
 | .ff=>some g
 |_=>none
def Da(op:UnOp)(f:FX):Option (Option Prop×FX):=match op with
 | .not=>match Eb f with
  |some g=>some (none,g)
  |none=>none
 | .neg=>match f with
  | .d (.v (.int k p))=>xk k (-p)
  |_=>none
 |_=>none
def wk(T:TT)(lk:LK)(bk:BM)(dst:Option Nat)(op:Op):Option CR:=match op with
 | .move x=>ol (aI lk x)
 | .assign x=>ol (aI lk x)
 | .pick c x y=>oq lk c fun c=>tP lk x y fun f g=>ol (CL c f g)
 | .alloc t=>match dst with
  |some d=>yJ T t fun i=>match i.z with
   |some z=>kr z fun cs=>some ⟨none, .ov d 0,[(d,some (.o t cs true))],[d]⟩
   |none=>none
  |none=>none
 | .box t x=>match dst with
  |some d=>oq lk x fun f=>bif f.okc&&wm f d then kr f.cells fun cs=>some ⟨none, .ov d 0,[(d,some (.o t cs true))],[d]⟩ else none
  |none=>none
 | .nilCheck x=>oq lk x fun f=>uw (Ha f)
 | .fieldAddr t x i=>xW T t fun fo _=>oq lk x fun f=>ol (FJ fo i f)
 | .field t x i=>xW T t fun fo _=>oq lk x fun f=>ol (ET T fo i f)
 | .load t x=>yJ T t fun i=>oq lk x fun f=>ol (Dx bk i f)
 | .store t x y=>yJ T t fun i=>tP lk x y fun f g=>match Ax bk i f g with
  |some bl=>some ⟨none, .un,bl,[]⟩
  |none=>none
 | .extract x i=>oq lk x fun f=>ol (DO i f)
 | .build t parts=>xW T t fun fo i=>match i.z with
  |some z=>match sN lk fo z parts.toList with
   |some cs=>match uL cs with
    |some f=>some ⟨none,f,[],[]⟩
    |none=>none
   |none=>none
  |none=>none
 | .binOp op t x y _=>tP lk x y fun f g=>uw (Hm T op t f g y)
 | .unOp op _ x=>oq lk x fun f=>uw (Da op f)
 | .convert t t' x=>oq lk x fun f=>uw (Hf T t t' f)
 | .indexAddr t x y=>tP lk x y fun f g=>uw (EM T bk t f g)
 | .call ⟨.builtin .len,⟨[x]⟩,⟨[t]⟩⟩=>match dh T t with
  |some ⟨.sl _ _ _,_,_,_⟩=>oq lk x fun f=>ol (GH bk f)
  |_=>none
 | .call ⟨.builtin .max,⟨[x,y]⟩,⟨[_,_]⟩⟩=>tP lk x y fun f g=>ol (B7 true f g)
 | .call ⟨.builtin .min,⟨[x,y]⟩,⟨[_,_]⟩⟩=>tP lk x y fun f g=>ol (B7 false f g)
 |_=>none
section
variable {P:Program} {T:TT} {GB:Gh} {C:aC} {n:Nat} {lk:LK} {bk:BM} {ρ:NE} {G:Gh} {ov:List aj} {a:Act} {w:World}
variable {dst:Option Nat} {t t' ty':TypeId} {pos:String} {af:Array Edge} {gd:Option (Nat×Bool)} {x y z:Operand}
def aGS(P:Program)(GB:Gh)(C:aC)(n:Nat)(lk:LK)(bk:BM)(o:Oper)(r:CR):Prop:=(∀p,r.vc=some p->p)->bP P GB C n lk bk o r.f r.bl r.nw
def pC{r:Option FX}{c:CR}(h:ol r=some c): ∃f,r=some f/\c=⟨none,f,[],[]⟩:=by
 unfold ol at h;split at h
 ·cases h;exact⟨_,J,J⟩
 ·cases h
def x4{r:Option (Option Prop×FX)}{c:CR}(h:uw r=some c): ∃v f,r=some (v,f)/\c=⟨v,f,[],[]⟩:=by
 unfold uw at h;split at h
 ·cases h;exact⟨_,_,J,J⟩
 ·cases h
def pz{α:Type}{K:FX->Option α}{r:α}(h:oq lk x K=some r): ∃f,aI lk x=some f/\K f=some r:=by
 unfold oq at h;split at h
 ·exact⟨_,by assumption,h⟩
 ·cases h
def vC{α:Type}{K:FX->FX->Option α}{r:α}(h:tP lk x y K=some r): ∃f g,aI lk x=some f/\aI lk y=some g/\K f g=some r:=by
 unfold tP at h;split at h
 ·split at h
  ·exact⟨_,_,by assumption,by assumption,h⟩
  ·cases h
 ·cases h
def F8{α:Type}{K:TI->Option α}{r:α}(hT:lz P T)(h:yJ T t K=some r): ∃i,ey P t=some i/\K i=some r:=by
 unfold yJ at h;split at h
 ·rename_i i hi;exact⟨i,hT _ _ hi,h⟩
 ·cases h
def Dh{α:Type}{K:List (Nat×Nat×Nat)->TI->Option α}{r:α}(hT:lz P T)(h:xW T t K=some r): ∃fo i,ey P t=some i/\i.k= .st fo/\K fo i=some r:=by
 unfold xW at h;split at h
 ·rename_i fo sz z za hi;exact⟨fo,_,hT _ _ hi,rfl,h⟩
 ·cases h
def bP.x1{o:Oper}{f g:FX}(e:aI lk x=some f)(h: ∀ρ G ov (a:Act) w y,bt C ov G w->bE GB C n lk bk ρ G ov a w->av (cA a) x=some y->b7 ρ G f y-> ∃u,b7 ρ G g u/\Yd P C (cA a) ov G o u):bP P GB C n lk bk o g [] []:=
 .yd fun ρ G ov a w r=>by
  obtain⟨y,h1,h2⟩:=r.ev e;exact h ρ G ov a w y r.h r h1 h2
def SO{f:FX}(e:aI lk x=some f):bP P GB C n lk bk ⟨dst, .move x,ty',pos,af,gd⟩ f [] []:= .x1 e fun _ _ _ _ _ y _ _ h1 h2=>⟨y,h2,e8 h1⟩
def Ux{f:FX}(e:aI lk x=some f):bP P GB C n lk bk ⟨dst, .assign x,ty',pos,af,gd⟩ f [] []:= .x1 e fun _ _ _ _ _ y _ _ h1 h2=>⟨y,h2,DW h1⟩
def azm{c f g v:FX}(ec:aI lk z=some c)(e1:aI lk x=some f)(e2:aI lk y=some g)(h:CL c f g=some v):bP P GB C n lk bk ⟨dst, .pick z x y,ty',pos,af,gd⟩ v [] []:= .yd fun ρ G ov a w r=>by
 obtain⟨u,h1,h2⟩:=r.ev ec;unfold CL at h;split at h
 ·cases h;cases h2;obtain⟨u,h3,h4⟩:=r.ev e1;exact⟨u,h4,qr h1 h3⟩
 ·cases h;cases h2;obtain⟨u,h3,h4⟩:=r.ev e2;exact⟨u,h4,lj h1 h3⟩
 ·cases h
def Qw{f g:FX}{v:Option Prop}(e:aI lk x=some f)(h:Ha f=some (v,g))(hv: ∀r,v=some r->r):bP P GB C n lk bk ⟨dst, .nilCheck x,ty',pos,af,gd⟩ g [] []:= .x1 e fun ρ G ov a w y _ _ h1 h2=>by
 have key: ∀l,Is G (.pt l) y-> ∃u,b7 ρ G (.ep l) u/\Yd P C (cA a) ov G ⟨dst, .nilCheck x,ty',pos,af,gd⟩ u:=fun l h2=>by
  obtain⟨b,m,rfl,hb,hm⟩:=nP.1 h2;refine⟨_,⟨b,0,m,m,J,hb,?_,hm⟩,kj h1⟩;rw[lh _ _ _ (by rw[hm.len];omega),jY,bQ (by rw[hm.len];omega)]
 unfold Ha at h;split at h<;>cases h
 ·obtain⟨b,hb,rfl⟩:=h2;exact⟨_,⟨b,hb,rfl⟩,kj h1⟩
 ·obtain⟨b,o,cs,m,rfl,h3⟩:=h2;exact⟨_,⟨b,o,cs,m,rfl,h3⟩,kj h1⟩
 ·obtain⟨b,hb,rfl⟩:=h2;exact⟨_,⟨b,hb,rfl⟩,kj h1⟩
 ·exact key _ h2
 ·rcases rA.1 (show Is G _ y from h2) with⟨e,_⟩|⟨_,h3⟩
  ·have:=hv _ J;rw[e] at this;cases this
  ·exact key _ h3
def QW{f g:FX}{fo:List (Nat×Nat×Nat)}{i:TI}{k:Nat}(hi:ey P t=some i)(hk:i.k= .st fo)(e:aI lk x=some f)(h:FJ fo k f=some g):bP P GB C n lk bk ⟨dst, .fieldAddr t x k,ty',pos,af,gd⟩ g [] []:= .x1 e fun ρ G ov a w y _ _ h1 h2=>by
 unfold FJ at h;split at h
 ·rename_i off ft s ho
  have:=WN hi hk ho;split at h
  ·cases h;obtain⟨b,hb,rfl⟩:=h2;exact⟨_,⟨b,hb,rfl⟩,mG h1⟩
  ·rename_i l
   cases hb:Nat.ble off l.length with
   |false=>rw[hb] at h;cases h
   |true=>
    rw[hb,cond_true,qB] at h;cases h;obtain⟨b,o,cs,m,rfl,hb',ht,hm⟩:=h2;refine⟨_,⟨b,o+off,cs,m.drop off,J,hb',?_,hm.drop _⟩,mG h1⟩;rw[gN];exact A0 ht (by simpa using hb)
  ·cases h
   obtain⟨b,hb,rfl⟩:=h2;exact⟨_,⟨b,hb,J⟩,by rw[<-kN];exact mG h1⟩
  ·cases h
 ·cases h
def Ve{f g:FX}{fo:List (Nat×Nat×Nat)}{i:TI}{k:Nat}(hT:lz P T)(hi:ey P t=some i)(hk:i.k= .st fo)(e:aI lk x=some f)(h:ET T fo k f=some g):bP P GB C n lk bk ⟨dst, .field t x k,ty',pos,af,gd⟩ g [] []:= .x1 e fun ρ G ov a w y _ _ h1 h2=>by
 unfold ET at h;split at h<;>try (cases h;done)
 rename_i cs;split at h<;>try (cases h;done)
 rename_i off ft s ho;split at h<;>try (cases h;done)
 rename_i j hj;obtain⟨m,rfl,hm⟩:=cO.1 (show Is G _ y from h2);have:=YO hi hk ho;split at h<;>try (cases h;done)
 ·rename_i q ha
  have:=wl (hT _ _ hj) ha;split at h<;>cases h;rename_i l hl;obtain⟨l',h3,h4⟩:=hm.takeD hl;exact⟨.agg ⟨l'⟩,cO.2 ⟨l',J,h4⟩,Rg h1 h3⟩
 ·rename_i ha
  have:=uO (hT _ _ hj) ha;split at h<;>cases h;rename_i c hc;obtain⟨l',h3,h4⟩:=hm.get hc;exact⟨l',h4,P6 h1 h3⟩
def bE.own{nm off:Nat}{y:Value}{ty:TypeId}{cs:List FX}{lo:Bool}(r:bE GB C n lk bk ρ G ov a w)(h2:b7 ρ G (.ov nm off) y)(hb:bk nm=some (.o ty cs lo)): ∃b m,y= .pointer (some ⟨b,off,none⟩)/\(ρ nm).a=some ⟨b,0,none⟩/\dw ρ G cs m/\⟨b,m,ty,lo⟩∈ov:=by
 obtain⟨os,⟨b,m,h3,rfl,h4⟩,h5⟩:=r.bx _ _ hb;obtain⟨b',h6,rfl⟩:=h2;rw[h3] at h6;cases h6;exact⟨b,m,J,h3,h4,h5 _ aQ⟩
def Xa{f g:FX}{i:TI}(hi:ey P t=some i)(e:aI lk x=some f)(h:Dx bk i f=some g):bP P GB C n lk bk ⟨dst, .load t x,ty',pos,af,gd⟩ g [] []:= .x1 e fun ρ G ov a w y _ r h1 h2=>by
 unfold Dx at h;split at h<;>try (cases h;done)
 ·rename_i k ha
  have:=wl hi ha;split at h<;>try (cases h;done)
  ·split at h<;>try (cases h;done)
   rename_i hb;split at h<;>try (cases h;done)
   rename_i l hl;obtain⟨b,m,rfl,h3,h4,h5⟩:=r.own h2 hb;obtain⟨l',h6,h7⟩:=h4.takeX hl;have:gD ov b m _ _:=⟨h5⟩;exact⟨.agg ⟨l'⟩,Gu h7 h,BG h1 h6⟩
  ·split at h<;>cases h
   rename_i hl;obtain⟨b,o,ms,m,rfl,hb,ht,hm⟩:=h2;obtain⟨l',h3,h4⟩:=hm.takeD hl;exact⟨.agg ⟨l'⟩,cO.2 ⟨l',J,h4⟩,Fx h1 hb (by simpa using HJ ht h3)⟩
 ·rename_i ha
  have:=uO hi ha;split at h<;>try (cases h;done)
  ·split at h<;>try (cases h;done)
   rename_i hb;obtain⟨b,m,rfl,h3,h4,h5⟩:=r.own h2 hb;obtain⟨l',h6,h7⟩:=h4.get h;have:gD ov b m _ _:=⟨h5⟩;exact⟨l',h7,kA h1 h6⟩
  ·split at h<;>cases h
   obtain⟨b,o,ms,m,rfl,hb,ht,hm⟩:=h2;obtain⟨l',h3,h4⟩:=hm.get (i:=0) rfl;have:=KT ht (i:=0) (Nat.succ_pos _);rw[eK] at this;exact⟨l',h4,vu h1 hb (by rw[this];exact h3)⟩
def XG{f g:FX}{i:Nat}(e:aI lk x=some f)(h:DO i f=some g):bP P GB C n lk bk ⟨dst, .extract x i,ty',pos,af,gd⟩ g [] []:= .x1 e fun ρ G ov a w y _ r h1 h2=>by
 unfold DO at h;split at h<;>try (cases h;done)
 ·split at h<;>cases h
  rename_i hv;obtain⟨m,rfl,hm⟩:=je.1 (show Is G _ y from h2);obtain⟨l',h3,h4⟩:=hm.get hv;exact⟨l',h4,F6 h1 (by simpa using h3)⟩
 ·obtain⟨m1,m2,rfl,k1,k2⟩:=h2
  obtain⟨l',h3,h4⟩:=I3 (ρ:=ρ) h k1 k2;exact⟨l',h4,F6 h1 (by simpa using h3)⟩
def CN{fo:List (Nat×Nat×Nat)}(r:bE GB C n lk bk ρ G ov a w): ∀(ps:List (Nat×Operand)) (cs out:List FX) (m:List Value),sN lk fo cs ps=some out->dw ρ G cs m-> ∃l,tq (cA a) (fo.map fun x=>(x.1,x.2.2)) m ps=some l/\dw ρ G out l
 |[],cs,out,m,e,hm=>by simp only[sN] at e;cases e;exact⟨m,J,hm⟩
 |(i,x)::ps,cs,out,m,e,hm=>by
  simp only[sN] at e;split at e
  ·rename_i off q k d ho hd
   cases hc:(d.okc&&(Nat.beq d.cells.length k&&Nat.ble (off+k) cs.length)) with
   |false=>rw[hc] at e;cases e
   |true=>
    rw[hc] at e;simp only[aL,Nat.beq_eq_true_eq,Nat.ble_eq] at hc;obtain⟨h1,h2,h3⟩:=hc;replace h2:=aY h2;obtain⟨y,hy,hy'⟩:=r.ev hd;obtain⟨c1,_⟩:=hy'.cells h1;have c2:=c1.len;obtain⟨l,hl1,hl2⟩:=CN r ps _ out _ e (hm.ov c1 (off:=off));refine⟨l,?_,hl2⟩;simp only[tq,fR,ho,jW,hy];rw[if_pos ⟨by rw[c2,h2],by rw[hm.len];exact h3⟩];exact hl1
  ·cases e
def RE{fo:List (Nat×Nat×Nat)}{i:TI}{zx:List FX}{cs:List FX}{f:FX}{parts:Array (Nat×Operand)}(hi:ey P t=some i)(hk:i.k= .st fo)(hz:i.z=some zx)(h:sN lk fo zx parts.toList=some cs)(hf:uL cs=some f):
  bP P GB C n lk bk ⟨dst, .build t parts,ty',pos,af,gd⟩ f [] []:= .yd fun ρ G ov a w r=>by
 obtain⟨v,hv,hv'⟩:=Bm hi hz;have:=Ut hi hk;obtain⟨l,h1,h2⟩:=CN r _ _ _ _ h (hv' ρ G);exact⟨.agg ⟨l⟩,Gu h2 hf,CP h1⟩
def yu{k:IntKind}{p:Int}{v:Option Prop}{f:FX}(h:xk k p=some (v,f)):f= .d (.v (.int k p))/\((∀q,v=some q->q)->k.min<=p/\p<=k.max):=by
 obtain⟨q,h1,h2⟩:=aCc h
 cases h1
 exact⟨J,fun k=>h2 (k _ J)⟩
def c8{k:IntKind}{p:Int}{y:Value}:b7 ρ G (.d (.v (.int k p))) y↔y= .int k p:=aF (G:=G)
def Mx(b:BitVec 64):IntKind.u64.wrap (b.toNat:Int)=(b.toNat:Int):=q6 ⟨by show(0:Int)<=_;omega,by have:=b.isLt;show _<=(18446744073709551615:Int);omega⟩
def Bw(b:BitVec 32):IntKind.u32.wrap (b.toNat:Int)=(b.toNat:Int):=q6 ⟨by show(0:Int)<=_;omega,by have:=b.isLt;show _<=(4294967295:Int);omega⟩
def z'{op:BinOp}{k j:IntKind}{p q:Int}{v:Option Prop}{f:FX}(h:xw op k p q=some (v,f))(hop:op= .shr\/op= .shl)(hv: ∀r,v=some r->r){fr:Fr}(hx:av fr x=some (.int k p))(hy:av fr y=some (.int j q)): ∃u,b7 ρ G f u/\Yd P C fr ov G ⟨dst, .binOp op t x y t',ty',pos,af,gd⟩ u:=by
 rcases hop with rfl|rfl<;>cases h
 ·exact⟨_,c8.2 J,lE hx hy (hv _ J)⟩
 ·exact⟨_,c8.2 J,uV hx hy (hv _ J)⟩
def Rl{op:BinOp}{k:IntKind}{p q:Int}{v:Option Prop}{f:FX}(h:xw op k p q=some (v,f))(hv: ∀r,v=some r->r){fr:Fr}(hx:av fr x=some (.int k p))(hy:av fr y=some (.int k q)): ∃u,b7 ρ G f u/\Yd P C fr ov G ⟨dst, .binOp op t x y t',ty',pos,af,gd⟩ u:=by
 cases op with
 |add=>obtain⟨rfl,h2⟩:=yu h;exact⟨_,c8.2 rfl,Ej hx hy (h2 hv)⟩
 |sub=>obtain⟨rfl,h2⟩:=yu h;exact⟨_,c8.2 rfl,DL hx hy (h2 hv)⟩
 |mul=>obtain⟨rfl,h2⟩:=yu h;exact⟨_,c8.2 rfl,E6 hx hy (h2 hv)⟩
 |quo=>
  cases k<;>cases h<;>first
   |exact⟨_,c8.2 J,MS hx hy (hv _ J)⟩
   |(obtain⟨h1,h2,h3⟩:=hv _ rfl;exact⟨_,c8.2 rfl,vW hx hy h1 h2 h3⟩)
 |rem=>
  cases k<;>cases h<;>first
   |exact⟨_,c8.2 J,JL hx hy (hv _ J)⟩
   |(obtain⟨h1,h2⟩:=hv _ rfl;exact⟨_,c8.2 rfl,wh hx hy h1 h2⟩)
 |shr=>exact z' h (.inl J) hv hx hy
 |shl=>exact z' h (.inr J) hv hx hy
 |or=>
  cases k<;>cases h<;>refine⟨_,c8.2 J,ig hx hy fun w=>?_⟩
  ·show(pure (Value.int .u32 (IntKind.u32.wrap ((BitVec.ofInt 32 p ||| BitVec.ofInt 32 q).toNat:Int))):Sem Value).run P w=_
   rw[Bw];rfl
  ·show(pure (Value.int .u64 (IntKind.u64.wrap ((BitVec.ofInt 64 p ||| BitVec.ofInt 64 q).toNat:Int))):Sem Value).run P w=_
   rw[Mx];rfl
 |and=>
  cases k<;>cases h<;>refine⟨_,c8.2 J,ig hx hy fun w=>?_⟩
  ·show(pure (Value.int .u32 (IntKind.u32.wrap ((BitVec.ofInt 32 p &&& BitVec.ofInt 32 q).toNat:Int))):Sem Value).run P w=_
   rw[Bw];rfl
  ·show(pure (Value.int .u64 (IntKind.u64.wrap ((BitVec.ofInt 64 p &&& BitVec.ofInt 64 q).toNat:Int))):Sem Value).run P w=_
   rw[Mx];rfl
 |lss=>cases h;exact⟨_,J,i5 hx hy⟩
 |leq=>cases h;exact⟨_,J,Xd hx hy⟩
 |gtr=>cases h;exact⟨_,J,rg hx hy⟩
 |geq=>cases h;exact⟨_,J,ti hx hy⟩
 |eql=>cases h;exact⟨_,J,ik hx hy⟩
 |neq=>cases h;exact⟨_,J,tg hx hy⟩
 |_=>cases h
def Jy{mx:Bool}{f g u:FX}(e1:aI lk x=some f)(e2:aI lk y=some g)(h:B7 mx f g=some u){t1 t2:TypeId}:bP P GB C n lk bk ⟨dst, .call ⟨.builtin (if mx then .max else .min),⟨[x,y]⟩,⟨[t1,t2]⟩⟩,ty',pos,af,gd⟩ u [] []:= .yd fun ρ G ov a w r=>by
 obtain⟨p,h1,h2⟩:=r.ev e1;obtain⟨q,h3,h4⟩:=r.ev e2;unfold B7 at h;split at h<;>try (cases h;done)
 rename_i k p' j q';rw[c8] at h2 h4;subst h2 h4
 cases hk:kq k j with
 |false=>rw[hk] at h;cases h
 |true=>
  rw[hk] at h;cases Al hk
  cases mx<;>cases h
  ·refine⟨_,c8.2 J,?_⟩
   intro a' w' hf hh;simp only[cM,if_false,execOp,resolve,gJ,bR,dK,bi hf h1,bi hf h3];have h1:(Builtin.min_ #[t1,t2] ty' #[.int k p', .int k q']).run P w'= .ok (.int k (if q'<p' then q' else p')) w':=by
    simp[Builtin.min_,Builtin.min2,run_pure]
   exact cF h1
  ·refine⟨_,c8.2 J,?_⟩
   intro a' w' hf hh;simp only[if_true,execOp,resolve,gJ,bR,dK,bi hf h1,bi hf h3];have h1:(Builtin.max_ #[t1,t2] ty' #[.int k p', .int k q']).run P w'= .ok (.int k (if q'>p' then q' else p')) w':=by
    simp[Builtin.max_,Builtin.max2,run_pure]
   exact cF h1
def T3{f g:FX}{b:Bool}(hT:lz P T)(h:Dc T t f y=some b)(hx: ∃v,av (cA a) x=some v/\b7 ρ G f v)(hy:aI lk y=some g):
  Yd P C (cA a) ov G ⟨dst, .binOp .eql t x y t',ty',pos,af,gd⟩ (.bool b)/\Yd P C (cA a) ov G ⟨dst, .binOp .neq t x y t',ty',pos,af,gd⟩ (.bool (!b)):=by
 obtain⟨v,h1,h2⟩:=hx;unfold Dc at h;split at h<;>try (cases h;done)
 ·rename_i hi
  have:=YF (hT _ _ hi) J;split at h<;>cases h
  ·cases (aF (G:=G)).1 h2;exact⟨IJ (.inl J) h1,M0 (.inl J) h1⟩
  ·cases (aF (G:=G)).1 h2;exact⟨IJ (.inr ⟨_,_,J⟩) h1,M0 (.inr ⟨_,_,J⟩) h1⟩
 ·rename_i hi
  have:=OJ (hT _ _ hi) J;have key: ∀p,v= .pointer (some p)->Yd P C (cA a) ov G ⟨dst, .binOp .eql t x (.const (.pointer none)) t',ty',pos,af,gd⟩ (.bool false)/\Yd P C (cA a) ov G ⟨dst, .binOp .neq t x (.const (.pointer none)) t',ty',pos,af,gd⟩ (.bool (!false)):=fun p e=>by
   subst e;exact⟨BW h1 J,zW h1 J⟩
  split at h<;>cases h
  ·cases (aF (G:=G)).1 h2;exact⟨BW h1 J,zW h1 J⟩
  ·obtain⟨b,_,e⟩:=h2;exact key _ e
  ·obtain⟨b,o,cs,m,e,_⟩:=h2;exact key _ e
  ·obtain⟨b,_,e⟩:=h2;exact key _ e
  ·obtain⟨b,m,e,_⟩:=nP.1 (show Is G _ v from h2);exact key _ e
 ·rename_i hi
  have:=iD (hT _ _ hi) J;split at h<;>cases h
  cases h2;exact⟨Pt h1 J,V7 h1 J⟩
def WJ{op:BinOp}{f g u:FX}{v:Option Prop}(hT:lz P T)(e1:aI lk x=some f)(e2:aI lk y=some g)(h:Hm T op t f g y=some (v,u))(hv: ∀r,v=some r->r):bP P GB C n lk bk ⟨dst, .binOp op t x y t',ty',pos,af,gd⟩ u [] []:= .yd fun ρ G ov a w r=>by
 obtain⟨p,h1,h2⟩:=r.ev e1;obtain⟨q,h3,h4⟩:=r.ev e2;unfold Hm at h;split at h
 ·rename_i k p' j q'
  rw[c8] at h2 h4;subst h2 h4;split at h
  ·exact z' h (.inl J) hv h1 h3
  ·exact z' h (.inr J) hv h1 h3
  ·cases hk:kq k j with
   |false=>rw[hk] at h;cases h
   |true=>rw[hk] at h;cases Al hk;exact Rl h hv h1 h3
 ·unfold IW at h
  split at h<;>try (cases h;done)
  rename_i hi;have:=OJ (hT _ _ hi) J
  cases (aF (G:=G)).1 h4
  split at h<;>cases h<;>rcases rA.1 (show Is G _ p from h2) with⟨rfl,rfl⟩|⟨rfl,k⟩
  ·exact⟨_,J,BW h1 h3⟩
  ·obtain⟨b,m,rfl,_⟩:=nP.1 k;exact⟨_,rfl,BW h1 h3⟩
  ·exact⟨_,J,zW h1 h3⟩
  ·obtain⟨b,m,rfl,_⟩:=nP.1 k;exact⟨_,rfl,zW h1 h3⟩
 ·split at h
  ·rename_i b hb
   obtain⟨k1,k2⟩:=T3 (ρ:=ρ) (G:=G) (C:=C) (ov:=ov) (dst:=dst) (t':=t') (ty':=ty') (pos:=pos) (af:=af) (gd:=gd) hT hb ⟨p,h1,h2⟩ e2;split at h<;>cases h
   ·exact⟨_,by cases b<;>rfl,k1⟩
   ·exact⟨_,by cases b<;>rfl,k2⟩
  ·split at h<;>try (cases h;done)
   rename_i hi ha hb;have:=TG (hT _ _ hi) J;have e3:=uW h2 ha;have e4:=uW h4 hb;subst e3 e4;split at h<;>cases h
   ·exact⟨_,(aF (G:=G)).2 J,Sm h1 h3⟩
   ·exact⟨_,(aF (G:=G)).2 J,Yf h1 h3⟩
def Xs{op:UnOp}{f u:FX}{v:Option Prop}(e1:aI lk x=some f)(h:Da op f=some (v,u))(hv: ∀r,v=some r->r):bP P GB C n lk bk ⟨dst, .unOp op t x,ty',pos,af,gd⟩ u [] []:= .x1 e1 fun ρ G ov a w y _ r h1 h2=>by
 unfold Da at h;split at h<;>try (cases h;done)
 ·split at h<;>cases h
  rename_i g hg;obtain⟨b,rfl,h3⟩:=P2 h2 hg;exact⟨_,h3,zH h1⟩
 ·split at h<;>try (cases h;done)
  obtain⟨rfl,h3⟩:=yu h;rw[c8] at h2;subst h2;refine⟨_,c8.2 J,?_⟩;have:=Dk (P:=P) (C:=C) (own:=ov) (G:=G) (dst:=dst) (ty':=ty') (pos:=pos) (af:=af) (gd:=gd) (t:=t) h1;rwa [Int.zero_sub,q6 (h3 hv)] at this
def Vl{f u:FX}{v:Option Prop}(hT:lz P T)(e1:aI lk x=some f)(h:Hf T t t' f=some (v,u))(hv: ∀r,v=some r->r):bP P GB C n lk bk ⟨dst, .convert t t' x,ty',pos,af,gd⟩ u [] []:= .x1 e1 fun ρ G ov a w y _ r h1 h2=>by
 unfold Hf at h;split at h<;>try (cases h;done)
 rename_i k _ _ _ k' _ _ _ hi hi';have:=xl (hT _ _ hi) J;have:=xl (hT _ _ hi') J;split at h<;>try (cases h;done)
 rename_i j p;rw[c8] at h2;subst h2
 cases hk:kq k j with
 |false=>rw[hk] at h;cases h
 |true=>
  rw[hk,cond_true] at h;cases Al hk;split at h
  ·cases h;exact⟨_,c8.2 J,jy h1⟩
  ·obtain⟨rfl,h3⟩:=yu h;exact⟨_,c8.2 rfl,Hv h1 (h3 hv)⟩
def bE.row{nm:Nat}{y:Value}{ty:TypeId}{s:Nat}{ds:List DV}{lo:Bool}(r:bE GB C n lk bk ρ G ov a w)(hb:bk nm=some (.b ty s ds lo)): ∃B,de G ⟨ρ nm,s,ty,ds,lo⟩ B/\ ∀o∈B,o∈ov:=by
 obtain⟨os,h1,h2⟩:=r.bx _ _ hb;exact⟨os,h1,h2⟩
def de.len{β:dE}{B:List aj}(h:de G β B):β.x.n=β.ds.length:=by
 obtain⟨vs,h1,h2,_⟩:=h;rw[h1.len,h2.len]
def Tg{f g u:FX}{v:Option Prop}(hT:lz P T)(e1:aI lk x=some f)(e2:aI lk y=some g)(h:EM T bk t f g=some (v,u))(hv: ∀r,v=some r->r):bP P GB C n lk bk ⟨dst, .indexAddr t x y,ty',pos,af,gd⟩ u [] []:= .yd fun ρ G ov a w r=>by
 obtain⟨p,h1,h2⟩:=r.ev e1;obtain⟨q,h3,h4⟩:=r.ev e2;unfold EM at h;split at h<;>try (cases h;done)
 rename_i nm;split at h<;>try (cases h;done)
 rename_i ty s ds lo hb;split at h<;>try (cases h;done)
 rename_i e' s' by_ _ _ _ hi;have:=iD (hT _ _ hi) J;split at h<;>try (cases h;done)
 rename_i k i
 cases hs:Nat.beq s s' with
 |false=>rw[hs] at h;cases h
 |true=>
  rw[hs,cond_true] at h;cases h
  cases aY hs
  rw[c8] at h4;subst h4
  cases h2
  obtain⟨B,hB,hBo⟩:=r.row (y:= .nilFunc) hb;have hl:=hB.len;simp only at hl;obtain⟨h5,h6⟩:=hv _ rfl;obtain⟨vs,hB1,hB2,_⟩:=hB;rcases hB1 with⟨e5,_,_⟩|⟨b,rest,lo',e5,_⟩
  ·subst e5;have:=hB2.len;simp at this;rw[<-this] at h6;simp at h6;omega
  ·have hw:(ρ nm).a=some ⟨b,0,none⟩:=by simp only at e5;rw[e5]
   rw[hw] at h1;refine⟨_,⟨b,hw,J⟩,?_⟩;have:=yO (P:=P) (C:=C) (own:=ov) (G:=G) (dst:=dst) (ty':=ty') (pos:=pos) (af:=af) (gd:=gd) (t:=t) h1 h3 h5 (by rw[hl];exact h6);simpa using this
def Zo{f g:FX}{e s by_:Nat}(hS:ce P t e s by_)(e1:aI lk x=some f)(h:GH bk f=some g):bP P GB C n lk bk ⟨dst, .call ⟨.builtin .len,⟨[x]⟩,⟨[t]⟩⟩,ty',pos,af,gd⟩ g [] []:= .x1 e1 fun ρ G ov a w y _ r h1 h2=>by
 have key: ∀l:List DV,Is G (.sl l) y-> ∃u,b7 ρ G (.d (.v (.int .i64 (l.length:Nat)))) u/\Yd P C (cA a) ov G ⟨dst, .call ⟨.builtin .len,⟨[x]⟩,⟨[t]⟩⟩,ty',pos,af,gd⟩ u:=fun l hl=>by
  obtain⟨k,z,es,rfl,hs,hl⟩:=gG.1 hl;have:=hs.len;rw[hl.len] at this;exact⟨_,c8.2 J,by rw[<-this];exact m8 h1⟩
 unfold GH at h;split at h
 ·cases h;cases h2;exact⟨_,c8.2 J,m8 h1⟩
 ·cases h;exact key _ h2
 ·cases h;exact key _ h2.2
 ·split at h<;>cases h
  rename_i hb
  cases h2
  obtain⟨B,hB,_⟩:=r.row (y:= .nilFunc) hb;have:=hB.len;simp only at this;exact⟨_,c8.2 J,by rw[<-this];exact m8 h1⟩
 ·cases h
def RH{f g:FX}{d:Nat}(hg:g∈f.cells)(h:wm f d=true):g.nm≠some d:=by
 have key:g.nm=f.nm\/g.nm=none:=by
  unfold FX.cells at hg;split at hg
  ·obtain⟨x,_,rfl⟩:=bW.1 hg;exact .inr rfl
  ·rcases bV.1 hg with hg|hg
   ·obtain⟨x,_,rfl⟩:=bW.1 hg;exact .inr rfl
   ·rcases aU.1 hg with rfl|hg
    ·exact .inl J
    ·obtain⟨x,_,rfl⟩:=bW.1 hg;exact .inr rfl
  ·exact .inl (by rw[aV.1 hg])
 rcases key with h'|h'
 ·intro e;unfold wm at h;rw[<-h',e] at h;simp at h
 ·rw[h'];simp
def bE.alloc(r:bE GB C n lk bk ρ G ov a w){d b:Nat}{cs:List Value}{zs:List FX}{K:Act->World->Prop}{a':Act}{w':World}(hf:jx [d] (some d) lk bk)(hz:dw ρ G zs cs)(hn: ∀g∈zs,g.nm≠some d)
  (hk:SX GB C n (ew lk (some d) (.ov d 0)) (Sx.upB bk [(d,some (.o t zs true))]) K)(rl:f5 C n (Sx.put (cA a) (some d) (.pointer (some ⟨b,0,none⟩))) (⟨b,cs,t,true⟩::ov) G a' w'):K a' w':=by
 have hnd:=(bY.1 rl.h.nd).1;have hy:b7 (fun k=>if k=d then⟨some ⟨b,0,none⟩,0,0⟩ else ρ k) G (.ov d 0) (.pointer (some ⟨b,0,none⟩)):=⟨b,by simp,J⟩;have hB:kh (fun k=>if k=d then⟨some ⟨b,0,none⟩,0,0⟩ else ρ k) G d (.o t zs true) [⟨b,cs,t,true⟩]:=
  ⟨b,cs,by simp,J,hz.ren fun g hg m hm=>tC _ fun e'=>hn g hg (by rw[hm,e'])⟩
 refine hk.run _ _ _ a' w' (r.new hf (bz.refl _) rl.h hB ?_ (fun o ho=>aZ _ ho) ?_ hy (jj rl))
 ·intro o ho;rw[aV.1 ho];exact aQ
 ·intro o ho e';cases e';exact hnd o ho rfl
def IU{d:Nat}{f:FX}(e:aI lk x=some f)(hc:f.okc=true)(hn:wm f d=true):bP P GB C n lk bk ⟨some d, .box t x,ty',pos,af,gd⟩ (.ov d 0) [(d,some (.o t f.cells true))] [d]:=by
 intro hd tl tb K s1 s2 hf hk;refine⟨fun ρ G ov a w r Q=>?_⟩;obtain⟨y,h1,h2⟩:=(r.mono s1 s2).ev e;exact GX h1 hd (fun b a' w' rl=>r.alloc hf (h2.cells hc).1 (fun g hg=>RH hg hn) hk rl) a w Q ⟨r.h,r.sz,cG a,r.df⟩
def azh(v:Value):(vi v).nm=none:=by unfold vi;split<;>rfl
def UC{d:Nat}{i:TI}{z:List FX}(hi:ey P t=some i)(hz:i.z=some z):bP P GB C n lk bk ⟨some d, .alloc t,ty',pos,af,gd⟩ (.ov d 0) [(d,some (.o t z true))] [d]:=by
 intro hd tl tb K s1 s2 hf hk;refine⟨fun ρ G ov a w r Q=>?_⟩;obtain⟨v,hv,hv'⟩:=Bm hi hz;refine tO hd (fun b a' w' rl=>r.alloc hf (hv' ρ G) (fun g hg=>?_) hk rl) a w Q ⟨r.h,r.sz,cG a,r.df⟩;obtain⟨j,_,rfl⟩:=oE hi
 cases hj:j.zero with
 |none=>simp only[hj] at hz;cases hz
 |some u=>
  simp only[hj] at hz;cases hz;obtain⟨x,_,rfl⟩:=bW.1 hg;rw[azh];simp
def fh.of_mem{b:Nat}{cs cs':List Value}{ty:TypeId}{lo:Bool}: ∀{own:List aj},⟨b,cs,ty,lo⟩∈own-> ∃own',fh own b cs ty lo cs' own'/\⟨b,cs',ty,lo⟩∈own'/\ ∀o∈own,o.b≠b->o∈own'
 |[],h=>by cases h
 |x::t,h=>by
  rcases aU.1 h with rfl|h
  ·exact⟨_, .hd ..,aQ,fun o ho hb=>(aU.1 ho).elim (fun e=>absurd (by rw[e]) hb) (fun e=>aZ _ e)⟩
  ·obtain⟨own',h1,h2,h3⟩:=fh.of_mem h
   exact⟨x::own', .tl _ _ _ _ _ _ _ _ h1,aZ _ h2,fun o ho hb=>(aU.1 ho).elim (fun e=>by rw[e];exact aQ) (fun e=>aZ _ (h3 o e hb))⟩
def bE.wrote{nm:Nat}{b:Nat}{m m':List Value}{ty:TypeId}{cs cs':List FX}{lo:Bool}(r:bE GB C n lk bk ρ G ov a w)(hb:bk nm=some (.o ty cs lo))(ha:(ρ nm).a=some ⟨b,0,none⟩){own':List aj}(hm':dw ρ G cs' m')(h1:⟨b,m',ty,lo⟩∈own')(h2: ∀o∈ov,o.b≠b->o∈own')
  {K:Act->World->Prop}(hk:SX GB C n (ew lk dst .un) (Sx.upB bk [(nm,some (.o ty cs' lo))]) K){a':Act}{w':World}(rl:f5 C n (Sx.put (cA a) dst undef) own' G a' w'):K a' w':=by
 have r2:=r.upB (G':=G) (ov':=own') (w':=w') (B':= .o ty cs' lo) (os:=[⟨b,m',ty,lo⟩]) (bz.refl _) rl.h ⟨b,m',ha,J,hm'⟩ (fun o ho=>by rw[aV.1 ho];exact h1) (fun o ho hne=>h2 o ho fun e=>hne (by rw[ha,e])) ⟨_,hb⟩;exact hk.run _ _ _ a' w' (r2.put J (jj rl))
def Sz{f:FX}(h:f.flat=true):f.okc=true:=by
 cases f with
 |d x=>cases x<;>first|exact h|(cases h;done)
 |bx=>cases h
 |_=>exact h
def Qp{f:FX}(h:f.flat=true):f.cells=[f]:=by
 cases f with
 |d x=>cases x<;>first|rfl|(cases h;done)
 |bx=>cases h
 |_=>rfl
def b7.flat{f:FX}{y:Value}(h:b7 ρ G f y)(k:f.flat=true):Go.Sx.flat y=true:=by
 obtain⟨h1,h2⟩:=h.cells (Sz k);rw[Qp k] at h1;have hl:=h1.len
 cases y with
 |agg l=>
  obtain⟨z,q,e,h4,h5⟩:=h1
  cases f with
  |d x=>cases x with
   |v u=>exact Is.flat (show Is G _ _ from h) k
   |ag l=>cases k
   |tp l=>cases k
   |pt l=>exact Is.flat (show Is G _ _ from h) k
   |op b l=>exact Is.flat (show Is G _ _ from h) k
   |sl l=>exact Is.flat (show Is G _ _ from h) k
  |ep l=>obtain⟨_,_,_,_,e,_⟩:=h;cases e
  |ov _ _=>obtain⟨_,_,e⟩:=h;cases e
  |be _ _ _ _=>obtain⟨_,_,e⟩:=h;cases e
  |rs _ _ _ _=>obtain⟨_,_,_,e,_⟩:=h;cases e
  |ct l=>obtain⟨⟨_,_,e⟩,_⟩:=h;cases e
  |bx=>cases k
  |un=>cases k
  |no=>cases k
  |_=>cases h
 |_=>exact h2 _ (by simp[aD])
def UH{fa fv:FX}{bl:List (Nat×Option Bk)}{i:TI}(hi:ey P t=some i)(e1:aI lk x=some fa)(e2:aI lk y=some fv)(h:Ax bk i fa fv=some bl):bP P GB C n lk bk ⟨dst, .store t x y,ty',pos,af,gd⟩ .un bl []:=by
 intro hd tl tb K s1 s2 hf hk;refine⟨fun ρ G ov a w r Q=>?_⟩;have r1:=r.mono s1 s2;obtain⟨p,h1,h2⟩:=r1.ev e1;obtain⟨q,h3,h4⟩:=r1.ev e2;unfold Ax at h;split at h<;>try (cases h;done)
 rename_i nm off;split at h<;>try (cases h;done)
 rename_i ty cs lo hb;obtain⟨b,m,rfl,ha,h5,h6⟩:=r1.own h2 hb;split at h<;>try (cases h;done)
 ·rename_i k hk'
  have:=wl hi hk'
  cases hc:(fv.okc&&(Nat.beq fv.cells.length k&&Nat.ble (off+k) cs.length)) with
  |false=>rw[hc] at h;cases h
  |true=>
   rw[hc,cond_true,qB] at h;cases h;simp only[aL,Nat.beq_eq_true_eq,Nat.ble_eq] at hc;obtain⟨c1,c2,c3⟩:=hc;replace c2:=aY c2;obtain⟨h7,h8⟩:=h4.cells c1;obtain⟨own',u1,u2,u3⟩:=fh.of_mem (cs':=co m off (aD q)) h6;exact AH h1 h3 u1 (by rw[h7.len,c2]) (by rw[h5.len];exact c3) (eY.2 h8) hd (fun a' w' rl=>r.wrote (m:=m) (s2 _ _ hb) ha (h5.ov h7) u2 u3 hk rl) a w Q ⟨r.h,r.sz,cG a,r.df⟩
 ·rename_i hk'
  have:=uO hi hk'
  cases hc:(fv.flat&&Nat.blt off cs.length) with
  |false=>rw[hc] at h;cases h
  |true=>
   rw[hc,cond_true,qB] at h;cases h;simp only[aL,mK] at hc;obtain⟨own',u1,u2,u3⟩:=fh.of_mem (cs':=m.set off q) h6;exact rH h1 h3 u1 (by rw[h5.len];exact hc.2) (h4.flat hc.1) hd (fun a' w' rl=>r.wrote (m:=m) (s2 _ _ hb) ha (h5.set off h4) u2 u3 hk rl) a w Q ⟨r.h,r.sz,cG a,r.df⟩
def wu{op:Op}{r:CR}(hT:lz P T)(h:wk T lk bk dst op=some r):aGS P GB C n lk bk ⟨dst,op,ty',pos,af,gd⟩ r:=by
 intro hv;unfold wk at h;split at h
 ·obtain⟨f,h1,rfl⟩:=pC h;exact SO h1
 ·obtain⟨f,h1,rfl⟩:=pC h;exact Ux h1
 ·obtain⟨c,hc,h⟩:=pz h
  obtain⟨f,g,h1,h2,h⟩:=vC h;obtain⟨u,h3,rfl⟩:=pC h;exact azm hc h1 h2 h3
 ·split at h<;>try (cases h;done)
  obtain⟨i,hi,h⟩:=F8 hT h;split at h<;>try (cases h;done)
  rename_i z hz;rw[qB] at h;cases h;exact UC hi hz
 ·split at h<;>try (cases h;done)
  obtain⟨f,hf,h⟩:=pz h;rw[qB,cond_eq_ite] at h;split at h<;>cases h;rename_i hc;simp only[aL] at hc;exact IU hf hc.1 hc.2
 ·obtain⟨f,h1,h⟩:=pz h;obtain⟨v,u,h3,rfl⟩:=x4 h;exact Qw h1 h3 hv
 ·obtain⟨fo,i,hi,hk,h⟩:=Dh hT h
  obtain⟨f,h1,h⟩:=pz h;obtain⟨u,h3,rfl⟩:=pC h;exact QW hi hk h1 h3
 ·obtain⟨fo,i,hi,hk,h⟩:=Dh hT h
  obtain⟨f,h1,h⟩:=pz h;obtain⟨u,h3,rfl⟩:=pC h;exact Ve hT hi hk h1 h3
 ·obtain⟨i,hi,h⟩:=F8 hT h
  obtain⟨f,h1,h⟩:=pz h;obtain⟨u,h3,rfl⟩:=pC h;exact Xa hi h1 h3
 ·obtain⟨i,hi,h⟩:=F8 hT h
  obtain⟨f,g,h1,h2,h⟩:=vC h
  cases hb:Ax bk i f g with
  |none=>simp only[hb] at h;cases h
  |some bl=>simp only[hb] at h;cases h;exact UH hi h1 h2 hb
 ·obtain⟨f,h1,h⟩:=pz h;obtain⟨u,h3,rfl⟩:=pC h;exact XG h1 h3
 ·obtain⟨fo,i,hi,hk,h⟩:=Dh hT h
  split at h<;>try (cases h;done)
  rename_i z hz;split at h<;>try (cases h;done)
  rename_i cs hcs;split at h<;>cases h;rename_i g hg;exact RE hi hk hz hcs hg
 ·obtain⟨f,g,h1,h2,h⟩:=vC h;obtain⟨v,u,h3,rfl⟩:=x4 h;exact WJ hT h1 h2 h3 hv
 ·obtain⟨f,h1,h⟩:=pz h;obtain⟨v,u,h3,rfl⟩:=x4 h;exact Xs h1 h3 hv
 ·obtain⟨f,h1,h⟩:=pz h;obtain⟨v,u,h3,rfl⟩:=x4 h;exact Vl hT h1 h3 hv
 ·obtain⟨f,g,h1,h2,h⟩:=vC h;obtain⟨v,u,h3,rfl⟩:=x4 h;exact Tg hT h1 h2 h3 hv
 ·split at h<;>try (cases h;done)
  rename_i hi;obtain⟨f,h1,h⟩:=pz h;obtain⟨u,h3,rfl⟩:=pC h;exact Zo (iD (hT _ _ hi) J) h1 h3
 ·obtain⟨f,g,h1,h2,h⟩:=vC h;obtain⟨u,h3,rfl⟩:=pC h;exact Jy (mx:=true) h1 h2 h3
 ·obtain⟨f,g,h1,h2,h⟩:=vC h;obtain⟨u,h3,rfl⟩:=pC h;exact Jy (mx:=false) h1 h2 h3
 ·cases h
end
def FW(r:Option Nat):Fence:={Fence.wide with round:=r}
def gn(r:Option Nat)(P:Program)(c:Code)(Q:Exit->Act->World->Prop)(a:Act)(w:World):Prop:=c.wpIn (FW r) 0 P Q a w
section
variable {r:Option Nat} {P:Program} {Q:Exit->Act->World->Prop} {a:Act} {w:World}
def xt{o:Option Nat}{c:Code}(h:o=none)(k:gn o P c Q a w):c.wp P Q a w:=by
 subst h;exact wpIn_wide.1 k
def Vi{c:Code}{Q':Exit->Act->World->Prop}(h:gn r P c Q a w)(hq: ∀e a w,Q e a w->Q' e a w):gn r P c Q' a w:=wpIn_mono h hq
def awc(h:Q .normal a w):gn r P .skip Q a w:=wpIn_skip h
def QQ{l:Nat}(h:Q .normal a w):gn r P (.label l) Q a w:=wpIn_label h
def QO{id:Nat}(h:Q (.exit id) a w):gn r P (.exit id) Q a w:=wpIn_exit h
def TZ(h:Q .ret a w):gn r P .ret Q a w:=wpIn_ret h
def SK{x y:Code}(h:gn r P x (Exit.then (gn r P y Q) Q) a w):gn r P (.seq x y) Q a w:=wpIn_seq h
def Yq{c:Operand}{x y:Code}{t:Bool}(hc:a.eval c= .bool t)(ht:t=true->gn r P x Q a w)(hf:t=false->gn r P y Q a w):gn r P (.cond c x y) Q a w:=wpIn_cond_split hc ht hf
def Sb{id:Nat}{c:Code}(h:gn r P c (Exit.inBlock id Q) a w):gn r P (.block id c) Q a w:=wpIn_block h
def wM{b:Frame}{k:List Item}{cs:List Frame}{c:Code}:step P (lone (b.atR a (.code (.scope c)::k)) cs w)= .next (lone (b.atR a (.code c:: .inScope c::k)) cs w):=
 step_lone_go (by simp[stepG,stepG.exec,Frame.atR])
def We{b:Frame}{k:List Item}{cs:List Frame}{c:Code}:step P (lone (b.atR a (.inScope c::k)) cs w)= .next (lone (b.atR a k) cs w):=
 step_lone_go (by simp[stepG,stepG.exec,Frame.atR])
def PY{c:Code}(h:gn r P c (Exit.noGoto Q) a w):gn r P (.scope c) Q a w:=by
 intro b k cs hro hb hr;have h0:(lone (b.atR a (.code (.scope c)::k)) cs w).fenced P (FW r):=fenced_calm hb hr J;obtain⟨e,a₁,w₁,hq,harr⟩:=h b (.inScope c::k) cs hro hb hr
 cases e with
 |normal=>exact⟨.normal,a₁,w₁,hq, .head h0 wM (StepsIn.trans harr (.one (fenced_calm hb hr J) We))⟩
 |exit id=>
  have hx:exitTo id (.inScope c::k)=exitTo id k:=by simp[exitTo]
  exact⟨.exit id,a₁,w₁,hq,fun k' hk=> .head h0 wM (harr.1 k' (by rw[hx];exact hk)),fun hr' hk=>let⟨k₁,h1,h2⟩:=harr.2 hr' (by rw[hx];exact hk);⟨k₁,h1, .head h0 wM h2⟩⟩
 |goto l=>exact hq.elim
 |ret=>exact⟨_,a₁,w₁,hq, .of_steps (.one h0 wM) harr⟩
 |panic ch=>exact⟨_,a₁,w₁,hq, .of_steps (.one h0 wM) harr⟩
 |outgrown=>exact⟨_,a₁,w₁,hq, .of_steps (.one h0 wM) harr⟩
def Vj{id:Nat}{ops:Array Oper}(h:wpListIn (FW r) 0 P ops Q ops.toList a w):gn r P (.region id ops false) Q a w:=wpIn_region_list h
def Rp{f:FuncId}{args:Array Value}{R:Ending->World->Prop}(h:Calls P f args w R):CallsIn (FW r) 0 P f args w R:=by
 have h1:CallsIn Fence.wide 0 P f args w R:=callsIn_wide.2 h
 cases r with
 |none=>exact h1
 |some l=>exact h1
def En{o:Oper}{K K':Act->World->Prop}(h: ∀Q,o.wp P a w K' Q)(hd: ∀a' w',K' a' w'->a'.defers=a.defers/\K a' w'):o.wpIn (FW r) 0 P a w K Q:=by
 have hs:o.semAt r a.eval=execOp a.eval o:=by
  cases r with
  |none=>rfl
  |some l=>
   refine Oper.semAt_some l a.eval o fun c hc=>?_;have h1:=h (fun _ _ _=>False);unfold Oper.wp at h1;obtain⟨dst,op,ty,pos,af,gd⟩:=o;simp only at hc;subst hc;unfold execOp at h1;simp only[Sem.run_bind,Result.andThen] at h1;split at h1
   ·simp only[Sem.run_pure,Oper.upon] at h1
    have:=(hd _ _ h1).1
    cases dst<;>simp[Act.put] at this
   ·rename_i x w1 hx
    cases x<;>simp only[Oper.upon] at h1
 have h1:=h (fun _ _ _=>False);unfold Oper.wp at h1;refine⟨fun _ _=>trivial,?_⟩;show o.uponIn (FW r) 0 P a K Q ((o.semAt r a.eval).run P w);rw[hs];generalize (execOp a.eval o).run P w=x at h1
 cases x with
 |ok nx w'=>
  cases nx with
  |value v=>exact(hd _ _ h1).2
  |skip=>exact(hd _ _ h1).2
  |defer d=>exact(hd _ _ h1).2
  |enter f args=>
   refine⟨fun h=>(by cases h),(Rp (r:=r) h1).mono fun e w'' he=>?_⟩
   cases e with
   |returned v=>exact(hd _ _ he).2
   |panicked ch=>exact he.elim
   |outgrown=>obtain⟨_,_,hq⟩:=he;exact hq.elim
  |row row args=>
   refine⟨fun h=>(by cases h),fun c cs hroom=>?_⟩;obtain⟨v,w'',hv,hst⟩:=h1 c cs;exact⟨v,w'',(hd _ _ hv).2,stepsIn_wide.2 hst⟩
  |round=>exact h1.elim
  |_=>exact h1.elim
 |halt y w'=>cases y<;>first|exact h1.elim|exact h1
end
def td:List Nat->Nat->Bool
 |[],_=>false
 |x::t,k=>Nat.beq x k||td t k
structure Rc where
 rs:List Nat
 d:Option Nat
 f:FX
 rn:List Nat
 bl:List (Nat×Option Bk)
 nw:List Nat
abbrev ST:=LK×BM
def Rc.ap(r:Rc)(s:ST):ST:=(ew s.1 r.d r.f,upB s.2 r.bl)
def ck(p:Nat->Bool):Nat->ST->List Rc->ST
 |_,s,[]=>s
 |k,s,r::t=>ck p (k+1) (if p k then r.ap s else s) t
def lu{α:Type}(l:List Nat)(g:Nat->Option α):Nat->Option α:=fun k=>bif td l k then g k else none
def Ck{nm:Nat}: ∀{bl:List (Nat×Option Bk)} {s s':BM},((∀e∈bl,e.1≠nm)->s nm=s' nm)->upB s bl nm=upB s' bl nm
 |[],s,s',h=>h (by simp)
 |(k,B)::t,s,s',h=>by
  simp only[upB];refine Ck fun ht=>?_;by_cases e:nm=k
  ·simp[e]
  ·simp only[e,if_false];exact h fun x hx=>(aU.1 hx).elim (fun c=>by rw[c];exact Ne.symm e) (ht x)
def Co{nm:Nat}: ∀{bl:List (Nat×Option Bk)} {s:BM},(∀e∈bl,e.1≠nm)->upB s bl nm=s nm
 |[],s,h=>rfl
 |(k,B)::t,s,h=>by
  simp only[upB];rw[Co fun e he=>h e (aZ _ he)];simp[Ne.symm (h _ aQ)]
def Ei{x:Nat}{d:Option Nat}{f:FX}{s:LK}(h:d≠some x):ew s d f x=s x:=by
 cases d with
 |none=>rfl
 |some d=>simp only[ew];rw[if_neg fun e=>h (by rw[e])]
def yt{x:Nat}{p q:Nat->Bool}: ∀{us:List Rc} {k:Nat} {s s':ST},s.1 x=s'.1 x->(∀j r,us[j]? =some r->r.d=some x->p (k+j)=q (k+j))->(ck p k s us).1 x=(ck q k s' us).1 x
 |[],k,s,s',h,_=>h
 |r::t,k,s,s',h,hp=>by
  simp only[ck];refine yt ?_ fun j u hj hd=>by have:=hp (j+1) u (by simpa using hj) hd;rwa [show k+(j+1)=k+1+j by omega] at this
  by_cases hd:r.d=some x
  ·have:=hp 0 r J hd
   rw[eK] at this;rw[this];split
   ·simp only[Rc.ap,ew,hd,if_true]
   ·exact h
  ·have: ∀(b:Bool) (s:ST),(if b then r.ap s else s).1 x=s.1 x:=fun b s=>by cases b<;>simp[Rc.ap,Ei hd]
   rw[this,this,h]
def vD{nm:Nat}{p q:Nat->Bool}: ∀{us:List Rc} {k:Nat} {s s':ST},s.2 nm=s'.2 nm->(∀j r,us[j]? =some r->(∃e∈r.bl,e.1=nm)->p (k+j)=q (k+j))->(ck p k s us).2 nm=(ck q k s' us).2 nm
 |[],k,s,s',h,_=>h
 |r::t,k,s,s',h,hp=>by
  simp only[ck];refine vD ?_ fun j u hj hd=>by have:=hp (j+1) u (by simpa using hj) hd;rwa [show k+(j+1)=k+1+j by omega] at this
  by_cases hd: ∃e∈r.bl,e.1=nm
  ·have:=hp 0 r J hd
   rw[eK] at this;rw[this];split
   ·exact Ck fun _=>h
   ·exact h
  ·have: ∀(b:Bool) (s:ST),(if b then r.ap s else s).2 nm=s.2 nm:=fun b s=>by
    cases b
    ·rfl
    ·exact Co fun e he hc=>hd ⟨e,he,hc⟩
   rw[this,this,h]
def Nf{x:Nat}{f:FX}{p:Nat->Bool}: ∀{us:List Rc} {k:Nat} {s:ST},(ck p k s us).1 x=some f->s.1 x=some f\/ ∃j r,us[j]? =some r/\p (k+j)=true/\r.d=some x/\r.f=f
 |[],k,s,h=> .inl h
 |r::t,k,s,h=>by
  simp only[ck] at h;rcases Nf h with h|⟨j,u,h1,h2,h3⟩
  ·cases hp:p k with
   |false=>rw[hp] at h;exact .inl h
   |true=>
    rw[hp] at h;simp only[if_true,Rc.ap] at h;by_cases hd:r.d=some x
    ·rw[hd] at h;simp only[ew,if_true] at h;cases h;exact .inr ⟨0,r,J,by simpa using hp,hd,J⟩
    ·rw[Ei hd] at h;exact .inl h
  ·exact .inr ⟨j+1,u,by simpa using h1,by rw[show k+(j+1)=k+1+j by omega];exact h2,h3⟩
def MA{nm:Nat}{B:Bk}: ∀{bl:List (Nat×Option Bk)} {s:BM},upB s bl nm=some B->s nm=some B\/(nm,some B)∈bl
 |[],s,h=> .inl h
 |(k,B')::t,s,h=>by
  simp only[upB] at h;rcases MA h with h|h
  ·by_cases e:nm=k
   ·subst e;simp only[if_true] at h;subst h;exact .inr aQ
   ·simp only[e,if_false] at h;exact .inl h
  ·exact .inr (aZ _ h)
def IS{nm:Nat}{B:Bk}{p:Nat->Bool}: ∀{us:List Rc} {k:Nat} {s:ST},(ck p k s us).2 nm=some B->s.2 nm=some B\/ ∃j r,us[j]? =some r/\p (k+j)=true/\(nm,some B)∈r.bl
 |[],k,s,h=> .inl h
 |r::t,k,s,h=>by
  simp only[ck] at h;rcases IS h with h|⟨j,u,h1,h2,h3⟩
  ·cases hp:p k with
   |false=>rw[hp] at h;exact .inl h
   |true=>
    rw[hp] at h;rcases MA h with h|h
    ·exact .inl h
    ·exact .inr ⟨0,r,J,by simpa using hp,h⟩
  ·exact .inr ⟨j+1,u,by simpa using h1,by rw[show k+(j+1)=k+1+j by omega];exact h2,h3⟩
def Qm(acc:List Nat)(l:List Edge):Nat:=l.foldl (fun s e=>if Region.binds .any e then(s ||| 2^e.on) ||| acc.getD e.on 0 else s) 0
def nD:List Oper->List Nat->List Nat
 |[],acc=>acc
 |o::r,acc=>nD r (acc++[Qm acc o.after.toList])
inductive Bf (ops:List Oper):Nat->Nat->Prop
 |b {i:Nat} {o:Oper} {e:Edge} (ho:ops[i]? =some o) (he:e∈o.after) (hb:Region.binds .any e=true):Bf ops i e.on
 |s {i j:Nat} {o:Oper} {e:Edge} (ho:ops[i]? =some o) (he:e∈o.after) (hb:Region.binds .any e=true) (h:Bf ops e.on j):Bf ops i j
def Ii{acc:List Nat}{j:Nat}: ∀(l:List Edge) (s:Nat),(l.foldl (fun s e=>if Region.binds .any e then(s ||| 2^e.on) ||| acc.getD e.on 0 else s) s).testBit j=true->s.testBit j=true\/ ∃e∈l,Region.binds .any e=true/\(e.on=j\/(acc.getD e.on 0).testBit j=true)
 |[],s,h=> .inl h
 |e::t,s,h=>by
  rw[fU] at h;rcases Ii t _ h with h|⟨e',h1,h2⟩
  ·split at h
   ·rename_i hb
    simp only[Nat.testBit_or,iN,Nat.testBit_two_pow,decide_eq_true_eq] at h;rcases h with(h|h)|h
    ·exact .inl h
    ·exact .inr ⟨e,aQ,hb, .inl h⟩
    ·exact .inr ⟨e,aQ,hb, .inr h⟩
   ·exact .inl h
  ·exact .inr ⟨e',aZ _ h1,h2⟩
def Gq{all:List Oper}: ∀(r:List Oper) (acc:List Nat) (pre:List Oper),all=pre++r->acc.length=pre.length->(∀i j,(acc.getD i 0).testBit j=true->Bf all i j)-> ∀i j,((nD r acc).getD i 0).testBit j=true->Bf all i j
 |[],acc,pre,_,_,h=>h
 |o::r,acc,pre,he,hl,h=>by
  refine Gq r _ (pre++[o]) (by rw[he];simp) (by simp[hl]) fun i j hij=>?_;rw[aK,List.getElem?_append] at hij;split at hij
  ·rename_i hi
   exact h i j (by rw[aK];exact hij)
  ·rename_i hi
   by_cases e:i=acc.length
   ·subst e
    simp only[sY,List.getElem?_cons_zero,jT] at hij;have ho:all[acc.length]? =some o:=by rw[he,hl];simp
    rcases Ii _ _ hij with h0|⟨e,h1,h2,h3⟩
    ·simp at h0
    ·rcases h3 with rfl|h3
     ·exact .b ho (by simpa using h1) h2
     ·exact .s ho (by simpa using h1) h2 (h _ _ h3)
   ·rw[dJ (by simp;omega)] at hij
    simp at hij
def wj:Option Nat->Nat->Bool
 |some x,y=>Nat.beq x y
 |none,_=>false
def lH(a b:Rc):Bool:=(match a.d with|some x=>td b.rs x||wj b.d x|none=>false)||a.bl.any fun e=>td b.rn e.1||b.bl.any fun e'=>Nat.beq e'.1 e.1
def uK(nm:Nat)(f:FX):Bool:=wj f.nm nm
def zP(nm:Nat):Option Bk->Bool
 |some (.o _ cs _)=>cs.any (uK nm)
 |_=>false
def n0(r:Rc)(nm:Nat):Bool:=uK nm r.f||r.bl.any fun e=>zP nm e.2
def Br(m:Nat)(r:Rc):Nat->List Rc->Bool
 |_,[]=>true
 |j,u::t=>(!(lH u r||lH r u||u.nw.any (n0 r))||m.testBit j)&&!(r.nw.any (n0 u))&&Br m r (j+1) t
def sO:List Nat->List Rc->List Rc->Bool
 |m::ms,pre,r::t=>Br m r 0 pre&&sO ms (pre++[r]) t
 |_,_,[]=>true
 |[],_,_::_=>false
def mt:Nat->List Oper->Bool
 |_,[]=>true
 |i,o::t=>o.after.all (fun e=>!Region.binds .any e||Nat.blt e.on i)&&mt (i+1) t
def Bg(us:List Rc)(fr:List (Nat×FX))(own:List (Nat×Option Bk)):Bool:=us.all fun r=>r.nw.all fun nm=>fr.all (fun e=>!uK nm e.2)&&own.all fun e=>!zP nm e.2
def JO{m:Nat}{r:Rc}: ∀{l:List Rc} {k:Nat},Br m r k l=true-> ∀j u,l[j]? =some u->((lH u r=true\/lH r u=true\/ ∃nm∈u.nw,n0 r nm=true)->m.testBit (k+j)=true)/\ ∀nm∈r.nw,n0 u nm=false
 |[],k,_,j,u,h=>by simp at h
 |x::t,k,h,j,u,hj=>by
  simp only[Br,aL,iN,gL] at h;obtain⟨⟨h1,h2⟩,h3⟩:=h
  cases j with
  |zero=>
   simp at hj;subst hj;refine⟨fun hh=>?_,fun nm hn=>by have:=List.any_eq_false.1 h2 nm hn;simpa using this⟩;rcases h1 with h1|h1
   ·simp only[rN] at h1
    rcases hh with hh|hh|⟨nm,hn,hh⟩
    ·rw[h1.1.1] at hh;cases hh
    ·rw[h1.1.2] at hh;cases hh
    ·have:=List.any_eq_false.1 h1.2 nm hn;exact absurd hh this
   ·simpa using h1
  |succ j=>
   have:=JO h3 j u (by simpa using hj);rwa [show k+(j+1)=k+1+j by omega]
def J6: ∀{ms:List Nat} {pre t:List Rc},sO ms pre t=true-> ∀i r,t[i]? =some r-> ∀j u,(pre++t)[j]? =some u->j<pre.length+i->((lH u r=true\/lH r u=true\/ ∃nm∈u.nw,n0 r nm=true)->(ms.getD i 0).testBit j=true)/\ ∀nm∈r.nw,n0 u nm=false
 |[],pre,[],_,i,r,h=>by simp at h
 |_::_,pre,[],_,i,r,h=>by simp at h
 |[],pre,_::_,h,i,r,_=>by simp[sO] at h
 |m::ms,pre,x::t,h,i,r,hi=>by
  simp only[sO,aL] at h;intro j u hj hlt
  cases i with
  |zero=>
   simp at hi;subst hi;rw[eX (by omega)] at hj;simpa using JO h.1 j u hj
  |succ i=>
   have:=J6 h.2 i r (by simpa using hi) j u (by simpa using hj) (by simp;omega);simpa using this
def qg: ∀{l:List Oper} {k:Nat},mt k l=true-> ∀i o,l[i]? =some o-> ∀e∈o.after,Region.binds .any e=true->e.on<k+i
 |[],k,_,i,o,h=>by simp at h
 |x::t,k,h,i,o,hi=>by
  simp only[mt,aL] at h;intro e he hb
  cases i with
  |zero=>
   simp at hi;subst hi;have:=Array.all_eq_true_iff_forall_mem.1 h.1 e he;simpa[hb] using this
  |succ i=>have:=qg h.2 i o (by simpa using hi) e he hb;omega
def wO(rd:Option Nat)(P:Program)(ops:Array Oper)(Q:Exit->Act->World->Prop)(o:Oper)(K:Act->World->Prop)(a:Act)(w:World):Prop:=
 if Region.wanted o (yielded ops a.tmps) then o.wpIn (FW rd) 0 P a w K Q else K (a.put o.dst undef) w
section
variable {P:Program} {GB:Gh} {C:aC} {n:Nat} {ops:Array Oper} {Q:Exit->Act->World->Prop}
def sj(P:Program)(GB:Gh)(C:aC)(n:Nat)(ops:Array Oper)(lk:LK)(bk:BM)(o:Oper)(f:FX)(bl:List (Nat×Option Bk))(nw:List Nat):Prop:=
 ∀(Q:Exit->Act->World->Prop) (tl:LK) (tb:BM) (K:Act->World->Prop),ji lk tl->ji bk tb->jx nw o.dst tl tb->SX GB C n (ew tl o.dst f) (upB tb bl) K->SX GB C n tl tb (wO C.rd P ops Q o K)
def SX.drew{lk:LK}{bk:BM}{Φ:Act->World->Prop}(h:SX GB C n lk bk Φ):SX GB C n lk bk (fun a w=>Φ a {w with drawn:=w.drawn+1}):=
 ⟨fun ρ G ov a w r=>h.run ρ G ov a _ ⟨r.gb,r.h.drew,r.sz,r.df,r.fx,r.bx,r.dj,r.fxd⟩⟩
structure ja (P:Program) (GB:Gh) (C:aC) (n:Nat) (ops:Array Oper) (us:List Rc) (s0:ST):Prop where
 len:us.length=ops.size
 snd: ∀i r o,us[i]? =some r->ops[i]? =some o->o.dst=r.d/\sj P GB C n ops (lu r.rs (ck (fun j=>decide (j<i)) 0 s0 us).1) (lu r.rn (ck (fun j=>decide (j<i)) 0 s0 us).2) o r.f r.bl r.nw
 all:sO (nD ops.toList []) [] us=true
 edge:mt 0 ops.toList=true
 fr0: ∀r∈us,∀nm∈r.nw,(∀k f,s0.1 k=some f->f.nm≠some nm)/\ ∀k B,s0.2 k=some B-> ¬B.men nm
def xD{o:Option Nat}{k:Nat}:wj o k=true↔o=some k:=by cases o<;>simp[wj]
def CM{B:Bk}{nm:Nat}(h:B.men nm):zP nm (some B)=true:=by
 cases B with
 |o ty cs lo=>obtain⟨f,hf,e⟩:=h;exact jR.2 ⟨f,hf,xD.2 e⟩
 |b=>cases h
 |c=>cases h
def dB(listed:Array Bool):Nat->Bool:=fun j=>listed.getD j false
def un(ops:Array Oper)(listed:Array Bool):Nat:=((List.range ops.size).filter fun j=>!listed.getD j true).length
def Ns{α:Type}{p q:α->Bool}{x:α}: ∀{l:List α},x∈l->(∀y,q y=true->p y=true)->p x=true->q x=false->(l.filter q).length<(l.filter p).length
 |[],h,_,_,_=>by cases h
 |y::t,h,hpq,h1,h2=>by
  have le: ∀l:List α,(l.filter q).length<=(l.filter p).length:=fun l=>by
   induction l with
   |nil=>exact aN _
   |cons z l ih=>
    simp only[pW]
    cases hq:q z with
    |true=>simp[hpq z hq];omega
    |false=>cases hp:p z<;>simp<;>omega
  rcases aU.1 h with rfl|h
  ·simp only[pW,h1,h2,if_true];have:=le t;simp;omega
  ·have ih:=Ns h hpq h1 h2
   simp only[pW]
   cases hq:q y with
   |true=>simp[hpq y hq];omega
   |false=>cases hp:p y<;>simp<;>omega
def ja.walk{us:List Rc}{s0:ST}(D:ja P GB C n ops us s0)(hk:SX GB C n (ck (fun _=>true) 0 s0 us).1 (ck (fun _=>true) 0 s0 us).2 (Q .normal)):
  ∀(fuel:Nat) (listed:Array Bool),listed.size=ops.size->(∀i o,ops[i]? =some o->dB listed i=true-> ∀e∈o.after,Region.binds .any e=true->dB listed e.on=true)->un ops listed<=fuel->
   SX GB C n (ck (dB listed) 0 s0 us).1 (ck (dB listed) 0 s0 us).2 (wpAnyIn (FW C.rd) 0 P .any ops Q fuel listed):=by
 -- what comes before something listed is listed
 have clo: ∀listed:Array Bool,(∀i o,ops[i]? =some o->dB listed i=true-> ∀e∈o.after,Region.binds .any e=true->dB listed e.on=true)-> ∀i j,Bf ops.toList i j->dB listed i=true->dB listed j=true:=by
  intro listed hc i j hb
  induction hb with
  |b ho he hb=>intro hi;exact hc _ _ (by simpa using ho) hi _ he hb
  |s ho he hb _ ih=>intro hi;exact ih (hc _ _ (by simpa using ho) hi _ he hb)
 have bf: ∀i j,((nD ops.toList []).getD i 0).testBit j=true->Bf ops.toList i j:=Gq ops.toList [] [] J J (fun i j h=>by simp at h);have spec: ∀i r,us[i]? =some r-> ∀j u,us[j]? =some u->j<i->((lH u r=true\/lH r u=true\/ ∃nm∈u.nw,n0 r nm=true)->Bf ops.toList i j)/\ ∀nm∈r.nw,n0 u nm=false:=fun i r hi j u hj hlt=>by
  have:=J6 D.all i r hi j u (by simpa using hj) (by simpa using hlt);exact⟨fun h=>bf _ _ (this.1 h),this.2⟩
 have done: ∀listed:Array Bool,listed.size=ops.size->Region.ready .any ops listed=[]-> ∀i,i<ops.size->dB listed i=true:=by
  intro listed hsz hr i
  induction i using Nat.strongRecOn with
  |ind i ih=>
   intro hi
   cases hl:listed.getD i true with
   |true=>unfold dB;simp only[bT] at hl⊢;rw[fN (by omega)] at hl⊢;simpa using hl
   |false=>
    have:i∈Region.ready .any ops listed:=mem_ready.2 ⟨hl,ops[i],fN hi,fun e he hb=>by
     have hlt:=qg D.edge i ops[i] (by simp[hi]) e he hb;exact ih e.on (by omega) (by omega)⟩
    rw[hr] at this;cases this
 have same: ∀listed:Array Bool,listed.size=ops.size->(∀i,i<ops.size->dB listed i=true)->(ck (dB listed) 0 s0 us).1=(ck (fun _=>true) 0 s0 us).1/\(ck (dB listed) 0 s0 us).2=(ck (fun _=>true) 0 s0 us).2:=by
  intro listed hsz h;refine⟨funext fun x=>yt J fun j r hj _=>?_,funext fun x=>vD J fun j r hj _=>?_⟩<;>
  ·rw[dR];exact h j (by have:=(aS.1 hj).1;rw[D.len] at this;exact this)
 intro fuel
 induction fuel with
 |zero=>
  intro listed hsz hc hu;have all: ∀i,i<ops.size->dB listed i=true:=fun i hi=>by
   cases hl:listed.getD i true with
   |true=>unfold dB;simp only[bT] at hl⊢;rw[fN (by omega)] at hl⊢;simpa using hl
   |false=>
    have h0:=List.length_eq_zero_iff.1 (Nat.le_zero.1 hu);have:=List.filter_eq_nil_iff.1 h0 i (oZ.2 hi);simp[hl] at this
  obtain⟨e1,e2⟩:=same listed hsz all;rw[e1,e2];refine hk.imp fun a w h=>⟨?_,h⟩;refine List.eq_nil_iff_forall_not_mem.2 fun i hi=>?_;obtain⟨h1,o,ho,_⟩:=mem_ready.1 hi;have hlt:=(fV.1 ho).1;have h2:=all i hlt;unfold dB at h2;simp only[bT] at h1 h2;rw[fN (by omega)] at h1 h2;simp at h1 h2;rw[h1] at h2;cases h2
 |succ fuel ih=>
  intro listed hsz hc hu;refine⟨fun ρ G ov a w r=>⟨fun hr=>?_,fun i hi=>?_⟩⟩
  ·obtain⟨e1,e2⟩:=same listed hsz (done listed hsz hr)
   rw[e1,e2] at r;exact hk.run ρ G ov a w r
  ·obtain⟨h1,o,ho,hall⟩:=mem_ready.1 hi
   have hlt:=(fV.1 ho).1;have hli:dB listed i=false:=by
    unfold dB;simp only[bT] at h1⊢;rw[fN (by omega)] at h1⊢;simpa using h1
   obtain⟨u,hui⟩: ∃u,us[i]? =some u:=⟨us[i]'(by rw[D.len];exact hlt),aX _⟩;obtain⟨hd,hop⟩:=D.snd i u o hui ho;have bl: ∀j,Bf ops.toList i j->dB listed j=true:=fun j hb=>by
    cases hb with
    |b ho' he hb=>rw[pQ,ho] at ho';cases ho';exact hall _ he hb
    |s ho' he hb h=>rw[pQ,ho] at ho';cases ho';exact clo listed hc _ _ h (hall _ he hb)
   have nb: ∀j r,us[j]? =some r->(lH r u=true\/lH u r=true)->decide (j<i)=dB listed j:=fun j r hj hh=>by
    rcases rQ j i with h|h|h
    ·rw[bl j ((spec i u hui j r hj h).1 (hh.imp id .inl))];simpa using h
    ·subst h;rw[hli];simp
    ·cases hl:dB listed j with
     |false=>simp;omega
     |true=>have:=clo listed hc j i ((spec j r hj i u hui h).1 (hh.symm.imp id .inl)) hl;rw[hli] at this;cases this
   have sz':(listed.setIfInBounds i true).size=ops.size:=by simpa using hsz
   have l': ∀j,j≠i->dB (listed.setIfInBounds i true) j=dB listed j:=fun j hj=>by unfold dB;rw[getD_set_ne false (Ne.symm hj)]
   have li':dB (listed.setIfInBounds i true) i=true:=by unfold dB;simp[hsz,hlt]
   have hc': ∀j o',ops[j]? =some o'->dB (listed.setIfInBounds i true) j=true-> ∀e∈o'.after,Region.binds .any e=true->dB (listed.setIfInBounds i true) e.on=true:=fun j o' hj hlj e he hb=>by
    by_cases hji:j=i
    ·subst hji;rw[ho] at hj;cases hj
     exact getD_set_true (hall e he hb)
    ·rw[l' j hji] at hlj
     exact getD_set_true (hc j o' hj hlj e he hb)
   have hu':un ops (listed.setIfInBounds i true)<=fuel:=by
    have:un ops (listed.setIfInBounds i true)<un ops listed:=by
     refine Ns (x:=i) (oZ.2 hlt) (fun y hy=>?_) (by simp[h1]) (by simp[hsz,hlt]);by_cases hyi:y=i
     ·subst hyi;simp[hsz,hlt] at hy
     ·rwa [getD_set_ne true (Ne.symm hyi)] at hy
    omega
   have next:=ih _ sz' hc' hu'
   have e1:(ck (dB (listed.setIfInBounds i true)) 0 s0 us).1=ew (ck (dB listed) 0 s0 us).1 o.dst u.f:=by
    funext x;rw[hd];by_cases hx:u.d=some x
    ·-- i is the last to write x
     have key: ∀(us':List Rc) (k:Nat) (s:ST) (p:Nat->Bool) (m:Nat),us'[m]? =some u->p (k+m)=true->(∀j r,us'[j]? =some r->r.d=some x->j≠m->j<m\/p (k+j)=false)->(ck p k s us').1 x=some u.f:=by
      intro us'
      induction us' with
      |nil=>intro k s p m h;simp at h
      |cons r t iht=>
       intro k s p m h hp hj;simp only[ck]
       cases m with
       |zero=>
        simp at h;subst h;rw[eK] at hp;rw[hp];have:(ck p (k+1) (r.ap s) t).1 x=(ck (fun _=>false) (k+1) (r.ap s) t).1 x:=yt J fun j r' hj' hd'=>by
         have:=hj (j+1) r' (by simpa using hj') hd' (by omega);rw[show k+(j+1)=k+1+j by omega] at this;exact this.resolve_left (by omega)
        simp only[if_true,this];have nosel: ∀(l:List Rc) (k:Nat) (s:ST),ck (fun _=>false) k s l=s:=fun l=>by
         induction l with
         |nil=>intro k s;rfl
         |cons y l ih=>intro k s;exact ih _ _
        rw[nosel];simp[Rc.ap,ew,hx]
       |succ m=>
        refine iht _ _ p m (by simpa using h) (by rw[show k+1+m=k+(m+1) by omega];exact hp) fun j r' hj' hd' hne=>?_;have:=hj (j+1) r' (by simpa using hj') hd' (by omega);rw[show k+1+j=k+(j+1) by omega];exact this.imp (fun h=>by omega) id
     rw[key us 0 s0 _ i hui (by rw[dR];exact li') fun j r hj hdr hne=>?_]
     ·rw[hx];simp[ew]
     ·rw[dR,l' j hne]
      have:=nb j r hj (.inl (by simp[lH,hdr,hx,wj]));rw[<-this];by_cases hji:j<i
      ·exact .inl hji
      ·exact .inr (by simpa using hji)
    ·rw[Ei hx]
     refine yt J fun j r hj hdr=>?_;rw[dR];exact l' j fun e=>by subst e;rw[hui] at hj;cases hj;exact hx hdr
   have e2:(ck (dB (listed.setIfInBounds i true)) 0 s0 us).2=upB (ck (dB listed) 0 s0 us).2 u.bl:=by
    funext x;by_cases hx: ∃e∈u.bl,e.1=x
    ·have key: ∀(us':List Rc) (k:Nat) (s s':ST) (p q:Nat->Bool) (m:Nat),us'[m]? =some u->p (k+m)=true->(∀j r,us'[j]? =some r->(∃e∈r.bl,e.1=x)->j≠m->q (k+j)=p (k+j)/\(j<m\/p (k+j)=false))->q (k+m)=false->s.2 x=s'.2 x->(ck p k s us').2 x=upB (ck q k s' us').2 u.bl x:=by
      intro us'
      induction us' with
      |nil=>intro k s s' p q m h;simp at h
      |cons r t iht=>
       intro k s s' p q m h hp hj hq hs;simp only[ck]
       cases m with
       |zero=>
        simp at h;subst h;rw[eK] at hp hq;rw[hp,hq];have nosel: ∀(l:List Rc) (k:Nat) (s:ST),ck (fun _=>false) k s l=s:=fun l=>by
         induction l with
         |nil=>intro k s;rfl
         |cons y l ih=>intro k s;exact ih _ _
        have a1:(ck p (k+1) (r.ap s) t).2 x=(ck (fun _=>false) (k+1) (r.ap s) t).2 x:=vD J fun j r' hj' hd'=>by
         have:=(hj (j+1) r' (by simpa using hj') hd' (by omega)).2;rw[show k+(j+1)=k+1+j by omega] at this;exact this.resolve_left (by omega)
        have a2:(ck q (k+1) s' t).2 x=(ck (fun _=>false) (k+1) s' t).2 x:=vD J fun j r' hj' hd'=>by
         obtain⟨h3,h4⟩:=hj (j+1) r' (by simpa using hj') hd' (by omega);rw[show k+(j+1)=k+1+j by omega] at h3 h4;rw[h3];exact h4.resolve_left (by omega)
        simp only[if_true,cM,if_false,a1,nosel];exact Ck fun _=>by rw[a2,nosel];exact hs
       |succ m=>
        refine iht _ _ _ p q m (by simpa using h) (by rw[show k+1+m=k+(m+1) by omega];exact hp) (fun j r' hj' hd' hne=>?_) (by rw[show k+1+m=k+(m+1) by omega];exact hq) ?_
        ·obtain⟨h3,h4⟩:=hj (j+1) r' (by simpa using hj') hd' (by omega)
         rw[show k+1+j=k+(j+1) by omega];exact⟨h3,h4.imp (fun h=>by omega) id⟩
        ·by_cases hr: ∃e∈r.bl,e.1=x
         ·have:=(hj 0 r J hr (by omega)).1
          rw[eK] at this;rw[this]
          cases p k
          ·exact hs
          ·exact Ck fun _=>hs
         ·have: ∀(b:Bool) (s:ST),(if b then r.ap s else s).2 x=s.2 x:=fun b s=>by
           cases b
           ·rfl
           ·exact Co fun e he hc=>hr ⟨e,he,hc⟩
          rw[this,this];exact hs
     refine key us 0 s0 s0 _ _ i hui (by rw[dR];exact li') (fun j r hj hdr hne=>?_) (by rw[dR];exact hli) J;rw[dR];refine⟨(l' j hne).symm,?_⟩;rw[l' j hne];obtain⟨e,he,rfl⟩:=hx;obtain⟨e',he',hee⟩:=hdr;have hh:lH u r=true:=by
      unfold lH;rw[iN];exact .inr (jR.2 ⟨e,he,by rw[iN];exact .inr (jR.2 ⟨e',he',by simpa using hee⟩)⟩)
     rw[<-nb j r hj (.inr hh)];by_cases hji:j<i
     ·exact .inl hji
     ·exact .inr (by simpa using hji)
    ·rw[Co fun e he hc=>hx ⟨e,he,hc⟩]
     refine vD J fun j r hj hdr=>?_;rw[dR];exact l' j fun e=>by subst e;rw[hui] at hj;cases hj;exact hx hdr
   rw[e1,e2] at next
   have sub1:ji (lu u.rs (ck (fun j=>decide (j<i)) 0 s0 us).1) (ck (dB listed) 0 s0 us).1:=fun x f hx=>by
    unfold lu at hx
    cases hm:td u.rs x with
    |false=>rw[hm] at hx;cases hx
    |true=>
     rw[hm,cond_true] at hx;rw[<-hx];refine(yt J fun j r hj hdr=>?_).symm;rw[dR];exact nb j r hj (.inl (by simp[lH,hdr,hm]))
   have sub2:ji (lu u.rn (ck (fun j=>decide (j<i)) 0 s0 us).2) (ck (dB listed) 0 s0 us).2:=fun x B hx=>by
    unfold lu at hx
    cases hm:td u.rn x with
    |false=>rw[hm] at hx;cases hx
    |true=>
     rw[hm,cond_true] at hx;rw[<-hx];refine(vD J fun j r hj hdr=>?_).symm;rw[dR];obtain⟨e,he,rfl⟩:=hdr;refine nb j r hj (.inl ?_);unfold lH;rw[iN];exact .inr (jR.2 ⟨e,he,by rw[hm];rfl⟩)
   have fr:jx u.nw o.dst (ck (dB listed) 0 s0 us).1 (ck (dB listed) 0 s0 us).2:=fun nm hnm=>by
    obtain⟨g1,g2⟩:=D.fr0 u (bU hui) nm hnm;have men: ∀j r,us[j]? =some r->dB listed j=true->n0 r nm=false:=fun j r hj hlj=>by
     rcases rQ j i with h|h|h
     ·exact(spec i u hui j r hj h).2 nm hnm
     ·subst h;rw[hli] at hlj;cases hlj
     ·cases hm:n0 r nm with
      |false=>rfl
      |true=>have:=clo listed hc j i ((spec j r hj i u hui h).1 (.inr (.inr ⟨nm,hnm,hm⟩))) hlj;rw[hli] at this;cases this
    refine⟨fun k f hk e=>?_,fun k B hk e hm=>?_⟩
    ·intro hc'
     rcases Nf e with h|⟨j,r,h1,h2,h3,h4⟩
     ·exact g1 k f h hc'
     ·have:=men j r h1 (by simpa using h2)
      simp only[n0,rN,uK] at this;rw[h4,xD.2 hc'] at this
      cases this.1
    ·rcases IS e with h|⟨j,r,h1,h2,h3⟩
     ·exact g2 k B h hm
     ·have:=men j r h1 (by simpa using h2)
      simp only[n0,rN] at this;have:=List.any_eq_false.1 this.2 _ h3;exact this (CM hm)
   have fin:=hop Q _ _ _ sub1 sub2 fr next
   have:=fin.run ρ G ov a w r;unfold wO at this;unfold wpOpIn;rw[ho];simp only;split
   ·rename_i hw;rw[if_pos hw] at this;exact this
   ·rename_i hw;rw[if_neg hw] at this;exact⟨fun _ _=>trivial,this⟩
def AN(m k:Nat):dB (Array.replicate m false) k=false:=by unfold dB;simp[qK];split<;>rfl
def ja.region{us:List Rc}{s0:ST}{id:Nat}(D:ja P GB C n ops us s0)(hm:P.follows .mixedOrders=true)(hk:SX GB C n (ck (fun _=>true) 0 s0 us).1 (ck (fun _=>true) 0 s0 us).2 (Q .normal)):SX GB C n s0.1 s0.2 (gn C.rd P (.region id ops true) Q):=by
 have h:=D.walk hk ops.size (Array.replicate ops.size false) (by simp) (fun i o _ hi=>by rw[AN] at hi;cases hi) (by unfold un;exact dT (rY _ _) (by simp));have e:ck (dB (Array.replicate ops.size false)) 0 s0 us=s0:=by
  have: ∀(l:List Rc) (k:Nat) (s:ST),ck (dB (Array.replicate ops.size false)) k s l=s:=fun l=>by
   induction l with
   |nil=>intro k s;rfl
   |cons y l ih=>
    intro k s;simp only[ck];rw[ih];rw[AN];rfl
  exact this us 0 s0
 rw[e] at h;exact h.drew.imp fun a w k=>wpIn_region_any hm k
end
end Go.Sx
end
