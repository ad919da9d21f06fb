import Derived.Test.YtefoocgiaegobaaGreatDoorPe3
import Derived.CallsIn
import Derived.OrdersIn
import Derived.TacticsIn
import Derived.RangeFuncIn
import Derived.RangeFuncRecord
set_option linter.all false
set_option maxRecDepth 100000
section
namespace Go.Sx
open Go
def jE{α β:Type}:List α->(List α->β)->β
 |[],k=>k []
 |x::t,k=>jE t fun t'=>k (x::t')
def qt{α β:Type}: ∀(l:List α) (k:List α->β),jE l k=k l
 |[],_=>rfl
 |x::t,k=>by rw[jE,qt t]
def takeX:List FX->Nat->Nat->Option (List FX)
 |_,0,0=>some []
 |[],0,_+1=>none
 |v::t,0,k+1=>match takeX t 0 k with|some l=>some (v::l)|none=>none
 |[],_+1,_=>none
 |_::t,off+1,k=>takeX t off k
def tK:List FX->Nat->List FX->List FX
 |[],_,_=>[]
 |c::t,0,vs=>match vs with
  |[]=>c::t
  |v::vs=>v::tK t 0 vs
 |c::t,off+1,vs=>c::tK t off vs
def O0: ∀(n:List Value) (off:Nat),ck [] off n=[]
 |[],_=>rfl
 |_::n,off=>O0 n (off+1)
def DJ: ∀(n:List Value) (y:Value) (m:List Value) (off:Nat),ck (y::m) (off+1) n=y::ck m off n
 |[],_,_,_=>rfl
 |v::n,y,m,off=>DJ n y (m.set off v) (off+1)
section
variable {ρ:NE} {G:Gh}
def dl.takeX: ∀{ds:List FX} {m:List Value} {off k:Nat} {l:List FX},dl ρ G ds m->takeX ds off k=some l-> ∃n,cv m off k=some n/\dl ρ G l n
 |[],m,0,0,l,h,e=>by cases e;rw[show m=[] from h];exact⟨[],J,J⟩
 |d::t,m,0,0,l,⟨y,n,e1,h1,h2⟩,e=>by subst e1;cases e;exact⟨[],J,J⟩
 |[],m,0,k+1,l,h,e=>by simp[Sx.takeX] at e
 |d::t,m,0,k+1,l,⟨y,n,e1,h1,h2⟩,e=>by
  subst e1;simp only[Sx.takeX] at e;split at e
  ·rename_i l' hl'
   cases e
   obtain⟨q,hq,hl⟩:=h2.takeX hl';exact⟨y::q,by simp only[cv,hq],y,q,J,h1,hl⟩
  ·cases e
 |[],m,off+1,k,l,h,e=>by simp[Sx.takeX] at e
 |d::t,m,off+1,k,l,⟨y,n,e1,h1,h2⟩,e=>by subst e1;exact h2.takeX (off:=off) (k:=k) e
def dl.ov: ∀{ds:List FX} {m:List Value} {off:Nat} {vs:List FX} {n:List Value},dl ρ G ds m->dl ρ G vs n->dl ρ G (tK ds off vs) (ck m off n)
 |[],m,off,vs,n,h,k=>by rw[show m=[] from h,O0];rfl
 |d::t,m,0,[],n,h,k=>by rw[show n=[] from k];exact h
 |d::t,m,0,v::vs,n,⟨y,m',e,h1,h2⟩,⟨u,n',e',k1,k2⟩=>by
  subst e e';show dl ρ G (v::tK t 0 vs) (ck (u::m') 1 n');rw[DJ];exact⟨u,_,J,k1,h2.ov k2⟩
 |d::t,m,off+1,vs,n,⟨y,m',e,h1,h2⟩,k=>by
  subst e;rw[DJ];exact⟨y,_,J,h1,h2.ov k⟩
def CW:List FX->Option (List DV×Nat×List DV)
 |[]=>none
 |f::t=>match f with
  | .rw nm=>match kB t with
   |some post=>some ([],nm,post)
   |none=>none
  |f=>match lB f,CW t with
   |some d,some (pre,nm,post)=>some (d::pre,nm,post)
   |_,_=>none
def Js: ∀{l:List FX} {m:List Value} {pre:List DV} {nm:Nat} {post:List DV},dl ρ G l m->CW l=some (pre,nm,post)-> ∃m1 m2,m=m1++Value.slice (ρ nm).a (ρ nm).n (ρ nm).c::m2/\IsLs G pre m1/\IsLs G post m2
 |[],m,pre,nm,post,h,e=>by cases e
 |f::t,m,pre,nm,post,⟨y,n,e1,h1,h2⟩,e=>by
  subst e1;simp only[CW] at e;split at e
  ·split at e<;>cases e
   rename_i hp
   cases (show y=_ from h1)
   exact⟨[],n,J, .nil,uD h2 hp⟩
  ·split at e<;>cases e
   rename_i hd hu;obtain⟨m1,m2,rfl,k1,k2⟩:=Js h2 hu;exact⟨y::m1,m2,J, .cons (oP h1 hd) k1,k2⟩
def uG(l:List FX):Option FX:=match kB l with
 |some ds=>some (.d (.ag ds))
 |none=>match CW l with
  |some (pre,nm,post)=>some (.bx false pre nm post)
  |none=>none
def D8{l:List FX}{n:List Value}{f:FX}(h:dl ρ G l n)(e:uG l=some f):bP ρ G f (.agg ⟨n⟩):=by
 unfold uG at e;split at e
 ·rename_i hd;cases e;exact c6.2 ⟨n,rfl,uD h hd⟩
 ·split at e<;>cases e
  rename_i hu;obtain⟨m1,m2,rfl,k1,k2⟩:=Js h hu;exact⟨m1,m2,J,k1,k2⟩
def BO:Nat->List DV->Nat->List DV->Option FX
 |0,[],nm,_=>some (.rw nm)
 |i+1,[],_,post=>match post[i]? with
  |some d=>some (.d d)
  |none=>none
 |0,d::_,_,_=>some (.d d)
 |i+1,_::t,nm,post=>BO i t nm post
def Kk: ∀{i:Nat} {pre:List DV} {nm:Nat} {post:List DV} {f:FX} {m1 m2:List Value},BO i pre nm post=some f->IsLs G pre m1->IsLs G post m2-> ∃y,(m1++Value.slice (ρ nm).a (ρ nm).n (ρ nm).c::m2)[i]? =some y/\bP ρ G f y
 |0,[],nm,post,f,m1,m2,e,h1,h2=>by cases e;rw[cA.1 h1];exact⟨_,J,J⟩
 |i+1,[],nm,post,f,m1,m2,e,h1,h2=>by
  rw[cA.1 h1];simp only[BO] at e;split at e<;>cases e;rename_i hp;obtain⟨l',h3,h4⟩:=h2.get hp;exact⟨l',by simpa using h3,h4⟩
 |0,d::t,nm,post,f,m1,m2,e,h1,h2=>by
  cases e
  obtain⟨y,n,rfl,k1,k2⟩:=ba.1 h1;exact⟨y,J,k1⟩
 |i+1,d::t,nm,post,f,m1,m2,e,h1,h2=>by
  obtain⟨y,n,rfl,k1,k2⟩:=ba.1 h1;obtain⟨u,h3,h4⟩:=Kk (i:=i) e k2 h2;exact⟨u,by simpa using h3,h4⟩
end
structure CR where
 vc:Option Prop
 f:FX
 bl:List (Nat×Option Bk)
 nw:List Nat
def kq:IntKind->IntKind->Bool
 | .i64, .i64=>true
 | .u64, .u64=>true
 | .u32, .u32=>true
 | .u8, .u8=>true
 | .i32, .i32=>true
 |_,_=>false
def De{k j:IntKind}(h:kq k j=true):j=k:=by cases k<;>cases j<;>first|rfl|(simp[kq] at h)
def Dp{α:Type}(k:IntKind)(x:Int)(K:Prop->Option α):Option α:=match k with
 | .i64=>K (-9223372036854775808<=x/\x<=9223372036854775807)
 | .u64=>K (0<=x/\x<=18446744073709551615)
 | .u32=>K (0<=x/\x<=4294967295)
 | .u8=>K (0<=x/\x<=255)
 | .i32=>K (-2147483648<=x/\x<=2147483647)
 |_=>none
def V3{α:Type}{k:IntKind}{x:Int}{K:Prop->Option α}{r:α}(h:Dp k x K=some r): ∃p,K p=some r/\(p->k.min<=x/\x<=k.max):=by
 cases k<;>first|(simp[Dp] at h;done)|exact⟨_,h,id⟩
def vp(k:IntKind)(x:Int):Option (Option Prop×FX):=Dp k x fun p=>some (some p, .d (.v (.int k x)))
def xu(op:BinOp)(k:IntKind)(p q:Int):Option (Option Prop×FX):=match op with
 | .add=>vp k (p+q)
 | .sub=>vp k (p-q)
 | .mul=>vp k (p*q)
 | .quo=>match k with
  | .u64=>some (some (0<=p/\p<=18446744073709551615/\0<q), .d (.v (.int .u64 (p/q))))
  |k=>some (some (q≠0), .d (.v (.int k (k.wrap (p.tdiv q)))))
 | .rem=>match k with
  | .u64=>some (some (0<=p/\q≠0), .d (.v (.int .u64 (p%q))))
  | .u32=>some (some (0<=p/\q≠0), .d (.v (.int .u32 (p%q))))
  |k=>some (some (q≠0), .d (.v (.int k (p.tmod q))))
 | .shr=>some (some (0<=q), .d (.v (.int k (p.fdiv (2^min q.toNat k.bits)))))
 | .shl=>some (some (0<=q), .d (.v (.int k (k.wrap (p*2^min q.toNat k.bits)))))
 | .or=>match k with
  | .u64=>some (none, .d (.v (.int .u64 ((BitVec.ofInt 64 p ||| BitVec.ofInt 64 q).toNat:Nat))))
  | .u32=>some (none, .d (.v (.int .u32 ((BitVec.ofInt 32 p ||| BitVec.ofInt 32 q).toNat:Nat))))
  |_=>none
 | .and=>match k with
  | .u64=>some (none, .d (.v (.int .u64 ((BitVec.ofInt 64 p &&& BitVec.ofInt 64 q).toNat:Nat))))
  | .u32=>some (none, .d (.v (.int .u32 ((BitVec.ofInt 32 p &&& BitVec.ofInt 32 q).toNat:Nat))))
  |_=>none
 | .lss=>some (none, .pr (p<q) inferInstance)
 | .leq=>some (none, .pr (p<=q) inferInstance)
 | .gtr=>some (none, .pr (q<p) inferInstance)
 | .geq=>some (none, .pr (q<=p) inferInstance)
 | .eql=>some (none, .pr (p=q) inferInstance)
 | .neq=>some (none, .pr (p≠q) inferInstance)
 |_=>none
def rx:FX->Option Bool
 | .tt=>some true
 | .ff=>some false
 | .pr p h=>some (@decide p h)
 | .d (.v (.bool b))=>some b
 |_=>none
def t7{ρ:NE}{G:Gh}{f:FX}{b:Bool}{y:Value}(h:bP ρ G f y)(e:rx f=some b):y= .bool b:=by
 unfold rx at e;split at e<;>first|(cases e;done)|(cases e;exact h)|(cases e;exact(aG (G:=G)).1 h)
def GT:FX->Option FX
 | .tt=>some .ff
 | .ff=>some .tt
 | .pr p h=>some (.pr (¬p) (@instDecidableNot p h))
 | .d (.v (.bool b))=>some (.d (.v (.bool (!b))))
 |_=>none
def Yy{ρ:NE}{G:Gh}{f g:FX}{y:Value}(h:bP ρ G f y)(e:GT f=some g): ∃b,y= .bool b/\bP ρ G g (.bool (!b)):=by
 unfold GT at e;split at e
 ·cases e;exact⟨true,h,J⟩
 ·cases e;exact⟨false,h,J⟩
 ·rename_i p hp
  cases e
  refine⟨@decide p hp,h,?_⟩;show Value.bool _= .bool _;congr 1
  cases hp<;>rfl
 ·rename_i b;cases e;exact⟨b,(aG (G:=G)).1 h,(aG (G:=G)).2 rfl⟩
 ·cases e
def F2(T:TT)(t:TypeId)(f:FX)(y:Operand):Option Bool:=match cO T t with
 |some ⟨.fc,_,_,_⟩=>match y,f with
  | .const .nilIface, .d (.v .nilIface)=>some true
  | .const .nilIface, .d (.v (.iface _ _))=>some false
  |_,_=>none
 |some ⟨.pt,_,_,_⟩=>match y,f with
  | .const (.pointer none), .d (.v (.pointer none))=>some true
  | .const (.pointer none), .ov _ _=>some false
  | .const (.pointer none), .ep _=>some false
  | .const (.pointer none), .be _ _ _ _=>some false
  | .const (.pointer none), .d (.pt _)=>some false
  |_,_=>none
 |some ⟨.sl _ _ _,_,_,_⟩=>match y,f with
  | .const (.slice none _ _), .nl=>some true
  |_,_=>none
 |_=>none
def Nn(T:TT)(op:BinOp)(t:TypeId)(b:Bool):Option (Option Prop×FX):=match cO T t with
 |some ⟨.pt,_,_,_⟩=>match op with
  | .eql=>some (none, .pr (b=false) inferInstance)
  | .neq=>some (none, .pr (b=true) inferInstance)
  |_=>none
 |_=>none
def Gu(T:TT)(op:BinOp)(t:TypeId)(f g:FX)(y:Operand):Option (Option Prop×FX):=
 match f,g with
 | .d (.v (.int k p)), .d (.v (.int j q))=>match op with
  | .shr=>xu .shr k p q
  | .shl=>xu .shl k p q
  |op=>bif kq k j then xu op k p q else none
 | .d (.op b _), .d (.v (.pointer none))=>Nn T op t b
 |f,g=>match F2 T t f y with
  |some b=>match op with
   | .eql=>some (none,bif b then .tt else .ff)
   | .neq=>some (none,bif b then .ff else .tt)
   |_=>none
  |none=>match cO T t,rx f,rx g with
   |some ⟨.bl,_,_,_⟩,some a,some b=>match op with
    | .eql=>some (none, .d (.v (.bool (a==b))))
    | .neq=>some (none, .d (.v (.bool (!(a==b)))))
    |_=>none
   |_,_,_=>none
def Dd(mx:Bool)(f g:FX):Option FX:=match f,g with
 | .d (.v (.int k p)), .d (.v (.int j q))=>bif kq k j then(match mx with
  |true=>some (.d (.v (.int k (if q>p then q else p))))
  |false=>some (.d (.v (.int k (if q<p then q else p))))) else none
 |_,_=>none
def Ef(bk:BM)(i:TI)(f:FX):Option FX:=match i.ag with
 |some (some k)=>match f with
  | .ov nm off=>match bk nm with
   |some (.o _ cs _)=>match takeX cs off k with
    |some l=>uG l
    |none=>none
   |_=>none
  | .ep cs=>match takeD cs 0 k with
   |some l=>some (.d (.ag l))
   |none=>none
  |_=>none
 |some none=>match f with
  | .ov nm off=>match bk nm with
   |some (.o _ cs _)=>cs[off]?
   |_=>none
  | .ep cs=>match cs with
   |d::_=>some (.d d)
   |[]=>none
  |_=>none
 |none=>none
def FX.flat:FX->Bool
 | .d x=>x.flat
 | .bx _ _ _ _=>false
 | .un=>false
 | .no=>false
 |_=>true
def vC(f:FX)(d:Nat):Bool:=match f.nm with
 |some m=>!Nat.beq m d
 |none=>true
def CY(bk:BM)(i:TI)(fa fv:FX):Option (List (Nat×Option Bk)):=match fa with
 | .ov nm off=>match bk nm with
  |some (.o ty cs lo)=>match i.ag with
   |some (some k)=>bif fv.okc&&(Nat.beq fv.cells.length k&&Nat.ble (off+k) cs.length) then jE (tK cs off fv.cells) fun cs'=>some [(nm,some (.o ty cs' lo))] else none
   |some none=>bif fv.flat&&Nat.blt off cs.length then jE (cs.set off fv) fun cs'=>some [(nm,some (.o ty cs' lo))] else none
   |none=>none
  |_=>none
 |_=>none
def sI(lk:LK)(fo:List (Nat×Nat×Nat)):List FX->List (Nat×Operand)->Option (List FX)
 |cs,[]=>some cs
 |cs,(i,x)::r=>match fo[i]?,aI lk x with
  |some (off,_,k),some d=>bif d.okc&&(Nat.beq d.cells.length k&&Nat.ble (off+k) cs.length) then sI lk fo (tK cs off d.cells) r else none
  |_,_=>none
def DT(bk:BM)(f:FX):Option FX:=match f with
 | .nl=>some (.d (.v (.int .i64 0)))
 | .d (.sl l)=>some (.d (.v (.int .i64 (l.length:Nat))))
 | .ct l=>some (.d (.v (.int .i64 (l.length:Nat))))
 | .rw nm=>match bk nm with
  |some (.b _ _ ds _)=>some (.d (.v (.int .i64 (ds.length:Nat))))
  |_=>none
 |_=>none
def HF(fo:List (Nat×Nat×Nat))(i:Nat)(f:FX):Option FX:=match fo[i]? with
 |some (off,_,_+1)=>match f with
  | .ov nm o=>some (.ov nm (o+off))
  | .ep l=>bif Nat.ble off l.length then jE (l.drop off) fun l'=>some (.ep l') else none
  | .be nm s i j=>some (.be nm s i (j+off))
  |_=>none
 |_=>none
def GG(T:TT)(fo:List (Nat×Nat×Nat))(i:Nat)(f:FX):Option FX:=match f with
 | .d (.ag cs)=>match fo[i]? with
  |some (off,ft,_)=>match cO T ft with
   |some j=>match j.ag with
    |some (some k)=>match takeD cs off k with
     |some l=>some (.d (.ag l))
     |none=>none
    |some none=>match cs[off]? with
     |some c=>some (.d c)
     |none=>none
    |none=>none
   |none=>none
  |none=>none
 |_=>none
def F1(T:TT)(t t':TypeId)(f:FX):Option (Option Prop×FX):=match cO T t,cO T t' with
 |some ⟨.int k,_,_,_⟩,some ⟨.int k',_,_,_⟩=>match f with
  | .d (.v (.int j p))=>bif kq k j then(match k' with
   | .u32=>some (none, .d (.v (.int .u32 (p%4294967296))))
   |k'=>vp k' p) else none
  |_=>none
 |_,_=>none
def EY(T:TT)(bk:BM)(t:TypeId)(f g:FX):Option (Option Prop×FX):=match f with
 | .rw nm=>match bk nm with
  |some (.b _ s ds _)=>match cO T t with
   |some ⟨.sl _ s' _,_,_,_⟩=>match g with
    | .d (.v (.int _ i))=>bif Nat.beq s s' then some (some (0<=i/\i<(ds.length:Nat)), .be nm s i.toNat 0) else none
    |_=>none
   |_=>none
  |_=>none
 |_=>none
def n0(r:Option FX):Option CR:=match r with
 |some f=>some ⟨none,f,[],[]⟩
 |none=>none
def uu(r:Option (Option Prop×FX)):Option CR:=match r with
 |some (v,f)=>some ⟨v,f,[],[]⟩
 |none=>none
def te{α:Type}(lk:LK)(x y:Operand)(K:FX->FX->Option α):Option α:=match aI lk x with
 |some f=>match aI lk y with
  |some g=>K f g
  |none=>none
 |none=>none
def mI{α:Type}(lk:LK)(x:Operand)(K:FX->Option α):Option α:=match aI lk x with
 |some f=>K f
 |none=>none
def zd{α:Type}(T:TT)(t:TypeId)(K:List (Nat×Nat×Nat)->TI->Option α):Option α:=match cO T t with
 |some ⟨.st fo,sz,z,za⟩=>K fo ⟨.st fo,sz,z,za⟩
 |_=>none
def yh{α:Type}(T:TT)(t:TypeId)(K:TI->Option α):Option α:=match cO T t with
 |some i=>K i
 |none=>none
def Er(i:Nat)(f:FX):Option FX:=match f with
 | .d (.tp ds)=>match ds[i]? with
  |some d=>some (.d d)
  |none=>none
 | .bx true pre nm post=>BO i pre nm post
 |_=>none
def EB(f:FX):Option (Option Prop×FX):=match f with
 | .ov a b=>some (none, .ov a b)
 | .ep l=>some (none, .ep l)
 | .be a b c d=>some (none, .be a b c d)
 | .d (.pt l)=>some (none, .ep l)
 | .d (.op b l)=>some (some (b=true), .ep l)
 |_=>none
def Fx(c f g:FX):Option FX:=match c with
 | .tt=>some f
 | .ff=>some g
 |_=>none
def EP(op:UnOp)(f:FX):Option (Option Prop×FX):=match op with
 | .not=>match GT f with
  |some g=>some (none,g)
  |none=>none
 | .neg=>match f with
  | .d (.v (.int k p))=>vp k (-p)
  |_=>none
 |_=>none
def wh(T:TT)(lk:LK)(bk:BM)(dst:Option Nat)(op:Op):Option CR:=match op with
 | .move x=>n0 (aI lk x)
 | .assign x=>n0 (aI lk x)
 | .pick c x y=>mI lk c fun c=>te lk x y fun f g=>n0 (Fx c f g)
 | .alloc t=>match dst with
  |some d=>yh T t fun i=>match i.z with
   |some z=>jE z fun cs=>some ⟨none, .ov d 0,[(d,some (.o t cs true))],[d]⟩
   |none=>none
  |none=>none
 | .box t x=>match dst with
  |some d=>mI lk x fun f=>bif f.okc&&vC f d then jE f.cells fun cs=>some ⟨none, .ov d 0,[(d,some (.o t cs true))],[d]⟩ else none
  |none=>none
 | .nilCheck x=>mI lk x fun f=>uu (EB f)
 | .fieldAddr t x i=>zd T t fun fo _=>mI lk x fun f=>n0 (HF fo i f)
 | .field t x i=>zd T t fun fo _=>mI lk x fun f=>n0 (GG T fo i f)
 | .load t x=>yh T t fun i=>mI lk x fun f=>n0 (Ef bk i f)
 | .store t x y=>yh T t fun i=>te lk x y fun f g=>match CY bk i f g with
  |some bl=>some ⟨none, .un,bl,[]⟩
  |none=>none
 | .extract x i=>mI lk x fun f=>n0 (Er i f)
 | .build t parts=>zd T t fun fo i=>match i.z with
  |some z=>match sI lk fo z parts.toList with
   |some cs=>match uG cs with
    |some f=>some ⟨none,f,[],[]⟩
    |none=>none
   |none=>none
  |none=>none
 | .binOp op t x y _=>te lk x y fun f g=>uu (Gu T op t f g y)
 | .unOp op _ x=>mI lk x fun f=>uu (EP op f)
 | .convert t t' x=>mI lk x fun f=>uu (F1 T t t' f)
 | .indexAddr t x y=>te lk x y fun f g=>uu (EY T bk t f g)
 | .call ⟨.builtin .len,⟨[x]⟩,⟨[t]⟩⟩=>match cO T t with
  |some ⟨.sl _ _ _,_,_,_⟩=>mI lk x fun f=>n0 (DT bk f)
  |_=>none
 | .call ⟨.builtin .max,⟨[x,y]⟩,⟨[_,_]⟩⟩=>te lk x y fun f g=>n0 (Dd true f g)
 | .call ⟨.builtin .min,⟨[x,y]⟩,⟨[_,_]⟩⟩=>te lk x y fun f g=>n0 (Dd false f g)
 |_=>none
section
variable {P:Program} {T:TT} {GB:Gh} {C:aD} {n:Nat} {lk:LK} {bk:BM} {ρ:NE} {G:Gh} {ov:List aj} {a:Act} {w:World}
variable {dst:Option Nat} {t t' ty':TypeId} {pos:String} {af:Array Edge} {gd:Option (Nat×Bool)} {x y z:Operand}
def Uj(P:Program)(GB:Gh)(C:aD)(n:Nat)(lk:LK)(bk:BM)(o:Oper)(r:CR):Prop:=(∀p,r.vc=some p->p)->bH P GB C n lk bk o r.f r.bl r.nw
def pk{r:Option FX}{c:CR}(h:n0 r=some c): ∃f,r=some f/\c=⟨none,f,[],[]⟩:=by
 unfold n0 at h;split at h
 ·cases h;exact⟨_,J,J⟩
 ·cases h
def x4{r:Option (Option Prop×FX)}{c:CR}(h:uu r=some c): ∃v f,r=some (v,f)/\c=⟨v,f,[],[]⟩:=by
 unfold uu at h;split at h
 ·cases h;exact⟨_,_,J,J⟩
 ·cases h
def pH{α:Type}{K:FX->Option α}{r:α}(h:mI lk x K=some r): ∃f,aI lk x=some f/\K f=some r:=by
 unfold mI at h;split at h
 ·exact⟨_,by assumption,h⟩
 ·cases h
def u6{α:Type}{K:FX->FX->Option α}{r:α}(h:te lk x y K=some r): ∃f g,aI lk x=some f/\aI lk y=some g/\K f g=some r:=by
 unfold te at h;split at h
 ·split at h
  ·exact⟨_,_,by assumption,by assumption,h⟩
  ·cases h
 ·cases h
def FY{α:Type}{K:TI->Option α}{r:α}(hT:lc P T)(h:yh T t K=some r): ∃i,er P t=some i/\K i=some r:=by
 unfold yh at h;split at h
 ·rename_i i hi;exact⟨i,hT _ _ hi,h⟩
 ·cases h
def Hd{α:Type}{K:List (Nat×Nat×Nat)->TI->Option α}{r:α}(hT:lc P T)(h:zd T t K=some r): ∃fo i,er P t=some i/\i.k= .st fo/\K fo i=some r:=by
 unfold zd at h;split at h
 ·rename_i fo sz z za hi;exact⟨fo,_,hT _ _ hi,rfl,h⟩
 ·cases h
def bH.x1{o:Oper}{f g:FX}(e:aI lk x=some f)(h: ∀ρ G ov (a:Act) w y,bm C ov G w->bE GB C n lk bk ρ G ov a w->av (cF a) x=some y->bP ρ G f y-> ∃u,bP ρ G g u/\Yd P C (cF a) ov G o u):bH P GB C n lk bk o g [] []:=
 .yd fun ρ G ov a w r=>by
  obtain⟨y,h1,h2⟩:=r.ev e;exact h ρ G ov a w y r.h r h1 h2
def PU{f:FX}(e:aI lk x=some f):bH P GB C n lk bk ⟨dst, .move x,ty',pos,af,gd⟩ f [] []:= .x1 e fun _ _ _ _ _ y _ _ h1 h2=>⟨y,h2,eG h1⟩
def UG{f:FX}(e:aI lk x=some f):bH P GB C n lk bk ⟨dst, .assign x,ty',pos,af,gd⟩ f [] []:= .x1 e fun _ _ _ _ _ y _ _ h1 h2=>⟨y,h2,Fo h1⟩
def X9{c f g v:FX}(ec:aI lk z=some c)(e1:aI lk x=some f)(e2:aI lk y=some g)(h:Fx c f g=some v):bH P GB C n lk bk ⟨dst, .pick z x y,ty',pos,af,gd⟩ v [] []:= .yd fun ρ G ov a w r=>by
 obtain⟨u,h1,h2⟩:=r.ev ec;unfold Fx at h;split at h
 ·cases h;cases h2;obtain⟨u,h3,h4⟩:=r.ev e1;exact⟨u,h4,qa h1 h3⟩
 ·cases h;cases h2;obtain⟨u,h3,h4⟩:=r.ev e2;exact⟨u,h4,kh h1 h3⟩
 ·cases h
def SE{f g:FX}{v:Option Prop}(e:aI lk x=some f)(h:EB f=some (v,g))(hv: ∀r,v=some r->r):bH P GB C n lk bk ⟨dst, .nilCheck x,ty',pos,af,gd⟩ g [] []:= .x1 e fun ρ G ov a w y _ _ h1 h2=>by
 have key: ∀l,Is G (.pt l) y-> ∃u,bP ρ G (.ep l) u/\Yd P C (cF a) ov G ⟨dst, .nilCheck x,ty',pos,af,gd⟩ u:=fun l h2=>by
  obtain⟨b,m,rfl,hb,hm⟩:=nI.1 h2;refine⟨_,⟨b,0,m,m,J,hb,?_,hm⟩,jC h1⟩;rw[ku _ _ _ (by rw[hm.len];omega),iM,bQ (by rw[hm.len];omega)]
 unfold EB at h;split at h<;>cases h
 ·obtain⟨b,hb,rfl⟩:=h2;exact⟨_,⟨b,hb,rfl⟩,jC h1⟩
 ·obtain⟨b,o,cs,m,rfl,h3⟩:=h2;exact⟨_,⟨b,o,cs,m,rfl,h3⟩,jC h1⟩
 ·obtain⟨b,hb,rfl⟩:=h2;exact⟨_,⟨b,hb,rfl⟩,jC h1⟩
 ·exact key _ h2
 ·rcases qI.1 (show Is G _ y from h2) with⟨e,_⟩|⟨_,h3⟩
  ·have:=hv _ J;rw[e] at this;cases this
  ·exact key _ h3
def YW{f g:FX}{fo:List (Nat×Nat×Nat)}{i:TI}{k:Nat}(hi:er P t=some i)(hk:i.k= .st fo)(e:aI lk x=some f)(h:HF fo k f=some g):bH P GB C n lk bk ⟨dst, .fieldAddr t x k,ty',pos,af,gd⟩ g [] []:= .x1 e fun ρ G ov a w y _ _ h1 h2=>by
 unfold HF at h;split at h
 ·rename_i off ft s ho
  have:=SY hi hk ho;split at h
  ·cases h;obtain⟨b,hb,rfl⟩:=h2;exact⟨_,⟨b,hb,rfl⟩,mF h1⟩
  ·rename_i l
   cases hb:Nat.ble off l.length with
   |false=>rw[hb] at h;cases h
   |true=>
    rw[hb,cond_true,qt] at h;cases h;obtain⟨b,o,cs,m,rfl,hb',ht,hm⟩:=h2;refine⟨_,⟨b,o+off,cs,m.drop off,J,hb',?_,hm.drop _⟩,mF h1⟩;rw[gM];exact B8 ht (by simpa using hb)
  ·cases h
   obtain⟨b,hb,rfl⟩:=h2;exact⟨_,⟨b,hb,J⟩,by rw[<-kW];exact mF h1⟩
  ·cases h
 ·cases h
def Zs{f g:FX}{fo:List (Nat×Nat×Nat)}{i:TI}{k:Nat}(hT:lc P T)(hi:er P t=some i)(hk:i.k= .st fo)(e:aI lk x=some f)(h:GG T fo k f=some g):bH P GB C n lk bk ⟨dst, .field t x k,ty',pos,af,gd⟩ g [] []:= .x1 e fun ρ G ov a w y _ _ h1 h2=>by
 unfold GG at h;split at h<;>try (cases h;done)
 rename_i cs;split at h<;>try (cases h;done)
 rename_i off ft s ho;split at h<;>try (cases h;done)
 rename_i j hj;obtain⟨m,rfl,hm⟩:=c6.1 (show Is G _ y from h2);have:=TB hi hk ho;split at h<;>try (cases h;done)
 ·rename_i q ha
  have:=vG (hT _ _ hj) ha;split at h<;>cases h;rename_i l hl;obtain⟨l',h3,h4⟩:=hm.takeD hl;exact⟨.agg ⟨l'⟩,c6.2 ⟨l',J,h4⟩,Tx h1 h3⟩
 ·rename_i ha
  have:=ur (hT _ _ hj) ha;split at h<;>cases h;rename_i c hc;obtain⟨l',h3,h4⟩:=hm.get hc;exact⟨l',h4,RY h1 h3⟩
def bE.own{nm off:Nat}{y:Value}{ty:TypeId}{cs:List FX}{lo:Bool}(r:bE GB C n lk bk ρ G ov a w)(h2:bP ρ G (.ov nm off) y)(hb:bk nm=some (.o ty cs lo)): ∃b m,y= .pointer (some ⟨b,off,none⟩)/\(ρ nm).a=some ⟨b,0,none⟩/\dl ρ G cs m/\⟨b,m,ty,lo⟩∈ov:=by
 obtain⟨os,⟨b,m,h3,rfl,h4⟩,h5⟩:=r.bx _ _ hb;obtain⟨b',h6,rfl⟩:=h2;rw[h3] at h6;cases h6;exact⟨b,m,J,h3,h4,h5 _ aQ⟩
def YC{f g:FX}{i:TI}(hi:er P t=some i)(e:aI lk x=some f)(h:Ef bk i f=some g):bH P GB C n lk bk ⟨dst, .load t x,ty',pos,af,gd⟩ g [] []:= .x1 e fun ρ G ov a w y _ r h1 h2=>by
 unfold Ef at h;split at h<;>try (cases h;done)
 ·rename_i k ha
  have:=vG hi ha;split at h<;>try (cases h;done)
  ·split at h<;>try (cases h;done)
   rename_i hb;split at h<;>try (cases h;done)
   rename_i l hl;obtain⟨b,m,rfl,h3,h4,h5⟩:=r.own h2 hb;obtain⟨l',h6,h7⟩:=h4.takeX hl;have:gm ov b m _ _:=⟨h5⟩;exact⟨.agg ⟨l'⟩,D8 h7 h,Bz h1 h6⟩
  ·split at h<;>cases h
   rename_i hl;obtain⟨b,o,ms,m,rfl,hb,ht,hm⟩:=h2;obtain⟨l',h3,h4⟩:=hm.takeD hl;exact⟨.agg ⟨l'⟩,c6.2 ⟨l',J,h4⟩,Hu h1 hb (by simpa using I4 ht h3)⟩
 ·rename_i ha
  have:=ur hi ha;split at h<;>try (cases h;done)
  ·split at h<;>try (cases h;done)
   rename_i hb;obtain⟨b,m,rfl,h3,h4,h5⟩:=r.own h2 hb;obtain⟨l',h6,h7⟩:=h4.get h;have:gm ov b m _ _:=⟨h5⟩;exact⟨l',h7,jx h1 h6⟩
  ·split at h<;>cases h
   obtain⟨b,o,ms,m,rfl,hb,ht,hm⟩:=h2;obtain⟨l',h3,h4⟩:=hm.get (i:=0) rfl;have:=Mf ht (i:=0) (Nat.succ_pos _);rw[eJ] at this;exact⟨l',h4,vd h1 hb (by rw[this];exact h3)⟩
def S2{f g:FX}{i:Nat}(e:aI lk x=some f)(h:Er i f=some g):bH P GB C n lk bk ⟨dst, .extract x i,ty',pos,af,gd⟩ g [] []:= .x1 e fun ρ G ov a w y _ r h1 h2=>by
 unfold Er at h;split at h<;>try (cases h;done)
 ·split at h<;>cases h
  rename_i hv;obtain⟨m,rfl,hm⟩:=iD.1 (show Is G _ y from h2);obtain⟨l',h3,h4⟩:=hm.get hv;exact⟨l',h4,Eu h1 (by simpa using h3)⟩
 ·obtain⟨m1,m2,rfl,k1,k2⟩:=h2
  obtain⟨l',h3,h4⟩:=Kk (ρ:=ρ) h k1 k2;exact⟨l',h4,Eu h1 (by simpa using h3)⟩
def GJ{fo:List (Nat×Nat×Nat)}(r:bE GB C n lk bk ρ G ov a w): ∀(ps:List (Nat×Operand)) (cs out:List FX) (m:List Value),sI lk fo cs ps=some out->dl ρ G cs m-> ∃l,rD (cF a) (fo.map fun x=>(x.1,x.2.2)) m ps=some l/\dl ρ G out l
 |[],cs,out,m,e,hm=>by simp only[sI] at e;cases e;exact⟨m,J,hm⟩
 |(i,x)::ps,cs,out,m,e,hm=>by
  simp only[sI] at e;split at e
  ·rename_i off q k d ho hd
   cases hc:(d.okc&&(Nat.beq d.cells.length k&&Nat.ble (off+k) cs.length)) with
   |false=>rw[hc] at e;cases e
   |true=>
    rw[hc] at e;simp only[aN,Nat.beq_eq_true_eq,Nat.ble_eq] at hc;obtain⟨h1,h2,h3⟩:=hc;replace h2:=aY h2;obtain⟨y,hy,hy'⟩:=r.ev hd;obtain⟨c1,_⟩:=hy'.cells h1;have c2:=c1.len;obtain⟨l,hl1,hl2⟩:=GJ r ps _ out _ e (hm.ov c1 (off:=off));refine⟨l,?_,hl2⟩;simp only[rD,fU,ho,jJ,hy];rw[if_pos ⟨by rw[c2,h2],by rw[hm.len];exact h3⟩];exact hl1
  ·cases e
def Um{fo:List (Nat×Nat×Nat)}{i:TI}{zx:List FX}{cs:List FX}{f:FX}{parts:Array (Nat×Operand)}(hi:er P t=some i)(hk:i.k= .st fo)(hz:i.z=some zx)(h:sI lk fo zx parts.toList=some cs)(hf:uG cs=some f):
  bH P GB C n lk bk ⟨dst, .build t parts,ty',pos,af,gd⟩ f [] []:= .yd fun ρ G ov a w r=>by
 obtain⟨v,hv,hv'⟩:=Dc hi hz;have:=U0 hi hk;obtain⟨l,h1,h2⟩:=GJ r _ _ _ _ h (hv' ρ G);exact⟨.agg ⟨l⟩,D8 h2 hf,EU h1⟩
def y9{k:IntKind}{p:Int}{v:Option Prop}{f:FX}(h:vp k p=some (v,f)):f= .d (.v (.int k p))/\((∀q,v=some q->q)->k.min<=p/\p<=k.max):=by
 obtain⟨q,h1,h2⟩:=V3 h
 cases h1
 exact⟨J,fun k=>h2 (k _ J)⟩
def cH{k:IntKind}{p:Int}{y:Value}:bP ρ G (.d (.v (.int k p))) y↔y= .int k p:=aG (G:=G)
def Kg(b:BitVec 64):IntKind.u64.wrap (b.toNat:Int)=(b.toNat:Int):=qw ⟨by show(0:Int)<=_;omega,by have:=b.isLt;show _<=(18446744073709551615:Int);omega⟩
def BB(b:BitVec 32):IntKind.u32.wrap (b.toNat:Int)=(b.toNat:Int):=qw ⟨by show(0:Int)<=_;omega,by have:=b.isLt;show _<=(4294967295:Int);omega⟩
def Cb{op:BinOp}{k j:IntKind}{p q:Int}{v:Option Prop}{f:FX}(h:xu op k p q=some (v,f))(hop:op= .shr\/op= .shl)(hv: ∀r,v=some r->r){fr:Fr}(hx:av fr x=some (.int k p))(hy:av fr y=some (.int j q)): ∃u,bP ρ G f u/\Yd P C fr ov G ⟨dst, .binOp op t x y t',ty',pos,af,gd⟩ u:=by
 rcases hop with rfl|rfl<;>cases h
 ·exact⟨_,cH.2 J,kD hx hy (hv _ J)⟩
 ·exact⟨_,cH.2 J,ux hx hy (hv _ J)⟩
def Rh{op:BinOp}{k:IntKind}{p q:Int}{v:Option Prop}{f:FX}(h:xu op k p q=some (v,f))(hv: ∀r,v=some r->r){fr:Fr}(hx:av fr x=some (.int k p))(hy:av fr y=some (.int k q)): ∃u,bP ρ G f u/\Yd P C fr ov G ⟨dst, .binOp op t x y t',ty',pos,af,gd⟩ u:=by
 cases op with
 |add=>obtain⟨rfl,h2⟩:=y9 h;exact⟨_,cH.2 rfl,Fj hx hy (h2 hv)⟩
 |sub=>obtain⟨rfl,h2⟩:=y9 h;exact⟨_,cH.2 rfl,FI hx hy (h2 hv)⟩
 |mul=>obtain⟨rfl,h2⟩:=y9 h;exact⟨_,cH.2 rfl,Ff hx hy (h2 hv)⟩
 |quo=>
  cases k<;>cases h<;>first
   |exact⟨_,cH.2 J,OA hx hy (hv _ J)⟩
   |(obtain⟨h1,h2,h3⟩:=hv _ rfl;exact⟨_,cH.2 rfl,wW hx hy h1 h2 h3⟩)
 |rem=>
  cases k<;>cases h<;>first
   |exact⟨_,cH.2 J,MU hx hy (hv _ J)⟩
   |(obtain⟨h1,h2⟩:=hv _ rfl;exact⟨_,cH.2 rfl,vi hx hy h1 h2⟩)
 |shr=>exact Cb h (.inl J) hv hx hy
 |shl=>exact Cb h (.inr J) hv hx hy
 |or=>
  cases k<;>cases h<;>refine⟨_,cH.2 J,gA hx hy fun w=>?_⟩
  ·show(pure (Value.int .u32 (IntKind.u32.wrap ((BitVec.ofInt 32 p ||| BitVec.ofInt 32 q).toNat:Int))):Sem Value).run P w=_
   rw[BB];rfl
  ·show(pure (Value.int .u64 (IntKind.u64.wrap ((BitVec.ofInt 64 p ||| BitVec.ofInt 64 q).toNat:Int))):Sem Value).run P w=_
   rw[Kg];rfl
 |and=>
  cases k<;>cases h<;>refine⟨_,cH.2 J,gA hx hy fun w=>?_⟩
  ·show(pure (Value.int .u32 (IntKind.u32.wrap ((BitVec.ofInt 32 p &&& BitVec.ofInt 32 q).toNat:Int))):Sem Value).run P w=_
   rw[BB];rfl
  ·show(pure (Value.int .u64 (IntKind.u64.wrap ((BitVec.ofInt 64 p &&& BitVec.ofInt 64 q).toNat:Int))):Sem Value).run P w=_
   rw[Kg];rfl
 |lss=>cases h;exact⟨_,J,io hx hy⟩
 |leq=>cases h;exact⟨_,J,Qt hx hy⟩
 |gtr=>cases h;exact⟨_,J,rg hx hy⟩
 |geq=>cases h;exact⟨_,J,sH hx hy⟩
 |eql=>cases h;exact⟨_,J,gE hx hy⟩
 |neq=>cases h;exact⟨_,J,tc hx hy⟩
 |_=>cases h
def LC{mx:Bool}{f g u:FX}(e1:aI lk x=some f)(e2:aI lk y=some g)(h:Dd mx f g=some u){t1 t2:TypeId}:bH P GB C n lk bk ⟨dst, .call ⟨.builtin (if mx then .max else .min),⟨[x,y]⟩,⟨[t1,t2]⟩⟩,ty',pos,af,gd⟩ u [] []:= .yd fun ρ G ov a w r=>by
 obtain⟨p,h1,h2⟩:=r.ev e1;obtain⟨q,h3,h4⟩:=r.ev e2;unfold Dd at h;split at h<;>try (cases h;done)
 rename_i k p' j q';rw[cH] at h2 h4;subst h2 h4
 cases hk:kq k j with
 |false=>rw[hk] at h;cases h
 |true=>
  rw[hk] at h;cases De hk
  cases mx<;>cases h
  ·refine⟨_,cH.2 J,?_⟩
   intro a' w' hf hh;simp only[cM,if_false,execOp,resolve,gV,bW,dR,bh hf h1,bh hf h3];have h1:(Builtin.min_ #[t1,t2] ty' #[.int k p', .int k q']).run P w'= .ok (.int k (if q'<p' then q' else p')) w':=by
    simp[Builtin.min_,Builtin.min2,run_pure]
   exact cx h1
  ·refine⟨_,cH.2 J,?_⟩
   intro a' w' hf hh;simp only[if_true,execOp,resolve,gV,bW,dR,bh hf h1,bh hf h3];have h1:(Builtin.max_ #[t1,t2] ty' #[.int k p', .int k q']).run P w'= .ok (.int k (if q'>p' then q' else p')) w':=by
    simp[Builtin.max_,Builtin.max2,run_pure]
   exact cx h1
def Tu{f g:FX}{b:Bool}(hT:lc P T)(h:F2 T t f y=some b)(hx: ∃v,av (cF a) x=some v/\bP ρ G f v)(hy:aI lk y=some g):
  Yd P C (cF a) ov G ⟨dst, .binOp .eql t x y t',ty',pos,af,gd⟩ (.bool b)/\Yd P C (cF a) ov G ⟨dst, .binOp .neq t x y t',ty',pos,af,gd⟩ (.bool (!b)):=by
 obtain⟨v,h1,h2⟩:=hx;unfold F2 at h;split at h<;>try (cases h;done)
 ·rename_i hi
  have:=TA (hT _ _ hi) J;split at h<;>cases h
  ·cases (aG (G:=G)).1 h2;exact⟨MT (.inl J) h1,Ld (.inl J) h1⟩
  ·cases (aG (G:=G)).1 h2;exact⟨MT (.inr ⟨_,_,J⟩) h1,Ld (.inr ⟨_,_,J⟩) h1⟩
 ·rename_i hi
  have:=JF (hT _ _ hi) J;have key: ∀p,v= .pointer (some p)->Yd P C (cF a) ov G ⟨dst, .binOp .eql t x (.const (.pointer none)) t',ty',pos,af,gd⟩ (.bool false)/\Yd P C (cF a) ov G ⟨dst, .binOp .neq t x (.const (.pointer none)) t',ty',pos,af,gd⟩ (.bool (!false)):=fun p e=>by
   subst e;exact⟨C4 h1 J,Bi h1 J⟩
  split at h<;>cases h
  ·cases (aG (G:=G)).1 h2;exact⟨C4 h1 J,Bi h1 J⟩
  ·obtain⟨b,_,e⟩:=h2;exact key _ e
  ·obtain⟨b,o,cs,m,e,_⟩:=h2;exact key _ e
  ·obtain⟨b,_,e⟩:=h2;exact key _ e
  ·obtain⟨b,m,e,_⟩:=nI.1 (show Is G _ v from h2);exact key _ e
 ·rename_i hi
  have:=i5 (hT _ _ hi) J;split at h<;>cases h
  cases h2;exact⟨ML h1 J,aAg h1 J⟩
def Sn{op:BinOp}{f g u:FX}{v:Option Prop}(hT:lc P T)(e1:aI lk x=some f)(e2:aI lk y=some g)(h:Gu T op t f g y=some (v,u))(hv: ∀r,v=some r->r):bH P GB C n lk bk ⟨dst, .binOp op t x y t',ty',pos,af,gd⟩ u [] []:= .yd fun ρ G ov a w r=>by
 obtain⟨p,h1,h2⟩:=r.ev e1;obtain⟨q,h3,h4⟩:=r.ev e2;unfold Gu at h;split at h
 ·rename_i k p' j q'
  rw[cH] at h2 h4;subst h2 h4;split at h
  ·exact Cb h (.inl J) hv h1 h3
  ·exact Cb h (.inr J) hv h1 h3
  ·cases hk:kq k j with
   |false=>rw[hk] at h;cases h
   |true=>rw[hk] at h;cases De hk;exact Rh h hv h1 h3
 ·unfold Nn at h
  split at h<;>try (cases h;done)
  rename_i hi;have:=JF (hT _ _ hi) J
  cases (aG (G:=G)).1 h4
  split at h<;>cases h<;>rcases qI.1 (show Is G _ p from h2) with⟨rfl,rfl⟩|⟨rfl,k⟩
  ·exact⟨_,J,C4 h1 h3⟩
  ·obtain⟨b,m,rfl,_⟩:=nI.1 k;exact⟨_,rfl,C4 h1 h3⟩
  ·exact⟨_,J,Bi h1 h3⟩
  ·obtain⟨b,m,rfl,_⟩:=nI.1 k;exact⟨_,rfl,Bi h1 h3⟩
 ·split at h
  ·rename_i b hb
   obtain⟨k1,k2⟩:=Tu (ρ:=ρ) (G:=G) (C:=C) (ov:=ov) (dst:=dst) (t':=t') (ty':=ty') (pos:=pos) (af:=af) (gd:=gd) hT hb ⟨p,h1,h2⟩ e2;split at h<;>cases h
   ·exact⟨_,by cases b<;>rfl,k1⟩
   ·exact⟨_,by cases b<;>rfl,k2⟩
  ·split at h<;>try (cases h;done)
   rename_i hi ha hb;have:=TV (hT _ _ hi) J;have e3:=t7 h2 ha;have e4:=t7 h4 hb;subst e3 e4;split at h<;>cases h
   ·exact⟨_,(aG (G:=G)).2 J,QQ h1 h3⟩
   ·exact⟨_,(aG (G:=G)).2 J,Vp h1 h3⟩
def Qn{op:UnOp}{f u:FX}{v:Option Prop}(e1:aI lk x=some f)(h:EP op f=some (v,u))(hv: ∀r,v=some r->r):bH P GB C n lk bk ⟨dst, .unOp op t x,ty',pos,af,gd⟩ u [] []:= .x1 e1 fun ρ G ov a w y _ r h1 h2=>by
 unfold EP at h;split at h<;>try (cases h;done)
 ·split at h<;>cases h
  rename_i g hg;obtain⟨b,rfl,h3⟩:=Yy h2 hg;exact⟨_,h3,BC h1⟩
 ·split at h<;>try (cases h;done)
  obtain⟨rfl,h3⟩:=y9 h;rw[cH] at h2;subst h2;refine⟨_,cH.2 J,?_⟩;have:=Hx (P:=P) (C:=C) (own:=ov) (G:=G) (dst:=dst) (ty':=ty') (pos:=pos) (af:=af) (gd:=gd) (t:=t) h1;rwa [Int.zero_sub,qw (h3 hv)] at this
def VA{f u:FX}{v:Option Prop}(hT:lc P T)(e1:aI lk x=some f)(h:F1 T t t' f=some (v,u))(hv: ∀r,v=some r->r):bH P GB C n lk bk ⟨dst, .convert t t' x,ty',pos,af,gd⟩ u [] []:= .x1 e1 fun ρ G ov a w y _ r h1 h2=>by
 unfold F1 at h;split at h<;>try (cases h;done)
 rename_i k _ _ _ k' _ _ _ hi hi';have:=vX (hT _ _ hi) J;have:=vX (hT _ _ hi') J;split at h<;>try (cases h;done)
 rename_i j p;rw[cH] at h2;subst h2
 cases hk:kq k j with
 |false=>rw[hk] at h;cases h
 |true=>
  rw[hk,cond_true] at h;cases De hk;split at h
  ·cases h;exact⟨_,cH.2 J,jj h1⟩
  ·obtain⟨rfl,h3⟩:=y9 h;exact⟨_,cH.2 rfl,Fk h1 (h3 hv)⟩
def bE.row{nm:Nat}{y:Value}{ty:TypeId}{s:Nat}{ds:List DV}{lo:Bool}(r:bE GB C n lk bk ρ G ov a w)(hb:bk nm=some (.b ty s ds lo)): ∃B,de G ⟨ρ nm,s,ty,ds,lo⟩ B/\ ∀o∈B,o∈ov:=by
 obtain⟨os,h1,h2⟩:=r.bx _ _ hb;exact⟨os,h1,h2⟩
def de.len{β:dt}{B:List aj}(h:de G β B):β.x.n=β.ds.length:=by
 obtain⟨vs,h1,h2,_⟩:=h;rw[h1.len,h2.len]
def Ue{f g u:FX}{v:Option Prop}(hT:lc P T)(e1:aI lk x=some f)(e2:aI lk y=some g)(h:EY T bk t f g=some (v,u))(hv: ∀r,v=some r->r):bH P GB C n lk bk ⟨dst, .indexAddr t x y,ty',pos,af,gd⟩ u [] []:= .yd fun ρ G ov a w r=>by
 obtain⟨p,h1,h2⟩:=r.ev e1;obtain⟨q,h3,h4⟩:=r.ev e2;unfold EY at h;split at h<;>try (cases h;done)
 rename_i nm;split at h<;>try (cases h;done)
 rename_i ty s ds lo hb;split at h<;>try (cases h;done)
 rename_i e' s' by_ _ _ _ hi;have:=i5 (hT _ _ hi) J;split at h<;>try (cases h;done)
 rename_i k i
 cases hs:Nat.beq s s' with
 |false=>rw[hs] at h;cases h
 |true=>
  rw[hs,cond_true] at h;cases h
  cases aY hs
  rw[cH] at h4;subst h4
  cases h2
  obtain⟨B,hB,hBo⟩:=r.row (y:= .nilFunc) hb;have hl:=hB.len;simp only at hl;obtain⟨h5,h6⟩:=hv _ rfl;obtain⟨vs,hB1,hB2,_⟩:=hB;rcases hB1 with⟨e5,_,_⟩|⟨b,rest,lo',e5,_⟩
  ·subst e5;have:=hB2.len;simp at this;rw[<-this] at h6;simp at h6;omega
  ·have hw:(ρ nm).a=some ⟨b,0,none⟩:=by simp only at e5;rw[e5]
   rw[hw] at h1;refine⟨_,⟨b,hw,J⟩,?_⟩;have:=xw (P:=P) (C:=C) (own:=ov) (G:=G) (dst:=dst) (ty':=ty') (pos:=pos) (af:=af) (gd:=gd) (t:=t) h1 h3 h5 (by rw[hl];exact h6);simpa using this
def Zj{f g:FX}{e s by_:Nat}(hS:cd P t e s by_)(e1:aI lk x=some f)(h:DT bk f=some g):bH P GB C n lk bk ⟨dst, .call ⟨.builtin .len,⟨[x]⟩,⟨[t]⟩⟩,ty',pos,af,gd⟩ g [] []:= .x1 e1 fun ρ G ov a w y _ r h1 h2=>by
 have key: ∀l:List DV,Is G (.sl l) y-> ∃u,bP ρ G (.d (.v (.int .i64 (l.length:Nat)))) u/\Yd P C (cF a) ov G ⟨dst, .call ⟨.builtin .len,⟨[x]⟩,⟨[t]⟩⟩,ty',pos,af,gd⟩ u:=fun l hl=>by
  obtain⟨k,z,es,rfl,hs,hl⟩:=gz.1 hl;have:=hs.len;rw[hl.len] at this;exact⟨_,cH.2 J,by rw[<-this];exact mv h1⟩
 unfold DT at h;split at h
 ·cases h;cases h2;exact⟨_,cH.2 J,mv h1⟩
 ·cases h;exact key _ h2
 ·cases h;exact key _ h2.2
 ·split at h<;>cases h
  rename_i hb
  cases h2
  obtain⟨B,hB,_⟩:=r.row (y:= .nilFunc) hb;have:=hB.len;simp only at this;exact⟨_,cH.2 J,by rw[<-this];exact mv h1⟩
 ·cases h
def Y5{f g:FX}{d:Nat}(hg:g∈f.cells)(h:vC f d=true):g.nm≠some d:=by
 have key:g.nm=f.nm\/g.nm=none:=by
  unfold FX.cells at hg;split at hg
  ·obtain⟨x,_,rfl⟩:=bJ.1 hg;exact .inr rfl
  ·rcases cX.1 hg with hg|hg
   ·obtain⟨x,_,rfl⟩:=bJ.1 hg;exact .inr rfl
   ·rcases aW.1 hg with rfl|hg
    ·exact .inl J
    ·obtain⟨x,_,rfl⟩:=bJ.1 hg;exact .inr rfl
  ·exact .inl (by rw[aU.1 hg])
 rcases key with h'|h'
 ·intro e;unfold vC at h;rw[<-h',e] at h;simp at h
 ·rw[h'];simp
def bE.alloc(r:bE GB C n lk bk ρ G ov a w){d b:Nat}{cs:List Value}{zs:List FX}{K:Act->World->Prop}{a':Act}{w':World}(hf:kc [d] (some d) lk bk)(hz:dl ρ G zs cs)(hn: ∀g∈zs,g.nm≠some d)
  (hk:SX GB C n (dP lk (some d) (.ov d 0)) (Sx.upB bk [(d,some (.o t zs true))]) K)(rl:gh C n (Sx.put (cF a) (some d) (.pointer (some ⟨b,0,none⟩))) (⟨b,cs,t,true⟩::ov) G a' w'):K a' w':=by
 have hnd:=(bX.1 rl.h.nd).1;have hy:bP (fun k=>if k=d then⟨some ⟨b,0,none⟩,0,0⟩ else ρ k) G (.ov d 0) (.pointer (some ⟨b,0,none⟩)):=⟨b,by simp,J⟩;have hB:jA (fun k=>if k=d then⟨some ⟨b,0,none⟩,0,0⟩ else ρ k) G d (.o t zs true) [⟨b,cs,t,true⟩]:=
  ⟨b,cs,by simp,J,hz.ren fun g hg m hm=>sr _ fun e'=>hn g hg (by rw[hm,e'])⟩
 refine hk.run _ _ _ a' w' (r.new hf (bz.refl _) rl.h hB ?_ (fun o ho=>aZ _ ho) ?_ hy (jO rl))
 ·intro o ho;rw[aU.1 ho];exact aQ
 ·intro o ho e';cases e';exact hnd o ho rfl
def MI{d:Nat}{f:FX}(e:aI lk x=some f)(hc:f.okc=true)(hn:vC f d=true):bH P GB C n lk bk ⟨some d, .box t x,ty',pos,af,gd⟩ (.ov d 0) [(d,some (.o t f.cells true))] [d]:=by
 intro hd tl tb K s1 s2 hf hk;refine⟨fun ρ G ov a w r Q=>?_⟩;obtain⟨y,h1,h2⟩:=(r.mono s1 s2).ev e;exact H8 h1 hd (fun b a' w' rl=>r.alloc hf (h2.cells hc).1 (fun g hg=>Y5 hg hn) hk rl) a w Q ⟨r.h,r.sz,cP a,r.df⟩
def VR(v:Value):(tO v).nm=none:=by unfold tO;split<;>rfl
def T6{d:Nat}{i:TI}{z:List FX}(hi:er P t=some i)(hz:i.z=some z):bH P GB C n lk bk ⟨some d, .alloc t,ty',pos,af,gd⟩ (.ov d 0) [(d,some (.o t z true))] [d]:=by
 intro hd tl tb K s1 s2 hf hk;refine⟨fun ρ G ov a w r Q=>?_⟩;obtain⟨v,hv,hv'⟩:=Dc hi hz;refine ta hd (fun b a' w' rl=>r.alloc hf (hv' ρ G) (fun g hg=>?_) hk rl) a w Q ⟨r.h,r.sz,cP a,r.df⟩;obtain⟨j,_,rfl⟩:=om hi
 cases hj:j.zero with
 |none=>simp only[hj] at hz;cases hz
 |some u=>
  simp only[hj] at hz;cases hz;obtain⟨x,_,rfl⟩:=bJ.1 hg;rw[VR];simp
def eE.of_mem{b:Nat}{cs cs':List Value}{ty:TypeId}{lo:Bool}: ∀{own:List aj},⟨b,cs,ty,lo⟩∈own-> ∃own',eE own b cs ty lo cs' own'/\⟨b,cs',ty,lo⟩∈own'/\ ∀o∈own,o.b≠b->o∈own'
 |[],h=>by cases h
 |x::t,h=>by
  rcases aW.1 h with rfl|h
  ·exact⟨_, .hd ..,aQ,fun o ho hb=>(aW.1 ho).elim (fun e=>absurd (by rw[e]) hb) (fun e=>aZ _ e)⟩
  ·obtain⟨own',h1,h2,h3⟩:=eE.of_mem h
   exact⟨x::own', .tl _ _ _ _ _ _ _ _ h1,aZ _ h2,fun o ho hb=>(aW.1 ho).elim (fun e=>by rw[e];exact aQ) (fun e=>aZ _ (h3 o e hb))⟩
def bE.wrote{nm:Nat}{b:Nat}{m m':List Value}{ty:TypeId}{cs cs':List FX}{lo:Bool}(r:bE GB C n lk bk ρ G ov a w)(hb:bk nm=some (.o ty cs lo))(ha:(ρ nm).a=some ⟨b,0,none⟩){own':List aj}(hm':dl ρ G cs' m')(h1:⟨b,m',ty,lo⟩∈own')(h2: ∀o∈ov,o.b≠b->o∈own')
  {K:Act->World->Prop}(hk:SX GB C n (dP lk dst .un) (Sx.upB bk [(nm,some (.o ty cs' lo))]) K){a':Act}{w':World}(rl:gh C n (Sx.put (cF a) dst undef) own' G a' w'):K a' w':=by
 have r2:=r.upB (G':=G) (ov':=own') (w':=w') (B':= .o ty cs' lo) (os:=[⟨b,m',ty,lo⟩]) (bz.refl _) rl.h ⟨b,m',ha,J,hm'⟩ (fun o ho=>by rw[aU.1 ho];exact h1) (fun o ho hne=>h2 o ho fun e=>hne (by rw[ha,e])) ⟨_,hb⟩;exact hk.run _ _ _ a' w' (r2.put J (jO rl))
def X8{f:FX}(h:f.flat=true):f.okc=true:=by
 cases f with
 |d x=>cases x<;>first|exact h|(cases h;done)
 |bx=>cases h
 |_=>exact h
def W5{f:FX}(h:f.flat=true):f.cells=[f]:=by
 cases f with
 |d x=>cases x<;>first|rfl|(cases h;done)
 |bx=>cases h
 |_=>rfl
def bP.flat{f:FX}{y:Value}(h:bP ρ G f y)(k:f.flat=true):Go.Sx.flat y=true:=by
 obtain⟨h1,h2⟩:=h.cells (X8 k);rw[W5 k] at h1;have hl:=h1.len
 cases y with
 |agg l=>
  obtain⟨z,q,e,h4,h5⟩:=h1
  cases f with
  |d x=>cases x with
   |v u=>exact Is.flat (show Is G _ _ from h) k
   |ag l=>cases k
   |tp l=>cases k
   |pt l=>exact Is.flat (show Is G _ _ from h) k
   |op b l=>exact Is.flat (show Is G _ _ from h) k
   |sl l=>exact Is.flat (show Is G _ _ from h) k
  |ep l=>obtain⟨_,_,_,_,e,_⟩:=h;cases e
  |ov _ _=>obtain⟨_,_,e⟩:=h;cases e
  |be _ _ _ _=>obtain⟨_,_,e⟩:=h;cases e
  |rs _ _ _ _=>obtain⟨_,_,_,e,_⟩:=h;cases e
  |ct l=>obtain⟨⟨_,_,e⟩,_⟩:=h;cases e
  |bx=>cases k
  |un=>cases k
  |no=>cases k
  |_=>cases h
 |_=>exact h2 _ (by simp[aE])
def V7{fa fv:FX}{bl:List (Nat×Option Bk)}{i:TI}(hi:er P t=some i)(e1:aI lk x=some fa)(e2:aI lk y=some fv)(h:CY bk i fa fv=some bl):bH P GB C n lk bk ⟨dst, .store t x y,ty',pos,af,gd⟩ .un bl []:=by
 intro hd tl tb K s1 s2 hf hk;refine⟨fun ρ G ov a w r Q=>?_⟩;have r1:=r.mono s1 s2;obtain⟨p,h1,h2⟩:=r1.ev e1;obtain⟨q,h3,h4⟩:=r1.ev e2;unfold CY at h;split at h<;>try (cases h;done)
 rename_i nm off;split at h<;>try (cases h;done)
 rename_i ty cs lo hb;obtain⟨b,m,rfl,ha,h5,h6⟩:=r1.own h2 hb;split at h<;>try (cases h;done)
 ·rename_i k hk'
  have:=vG hi hk'
  cases hc:(fv.okc&&(Nat.beq fv.cells.length k&&Nat.ble (off+k) cs.length)) with
  |false=>rw[hc] at h;cases h
  |true=>
   rw[hc,cond_true,qt] at h;cases h;simp only[aN,Nat.beq_eq_true_eq,Nat.ble_eq] at hc;obtain⟨c1,c2,c3⟩:=hc;replace c2:=aY c2;obtain⟨h7,h8⟩:=h4.cells c1;obtain⟨own',u1,u2,u3⟩:=eE.of_mem (cs':=ck m off (aE q)) h6;exact A0 h1 h3 u1 (by rw[h7.len,c2]) (by rw[h5.len];exact c3) (fJ.2 h8) hd (fun a' w' rl=>r.wrote (m:=m) (s2 _ _ hb) ha (h5.ov h7) u2 u3 hk rl) a w Q ⟨r.h,r.sz,cP a,r.df⟩
 ·rename_i hk'
  have:=ur hi hk'
  cases hc:(fv.flat&&Nat.blt off cs.length) with
  |false=>rw[hc] at h;cases h
  |true=>
   rw[hc,cond_true,qt] at h;cases h;simp only[aN,mJ] at hc;obtain⟨own',u1,u2,u3⟩:=eE.of_mem (cs':=m.set off q) h6;exact q9 h1 h3 u1 (by rw[h5.len];exact hc.2) (h4.flat hc.1) hd (fun a' w' rl=>r.wrote (m:=m) (s2 _ _ hb) ha (h5.set off h4) u2 u3 hk rl) a w Q ⟨r.h,r.sz,cP a,r.df⟩
def vW{op:Op}{r:CR}(hT:lc P T)(h:wh T lk bk dst op=some r):Uj P GB C n lk bk ⟨dst,op,ty',pos,af,gd⟩ r:=by
 intro hv;unfold wh at h;split at h
 ·obtain⟨f,h1,rfl⟩:=pk h;exact PU h1
 ·obtain⟨f,h1,rfl⟩:=pk h;exact UG h1
 ·obtain⟨c,hc,h⟩:=pH h
  obtain⟨f,g,h1,h2,h⟩:=u6 h;obtain⟨u,h3,rfl⟩:=pk h;exact X9 hc h1 h2 h3
 ·split at h<;>try (cases h;done)
  obtain⟨i,hi,h⟩:=FY hT h;split at h<;>try (cases h;done)
  rename_i z hz;rw[qt] at h;cases h;exact T6 hi hz
 ·split at h<;>try (cases h;done)
  obtain⟨f,hf,h⟩:=pH h;rw[qt,cond_eq_ite] at h;split at h<;>cases h;rename_i hc;simp only[aN] at hc;exact MI hf hc.1 hc.2
 ·obtain⟨f,h1,h⟩:=pH h;obtain⟨v,u,h3,rfl⟩:=x4 h;exact SE h1 h3 hv
 ·obtain⟨fo,i,hi,hk,h⟩:=Hd hT h
  obtain⟨f,h1,h⟩:=pH h;obtain⟨u,h3,rfl⟩:=pk h;exact YW hi hk h1 h3
 ·obtain⟨fo,i,hi,hk,h⟩:=Hd hT h
  obtain⟨f,h1,h⟩:=pH h;obtain⟨u,h3,rfl⟩:=pk h;exact Zs hT hi hk h1 h3
 ·obtain⟨i,hi,h⟩:=FY hT h
  obtain⟨f,h1,h⟩:=pH h;obtain⟨u,h3,rfl⟩:=pk h;exact YC hi h1 h3
 ·obtain⟨i,hi,h⟩:=FY hT h
  obtain⟨f,g,h1,h2,h⟩:=u6 h
  cases hb:CY bk i f g with
  |none=>simp only[hb] at h;cases h
  |some bl=>simp only[hb] at h;cases h;exact V7 hi h1 h2 hb
 ·obtain⟨f,h1,h⟩:=pH h;obtain⟨u,h3,rfl⟩:=pk h;exact S2 h1 h3
 ·obtain⟨fo,i,hi,hk,h⟩:=Hd hT h
  split at h<;>try (cases h;done)
  rename_i z hz;split at h<;>try (cases h;done)
  rename_i cs hcs;split at h<;>cases h;rename_i g hg;exact Um hi hk hz hcs hg
 ·obtain⟨f,g,h1,h2,h⟩:=u6 h;obtain⟨v,u,h3,rfl⟩:=x4 h;exact Sn hT h1 h2 h3 hv
 ·obtain⟨f,h1,h⟩:=pH h;obtain⟨v,u,h3,rfl⟩:=x4 h;exact Qn h1 h3 hv
 ·obtain⟨f,h1,h⟩:=pH h;obtain⟨v,u,h3,rfl⟩:=x4 h;exact VA hT h1 h3 hv
 ·obtain⟨f,g,h1,h2,h⟩:=u6 h;obtain⟨v,u,h3,rfl⟩:=x4 h;exact Ue hT h1 h2 h3 hv
 ·split at h<;>try (cases h;done)
  rename_i hi;obtain⟨f,h1,h⟩:=pH h;obtain⟨u,h3,rfl⟩:=pk h;exact Zj (i5 (hT _ _ hi) J) h1 h3
 ·obtain⟨f,g,h1,h2,h⟩:=u6 h;obtain⟨u,h3,rfl⟩:=pk h;exact LC (mx:=true) h1 h2 h3
 ·obtain⟨f,g,h1,h2,h⟩:=u6 h;obtain⟨u,h3,rfl⟩:=pk h;exact LC (mx:=false) h1 h2 h3
 ·cases h
end
def FW(r:Option Nat):Fence:={Fence.wide with round:=r}
def f5(r:Option Nat)(P:Program)(c:Code)(Q:Exit->Act->World->Prop)(a:Act)(w:World):Prop:=c.wpIn (FW r) 0 P Q a w
section
variable {r:Option Nat} {P:Program} {Q:Exit->Act->World->Prop} {a:Act} {w:World}
def vL{o:Option Nat}{c:Code}(h:o=none)(k:f5 o P c Q a w):c.wp P Q a w:=by
 subst h;exact wpIn_wide.1 k
def Qj{c:Code}{Q':Exit->Act->World->Prop}(h:f5 r P c Q a w)(hq: ∀e a w,Q e a w->Q' e a w):f5 r P c Q' a w:=wpIn_mono h hq
def QM(h:Q .normal a w):f5 r P .skip Q a w:=wpIn_skip h
def R2{l:Nat}(h:Q .normal a w):f5 r P (.label l) Q a w:=wpIn_label h
def ats{id:Nat}(h:Q (.exit id) a w):f5 r P (.exit id) Q a w:=wpIn_exit h
def Wd(h:Q .ret a w):f5 r P .ret Q a w:=wpIn_ret h
def P4{x y:Code}(h:f5 r P x (Exit.then (f5 r P y Q) Q) a w):f5 r P (.seq x y) Q a w:=wpIn_seq h
def UR{c:Operand}{x y:Code}{t:Bool}(hc:a.eval c= .bool t)(ht:t=true->f5 r P x Q a w)(hf:t=false->f5 r P y Q a w):f5 r P (.cond c x y) Q a w:=wpIn_cond_split hc ht hf
def PK{id:Nat}{c:Code}(h:f5 r P c (Exit.inBlock id Q) a w):f5 r P (.block id c) Q a w:=wpIn_block h
def wz{b:Frame}{k:List Item}{cs:List Frame}{c:Code}:step P (lone (b.atR a (.code (.scope c)::k)) cs w)= .next (lone (b.atR a (.code c:: .inScope c::k)) cs w):=
 step_lone_go (by simp[stepG,stepG.exec,Frame.atR])
def Qy{b:Frame}{k:List Item}{cs:List Frame}{c:Code}:step P (lone (b.atR a (.inScope c::k)) cs w)= .next (lone (b.atR a k) cs w):=
 step_lone_go (by simp[stepG,stepG.exec,Frame.atR])
def PQ{c:Code}(h:f5 r P c (Exit.noGoto Q) a w):f5 r P (.scope c) Q a w:=by
 intro b k cs hro hb hr;have h0:(lone (b.atR a (.code (.scope c)::k)) cs w).fenced P (FW r):=fenced_calm hb hr J;obtain⟨e,a₁,w₁,hq,harr⟩:=h b (.inScope c::k) cs hro hb hr
 cases e with
 |normal=>exact⟨.normal,a₁,w₁,hq, .head h0 wz (StepsIn.trans harr (.one (fenced_calm hb hr J) Qy))⟩
 |exit id=>
  have hx:exitTo id (.inScope c::k)=exitTo id k:=by simp[exitTo]
  exact⟨.exit id,a₁,w₁,hq,fun k' hk=> .head h0 wz (harr.1 k' (by rw[hx];exact hk)),fun hr' hk=>let⟨k₁,h1,h2⟩:=harr.2 hr' (by rw[hx];exact hk);⟨k₁,h1, .head h0 wz h2⟩⟩
 |goto l=>exact hq.elim
 |ret=>exact⟨_,a₁,w₁,hq, .of_steps (.one h0 wz) harr⟩
 |panic ch=>exact⟨_,a₁,w₁,hq, .of_steps (.one h0 wz) harr⟩
 |outgrown=>exact⟨_,a₁,w₁,hq, .of_steps (.one h0 wz) harr⟩
def ZK{id:Nat}{ops:Array Oper}(h:wpListIn (FW r) 0 P ops Q ops.toList a w):f5 r P (.region id ops false) Q a w:=wpIn_region_list h
def Qf{f:FuncId}{args:Array Value}{R:Ending->World->Prop}(h:Calls P f args w R):CallsIn (FW r) 0 P f args w R:=by
 have h1:CallsIn Fence.wide 0 P f args w R:=callsIn_wide.2 h
 cases r with
 |none=>exact h1
 |some l=>exact h1
def DK{o:Oper}{K K':Act->World->Prop}(h: ∀Q,o.wp P a w K' Q)(hd: ∀a' w',K' a' w'->a'.defers=a.defers/\K a' w'):o.wpIn (FW r) 0 P a w K Q:=by
 have hs:o.semAt r a.eval=execOp a.eval o:=by
  cases r with
  |none=>rfl
  |some l=>
   refine Oper.semAt_some l a.eval o fun c hc=>?_;have h1:=h (fun _ _ _=>False);unfold Oper.wp at h1;obtain⟨dst,op,ty,pos,af,gd⟩:=o;simp only at hc;subst hc;unfold execOp at h1;simp only[Sem.run_bind,Result.andThen] at h1;split at h1
   ·simp only[Sem.run_pure,Oper.upon] at h1
    have:=(hd _ _ h1).1
    cases dst<;>simp[Act.put] at this
   ·rename_i x w1 hx
    cases x<;>simp only[Oper.upon] at h1
 have h1:=h (fun _ _ _=>False);unfold Oper.wp at h1;refine⟨fun _ _=>trivial,?_⟩;show o.uponIn (FW r) 0 P a K Q ((o.semAt r a.eval).run P w);rw[hs];generalize (execOp a.eval o).run P w=x at h1
 cases x with
 |ok nx w'=>
  cases nx with
  |value v=>exact(hd _ _ h1).2
  |skip=>exact(hd _ _ h1).2
  |defer d=>exact(hd _ _ h1).2
  |enter f args=>
   refine⟨fun h=>(by cases h),(Qf (r:=r) h1).mono fun e w'' he=>?_⟩
   cases e with
   |returned v=>exact(hd _ _ he).2
   |panicked ch=>exact he.elim
   |outgrown=>obtain⟨_,_,hq⟩:=he;exact hq.elim
  |row row args=>
   refine⟨fun h=>(by cases h),fun c cs hroom=>?_⟩;obtain⟨v,w'',hv,hst⟩:=h1 c cs;exact⟨v,w'',(hd _ _ hv).2,stepsIn_wide.2 hst⟩
  |round=>exact h1.elim
  |_=>exact h1.elim
 |halt y w'=>cases y<;>first|exact h1.elim|exact h1
end
def r5:List Nat->Nat->Bool
 |[],_=>false
 |x::t,k=>Nat.beq x k||r5 t k
structure Rc where
 rs:List Nat
 d:Option Nat
 f:FX
 rn:List Nat
 bl:List (Nat×Option Bk)
 nw:List Nat
abbrev ST:=LK×BM
def Rc.ap(r:Rc)(s:ST):ST:=(dP s.1 r.d r.f,upB s.2 r.bl)
def cj(p:Nat->Bool):Nat->ST->List Rc->ST
 |_,s,[]=>s
 |k,s,r::t=>cj p (k+1) (if p k then r.ap s else s) t
def kv{α:Type}(l:List Nat)(g:Nat->Option α):Nat->Option α:=fun k=>bif r5 l k then g k else none
def AC{nm:Nat}: ∀{bl:List (Nat×Option Bk)} {s s':BM},((∀e∈bl,e.1≠nm)->s nm=s' nm)->upB s bl nm=upB s' bl nm
 |[],s,s',h=>h (by simp)
 |(k,B)::t,s,s',h=>by
  simp only[upB];refine AC fun ht=>?_;by_cases e:nm=k
  ·simp[e]
  ·simp only[e,if_false];exact h fun x hx=>(aW.1 hx).elim (fun c=>by rw[c];exact Ne.symm e) (ht x)
def Be{nm:Nat}: ∀{bl:List (Nat×Option Bk)} {s:BM},(∀e∈bl,e.1≠nm)->upB s bl nm=s nm
 |[],s,h=>rfl
 |(k,B)::t,s,h=>by
  simp only[upB];rw[Be fun e he=>h e (aZ _ he)];simp[Ne.symm (h _ aQ)]
def Fb{x:Nat}{d:Option Nat}{f:FX}{s:LK}(h:d≠some x):dP s d f x=s x:=by
 cases d with
 |none=>rfl
 |some d=>simp only[dP];rw[if_neg fun e=>h (by rw[e])]
def xo{x:Nat}{p q:Nat->Bool}: ∀{us:List Rc} {k:Nat} {s s':ST},s.1 x=s'.1 x->(∀j r,us[j]? =some r->r.d=some x->p (k+j)=q (k+j))->(cj p k s us).1 x=(cj q k s' us).1 x
 |[],k,s,s',h,_=>h
 |r::t,k,s,s',h,hp=>by
  simp only[cj];refine xo ?_ fun j u hj hd=>by have:=hp (j+1) u (by simpa using hj) hd;rwa [show k+(j+1)=k+1+j by omega] at this
  by_cases hd:r.d=some x
  ·have:=hp 0 r J hd
   rw[eJ] at this;rw[this];split
   ·simp only[Rc.ap,dP,hd,if_true]
   ·exact h
  ·have: ∀(b:Bool) (s:ST),(if b then r.ap s else s).1 x=s.1 x:=fun b s=>by cases b<;>simp[Rc.ap,Fb hd]
   rw[this,this,h]
def wq{nm:Nat}{p q:Nat->Bool}: ∀{us:List Rc} {k:Nat} {s s':ST},s.2 nm=s'.2 nm->(∀j r,us[j]? =some r->(∃e∈r.bl,e.1=nm)->p (k+j)=q (k+j))->(cj p k s us).2 nm=(cj q k s' us).2 nm
 |[],k,s,s',h,_=>h
 |r::t,k,s,s',h,hp=>by
  simp only[cj];refine wq ?_ fun j u hj hd=>by have:=hp (j+1) u (by simpa using hj) hd;rwa [show k+(j+1)=k+1+j by omega] at this
  by_cases hd: ∃e∈r.bl,e.1=nm
  ·have:=hp 0 r J hd
   rw[eJ] at this;rw[this];split
   ·exact AC fun _=>h
   ·exact h
  ·have: ∀(b:Bool) (s:ST),(if b then r.ap s else s).2 nm=s.2 nm:=fun b s=>by
    cases b
    ·rfl
    ·exact Be fun e he hc=>hd ⟨e,he,hc⟩
   rw[this,this,h]
def Pg{x:Nat}{f:FX}{p:Nat->Bool}: ∀{us:List Rc} {k:Nat} {s:ST},(cj p k s us).1 x=some f->s.1 x=some f\/ ∃j r,us[j]? =some r/\p (k+j)=true/\r.d=some x/\r.f=f
 |[],k,s,h=> .inl h
 |r::t,k,s,h=>by
  simp only[cj] at h;rcases Pg h with h|⟨j,u,h1,h2,h3⟩
  ·cases hp:p k with
   |false=>rw[hp] at h;exact .inl h
   |true=>
    rw[hp] at h;simp only[if_true,Rc.ap] at h;by_cases hd:r.d=some x
    ·rw[hd] at h;simp only[dP,if_true] at h;cases h;exact .inr ⟨0,r,J,by simpa using hp,hd,J⟩
    ·rw[Fb hd] at h;exact .inl h
  ·exact .inr ⟨j+1,u,by simpa using h1,by rw[show k+(j+1)=k+1+j by omega];exact h2,h3⟩
def Ou{nm:Nat}{B:Bk}: ∀{bl:List (Nat×Option Bk)} {s:BM},upB s bl nm=some B->s nm=some B\/(nm,some B)∈bl
 |[],s,h=> .inl h
 |(k,B')::t,s,h=>by
  simp only[upB] at h;rcases Ou h with h|h
  ·by_cases e:nm=k
   ·subst e;simp only[if_true] at h;subst h;exact .inr aQ
   ·simp only[e,if_false] at h;exact .inl h
  ·exact .inr (aZ _ h)
def LJ{nm:Nat}{B:Bk}{p:Nat->Bool}: ∀{us:List Rc} {k:Nat} {s:ST},(cj p k s us).2 nm=some B->s.2 nm=some B\/ ∃j r,us[j]? =some r/\p (k+j)=true/\(nm,some B)∈r.bl
 |[],k,s,h=> .inl h
 |r::t,k,s,h=>by
  simp only[cj] at h;rcases LJ h with h|⟨j,u,h1,h2,h3⟩
  ·cases hp:p k with
   |false=>rw[hp] at h;exact .inl h
   |true=>
    rw[hp] at h;rcases Ou h with h|h
    ·exact .inl h
    ·exact .inr ⟨0,r,J,by simpa using hp,h⟩
  ·exact .inr ⟨j+1,u,by simpa using h1,by rw[show k+(j+1)=k+1+j by omega];exact h2,h3⟩
def Qb(acc:List Nat)(l:List Edge):Nat:=l.foldl (fun s e=>if Region.binds .any e then(s ||| 2^e.on) ||| acc.getD e.on 0 else s) 0
def n4:List Oper->List Nat->List Nat
 |[],acc=>acc
 |o::r,acc=>n4 r (acc++[Qb acc o.after.toList])
inductive Bf (ops:List Oper):Nat->Nat->Prop
 |b {i:Nat} {o:Oper} {e:Edge} (ho:ops[i]? =some o) (he:e∈o.after) (hb:Region.binds .any e=true):Bf ops i e.on
 |s {i j:Nat} {o:Oper} {e:Edge} (ho:ops[i]? =some o) (he:e∈o.after) (hb:Region.binds .any e=true) (h:Bf ops e.on j):Bf ops i j
def Ku{acc:List Nat}{j:Nat}: ∀(l:List Edge) (s:Nat),(l.foldl (fun s e=>if Region.binds .any e then(s ||| 2^e.on) ||| acc.getD e.on 0 else s) s).testBit j=true->s.testBit j=true\/ ∃e∈l,Region.binds .any e=true/\(e.on=j\/(acc.getD e.on 0).testBit j=true)
 |[],s,h=> .inl h
 |e::t,s,h=>by
  rw[dS] at h;rcases Ku t _ h with h|⟨e',h1,h2⟩
  ·split at h
   ·rename_i hb
    simp only[Nat.testBit_or,iT,Nat.testBit_two_pow,decide_eq_true_eq] at h;rcases h with(h|h)|h
    ·exact .inl h
    ·exact .inr ⟨e,aQ,hb, .inl h⟩
    ·exact .inr ⟨e,aQ,hb, .inr h⟩
   ·exact .inl h
  ·exact .inr ⟨e',aZ _ h1,h2⟩
def Hg{all:List Oper}: ∀(r:List Oper) (acc:List Nat) (pre:List Oper),all=pre++r->acc.length=pre.length->(∀i j,(acc.getD i 0).testBit j=true->Bf all i j)-> ∀i j,((n4 r acc).getD i 0).testBit j=true->Bf all i j
 |[],acc,pre,_,_,h=>h
 |o::r,acc,pre,he,hl,h=>by
  refine Hg r _ (pre++[o]) (by rw[he];simp) (by simp[hl]) fun i j hij=>?_;rw[aK,List.getElem?_append] at hij;split at hij
  ·rename_i hi
   exact h i j (by rw[aK];exact hij)
  ·rename_i hi
   by_cases e:i=acc.length
   ·subst e
    simp only[qL,List.getElem?_cons_zero,jV] at hij;have ho:all[acc.length]? =some o:=by rw[he,hl];simp
    rcases Ku _ _ hij with h0|⟨e,h1,h2,h3⟩
    ·simp at h0
    ·rcases h3 with rfl|h3
     ·exact .b ho (by simpa using h1) h2
     ·exact .s ho (by simpa using h1) h2 (h _ _ h3)
   ·rw[dJ (by simp;omega)] at hij
    simp at hij
def vD:Option Nat->Nat->Bool
 |some x,y=>Nat.beq x y
 |none,_=>false
def ld(a b:Rc):Bool:=(match a.d with|some x=>r5 b.rs x||vD b.d x|none=>false)||a.bl.any fun e=>r5 b.rn e.1||b.bl.any fun e'=>Nat.beq e'.1 e.1
def uw(nm:Nat)(f:FX):Bool:=vD f.nm nm
def C6(nm:Nat):Option Bk->Bool
 |some (.o _ cs _)=>cs.any (uw nm)
 |_=>false
def n5(r:Rc)(nm:Nat):Bool:=uw nm r.f||r.bl.any fun e=>C6 nm e.2
def AM(m:Nat)(r:Rc):Nat->List Rc->Bool
 |_,[]=>true
 |j,u::t=>(!(ld u r||ld r u||u.nw.any (n5 r))||m.testBit j)&&!(r.nw.any (n5 u))&&AM m r (j+1) t
def rF:List Nat->List Rc->List Rc->Bool
 |m::ms,pre,r::t=>AM m r 0 pre&&rF ms (pre++[r]) t
 |_,_,[]=>true
 |[],_,_::_=>false
def ly:Nat->List Oper->Bool
 |_,[]=>true
 |i,o::t=>o.after.all (fun e=>!Region.binds .any e||Nat.blt e.on i)&&ly (i+1) t
def Cs(us:List Rc)(fr:List (Nat×FX))(own:List (Nat×Option Bk)):Bool:=us.all fun r=>r.nw.all fun nm=>fr.all (fun e=>!uw nm e.2)&&own.all fun e=>!C6 nm e.2
def NF{m:Nat}{r:Rc}: ∀{l:List Rc} {k:Nat},AM m r k l=true-> ∀j u,l[j]? =some u->((ld u r=true\/ld r u=true\/ ∃nm∈u.nw,n5 r nm=true)->m.testBit (k+j)=true)/\ ∀nm∈r.nw,n5 u nm=false
 |[],k,_,j,u,h=>by simp at h
 |x::t,k,h,j,u,hj=>by
  simp only[AM,aN,iT,iZ] at h;obtain⟨⟨h1,h2⟩,h3⟩:=h
  cases j with
  |zero=>
   simp at hj;subst hj;refine⟨fun hh=>?_,fun nm hn=>by have:=List.any_eq_false.1 h2 nm hn;simpa using this⟩;rcases h1 with h1|h1
   ·simp only[rL] at h1
    rcases hh with hh|hh|⟨nm,hn,hh⟩
    ·rw[h1.1.1] at hh;cases hh
    ·rw[h1.1.2] at hh;cases hh
    ·have:=List.any_eq_false.1 h1.2 nm hn;exact absurd hh this
   ·simpa using h1
  |succ j=>
   have:=NF h3 j u (by simpa using hj);rwa [show k+(j+1)=k+1+j by omega]
def O': ∀{ms:List Nat} {pre t:List Rc},rF ms pre t=true-> ∀i r,t[i]? =some r-> ∀j u,(pre++t)[j]? =some u->j<pre.length+i->((ld u r=true\/ld r u=true\/ ∃nm∈u.nw,n5 r nm=true)->(ms.getD i 0).testBit j=true)/\ ∀nm∈r.nw,n5 u nm=false
 |[],pre,[],_,i,r,h=>by simp at h
 |_::_,pre,[],_,i,r,h=>by simp at h
 |[],pre,_::_,h,i,r,_=>by simp[rF] at h
 |m::ms,pre,x::t,h,i,r,hi=>by
  simp only[rF,aN] at h;intro j u hj hlt
  cases i with
  |zero=>
   simp at hi;subst hi;rw[cS (by omega)] at hj;simpa using NF h.1 j u hj
  |succ i=>
   have:=O' h.2 i r (by simpa using hi) j u (by simpa using hj) (by simp;omega);simpa using this
def pq: ∀{l:List Oper} {k:Nat},ly k l=true-> ∀i o,l[i]? =some o-> ∀e∈o.after,Region.binds .any e=true->e.on<k+i
 |[],k,_,i,o,h=>by simp at h
 |x::t,k,h,i,o,hi=>by
  simp only[ly,aN] at h;intro e he hb
  cases i with
  |zero=>
   simp at hi;subst hi;have:=Array.all_eq_true_iff_forall_mem.1 h.1 e he;simpa[hb] using this
  |succ i=>have:=pq h.2 i o (by simpa using hi) e he hb;omega
def wO(rd:Option Nat)(P:Program)(ops:Array Oper)(Q:Exit->Act->World->Prop)(o:Oper)(K:Act->World->Prop)(a:Act)(w:World):Prop:=
 if Region.wanted o (yielded ops a.tmps) then o.wpIn (FW rd) 0 P a w K Q else K (a.put o.dst undef) w
section
variable {P:Program} {GB:Gh} {C:aD} {n:Nat} {ops:Array Oper} {Q:Exit->Act->World->Prop}
def r7(P:Program)(GB:Gh)(C:aD)(n:Nat)(ops:Array Oper)(lk:LK)(bk:BM)(o:Oper)(f:FX)(bl:List (Nat×Option Bk))(nw:List Nat):Prop:=
 ∀(Q:Exit->Act->World->Prop) (tl:LK) (tb:BM) (K:Act->World->Prop),i0 lk tl->i0 bk tb->kc nw o.dst tl tb->SX GB C n (dP tl o.dst f) (upB tb bl) K->SX GB C n tl tb (wO C.rd P ops Q o K)
def SX.drew{lk:LK}{bk:BM}{Φ:Act->World->Prop}(h:SX GB C n lk bk Φ):SX GB C n lk bk (fun a w=>Φ a {w with drawn:=w.drawn+1}):=
 ⟨fun ρ G ov a w r=>h.run ρ G ov a _ ⟨r.gb,r.h.drew,r.sz,r.df,r.fx,r.bx,r.dj,r.fxd⟩⟩
structure iA (P:Program) (GB:Gh) (C:aD) (n:Nat) (ops:Array Oper) (us:List Rc) (s0:ST):Prop where
 len:us.length=ops.size
 snd: ∀i r o,us[i]? =some r->ops[i]? =some o->o.dst=r.d/\r7 P GB C n ops (kv r.rs (cj (fun j=>decide (j<i)) 0 s0 us).1) (kv r.rn (cj (fun j=>decide (j<i)) 0 s0 us).2) o r.f r.bl r.nw
 all:rF (n4 ops.toList []) [] us=true
 edge:ly 0 ops.toList=true
 fr0: ∀r∈us,∀nm∈r.nw,(∀k f,s0.1 k=some f->f.nm≠some nm)/\ ∀k B,s0.2 k=some B-> ¬B.men nm
def yx{o:Option Nat}{k:Nat}:vD o k=true↔o=some k:=by cases o<;>simp[vD]
def Gl{B:Bk}{nm:Nat}(h:B.men nm):C6 nm (some B)=true:=by
 cases B with
 |o ty cs lo=>obtain⟨f,hf,e⟩:=h;exact nL.2 ⟨f,hf,yx.2 e⟩
 |b=>cases h
 |c=>cases h
def du(listed:Array Bool):Nat->Bool:=fun j=>listed.getD j false
def un(ops:Array Oper)(listed:Array Bool):Nat:=((List.range ops.size).filter fun j=>!listed.getD j true).length
def IY{α:Type}{p q:α->Bool}{x:α}: ∀{l:List α},x∈l->(∀y,q y=true->p y=true)->p x=true->q x=false->(l.filter q).length<(l.filter p).length
 |[],h,_,_,_=>by cases h
 |y::t,h,hpq,h1,h2=>by
  have le: ∀l:List α,(l.filter q).length<=(l.filter p).length:=fun l=>by
   induction l with
   |nil=>exact aL _
   |cons z l ih=>
    simp only[mQ]
    cases hq:q z with
    |true=>simp[hpq z hq];omega
    |false=>cases hp:p z<;>simp<;>omega
  rcases aW.1 h with rfl|h
  ·simp only[mQ,h1,h2,if_true];have:=le t;simp;omega
  ·have ih:=IY h hpq h1 h2
   simp only[mQ]
   cases hq:q y with
   |true=>simp[hpq y hq];omega
   |false=>cases hp:p y<;>simp<;>omega
def iA.walk{us:List Rc}{s0:ST}(D:iA P GB C n ops us s0)(hk:SX GB C n (cj (fun _=>true) 0 s0 us).1 (cj (fun _=>true) 0 s0 us).2 (Q .normal)):
  ∀(fuel:Nat) (listed:Array Bool),listed.size=ops.size->(∀i o,ops[i]? =some o->du listed i=true-> ∀e∈o.after,Region.binds .any e=true->du listed e.on=true)->un ops listed<=fuel->
   SX GB C n (cj (du listed) 0 s0 us).1 (cj (du listed) 0 s0 us).2 (wpAnyIn (FW C.rd) 0 P .any ops Q fuel listed):=by
 -- what comes before something listed is listed
 have clo: ∀listed:Array Bool,(∀i o,ops[i]? =some o->du listed i=true-> ∀e∈o.after,Region.binds .any e=true->du listed e.on=true)-> ∀i j,Bf ops.toList i j->du listed i=true->du listed j=true:=by
  intro listed hc i j hb
  induction hb with
  |b ho he hb=>intro hi;exact hc _ _ (by simpa using ho) hi _ he hb
  |s ho he hb _ ih=>intro hi;exact ih (hc _ _ (by simpa using ho) hi _ he hb)
 have bf: ∀i j,((n4 ops.toList []).getD i 0).testBit j=true->Bf ops.toList i j:=Hg ops.toList [] [] J J (fun i j h=>by simp at h);have spec: ∀i r,us[i]? =some r-> ∀j u,us[j]? =some u->j<i->((ld u r=true\/ld r u=true\/ ∃nm∈u.nw,n5 r nm=true)->Bf ops.toList i j)/\ ∀nm∈r.nw,n5 u nm=false:=fun i r hi j u hj hlt=>by
  have:=O' D.all i r hi j u (by simpa using hj) (by simpa using hlt);exact⟨fun h=>bf _ _ (this.1 h),this.2⟩
 have done: ∀listed:Array Bool,listed.size=ops.size->Region.ready .any ops listed=[]-> ∀i,i<ops.size->du listed i=true:=by
  intro listed hsz hr i
  induction i using Nat.strongRecOn with
  |ind i ih=>
   intro hi
   cases hl:listed.getD i true with
   |true=>unfold du;simp only[bY] at hl⊢;rw[gQ (by omega)] at hl⊢;simpa using hl
   |false=>
    have:i∈Region.ready .any ops listed:=mem_ready.2 ⟨hl,ops[i],gQ hi,fun e he hb=>by
     have hlt:=pq D.edge i ops[i] (by simp[hi]) e he hb;exact ih e.on (by omega) (by omega)⟩
    rw[hr] at this;cases this
 have same: ∀listed:Array Bool,listed.size=ops.size->(∀i,i<ops.size->du listed i=true)->(cj (du listed) 0 s0 us).1=(cj (fun _=>true) 0 s0 us).1/\(cj (du listed) 0 s0 us).2=(cj (fun _=>true) 0 s0 us).2:=by
  intro listed hsz h;refine⟨funext fun x=>xo J fun j r hj _=>?_,funext fun x=>wq J fun j r hj _=>?_⟩<;>
  ·rw[dK];exact h j (by have:=(aS.1 hj).1;rw[D.len] at this;exact this)
 intro fuel
 induction fuel with
 |zero=>
  intro listed hsz hc hu;have all: ∀i,i<ops.size->du listed i=true:=fun i hi=>by
   cases hl:listed.getD i true with
   |true=>unfold du;simp only[bY] at hl⊢;rw[gQ (by omega)] at hl⊢;simpa using hl
   |false=>
    have h0:=List.length_eq_zero_iff.1 (Nat.le_zero.1 hu);have:=List.filter_eq_nil_iff.1 h0 i (qN.2 hi);simp[hl] at this
  obtain⟨e1,e2⟩:=same listed hsz all;rw[e1,e2];refine hk.imp fun a w h=>⟨?_,h⟩;refine List.eq_nil_iff_forall_not_mem.2 fun i hi=>?_;obtain⟨h1,o,ho,_⟩:=mem_ready.1 hi;have hlt:=(fK.1 ho).1;have h2:=all i hlt;unfold du at h2;simp only[bY] at h1 h2;rw[gQ (by omega)] at h1 h2;simp at h1 h2;rw[h1] at h2;cases h2
 |succ fuel ih=>
  intro listed hsz hc hu;refine⟨fun ρ G ov a w r=>⟨fun hr=>?_,fun i hi=>?_⟩⟩
  ·obtain⟨e1,e2⟩:=same listed hsz (done listed hsz hr)
   rw[e1,e2] at r;exact hk.run ρ G ov a w r
  ·obtain⟨h1,o,ho,hall⟩:=mem_ready.1 hi
   have hlt:=(fK.1 ho).1;have hli:du listed i=false:=by
    unfold du;simp only[bY] at h1⊢;rw[gQ (by omega)] at h1⊢;simpa using h1
   obtain⟨u,hui⟩: ∃u,us[i]? =some u:=⟨us[i]'(by rw[D.len];exact hlt),aX _⟩;obtain⟨hd,hop⟩:=D.snd i u o hui ho;have bl: ∀j,Bf ops.toList i j->du listed j=true:=fun j hb=>by
    cases hb with
    |b ho' he hb=>rw[oR,ho] at ho';cases ho';exact hall _ he hb
    |s ho' he hb h=>rw[oR,ho] at ho';cases ho';exact clo listed hc _ _ h (hall _ he hb)
   have nb: ∀j r,us[j]? =some r->(ld r u=true\/ld u r=true)->decide (j<i)=du listed j:=fun j r hj hh=>by
    rcases Nat.lt_trichotomy j i with h|h|h
    ·rw[bl j ((spec i u hui j r hj h).1 (hh.imp id .inl))];simpa using h
    ·subst h;rw[hli];simp
    ·cases hl:du listed j with
     |false=>simp;omega
     |true=>have:=clo listed hc j i ((spec j r hj i u hui h).1 (hh.symm.imp id .inl)) hl;rw[hli] at this;cases this
   have sz':(listed.setIfInBounds i true).size=ops.size:=by simpa using hsz
   have l': ∀j,j≠i->du (listed.setIfInBounds i true) j=du listed j:=fun j hj=>by unfold du;rw[getD_set_ne false (Ne.symm hj)]
   have li':du (listed.setIfInBounds i true) i=true:=by unfold du;simp[hsz,hlt]
   have hc': ∀j o',ops[j]? =some o'->du (listed.setIfInBounds i true) j=true-> ∀e∈o'.after,Region.binds .any e=true->du (listed.setIfInBounds i true) e.on=true:=fun j o' hj hlj e he hb=>by
    by_cases hji:j=i
    ·subst hji;rw[ho] at hj;cases hj
     exact getD_set_true (hall e he hb)
    ·rw[l' j hji] at hlj
     exact getD_set_true (hc j o' hj hlj e he hb)
   have hu':un ops (listed.setIfInBounds i true)<=fuel:=by
    have:un ops (listed.setIfInBounds i true)<un ops listed:=by
     refine IY (x:=i) (qN.2 hlt) (fun y hy=>?_) (by simp[h1]) (by simp[hsz,hlt]);by_cases hyi:y=i
     ·subst hyi;simp[hsz,hlt] at hy
     ·rwa [getD_set_ne true (Ne.symm hyi)] at hy
    omega
   have next:=ih _ sz' hc' hu'
   have e1:(cj (du (listed.setIfInBounds i true)) 0 s0 us).1=dP (cj (du listed) 0 s0 us).1 o.dst u.f:=by
    funext x;rw[hd];by_cases hx:u.d=some x
    ·-- i is the last to write x
     have key: ∀(us':List Rc) (k:Nat) (s:ST) (p:Nat->Bool) (m:Nat),us'[m]? =some u->p (k+m)=true->(∀j r,us'[j]? =some r->r.d=some x->j≠m->j<m\/p (k+j)=false)->(cj p k s us').1 x=some u.f:=by
      intro us'
      induction us' with
      |nil=>intro k s p m h;simp at h
      |cons r t iht=>
       intro k s p m h hp hj;simp only[cj]
       cases m with
       |zero=>
        simp at h;subst h;rw[eJ] at hp;rw[hp];have:(cj p (k+1) (r.ap s) t).1 x=(cj (fun _=>false) (k+1) (r.ap s) t).1 x:=xo J fun j r' hj' hd'=>by
         have:=hj (j+1) r' (by simpa using hj') hd' (by omega);rw[show k+(j+1)=k+1+j by omega] at this;exact this.resolve_left (by omega)
        simp only[if_true,this];have nosel: ∀(l:List Rc) (k:Nat) (s:ST),cj (fun _=>false) k s l=s:=fun l=>by
         induction l with
         |nil=>intro k s;rfl
         |cons y l ih=>intro k s;exact ih _ _
        rw[nosel];simp[Rc.ap,dP,hx]
       |succ m=>
        refine iht _ _ p m (by simpa using h) (by rw[show k+1+m=k+(m+1) by omega];exact hp) fun j r' hj' hd' hne=>?_;have:=hj (j+1) r' (by simpa using hj') hd' (by omega);rw[show k+1+j=k+(j+1) by omega];exact this.imp (fun h=>by omega) id
     rw[key us 0 s0 _ i hui (by rw[dK];exact li') fun j r hj hdr hne=>?_]
     ·rw[hx];simp[dP]
     ·rw[dK,l' j hne]
      have:=nb j r hj (.inl (by simp[ld,hdr,hx,vD]));rw[<-this];by_cases hji:j<i
      ·exact .inl hji
      ·exact .inr (by simpa using hji)
    ·rw[Fb hx]
     refine xo J fun j r hj hdr=>?_;rw[dK];exact l' j fun e=>by subst e;rw[hui] at hj;cases hj;exact hx hdr
   have e2:(cj (du (listed.setIfInBounds i true)) 0 s0 us).2=upB (cj (du listed) 0 s0 us).2 u.bl:=by
    funext x;by_cases hx: ∃e∈u.bl,e.1=x
    ·have key: ∀(us':List Rc) (k:Nat) (s s':ST) (p q:Nat->Bool) (m:Nat),us'[m]? =some u->p (k+m)=true->(∀j r,us'[j]? =some r->(∃e∈r.bl,e.1=x)->j≠m->q (k+j)=p (k+j)/\(j<m\/p (k+j)=false))->q (k+m)=false->s.2 x=s'.2 x->(cj p k s us').2 x=upB (cj q k s' us').2 u.bl x:=by
      intro us'
      induction us' with
      |nil=>intro k s s' p q m h;simp at h
      |cons r t iht=>
       intro k s s' p q m h hp hj hq hs;simp only[cj]
       cases m with
       |zero=>
        simp at h;subst h;rw[eJ] at hp hq;rw[hp,hq];have nosel: ∀(l:List Rc) (k:Nat) (s:ST),cj (fun _=>false) k s l=s:=fun l=>by
         induction l with
         |nil=>intro k s;rfl
         |cons y l ih=>intro k s;exact ih _ _
        have a1:(cj p (k+1) (r.ap s) t).2 x=(cj (fun _=>false) (k+1) (r.ap s) t).2 x:=wq J fun j r' hj' hd'=>by
         have:=(hj (j+1) r' (by simpa using hj') hd' (by omega)).2;rw[show k+(j+1)=k+1+j by omega] at this;exact this.resolve_left (by omega)
        have a2:(cj q (k+1) s' t).2 x=(cj (fun _=>false) (k+1) s' t).2 x:=wq J fun j r' hj' hd'=>by
         obtain⟨h3,h4⟩:=hj (j+1) r' (by simpa using hj') hd' (by omega);rw[show k+(j+1)=k+1+j by omega] at h3 h4;rw[h3];exact h4.resolve_left (by omega)
        simp only[if_true,cM,if_false,a1,nosel];exact AC fun _=>by rw[a2,nosel];exact hs
       |succ m=>
        refine iht _ _ _ p q m (by simpa using h) (by rw[show k+1+m=k+(m+1) by omega];exact hp) (fun j r' hj' hd' hne=>?_) (by rw[show k+1+m=k+(m+1) by omega];exact hq) ?_
        ·obtain⟨h3,h4⟩:=hj (j+1) r' (by simpa using hj') hd' (by omega)
         rw[show k+1+j=k+(j+1) by omega];exact⟨h3,h4.imp (fun h=>by omega) id⟩
        ·by_cases hr: ∃e∈r.bl,e.1=x
         ·have:=(hj 0 r J hr (by omega)).1
          rw[eJ] at this;rw[this]
          cases p k
          ·exact hs
          ·exact AC fun _=>hs
         ·have: ∀(b:Bool) (s:ST),(if b then r.ap s else s).2 x=s.2 x:=fun b s=>by
           cases b
           ·rfl
           ·exact Be fun e he hc=>hr ⟨e,he,hc⟩
          rw[this,this];exact hs
     refine key us 0 s0 s0 _ _ i hui (by rw[dK];exact li') (fun j r hj hdr hne=>?_) (by rw[dK];exact hli) J;rw[dK];refine⟨(l' j hne).symm,?_⟩;rw[l' j hne];obtain⟨e,he,rfl⟩:=hx;obtain⟨e',he',hee⟩:=hdr;have hh:ld u r=true:=by
      unfold ld;rw[iT];exact .inr (nL.2 ⟨e,he,by rw[iT];exact .inr (nL.2 ⟨e',he',by simpa using hee⟩)⟩)
     rw[<-nb j r hj (.inr hh)];by_cases hji:j<i
     ·exact .inl hji
     ·exact .inr (by simpa using hji)
    ·rw[Be fun e he hc=>hx ⟨e,he,hc⟩]
     refine wq J fun j r hj hdr=>?_;rw[dK];exact l' j fun e=>by subst e;rw[hui] at hj;cases hj;exact hx hdr
   rw[e1,e2] at next
   have sub1:i0 (kv u.rs (cj (fun j=>decide (j<i)) 0 s0 us).1) (cj (du listed) 0 s0 us).1:=fun x f hx=>by
    unfold kv at hx
    cases hm:r5 u.rs x with
    |false=>rw[hm] at hx;cases hx
    |true=>
     rw[hm,cond_true] at hx;rw[<-hx];refine(xo J fun j r hj hdr=>?_).symm;rw[dK];exact nb j r hj (.inl (by simp[ld,hdr,hm]))
   have sub2:i0 (kv u.rn (cj (fun j=>decide (j<i)) 0 s0 us).2) (cj (du listed) 0 s0 us).2:=fun x B hx=>by
    unfold kv at hx
    cases hm:r5 u.rn x with
    |false=>rw[hm] at hx;cases hx
    |true=>
     rw[hm,cond_true] at hx;rw[<-hx];refine(wq J fun j r hj hdr=>?_).symm;rw[dK];obtain⟨e,he,rfl⟩:=hdr;refine nb j r hj (.inl ?_);unfold ld;rw[iT];exact .inr (nL.2 ⟨e,he,by rw[hm];rfl⟩)
   have fr:kc u.nw o.dst (cj (du listed) 0 s0 us).1 (cj (du listed) 0 s0 us).2:=fun nm hnm=>by
    obtain⟨g1,g2⟩:=D.fr0 u (bZ hui) nm hnm;have men: ∀j r,us[j]? =some r->du listed j=true->n5 r nm=false:=fun j r hj hlj=>by
     rcases Nat.lt_trichotomy j i with h|h|h
     ·exact(spec i u hui j r hj h).2 nm hnm
     ·subst h;rw[hli] at hlj;cases hlj
     ·cases hm:n5 r nm with
      |false=>rfl
      |true=>have:=clo listed hc j i ((spec j r hj i u hui h).1 (.inr (.inr ⟨nm,hnm,hm⟩))) hlj;rw[hli] at this;cases this
    refine⟨fun k f hk e=>?_,fun k B hk e hm=>?_⟩
    ·intro hc'
     rcases Pg e with h|⟨j,r,h1,h2,h3,h4⟩
     ·exact g1 k f h hc'
     ·have:=men j r h1 (by simpa using h2)
      simp only[n5,rL,uw] at this;rw[h4,yx.2 hc'] at this
      cases this.1
    ·rcases LJ e with h|⟨j,r,h1,h2,h3⟩
     ·exact g2 k B h hm
     ·have:=men j r h1 (by simpa using h2)
      simp only[n5,rL] at this;have:=List.any_eq_false.1 this.2 _ h3;exact this (Gl hm)
   have fin:=hop Q _ _ _ sub1 sub2 fr next
   have:=fin.run ρ G ov a w r;unfold wO at this;unfold wpOpIn;rw[ho];simp only;split
   ·rename_i hw;rw[if_pos hw] at this;exact this
   ·rename_i hw;rw[if_neg hw] at this;exact⟨fun _ _=>trivial,this⟩
def Bl(m k:Nat):du (Array.replicate m false) k=false:=by unfold du;simp[pM];split<;>rfl
def iA.region{us:List Rc}{s0:ST}{id:Nat}(D:iA P GB C n ops us s0)(hm:P.follows .mixedOrders=true)(hk:SX GB C n (cj (fun _=>true) 0 s0 us).1 (cj (fun _=>true) 0 s0 us).2 (Q .normal)):SX GB C n s0.1 s0.2 (f5 C.rd P (.region id ops true) Q):=by
 have h:=D.walk hk ops.size (Array.replicate ops.size false) (by simp) (fun i o _ hi=>by rw[Bl] at hi;cases hi) (by unfold un;exact dW (rW _ _) (by simp));have e:cj (du (Array.replicate ops.size false)) 0 s0 us=s0:=by
  have: ∀(l:List Rc) (k:Nat) (s:ST),cj (du (Array.replicate ops.size false)) k s l=s:=fun l=>by
   induction l with
   |nil=>intro k s;rfl
   |cons y l ih=>
    intro k s;simp only[cj];rw[ih];rw[Bl];rfl
  exact this us 0 s0
 rw[e] at h;exact h.drew.imp fun a w k=>wpIn_region_any hm k
end
end Go.Sx
end
