import Derived.Test.YtochlbkonkgedaaGreatDoorQb3
import Derived.CallsIn
import Derived.OrdersIn
import Derived.TacticsIn
import Derived.RangeFuncIn
import Derived.RangeFuncRecord
set_option linter.all false
set_option maxRecDepth 100000
section
namespace Go.Sx
open Go
def l9{α β:Type}:List α->(List α->β)->β
 |[],k=>k []
 |x::t,k=>l9 t fun t'=>k (x::t')
def tP{α β:Type}: ∀(l:List α) (k:List α->β),l9 l k=k l
 |[],_=>rfl
 |x::t,k=>by rw[l9,tP t]
def takeX:List FX->Nat->Nat->Option (List FX)
 |_,0,0=>some []
 |[],0,_+1=>none
 |v::t,0,k+1=>match takeX t 0 k with|some l=>some (v::l)|none=>none
 |[],_+1,_=>none
 |_::t,off+1,k=>takeX t off k
def x4:List FX->Nat->List FX->List FX
 |[],_,_=>[]
 |c::t,0,vs=>match vs with
  |[]=>c::t
  |v::vs=>v::x4 t 0 vs
 |c::t,off+1,vs=>c::x4 t off vs
def RE: ∀(n:List Value) (off:Nat),cE [] off n=[]
 |[],_=>rfl
 |_::n,off=>RE n (off+1)
def Kk: ∀(n:List Value) (y:Value) (m:List Value) (off:Nat),cE (y::m) (off+1) n=y::cE m off n
 |[],_,_,_=>rfl
 |v::n,y,m,off=>Kk n y (m.set off v) (off+1)
section
variable {ρ:NE} {G:Gh}
def dC.takeX: ∀{ds:List FX} {m:List Value} {off k:Nat} {l:List FX},dC ρ G ds m->takeX ds off k=some l-> ∃n,cH m off k=some n/\dC ρ G l n
 |[],m,0,0,l,h,e=>by cases e;rw[show m=[] from h];exact⟨[],J,J⟩
 |d::t,m,0,0,l,⟨y,n,e1,h1,h2⟩,e=>by subst e1;cases e;exact⟨[],J,J⟩
 |[],m,0,k+1,l,h,e=>by simp[Sx.takeX] at e
 |d::t,m,0,k+1,l,⟨y,n,e1,h1,h2⟩,e=>by
  subst e1;simp only[Sx.takeX] at e;split at e
  ·rename_i l' hl'
   cases e
   obtain⟨q,hq,hl⟩:=h2.takeX hl';exact⟨y::q,by simp only[cH,hq],y,q,J,h1,hl⟩
  ·cases e
 |[],m,off+1,k,l,h,e=>by simp[Sx.takeX] at e
 |d::t,m,off+1,k,l,⟨y,n,e1,h1,h2⟩,e=>by subst e1;exact h2.takeX (off:=off) (k:=k) e
def dC.ov: ∀{ds:List FX} {m:List Value} {off:Nat} {vs:List FX} {n:List Value},dC ρ G ds m->dC ρ G vs n->dC ρ G (x4 ds off vs) (cE m off n)
 |[],m,off,vs,n,h,k=>by rw[show m=[] from h,RE];rfl
 |d::t,m,0,[],n,h,k=>by rw[show n=[] from k];exact h
 |d::t,m,0,v::vs,n,⟨y,m',e,h1,h2⟩,⟨u,n',e',k1,k2⟩=>by
  subst e e';show dC ρ G (v::x4 t 0 vs) (cE (u::m') 1 n');rw[Kk];exact⟨u,_,J,k1,h2.ov k2⟩
 |d::t,m,off+1,vs,n,⟨y,m',e,h1,h2⟩,k=>by
  subst e;rw[Kk];exact⟨y,_,J,h1,h2.ov k⟩
def DD:List FX->Option (List DV×Nat×List DV)
 |[]=>none
 |f::t=>match f with
  | .rw nm=>match js t with
   |some post=>some ([],nm,post)
   |none=>none
  |f=>match lh f,DD t with
   |some d,some (pre,nm,post)=>some (d::pre,nm,post)
   |_,_=>none
def Mr: ∀{l:List FX} {m:List Value} {pre:List DV} {nm:Nat} {post:List DV},dC ρ G l m->DD l=some (pre,nm,post)-> ∃m1 m2,m=m1++Value.slice (ρ nm).a (ρ nm).n (ρ nm).c::m2/\IsLs G pre m1/\IsLs G post m2
 |[],m,pre,nm,post,h,e=>by cases e
 |f::t,m,pre,nm,post,⟨y,n,e1,h1,h2⟩,e=>by
  subst e1;simp only[DD] at e;split at e
  ·split at e<;>cases e
   rename_i hp
   cases (show y=_ from h1)
   exact⟨[],n,J, .nil,tv h2 hp⟩
  ·split at e<;>cases e
   rename_i hd hu;obtain⟨m1,m2,rfl,k1,k2⟩:=Mr h2 hu;exact⟨y::m1,m2,J, .cons (oy h1 hd) k1,k2⟩
def wo(l:List FX):Option FX:=match js l with
 |some ds=>some (.d (.ag ds))
 |none=>match DD l with
  |some (pre,nm,post)=>some (.bx false pre nm post)
  |none=>none
def K3{l:List FX}{n:List Value}{f:FX}(h:dC ρ G l n)(e:wo l=some f):cb ρ G f (.agg ⟨n⟩):=by
 unfold wo at e;split at e
 ·rename_i hd;cases e;exact c7.2 ⟨n,rfl,tv h hd⟩
 ·split at e<;>cases e
  rename_i hu;obtain⟨m1,m2,rfl,k1,k2⟩:=Mr h hu;exact⟨m1,m2,J,k1,k2⟩
def FO:Nat->List DV->Nat->List DV->Option FX
 |0,[],nm,_=>some (.rw nm)
 |i+1,[],_,post=>match post[i]? with
  |some d=>some (.d d)
  |none=>none
 |0,d::_,_,_=>some (.d d)
 |i+1,_::t,nm,post=>FO i t nm post
def OA: ∀{i:Nat} {pre:List DV} {nm:Nat} {post:List DV} {f:FX} {m1 m2:List Value},FO i pre nm post=some f->IsLs G pre m1->IsLs G post m2-> ∃y,(m1++Value.slice (ρ nm).a (ρ nm).n (ρ nm).c::m2)[i]? =some y/\cb ρ G f y
 |0,[],nm,post,f,m1,m2,e,h1,h2=>by cases e;rw[co.1 h1];exact⟨_,J,J⟩
 |i+1,[],nm,post,f,m1,m2,e,h1,h2=>by
  rw[co.1 h1];simp only[FO] at e;split at e<;>cases e;rename_i hp;obtain⟨l',h3,h4⟩:=h2.get hp;exact⟨l',by simpa using h3,h4⟩
 |0,d::t,nm,post,f,m1,m2,e,h1,h2=>by
  cases e
  obtain⟨y,n,rfl,k1,k2⟩:=aP.1 h1;exact⟨y,J,k1⟩
 |i+1,d::t,nm,post,f,m1,m2,e,h1,h2=>by
  obtain⟨y,n,rfl,k1,k2⟩:=aP.1 h1;obtain⟨u,h3,h4⟩:=OA (i:=i) e k2 h2;exact⟨u,by simpa using h3,h4⟩
end
structure CR where
 vc:Option Prop
 f:FX
 bl:List (Nat×Option Bk)
 nw:List Nat
def kq:IntKind->IntKind->Bool
 | .i64, .i64=>true
 | .u64, .u64=>true
 | .u32, .u32=>true
 | .u8, .u8=>true
 | .i32, .i32=>true
 |_,_=>false
def F8{k j:IntKind}(h:kq k j=true):j=k:=by cases k<;>cases j<;>first|rfl|(simp[kq] at h)
def K8{α:Type}(k:IntKind)(x:Int)(K:Prop->Option α):Option α:=match k with
 | .i64=>K (-9223372036854775808<=x/\x<=9223372036854775807)
 | .u64=>K (0<=x/\x<=18446744073709551615)
 | .u32=>K (0<=x/\x<=4294967295)
 | .u8=>K (0<=x/\x<=255)
 | .i32=>K (-2147483648<=x/\x<=2147483647)
 |_=>none
def aDk{α:Type}{k:IntKind}{x:Int}{K:Prop->Option α}{r:α}(h:K8 k x K=some r): ∃p,K p=some r/\(p->k.min<=x/\x<=k.max):=by
 cases k<;>first|(simp[K8] at h;done)|exact⟨_,h,id⟩
def AK(k:IntKind)(x:Int):Option (Option Prop×FX):=K8 k x fun p=>some (some p, .d (.v (.int k x)))
def Cn(op:BinOp)(k:IntKind)(p q:Int):Option (Option Prop×FX):=match op with
 | .add=>AK k (p+q)
 | .sub=>AK k (p-q)
 | .mul=>AK k (p*q)
 | .quo=>match k with
  | .u64=>some (some (0<=p/\p<=18446744073709551615/\0<q), .d (.v (.int .u64 (p/q))))
  |k=>some (some (q≠0), .d (.v (.int k (k.wrap (p.tdiv q)))))
 | .rem=>match k with
  | .u64=>some (some (0<=p/\q≠0), .d (.v (.int .u64 (p%q))))
  | .u32=>some (some (0<=p/\q≠0), .d (.v (.int .u32 (p%q))))
  |k=>some (some (q≠0), .d (.v (.int k (p.tmod q))))
 | .shr=>some (some (0<=q), .d (.v (.int k (p.fdiv (2^min q.toNat k.bits)))))
 | .shl=>some (some (0<=q), .d (.v (.int k (k.wrap (p*2^min q.toNat k.bits)))))
 | .or=>match k with
  | .u64=>some (none, .d (.v (.int .u64 ((BitVec.ofInt 64 p ||| BitVec.ofInt 64 q).toNat:Nat))))
  | .u32=>some (none, .d (.v (.int .u32 ((BitVec.ofInt 32 p ||| BitVec.ofInt 32 q).toNat:Nat))))
  |_=>none
 | .and=>match k with
  | .u64=>some (none, .d (.v (.int .u64 ((BitVec.ofInt 64 p &&& BitVec.ofInt 64 q).toNat:Nat))))
  | .u32=>some (none, .d (.v (.int .u32 ((BitVec.ofInt 32 p &&& BitVec.ofInt 32 q).toNat:Nat))))
  |_=>none
 | .lss=>some (none, .pr (p<q) inferInstance)
 | .leq=>some (none, .pr (p<=q) inferInstance)
 | .gtr=>some (none, .pr (q<p) inferInstance)
 | .geq=>some (none, .pr (q<=p) inferInstance)
 | .eql=>some (none, .pr (p=q) inferInstance)
 | .neq=>some (none, .pr (p≠q) inferInstance)
 |_=>none
def ue:FX->Option Bool
 | .tt=>some true
 | .ff=>some false
 | .pr p h=>some (@decide p h)
 | .d (.v (.bool b))=>some b
 |_=>none
def xp{ρ:NE}{G:Gh}{f:FX}{b:Bool}{y:Value}(h:cb ρ G f y)(e:ue f=some b):y= .bool b:=by
 unfold ue at e;split at e<;>first|(cases e;done)|(cases e;exact h)|(cases e;exact(aH (G:=G)).1 h)
def HL:FX->Option FX
 | .tt=>some .ff
 | .ff=>some .tt
 | .pr p h=>some (.pr (¬p) (@instDecidableNot p h))
 | .d (.v (.bool b))=>some (.d (.v (.bool (!b))))
 |_=>none
def Xi{ρ:NE}{G:Gh}{f g:FX}{y:Value}(h:cb ρ G f y)(e:HL f=some g): ∃b,y= .bool b/\cb ρ G g (.bool (!b)):=by
 unfold HL at e;split at e
 ·cases e;exact⟨true,h,J⟩
 ·cases e;exact⟨false,h,J⟩
 ·rename_i p hp
  cases e
  refine⟨@decide p hp,h,?_⟩;show Value.bool _= .bool _;congr 1
  cases hp<;>rfl
 ·rename_i b;cases e;exact⟨b,(aH (G:=G)).1 h,(aH (G:=G)).2 rfl⟩
 ·cases e
def JK(T:TT)(t:TypeId)(f:FX)(y:Operand):Option Bool:=match dB T t with
 |some ⟨.fc,_,_,_⟩=>match y,f with
  | .const .nilIface, .d (.v .nilIface)=>some true
  | .const .nilIface, .d (.v (.iface _ _))=>some false
  |_,_=>none
 |some ⟨.pt,_,_,_⟩=>match y,f with
  | .const (.pointer none), .d (.v (.pointer none))=>some true
  | .const (.pointer none), .ov _ _=>some false
  | .const (.pointer none), .ep _=>some false
  | .const (.pointer none), .be _ _ _ _=>some false
  | .const (.pointer none), .d (.pt _)=>some false
  |_,_=>none
 |some ⟨.sl _ _ _,_,_,_⟩=>match y,f with
  | .const (.slice none _ _), .nl=>some true
  |_,_=>none
 |_=>none
def Pd(T:TT)(op:BinOp)(t:TypeId)(b:Bool):Option (Option Prop×FX):=match dB T t with
 |some ⟨.pt,_,_,_⟩=>match op with
  | .eql=>some (none, .pr (b=false) inferInstance)
  | .neq=>some (none, .pr (b=true) inferInstance)
  |_=>none
 |_=>none
def Iz(T:TT)(op:BinOp)(t:TypeId)(f g:FX)(y:Operand):Option (Option Prop×FX):=
 match f,g with
 | .d (.v (.int k p)), .d (.v (.int j q))=>match op with
  | .shr=>Cn .shr k p q
  | .shl=>Cn .shl k p q
  |op=>bif kq k j then Cn op k p q else none
 | .d (.op b _), .d (.v (.pointer none))=>Pd T op t b
 |f,g=>match JK T t f y with
  |some b=>match op with
   | .eql=>some (none,bif b then .tt else .ff)
   | .neq=>some (none,bif b then .ff else .tt)
   |_=>none
  |none=>match dB T t,ue f,ue g with
   |some ⟨.bl,_,_,_⟩,some a,some b=>match op with
    | .eql=>some (none, .d (.v (.bool (a==b))))
    | .neq=>some (none, .d (.v (.bool (!(a==b)))))
    |_=>none
   |_,_,_=>none
def Gr(mx:Bool)(f g:FX):Option FX:=match f,g with
 | .d (.v (.int k p)), .d (.v (.int j q))=>bif kq k j then(match mx with
  |true=>some (.d (.v (.int k (if q>p then q else p))))
  |false=>some (.d (.v (.int k (if q<p then q else p))))) else none
 |_,_=>none
def Lp(bk:BM)(i:TI)(f:FX):Option FX:=match i.ag with
 |some (some k)=>match f with
  | .ov nm off=>match bk nm with
   |some (.o _ cs _)=>match takeX cs off k with
    |some l=>wo l
    |none=>none
   |_=>none
  | .ep cs=>match takeD cs 0 k with
   |some l=>some (.d (.ag l))
   |none=>none
  |_=>none
 |some none=>match f with
  | .ov nm off=>match bk nm with
   |some (.o _ cs _)=>cs[off]?
   |_=>none
  | .ep cs=>match cs with
   |d::_=>some (.d d)
   |[]=>none
  |_=>none
 |none=>none
def FX.flat:FX->Bool
 | .d x=>x.flat
 | .bx _ _ _ _=>false
 | .un=>false
 | .no=>false
 |_=>true
def AQ(f:FX)(d:Nat):Bool:=match f.nm with
 |some m=>!Nat.beq m d
 |none=>true
def EQ(bk:BM)(i:TI)(fa fv:FX):Option (List (Nat×Option Bk)):=match fa with
 | .ov nm off=>match bk nm with
  |some (.o ty cs lo)=>match i.ag with
   |some (some k)=>bif fv.okc&&(Nat.beq fv.cells.length k&&Nat.ble (off+k) cs.length) then l9 (x4 cs off fv.cells) fun cs'=>some [(nm,some (.o ty cs' lo))] else none
   |some none=>bif fv.flat&&Nat.blt off cs.length then l9 (cs.set off fv) fun cs'=>some [(nm,some (.o ty cs' lo))] else none
   |none=>none
  |_=>none
 |_=>none
def tB(lk:LK)(fo:List (Nat×Nat×Nat)):List FX->List (Nat×Operand)->Option (List FX)
 |cs,[]=>some cs
 |cs,(i,x)::r=>match fo[i]?,aO lk x with
  |some (off,_,k),some d=>bif d.okc&&(Nat.beq d.cells.length k&&Nat.ble (off+k) cs.length) then tB lk fo (x4 cs off d.cells) r else none
  |_,_=>none
def Kn(bk:BM)(f:FX):Option FX:=match f with
 | .nl=>some (.d (.v (.int .i64 0)))
 | .d (.sl l)=>some (.d (.v (.int .i64 (l.length:Nat))))
 | .ct l=>some (.d (.v (.int .i64 (l.length:Nat))))
 | .rw nm=>match bk nm with
  |some (.b _ _ ds _)=>some (.d (.v (.int .i64 (ds.length:Nat))))
  |_=>none
 |_=>none
def Ji(fo:List (Nat×Nat×Nat))(i:Nat)(f:FX):Option FX:=match fo[i]? with
 |some (off,_,_+1)=>match f with
  | .ov nm o=>some (.ov nm (o+off))
  | .ep l=>bif Nat.ble off l.length then l9 (l.drop off) fun l'=>some (.ep l') else none
  | .be nm s i j=>some (.be nm s i (j+off))
  |_=>none
 |_=>none
def HP(T:TT)(fo:List (Nat×Nat×Nat))(i:Nat)(f:FX):Option FX:=match f with
 | .d (.ag cs)=>match fo[i]? with
  |some (off,ft,_)=>match dB T ft with
   |some j=>match j.ag with
    |some (some k)=>match takeD cs off k with
     |some l=>some (.d (.ag l))
     |none=>none
    |some none=>match cs[off]? with
     |some c=>some (.d c)
     |none=>none
    |none=>none
   |none=>none
  |none=>none
 |_=>none
def I0(T:TT)(t t':TypeId)(f:FX):Option (Option Prop×FX):=match dB T t,dB T t' with
 |some ⟨.int k,_,_,_⟩,some ⟨.int k',_,_,_⟩=>match f with
  | .d (.v (.int j p))=>bif kq k j then(match k' with
   | .u32=>some (none, .d (.v (.int .u32 (p%4294967296))))
   |k'=>AK k' p) else none
  |_=>none
 |_,_=>none
def Ht(T:TT)(bk:BM)(t:TypeId)(f g:FX):Option (Option Prop×FX):=match f with
 | .rw nm=>match bk nm with
  |some (.b _ s ds _)=>match dB T t with
   |some ⟨.sl _ s' _,_,_,_⟩=>match g with
    | .d (.v (.int _ i))=>bif Nat.beq s s' then some (some (0<=i/\i<(ds.length:Nat)), .be nm s i.toNat 0) else none
    |_=>none
   |_=>none
  |_=>none
 |_=>none
def pq(r:Option FX):Option CR:=match r with
 |some f=>some ⟨none,f,[],[]⟩
 |none=>none
def yb(r:Option (Option Prop×FX)):Option CR:=match r with
 |some (v,f)=>some ⟨v,f,[],[]⟩
 |none=>none
def vz{α:Type}(lk:LK)(x y:Operand)(K:FX->FX->Option α):Option α:=match aO lk x with
 |some f=>match aO lk y with
  |some g=>K f g
  |none=>none
 |none=>none
def pi{α:Type}(lk:LK)(x:Operand)(K:FX->Option α):Option α:=match aO lk x with
 |some f=>K f
 |none=>none
def Cy{α:Type}(T:TT)(t:TypeId)(K:List (Nat×Nat×Nat)->TI->Option α):Option α:=match dB T t with
 |some ⟨.st fo,sz,z,za⟩=>K fo ⟨.st fo,sz,z,za⟩
 |_=>none
def CQ{α:Type}(T:TT)(t:TypeId)(K:TI->Option α):Option α:=match dB T t with
 |some i=>K i
 |none=>none
def KF(i:Nat)(f:FX):Option FX:=match f with
 | .d (.tp ds)=>match ds[i]? with
  |some d=>some (.d d)
  |none=>none
 | .bx true pre nm post=>FO i pre nm post
 |_=>none
def IX(f:FX):Option (Option Prop×FX):=match f with
 | .ov a b=>some (none, .ov a b)
 | .ep l=>some (none, .ep l)
 | .be a b c d=>some (none, .be a b c d)
 | .d (.pt l)=>some (none, .ep l)
 | .d (.op b l)=>some (some (b=true), .ep l)
 |_=>none
def JL(c f g:FX):Option FX:=match c with
 | .tt=>some f
 | .ff=>some g
 |_=>none
def HR(op:UnOp)(f:FX):Option (Option Prop×FX):=match op with
 | .not=>match HL f with
  |some g=>some (none,g)
  |none=>none
 | .neg=>match f with
  | .d (.v (.int k p))=>AK k (-p)
  |_=>none
 |_=>none
def AA(T:TT)(lk:LK)(bk:BM)(dst:Option Nat)(op:Op):Option CR:=match op with
 | .move x=>pq (aO lk x)
 | .assign x=>pq (aO lk x)
 | .pick c x y=>pi lk c fun c=>vz lk x y fun f g=>pq (JL c f g)
 | .alloc t=>match dst with
  |some d=>CQ T t fun i=>match i.z with
   |some z=>l9 z fun cs=>some ⟨none, .ov d 0,[(d,some (.o t cs true))],[d]⟩
   |none=>none
  |none=>none
 | .box t x=>match dst with
  |some d=>pi lk x fun f=>bif f.okc&&AQ f d then l9 f.cells fun cs=>some ⟨none, .ov d 0,[(d,some (.o t cs true))],[d]⟩ else none
  |none=>none
 | .nilCheck x=>pi lk x fun f=>yb (IX f)
 | .fieldAddr t x i=>Cy T t fun fo _=>pi lk x fun f=>pq (Ji fo i f)
 | .field t x i=>Cy T t fun fo _=>pi lk x fun f=>pq (HP T fo i f)
 | .load t x=>CQ T t fun i=>pi lk x fun f=>pq (Lp bk i f)
 | .store t x y=>CQ T t fun i=>vz lk x y fun f g=>match EQ bk i f g with
  |some bl=>some ⟨none, .un,bl,[]⟩
  |none=>none
 | .extract x i=>pi lk x fun f=>pq (KF i f)
 | .build t parts=>Cy T t fun fo i=>match i.z with
  |some z=>match tB lk fo z parts.toList with
   |some cs=>match wo cs with
    |some f=>some ⟨none,f,[],[]⟩
    |none=>none
   |none=>none
  |none=>none
 | .binOp op t x y _=>vz lk x y fun f g=>yb (Iz T op t f g y)
 | .unOp op _ x=>pi lk x fun f=>yb (HR op f)
 | .convert t t' x=>pi lk x fun f=>yb (I0 T t t' f)
 | .indexAddr t x y=>vz lk x y fun f g=>yb (Ht T bk t f g)
 | .call ⟨.builtin .len,⟨[x]⟩,⟨[t]⟩⟩=>match dB T t with
  |some ⟨.sl _ _ _,_,_,_⟩=>pi lk x fun f=>pq (Kn bk f)
  |_=>none
 | .call ⟨.builtin .max,⟨[x,y]⟩,⟨[_,_]⟩⟩=>vz lk x y fun f g=>pq (Gr true f g)
 | .call ⟨.builtin .min,⟨[x,y]⟩,⟨[_,_]⟩⟩=>vz lk x y fun f g=>pq (Gr false f g)
 |_=>none
section
variable {P:Program} {T:TT} {GB:Gh} {C:aD} {n:Nat} {lk:LK} {bk:BM} {ρ:NE} {G:Gh} {ov:List ak} {a:Act} {w:World}
variable {dst:Option Nat} {t t' ty':TypeId} {pos:String} {af:Array Edge} {gd:Option (Nat×Bool)} {x y z:Operand}
def aJh(P:Program)(GB:Gh)(C:aD)(n:Nat)(lk:LK)(bk:BM)(o:Oper)(r:CR):Prop:=(∀p,r.vc=some p->p)->b8 P GB C n lk bk o r.f r.bl r.nw
def sE{r:Option FX}{c:CR}(h:pq r=some c): ∃f,r=some f/\c=⟨none,f,[],[]⟩:=by
 unfold pq at h;split at h
 ·cases h;exact⟨_,J,J⟩
 ·cases h
def BY{r:Option (Option Prop×FX)}{c:CR}(h:yb r=some c): ∃v f,r=some (v,f)/\c=⟨v,f,[],[]⟩:=by
 unfold yb at h;split at h
 ·cases h;exact⟨_,_,J,J⟩
 ·cases h
def rC{α:Type}{K:FX->Option α}{r:α}(h:pi lk x K=some r): ∃f,aO lk x=some f/\K f=some r:=by
 unfold pi at h;split at h
 ·exact⟨_,by assumption,h⟩
 ·cases h
def AC{α:Type}{K:FX->FX->Option α}{r:α}(h:vz lk x y K=some r): ∃f g,aO lk x=some f/\aO lk y=some g/\K f g=some r:=by
 unfold vz at h;split at h
 ·split at h
  ·exact⟨_,_,by assumption,by assumption,h⟩
  ·cases h
 ·cases h
def JW{α:Type}{K:TI->Option α}{r:α}(hT:nf P T)(h:CQ T t K=some r): ∃i,fg P t=some i/\K i=some r:=by
 unfold CQ at h;split at h
 ·rename_i i hi;exact⟨i,hT _ _ hi,h⟩
 ·cases h
def KQ{α:Type}{K:List (Nat×Nat×Nat)->TI->Option α}{r:α}(hT:nf P T)(h:Cy T t K=some r): ∃fo i,fg P t=some i/\i.k= .st fo/\K fo i=some r:=by
 unfold Cy at h;split at h
 ·rename_i fo sz z za hi;exact⟨fo,_,hT _ _ hi,rfl,h⟩
 ·cases h
def b8.x1{o:Oper}{f g:FX}(e:aO lk x=some f)(h: ∀ρ G ov (a:Act) w y,bu C ov G w->bG GB C n lk bk ρ G ov a w->aw (cG a) x=some y->cb ρ G f y-> ∃u,cb ρ G g u/\Yd P C (cG a) ov G o u):b8 P GB C n lk bk o g [] []:=
 .yd fun ρ G ov a w r=>by
  obtain⟨y,h1,h2⟩:=r.ev e;exact h ρ G ov a w y r.h r h1 h2
def aCj{f:FX}(e:aO lk x=some f):b8 P GB C n lk bk ⟨dst, .move x,ty',pos,af,gd⟩ f [] []:= .x1 e fun _ _ _ _ _ y _ _ h1 h2=>⟨y,h2,fD h1⟩
def as6{f:FX}(e:aO lk x=some f):b8 P GB C n lk bk ⟨dst, .assign x,ty',pos,af,gd⟩ f [] []:= .x1 e fun _ _ _ _ _ y _ _ h1 h2=>⟨y,h2,Ju h1⟩
def Xm{c f g v:FX}(ec:aO lk z=some c)(e1:aO lk x=some f)(e2:aO lk y=some g)(h:JL c f g=some v):b8 P GB C n lk bk ⟨dst, .pick z x y,ty',pos,af,gd⟩ v [] []:= .yd fun ρ G ov a w r=>by
 obtain⟨u,h1,h2⟩:=r.ev ec;unfold JL at h;split at h
 ·cases h;cases h2;obtain⟨u,h3,h4⟩:=r.ev e1;exact⟨u,h4,s7 h1 h3⟩
 ·cases h;cases h2;obtain⟨u,h3,h4⟩:=r.ev e2;exact⟨u,h4,mf h1 h3⟩
 ·cases h
def aFo{f g:FX}{v:Option Prop}(e:aO lk x=some f)(h:IX f=some (v,g))(hv: ∀r,v=some r->r):b8 P GB C n lk bk ⟨dst, .nilCheck x,ty',pos,af,gd⟩ g [] []:= .x1 e fun ρ G ov a w y _ _ h1 h2=>by
 have key: ∀l,Is G (.pt l) y-> ∃u,cb ρ G (.ep l) u/\Yd P C (cG a) ov G ⟨dst, .nilCheck x,ty',pos,af,gd⟩ u:=fun l h2=>by
  obtain⟨b,m,rfl,hb,hm⟩:=pH.1 h2;refine⟨_,⟨b,0,m,m,J,hb,?_,hm⟩,lw h1⟩;rw[ma _ _ _ (by rw[hm.len];omega),jW,bX (by rw[hm.len];omega)]
 unfold IX at h;split at h<;>cases h
 ·obtain⟨b,hb,rfl⟩:=h2;exact⟨_,⟨b,hb,rfl⟩,lw h1⟩
 ·obtain⟨b,o,cs,m,rfl,h3⟩:=h2;exact⟨_,⟨b,o,cs,m,rfl,h3⟩,lw h1⟩
 ·obtain⟨b,hb,rfl⟩:=h2;exact⟨_,⟨b,hb,rfl⟩,lw h1⟩
 ·exact key _ h2
 ·rcases tj.1 (show Is G _ y from h2) with⟨e,_⟩|⟨_,h3⟩
  ·have:=hv _ J;rw[e] at this;cases this
  ·exact key _ h3
def Wr{f g:FX}{fo:List (Nat×Nat×Nat)}{i:TI}{k:Nat}(hi:fg P t=some i)(hk:i.k= .st fo)(e:aO lk x=some f)(h:Ji fo k f=some g):b8 P GB C n lk bk ⟨dst, .fieldAddr t x k,ty',pos,af,gd⟩ g [] []:= .x1 e fun ρ G ov a w y _ _ h1 h2=>by
 unfold Ji at h;split at h
 ·rename_i off ft s ho
  have:=aGx hi hk ho;split at h
  ·cases h;obtain⟨b,hb,rfl⟩:=h2;exact⟨_,⟨b,hb,rfl⟩,oF h1⟩
  ·rename_i l
   cases hb:Nat.ble off l.length with
   |false=>rw[hb] at h;cases h
   |true=>
    rw[hb,cond_true,tP] at h;cases h;obtain⟨b,o,cs,m,rfl,hb',ht,hm⟩:=h2;refine⟨_,⟨b,o+off,cs,m.drop off,J,hb',?_,hm.drop _⟩,oF h1⟩;rw[iW];exact FB ht (by simpa using hb)
  ·cases h
   obtain⟨b,hb,rfl⟩:=h2;exact⟨_,⟨b,hb,J⟩,by rw[<-kN];exact oF h1⟩
  ·cases h
 ·cases h
def Ws{f g:FX}{fo:List (Nat×Nat×Nat)}{i:TI}{k:Nat}(hT:nf P T)(hi:fg P t=some i)(hk:i.k= .st fo)(e:aO lk x=some f)(h:HP T fo k f=some g):b8 P GB C n lk bk ⟨dst, .field t x k,ty',pos,af,gd⟩ g [] []:= .x1 e fun ρ G ov a w y _ _ h1 h2=>by
 unfold HP at h;split at h<;>try (cases h;done)
 rename_i cs;split at h<;>try (cases h;done)
 rename_i off ft s ho;split at h<;>try (cases h;done)
 rename_i j hj;obtain⟨m,rfl,hm⟩:=c7.1 (show Is G _ y from h2);have:=aGB hi hk ho;split at h<;>try (cases h;done)
 ·rename_i q ha
  have:=Aq (hT _ _ hj) ha;split at h<;>cases h;rename_i l hl;obtain⟨l',h3,h4⟩:=hm.takeD hl;exact⟨.agg ⟨l'⟩,c7.2 ⟨l',J,h4⟩,Xe h1 h3⟩
 ·rename_i ha
  have:=A3 (hT _ _ hj) ha;split at h<;>cases h;rename_i c hc;obtain⟨l',h3,h4⟩:=hm.get hc;exact⟨l',h4,ZO h1 h3⟩
def bG.own{nm off:Nat}{y:Value}{ty:TypeId}{cs:List FX}{lo:Bool}(r:bG GB C n lk bk ρ G ov a w)(h2:cb ρ G (.ov nm off) y)(hb:bk nm=some (.o ty cs lo)): ∃b m,y= .pointer (some ⟨b,off,none⟩)/\(ρ nm).a=some ⟨b,0,none⟩/\dC ρ G cs m/\⟨b,m,ty,lo⟩∈ov:=by
 obtain⟨os,⟨b,m,h3,rfl,h4⟩,h5⟩:=r.bx _ _ hb;obtain⟨b',h6,rfl⟩:=h2;rw[h3] at h6;cases h6;exact⟨b,m,J,h3,h4,h5 _ aQ⟩
def ZQ{f g:FX}{i:TI}(hi:fg P t=some i)(e:aO lk x=some f)(h:Lp bk i f=some g):b8 P GB C n lk bk ⟨dst, .load t x,ty',pos,af,gd⟩ g [] []:= .x1 e fun ρ G ov a w y _ r h1 h2=>by
 unfold Lp at h;split at h<;>try (cases h;done)
 ·rename_i k ha
  have:=Aq hi ha;split at h<;>try (cases h;done)
  ·split at h<;>try (cases h;done)
   rename_i hb;split at h<;>try (cases h;done)
   rename_i l hl;obtain⟨b,m,rfl,h3,h4,h5⟩:=r.own h2 hb;obtain⟨l',h6,h7⟩:=h4.takeX hl;have:im ov b m _ _:=⟨h5⟩;exact⟨.agg ⟨l'⟩,K3 h7 h,Eo h1 h6⟩
  ·split at h<;>cases h
   rename_i hl;obtain⟨b,o,ms,m,rfl,hb,ht,hm⟩:=h2;obtain⟨l',h3,h4⟩:=hm.takeD hl;exact⟨.agg ⟨l'⟩,c7.2 ⟨l',J,h4⟩,Hx h1 hb (by simpa using MT ht h3)⟩
 ·rename_i ha
  have:=A3 hi ha;split at h<;>try (cases h;done)
  ·split at h<;>try (cases h;done)
   rename_i hb;obtain⟨b,m,rfl,h3,h4,h5⟩:=r.own h2 hb;obtain⟨l',h6,h7⟩:=h4.get h;have:im ov b m _ _:=⟨h5⟩;exact⟨l',h7,lE h1 h6⟩
  ·split at h<;>cases h
   obtain⟨b,o,ms,m,rfl,hb,ht,hm⟩:=h2;obtain⟨l',h3,h4⟩:=hm.get (i:=0) rfl;have:=Kq ht (i:=0) (Nat.succ_pos _);rw[fJ] at this;exact⟨l',h4,AB h1 hb (by rw[this];exact h3)⟩
def Wj{f g:FX}{i:Nat}(e:aO lk x=some f)(h:KF i f=some g):b8 P GB C n lk bk ⟨dst, .extract x i,ty',pos,af,gd⟩ g [] []:= .x1 e fun ρ G ov a w y _ r h1 h2=>by
 unfold KF at h;split at h<;>try (cases h;done)
 ·split at h<;>cases h
  rename_i hv;obtain⟨m,rfl,hm⟩:=jv.1 (show Is G _ y from h2);obtain⟨l',h3,h4⟩:=hm.get hv;exact⟨l',h4,H9 h1 (by simpa using h3)⟩
 ·obtain⟨m1,m2,rfl,k1,k2⟩:=h2
  obtain⟨l',h3,h4⟩:=OA (ρ:=ρ) h k1 k2;exact⟨l',h4,H9 h1 (by simpa using h3)⟩
def DC{fo:List (Nat×Nat×Nat)}(r:bG GB C n lk bk ρ G ov a w): ∀(ps:List (Nat×Operand)) (cs out:List FX) (m:List Value),tB lk fo cs ps=some out->dC ρ G cs m-> ∃l,uN (cG a) (fo.map fun x=>(x.1,x.2.2)) m ps=some l/\dC ρ G out l
 |[],cs,out,m,e,hm=>by simp only[tB] at e;cases e;exact⟨m,J,hm⟩
 |(i,x)::ps,cs,out,m,e,hm=>by
  simp only[tB] at e;split at e
  ·rename_i off q k d ho hd
   cases hc:(d.okc&&(Nat.beq d.cells.length k&&Nat.ble (off+k) cs.length)) with
   |false=>rw[hc] at e;cases e
   |true=>
    rw[hc] at e;simp only[aL,Nat.beq_eq_true_eq,Nat.ble_eq] at hc;obtain⟨h1,h2,h3⟩:=hc;replace h2:=aT h2;obtain⟨y,hy,hy'⟩:=r.ev hd;obtain⟨c1,_⟩:=hy'.cells h1;have c2:=c1.len;obtain⟨l,hl1,hl2⟩:=DC r ps _ out _ e (hm.ov c1 (off:=off));refine⟨l,?_,hl2⟩;simp only[uN,fS,ho,jM,hy];rw[if_pos ⟨by rw[c2,h2],by rw[hm.len];exact h3⟩];exact hl1
  ·cases e
def Xu{fo:List (Nat×Nat×Nat)}{i:TI}{zx:List FX}{cs:List FX}{f:FX}{parts:Array (Nat×Operand)}(hi:fg P t=some i)(hk:i.k= .st fo)(hz:i.z=some zx)(h:tB lk fo zx parts.toList=some cs)(hf:wo cs=some f):
  b8 P GB C n lk bk ⟨dst, .build t parts,ty',pos,af,gd⟩ f [] []:= .yd fun ρ G ov a w r=>by
 obtain⟨v,hv,hv'⟩:=Bs hi hz;have:=Se hi hk;obtain⟨l,h1,h2⟩:=DC r _ _ _ _ h (hv' ρ G);exact⟨.agg ⟨l⟩,K3 h2 hf,F7 h1⟩
def C5{k:IntKind}{p:Int}{v:Option Prop}{f:FX}(h:AK k p=some (v,f)):f= .d (.v (.int k p))/\((∀q,v=some q->q)->k.min<=p/\p<=k.max):=by
 obtain⟨q,h1,h2⟩:=aDk h
 cases h1
 exact⟨J,fun k=>h2 (k _ J)⟩
def dl{k:IntKind}{p:Int}{y:Value}:cb ρ G (.d (.v (.int k p))) y↔y= .int k p:=aH (G:=G)
def QR(b:BitVec 64):IntKind.u64.wrap (b.toNat:Int)=(b.toNat:Int):=ul ⟨by show(0:Int)<=_;omega,by have:=b.isLt;show _<=(18446744073709551615:Int);omega⟩
def E6(b:BitVec 32):IntKind.u32.wrap (b.toNat:Int)=(b.toNat:Int):=ul ⟨by show(0:Int)<=_;omega,by have:=b.isLt;show _<=(4294967295:Int);omega⟩
def E8{op:BinOp}{k j:IntKind}{p q:Int}{v:Option Prop}{f:FX}(h:Cn op k p q=some (v,f))(hop:op= .shr\/op= .shl)(hv: ∀r,v=some r->r){fr:Fr}(hx:aw fr x=some (.int k p))(hy:aw fr y=some (.int j q)): ∃u,cb ρ G f u/\Yd P C fr ov G ⟨dst, .binOp op t x y t',ty',pos,af,gd⟩ u:=by
 rcases hop with rfl|rfl<;>cases h
 ·exact⟨_,dl.2 J,ng hx hy (hv _ J)⟩
 ·exact⟨_,dl.2 J,yk hx hy (hv _ J)⟩
def aGn{op:BinOp}{k:IntKind}{p q:Int}{v:Option Prop}{f:FX}(h:Cn op k p q=some (v,f))(hv: ∀r,v=some r->r){fr:Fr}(hx:aw fr x=some (.int k p))(hy:aw fr y=some (.int k q)): ∃u,cb ρ G f u/\Yd P C fr ov G ⟨dst, .binOp op t x y t',ty',pos,af,gd⟩ u:=by
 cases op with
 |add=>obtain⟨rfl,h2⟩:=C5 h;exact⟨_,dl.2 rfl,KJ hx hy (h2 hv)⟩
 |sub=>obtain⟨rfl,h2⟩:=C5 h;exact⟨_,dl.2 rfl,Hh hx hy (h2 hv)⟩
 |mul=>obtain⟨rfl,h2⟩:=C5 h;exact⟨_,dl.2 rfl,Jh hx hy (h2 hv)⟩
 |quo=>
  cases k<;>cases h<;>first
   |exact⟨_,dl.2 J,OF hx hy (hv _ J)⟩
   |(obtain⟨h1,h2,h3⟩:=hv _ rfl;exact⟨_,dl.2 rfl,AZ hx hy h1 h2 h3⟩)
 |rem=>
  cases k<;>cases h<;>first
   |exact⟨_,dl.2 J,QB hx hy (hv _ J)⟩
   |(obtain⟨h1,h2⟩:=hv _ rfl;exact⟨_,dl.2 rfl,A4 hx hy h1 h2⟩)
 |shr=>exact E8 h (.inl J) hv hx hy
 |shl=>exact E8 h (.inr J) hv hx hy
 |or=>
  cases k<;>cases h<;>refine⟨_,dl.2 J,iO hx hy fun w=>?_⟩
  ·show(pure (Value.int .u32 (IntKind.u32.wrap ((BitVec.ofInt 32 p ||| BitVec.ofInt 32 q).toNat:Int))):Sem Value).run P w=_
   rw[E6];rfl
  ·show(pure (Value.int .u64 (IntKind.u64.wrap ((BitVec.ofInt 64 p ||| BitVec.ofInt 64 q).toNat:Int))):Sem Value).run P w=_
   rw[QR];rfl
 |and=>
  cases k<;>cases h<;>refine⟨_,dl.2 J,iO hx hy fun w=>?_⟩
  ·show(pure (Value.int .u32 (IntKind.u32.wrap ((BitVec.ofInt 32 p &&& BitVec.ofInt 32 q).toNat:Int))):Sem Value).run P w=_
   rw[E6];rfl
  ·show(pure (Value.int .u64 (IntKind.u64.wrap ((BitVec.ofInt 64 p &&& BitVec.ofInt 64 q).toNat:Int))):Sem Value).run P w=_
   rw[QR];rfl
 |lss=>cases h;exact⟨_,J,jo hx hy⟩
 |leq=>cases h;exact⟨_,J,Xd hx hy⟩
 |gtr=>cases h;exact⟨_,J,tA hx hy⟩
 |geq=>cases h;exact⟨_,J,uC hx hy⟩
 |eql=>cases h;exact⟨_,J,i7 hx hy⟩
 |neq=>cases h;exact⟨_,J,vh hx hy⟩
 |_=>cases h
def Tb{mx:Bool}{f g u:FX}(e1:aO lk x=some f)(e2:aO lk y=some g)(h:Gr mx f g=some u){t1 t2:TypeId}:b8 P GB C n lk bk ⟨dst, .call ⟨.builtin (if mx then .max else .min),⟨[x,y]⟩,⟨[t1,t2]⟩⟩,ty',pos,af,gd⟩ u [] []:= .yd fun ρ G ov a w r=>by
 obtain⟨p,h1,h2⟩:=r.ev e1;obtain⟨q,h3,h4⟩:=r.ev e2;unfold Gr at h;split at h<;>try (cases h;done)
 rename_i k p' j q';rw[dl] at h2 h4;subst h2 h4
 cases hk:kq k j with
 |false=>rw[hk] at h;cases h
 |true=>
  rw[hk] at h;cases F8 hk
  cases mx<;>cases h
  ·refine⟨_,dl.2 J,?_⟩
   intro a' w' hf hh;simp only[dJ,if_false,execOp,resolve,gL,bL,fK,bm hf h1,bm hf h3];have h1:(Builtin.min_ #[t1,t2] ty' #[.int k p', .int k q']).run P w'= .ok (.int k (if q'<p' then q' else p')) w':=by
    simp[Builtin.min_,Builtin.min2,run_pure]
   exact c6 h1
  ·refine⟨_,dl.2 J,?_⟩
   intro a' w' hf hh;simp only[if_true,execOp,resolve,gL,bL,fK,bm hf h1,bm hf h3];have h1:(Builtin.max_ #[t1,t2] ty' #[.int k p', .int k q']).run P w'= .ok (.int k (if q'>p' then q' else p')) w':=by
    simp[Builtin.max_,Builtin.max2,run_pure]
   exact c6 h1
def Xk{f g:FX}{b:Bool}(hT:nf P T)(h:JK T t f y=some b)(hx: ∃v,aw (cG a) x=some v/\cb ρ G f v)(hy:aO lk y=some g):
  Yd P C (cG a) ov G ⟨dst, .binOp .eql t x y t',ty',pos,af,gd⟩ (.bool b)/\Yd P C (cG a) ov G ⟨dst, .binOp .neq t x y t',ty',pos,af,gd⟩ (.bool (!b)):=by
 obtain⟨v,h1,h2⟩:=hx;unfold JK at h;split at h<;>try (cases h;done)
 ·rename_i hi
  have:=aF5 (hT _ _ hi) J;split at h<;>cases h
  ·cases (aH (G:=G)).1 h2;exact⟨RO (.inl J) h1,MV (.inl J) h1⟩
  ·cases (aH (G:=G)).1 h2;exact⟨RO (.inr ⟨_,_,J⟩) h1,MV (.inr ⟨_,_,J⟩) h1⟩
 ·rename_i hi
  have:=Sd (hT _ _ hi) J;have key: ∀p,v= .pointer (some p)->Yd P C (cG a) ov G ⟨dst, .binOp .eql t x (.const (.pointer none)) t',ty',pos,af,gd⟩ (.bool false)/\Yd P C (cG a) ov G ⟨dst, .binOp .neq t x (.const (.pointer none)) t',ty',pos,af,gd⟩ (.bool (!false)):=fun p e=>by
   subst e;exact⟨GK h1 J,E7 h1 J⟩
  split at h<;>cases h
  ·cases (aH (G:=G)).1 h2;exact⟨GK h1 J,E7 h1 J⟩
  ·obtain⟨b,_,e⟩:=h2;exact key _ e
  ·obtain⟨b,o,cs,m,e,_⟩:=h2;exact key _ e
  ·obtain⟨b,_,e⟩:=h2;exact key _ e
  ·obtain⟨b,m,e,_⟩:=pH.1 (show Is G _ v from h2);exact key _ e
 ·rename_i hi
  have:=ja (hT _ _ hi) J;split at h<;>cases h
  cases h2;exact⟨SM h1 J,Us h1 J⟩
def aGR{op:BinOp}{f g u:FX}{v:Option Prop}(hT:nf P T)(e1:aO lk x=some f)(e2:aO lk y=some g)(h:Iz T op t f g y=some (v,u))(hv: ∀r,v=some r->r):b8 P GB C n lk bk ⟨dst, .binOp op t x y t',ty',pos,af,gd⟩ u [] []:= .yd fun ρ G ov a w r=>by
 obtain⟨p,h1,h2⟩:=r.ev e1;obtain⟨q,h3,h4⟩:=r.ev e2;unfold Iz at h;split at h
 ·rename_i k p' j q'
  rw[dl] at h2 h4;subst h2 h4;split at h
  ·exact E8 h (.inl J) hv h1 h3
  ·exact E8 h (.inr J) hv h1 h3
  ·cases hk:kq k j with
   |false=>rw[hk] at h;cases h
   |true=>rw[hk] at h;cases F8 hk;exact aGn h hv h1 h3
 ·unfold Pd at h
  split at h<;>try (cases h;done)
  rename_i hi;have:=Sd (hT _ _ hi) J
  cases (aH (G:=G)).1 h4
  split at h<;>cases h<;>rcases tj.1 (show Is G _ p from h2) with⟨rfl,rfl⟩|⟨rfl,k⟩
  ·exact⟨_,J,GK h1 h3⟩
  ·obtain⟨b,m,rfl,_⟩:=pH.1 k;exact⟨_,rfl,GK h1 h3⟩
  ·exact⟨_,J,E7 h1 h3⟩
  ·obtain⟨b,m,rfl,_⟩:=pH.1 k;exact⟨_,rfl,E7 h1 h3⟩
 ·split at h
  ·rename_i b hb
   obtain⟨k1,k2⟩:=Xk (ρ:=ρ) (G:=G) (C:=C) (ov:=ov) (dst:=dst) (t':=t') (ty':=ty') (pos:=pos) (af:=af) (gd:=gd) hT hb ⟨p,h1,h2⟩ e2;split at h<;>cases h
   ·exact⟨_,by cases b<;>rfl,k1⟩
   ·exact⟨_,by cases b<;>rfl,k2⟩
  ·split at h<;>try (cases h;done)
   rename_i hi ha hb;have:=WY (hT _ _ hi) J;have e3:=xp h2 ha;have e4:=xp h4 hb;subst e3 e4;split at h<;>cases h
   ·exact⟨_,(aH (G:=G)).2 J,Zw h1 h3⟩
   ·exact⟨_,(aH (G:=G)).2 J,YC h1 h3⟩
def Vd{op:UnOp}{f u:FX}{v:Option Prop}(e1:aO lk x=some f)(h:HR op f=some (v,u))(hv: ∀r,v=some r->r):b8 P GB C n lk bk ⟨dst, .unOp op t x,ty',pos,af,gd⟩ u [] []:= .x1 e1 fun ρ G ov a w y _ r h1 h2=>by
 unfold HR at h;split at h<;>try (cases h;done)
 ·split at h<;>cases h
  rename_i g hg;obtain⟨b,rfl,h3⟩:=Xi h2 hg;exact⟨_,h3,GS h1⟩
 ·split at h<;>try (cases h;done)
  obtain⟨rfl,h3⟩:=C5 h;rw[dl] at h2;subst h2;refine⟨_,dl.2 J,?_⟩;have:=KA (P:=P) (C:=C) (own:=ov) (G:=G) (dst:=dst) (ty':=ty') (pos:=pos) (af:=af) (gd:=gd) (t:=t) h1;rwa [Int.zero_sub,ul (h3 hv)] at this
def aGi{f u:FX}{v:Option Prop}(hT:nf P T)(e1:aO lk x=some f)(h:I0 T t t' f=some (v,u))(hv: ∀r,v=some r->r):b8 P GB C n lk bk ⟨dst, .convert t t' x,ty',pos,af,gd⟩ u [] []:= .x1 e1 fun ρ G ov a w y _ r h1 h2=>by
 unfold I0 at h;split at h<;>try (cases h;done)
 rename_i k _ _ _ k' _ _ _ hi hi';have:=A9 (hT _ _ hi) J;have:=A9 (hT _ _ hi') J;split at h<;>try (cases h;done)
 rename_i j p;rw[dl] at h2;subst h2
 cases hk:kq k j with
 |false=>rw[hk] at h;cases h
 |true=>
  rw[hk,cond_true] at h;cases F8 hk;split at h
  ·cases h;exact⟨_,dl.2 J,lg h1⟩
  ·obtain⟨rfl,h3⟩:=C5 h;exact⟨_,dl.2 rfl,J1 h1 (h3 hv)⟩
def bG.row{nm:Nat}{y:Value}{ty:TypeId}{s:Nat}{ds:List DV}{lo:Bool}(r:bG GB C n lk bk ρ G ov a w)(hb:bk nm=some (.b ty s ds lo)): ∃B,du G ⟨ρ nm,s,ty,ds,lo⟩ B/\ ∀o∈B,o∈ov:=by
 obtain⟨os,h1,h2⟩:=r.bx _ _ hb;exact⟨os,h1,h2⟩
def du.len{β:d4}{B:List ak}(h:du G β B):β.x.n=β.ds.length:=by
 obtain⟨vs,h1,h2,_⟩:=h;rw[h1.len,h2.len]
def aG8{f g u:FX}{v:Option Prop}(hT:nf P T)(e1:aO lk x=some f)(e2:aO lk y=some g)(h:Ht T bk t f g=some (v,u))(hv: ∀r,v=some r->r):b8 P GB C n lk bk ⟨dst, .indexAddr t x y,ty',pos,af,gd⟩ u [] []:= .yd fun ρ G ov a w r=>by
 obtain⟨p,h1,h2⟩:=r.ev e1;obtain⟨q,h3,h4⟩:=r.ev e2;unfold Ht at h;split at h<;>try (cases h;done)
 rename_i nm;split at h<;>try (cases h;done)
 rename_i ty s ds lo hb;split at h<;>try (cases h;done)
 rename_i e' s' by_ _ _ _ hi;have:=ja (hT _ _ hi) J;split at h<;>try (cases h;done)
 rename_i k i
 cases hs:Nat.beq s s' with
 |false=>rw[hs] at h;cases h
 |true=>
  rw[hs,cond_true] at h;cases h
  cases aT hs
  rw[dl] at h4;subst h4
  cases h2
  obtain⟨B,hB,hBo⟩:=r.row (y:= .nilFunc) hb;have hl:=hB.len;simp only at hl;obtain⟨h5,h6⟩:=hv _ rfl;obtain⟨vs,hB1,hB2,_⟩:=hB;rcases hB1 with⟨e5,_,_⟩|⟨b,rest,lo',e5,_⟩
  ·subst e5;have:=hB2.len;simp at this;rw[<-this] at h6;simp at h6;omega
  ·have hw:(ρ nm).a=some ⟨b,0,none⟩:=by simp only at e5;rw[e5]
   rw[hw] at h1;refine⟨_,⟨b,hw,J⟩,?_⟩;have:=Cd (P:=P) (C:=C) (own:=ov) (G:=G) (dst:=dst) (ty':=ty') (pos:=pos) (af:=af) (gd:=gd) (t:=t) h1 h3 h5 (by rw[hl];exact h6);simpa using this
def aEm{f g:FX}{e s by_:Nat}(hS:cv P t e s by_)(e1:aO lk x=some f)(h:Kn bk f=some g):b8 P GB C n lk bk ⟨dst, .call ⟨.builtin .len,⟨[x]⟩,⟨[t]⟩⟩,ty',pos,af,gd⟩ g [] []:= .x1 e1 fun ρ G ov a w y _ r h1 h2=>by
 have key: ∀l:List DV,Is G (.sl l) y-> ∃u,cb ρ G (.d (.v (.int .i64 (l.length:Nat)))) u/\Yd P C (cG a) ov G ⟨dst, .call ⟨.builtin .len,⟨[x]⟩,⟨[t]⟩⟩,ty',pos,af,gd⟩ u:=fun l hl=>by
  obtain⟨k,z,es,rfl,hs,hl⟩:=iu.1 hl;have:=hs.len;rw[hl.len] at this;exact⟨_,dl.2 J,by rw[<-this];exact o8 h1⟩
 unfold Kn at h;split at h
 ·cases h;cases h2;exact⟨_,dl.2 J,o8 h1⟩
 ·cases h;exact key _ h2
 ·cases h;exact key _ h2.2
 ·split at h<;>cases h
  rename_i hb
  cases h2
  obtain⟨B,hB,_⟩:=r.row (y:= .nilFunc) hb;have:=hB.len;simp only at this;exact⟨_,dl.2 J,by rw[<-this];exact o8 h1⟩
 ·cases h
def U'{f g:FX}{d:Nat}(hg:g∈f.cells)(h:AQ f d=true):g.nm≠some d:=by
 have key:g.nm=f.nm\/g.nm=none:=by
  unfold FX.cells at hg;split at hg
  ·obtain⟨x,_,rfl⟩:=bJ.1 hg;exact .inr rfl
  ·rcases bW.1 hg with hg|hg
   ·obtain⟨x,_,rfl⟩:=bJ.1 hg;exact .inr rfl
   ·rcases aW.1 hg with rfl|hg
    ·exact .inl J
    ·obtain⟨x,_,rfl⟩:=bJ.1 hg;exact .inr rfl
  ·exact .inl (by rw[aV.1 hg])
 rcases key with h'|h'
 ·intro e;unfold AQ at h;rw[<-h',e] at h;simp at h
 ·rw[h'];simp
def bG.alloc(r:bG GB C n lk bk ρ G ov a w){d b:Nat}{cs:List Value}{zs:List FX}{K:Act->World->Prop}{a':Act}{w':World}(hf:kz [d] (some d) lk bk)(hz:dC ρ G zs cs)(hn: ∀g∈zs,g.nm≠some d)
  (hk:SX GB C n (ey lk (some d) (.ov d 0)) (Sx.upB bk [(d,some (.o t zs true))]) K)(rl:gu C n (Sx.put (cG a) (some d) (.pointer (some ⟨b,0,none⟩))) (⟨b,cs,t,true⟩::ov) G a' w'):K a' w':=by
 have hnd:=(bK.1 rl.h.nd).1;have hy:cb (fun k=>if k=d then⟨some ⟨b,0,none⟩,0,0⟩ else ρ k) G (.ov d 0) (.pointer (some ⟨b,0,none⟩)):=⟨b,by simp,J⟩;have hB:lC (fun k=>if k=d then⟨some ⟨b,0,none⟩,0,0⟩ else ρ k) G d (.o t zs true) [⟨b,cs,t,true⟩]:=
  ⟨b,cs,by simp,J,hz.ren fun g hg m hm=>vg _ fun e'=>hn g hg (by rw[hm,e'])⟩
 refine hk.run _ _ _ a' w' (r.new hf (bD.refl _) rl.h hB ?_ (fun o ho=>aZ _ ho) ?_ hy (kG rl))
 ·intro o ho;rw[aV.1 ho];exact aQ
 ·intro o ho e';cases e';exact hnd o ho rfl
def NP{d:Nat}{f:FX}(e:aO lk x=some f)(hc:f.okc=true)(hn:AQ f d=true):b8 P GB C n lk bk ⟨some d, .box t x,ty',pos,af,gd⟩ (.ov d 0) [(d,some (.o t f.cells true))] [d]:=by
 intro hd tl tb K s1 s2 hf hk;refine⟨fun ρ G ov a w r Q=>?_⟩;obtain⟨y,h1,h2⟩:=(r.mono s1 s2).ev e;exact Jt h1 hd (fun b a' w' rl=>r.alloc hf (h2.cells hc).1 (fun g hg=>U' hg hn) hk rl) a w Q ⟨r.h,r.sz,c9 a,r.df⟩
def Zh(v:Value):(yg v).nm=none:=by unfold yg;split<;>rfl
def W5{d:Nat}{i:TI}{z:List FX}(hi:fg P t=some i)(hz:i.z=some z):b8 P GB C n lk bk ⟨some d, .alloc t,ty',pos,af,gd⟩ (.ov d 0) [(d,some (.o t z true))] [d]:=by
 intro hd tl tb K s1 s2 hf hk;refine⟨fun ρ G ov a w r Q=>?_⟩;obtain⟨v,hv,hv'⟩:=Bs hi hz;refine vp hd (fun b a' w' rl=>r.alloc hf (hv' ρ G) (fun g hg=>?_) hk rl) a w Q ⟨r.h,r.sz,c9 a,r.df⟩;obtain⟨j,_,rfl⟩:=qE hi
 cases hj:j.zero with
 |none=>simp only[hj] at hz;cases hz
 |some u=>
  simp only[hj] at hz;cases hz;obtain⟨x,_,rfl⟩:=bJ.1 hg;rw[Zh];simp
def fG.of_mem{b:Nat}{cs cs':List Value}{ty:TypeId}{lo:Bool}: ∀{own:List ak},⟨b,cs,ty,lo⟩∈own-> ∃own',fG own b cs ty lo cs' own'/\⟨b,cs',ty,lo⟩∈own'/\ ∀o∈own,o.b≠b->o∈own'
 |[],h=>by cases h
 |x::t,h=>by
  rcases aW.1 h with rfl|h
  ·exact⟨_, .hd ..,aQ,fun o ho hb=>(aW.1 ho).elim (fun e=>absurd (by rw[e]) hb) (fun e=>aZ _ e)⟩
  ·obtain⟨own',h1,h2,h3⟩:=fG.of_mem h
   exact⟨x::own', .tl _ _ _ _ _ _ _ _ h1,aZ _ h2,fun o ho hb=>(aW.1 ho).elim (fun e=>by rw[e];exact aQ) (fun e=>aZ _ (h3 o e hb))⟩
def bG.wrote{nm:Nat}{b:Nat}{m m':List Value}{ty:TypeId}{cs cs':List FX}{lo:Bool}(r:bG GB C n lk bk ρ G ov a w)(hb:bk nm=some (.o ty cs lo))(ha:(ρ nm).a=some ⟨b,0,none⟩){own':List ak}(hm':dC ρ G cs' m')(h1:⟨b,m',ty,lo⟩∈own')(h2: ∀o∈ov,o.b≠b->o∈own')
  {K:Act->World->Prop}(hk:SX GB C n (ey lk dst .un) (Sx.upB bk [(nm,some (.o ty cs' lo))]) K){a':Act}{w':World}(rl:gu C n (Sx.put (cG a) dst undef) own' G a' w'):K a' w':=by
 have r2:=r.upB (G':=G) (ov':=own') (w':=w') (B':= .o ty cs' lo) (os:=[⟨b,m',ty,lo⟩]) (bD.refl _) rl.h ⟨b,m',ha,J,hm'⟩ (fun o ho=>by rw[aV.1 ho];exact h1) (fun o ho hne=>h2 o ho fun e=>hne (by rw[ha,e])) ⟨_,hb⟩;exact hk.run _ _ _ a' w' (r2.put J (kG rl))
def UX{f:FX}(h:f.flat=true):f.okc=true:=by
 cases f with
 |d x=>cases x<;>first|exact h|(cases h;done)
 |bx=>cases h
 |_=>exact h
def Yh{f:FX}(h:f.flat=true):f.cells=[f]:=by
 cases f with
 |d x=>cases x<;>first|rfl|(cases h;done)
 |bx=>cases h
 |_=>rfl
def cb.flat{f:FX}{y:Value}(h:cb ρ G f y)(k:f.flat=true):Go.Sx.flat y=true:=by
 obtain⟨h1,h2⟩:=h.cells (UX k);rw[Yh k] at h1;have hl:=h1.len
 cases y with
 |agg l=>
  obtain⟨z,q,e,h4,h5⟩:=h1
  cases f with
  |d x=>cases x with
   |v u=>exact Is.flat (show Is G _ _ from h) k
   |ag l=>cases k
   |tp l=>cases k
   |pt l=>exact Is.flat (show Is G _ _ from h) k
   |op b l=>exact Is.flat (show Is G _ _ from h) k
   |sl l=>exact Is.flat (show Is G _ _ from h) k
  |ep l=>obtain⟨_,_,_,_,e,_⟩:=h;cases e
  |ov _ _=>obtain⟨_,_,e⟩:=h;cases e
  |be _ _ _ _=>obtain⟨_,_,e⟩:=h;cases e
  |rs _ _ _ _=>obtain⟨_,_,_,e,_⟩:=h;cases e
  |ct l=>obtain⟨⟨_,_,e⟩,_⟩:=h;cases e
  |bx=>cases k
  |un=>cases k
  |no=>cases k
  |_=>cases h
 |_=>exact h2 _ (by simp[aF])
def ZI{fa fv:FX}{bl:List (Nat×Option Bk)}{i:TI}(hi:fg P t=some i)(e1:aO lk x=some fa)(e2:aO lk y=some fv)(h:EQ bk i fa fv=some bl):b8 P GB C n lk bk ⟨dst, .store t x y,ty',pos,af,gd⟩ .un bl []:=by
 intro hd tl tb K s1 s2 hf hk;refine⟨fun ρ G ov a w r Q=>?_⟩;have r1:=r.mono s1 s2;obtain⟨p,h1,h2⟩:=r1.ev e1;obtain⟨q,h3,h4⟩:=r1.ev e2;unfold EQ at h;split at h<;>try (cases h;done)
 rename_i nm off;split at h<;>try (cases h;done)
 rename_i ty cs lo hb;obtain⟨b,m,rfl,ha,h5,h6⟩:=r1.own h2 hb;split at h<;>try (cases h;done)
 ·rename_i k hk'
  have:=Aq hi hk'
  cases hc:(fv.okc&&(Nat.beq fv.cells.length k&&Nat.ble (off+k) cs.length)) with
  |false=>rw[hc] at h;cases h
  |true=>
   rw[hc,cond_true,tP] at h;cases h;simp only[aL,Nat.beq_eq_true_eq,Nat.ble_eq] at hc;obtain⟨c1,c2,c3⟩:=hc;replace c2:=aT c2;obtain⟨h7,h8⟩:=h4.cells c1;obtain⟨own',u1,u2,u3⟩:=fG.of_mem (cs':=cE m off (aF q)) h6;exact Fi h1 h3 u1 (by rw[h7.len,c2]) (by rw[h5.len];exact c3) (fW.2 h8) hd (fun a' w' rl=>r.wrote (m:=m) (s2 _ _ hb) ha (h5.ov h7) u2 u3 hk rl) a w Q ⟨r.h,r.sz,c9 a,r.df⟩
 ·rename_i hk'
  have:=A3 hi hk'
  cases hc:(fv.flat&&Nat.blt off cs.length) with
  |false=>rw[hc] at h;cases h
  |true=>
   rw[hc,cond_true,tP] at h;cases h;simp only[aL,mT] at hc;obtain⟨own',u1,u2,u3⟩:=fG.of_mem (cs':=m.set off q) h6;exact tM h1 h3 u1 (by rw[h5.len];exact hc.2) (h4.flat hc.1) hd (fun a' w' rl=>r.wrote (m:=m) (s2 _ _ hb) ha (h5.set off h4) u2 u3 hk rl) a w Q ⟨r.h,r.sz,c9 a,r.df⟩
def zi{op:Op}{r:CR}(hT:nf P T)(h:AA T lk bk dst op=some r):aJh P GB C n lk bk ⟨dst,op,ty',pos,af,gd⟩ r:=by
 intro hv;unfold AA at h;split at h
 ·obtain⟨f,h1,rfl⟩:=sE h;exact aCj h1
 ·obtain⟨f,h1,rfl⟩:=sE h;exact as6 h1
 ·obtain⟨c,hc,h⟩:=rC h
  obtain⟨f,g,h1,h2,h⟩:=AC h;obtain⟨u,h3,rfl⟩:=sE h;exact Xm hc h1 h2 h3
 ·split at h<;>try (cases h;done)
  obtain⟨i,hi,h⟩:=JW hT h;split at h<;>try (cases h;done)
  rename_i z hz;rw[tP] at h;cases h;exact W5 hi hz
 ·split at h<;>try (cases h;done)
  obtain⟨f,hf,h⟩:=rC h;rw[tP,cond_eq_ite] at h;split at h<;>cases h;rename_i hc;simp only[aL] at hc;exact NP hf hc.1 hc.2
 ·obtain⟨f,h1,h⟩:=rC h;obtain⟨v,u,h3,rfl⟩:=BY h;exact aFo h1 h3 hv
 ·obtain⟨fo,i,hi,hk,h⟩:=KQ hT h
  obtain⟨f,h1,h⟩:=rC h;obtain⟨u,h3,rfl⟩:=sE h;exact Wr hi hk h1 h3
 ·obtain⟨fo,i,hi,hk,h⟩:=KQ hT h
  obtain⟨f,h1,h⟩:=rC h;obtain⟨u,h3,rfl⟩:=sE h;exact Ws hT hi hk h1 h3
 ·obtain⟨i,hi,h⟩:=JW hT h
  obtain⟨f,h1,h⟩:=rC h;obtain⟨u,h3,rfl⟩:=sE h;exact ZQ hi h1 h3
 ·obtain⟨i,hi,h⟩:=JW hT h
  obtain⟨f,g,h1,h2,h⟩:=AC h
  cases hb:EQ bk i f g with
  |none=>simp only[hb] at h;cases h
  |some bl=>simp only[hb] at h;cases h;exact ZI hi h1 h2 hb
 ·obtain⟨f,h1,h⟩:=rC h;obtain⟨u,h3,rfl⟩:=sE h;exact Wj h1 h3
 ·obtain⟨fo,i,hi,hk,h⟩:=KQ hT h
  split at h<;>try (cases h;done)
  rename_i z hz;split at h<;>try (cases h;done)
  rename_i cs hcs;split at h<;>cases h;rename_i g hg;exact Xu hi hk hz hcs hg
 ·obtain⟨f,g,h1,h2,h⟩:=AC h;obtain⟨v,u,h3,rfl⟩:=BY h;exact aGR hT h1 h2 h3 hv
 ·obtain⟨f,h1,h⟩:=rC h;obtain⟨v,u,h3,rfl⟩:=BY h;exact Vd h1 h3 hv
 ·obtain⟨f,h1,h⟩:=rC h;obtain⟨v,u,h3,rfl⟩:=BY h;exact aGi hT h1 h3 hv
 ·obtain⟨f,g,h1,h2,h⟩:=AC h;obtain⟨v,u,h3,rfl⟩:=BY h;exact aG8 hT h1 h2 h3 hv
 ·split at h<;>try (cases h;done)
  rename_i hi;obtain⟨f,h1,h⟩:=rC h;obtain⟨u,h3,rfl⟩:=sE h;exact aEm (ja (hT _ _ hi) J) h1 h3
 ·obtain⟨f,g,h1,h2,h⟩:=AC h;obtain⟨u,h3,rfl⟩:=sE h;exact Tb (mx:=true) h1 h2 h3
 ·obtain⟨f,g,h1,h2,h⟩:=AC h;obtain⟨u,h3,rfl⟩:=sE h;exact Tb (mx:=false) h1 h2 h3
 ·cases h
end
def FW(r:Option Nat):Fence:={Fence.wide with round:=r}
def il(r:Option Nat)(P:Program)(c:Code)(Q:Exit->Act->World->Prop)(a:Act)(w:World):Prop:=c.wpIn (FW r) 0 P Q a w
section
variable {r:Option Nat} {P:Program} {Q:Exit->Act->World->Prop} {a:Act} {w:World}
def z7{o:Option Nat}{c:Code}(h:o=none)(k:il o P c Q a w):c.wp P Q a w:=by
 subst h;exact wpIn_wide.1 k
def axt{c:Code}{Q':Exit->Act->World->Prop}(h:il r P c Q a w)(hq: ∀e a w,Q e a w->Q' e a w):il r P c Q' a w:=wpIn_mono h hq
def axf(h:Q .normal a w):il r P .skip Q a w:=wpIn_skip h
def WX{l:Nat}(h:Q .normal a w):il r P (.label l) Q a w:=wpIn_label h
def Z5{id:Nat}(h:Q (.exit id) a w):il r P (.exit id) Q a w:=wpIn_exit h
def Xj(h:Q .ret a w):il r P .ret Q a w:=wpIn_ret h
def ZE{x y:Code}(h:il r P x (Exit.then (il r P y Q) Q) a w):il r P (.seq x y) Q a w:=wpIn_seq h
def akB{c:Operand}{x y:Code}{t:Bool}(hc:a.eval c= .bool t)(ht:t=true->il r P x Q a w)(hf:t=false->il r P y Q a w):il r P (.cond c x y) Q a w:=wpIn_cond_split hc ht hf
def UQ{id:Nat}{c:Code}(h:il r P c (Exit.inBlock id Q) a w):il r P (.block id c) Q a w:=wpIn_block h
def y6{b:Frame}{k:List Item}{cs:List Frame}{c:Code}:step P (lone (b.atR a (.code (.scope c)::k)) cs w)= .next (lone (b.atR a (.code c:: .inScope c::k)) cs w):=
 step_lone_go (by simp[stepG,stepG.exec,Frame.atR])
def ZZ{b:Frame}{k:List Item}{cs:List Frame}{c:Code}:step P (lone (b.atR a (.inScope c::k)) cs w)= .next (lone (b.atR a k) cs w):=
 step_lone_go (by simp[stepG,stepG.exec,Frame.atR])
def Zy{c:Code}(h:il r P c (Exit.noGoto Q) a w):il r P (.scope c) Q a w:=by
 intro b k cs hro hb hr;have h0:(lone (b.atR a (.code (.scope c)::k)) cs w).fenced P (FW r):=fenced_calm hb hr J;obtain⟨e,a₁,w₁,hq,harr⟩:=h b (.inScope c::k) cs hro hb hr
 cases e with
 |normal=>exact⟨.normal,a₁,w₁,hq, .head h0 y6 (StepsIn.trans harr (.one (fenced_calm hb hr J) ZZ))⟩
 |exit id=>
  have hx:exitTo id (.inScope c::k)=exitTo id k:=by simp[exitTo]
  exact⟨.exit id,a₁,w₁,hq,fun k' hk=> .head h0 y6 (harr.1 k' (by rw[hx];exact hk)),fun hr' hk=>let⟨k₁,h1,h2⟩:=harr.2 hr' (by rw[hx];exact hk);⟨k₁,h1, .head h0 y6 h2⟩⟩
 |goto l=>exact hq.elim
 |ret=>exact⟨_,a₁,w₁,hq, .of_steps (.one h0 y6) harr⟩
 |panic ch=>exact⟨_,a₁,w₁,hq, .of_steps (.one h0 y6) harr⟩
 |outgrown=>exact⟨_,a₁,w₁,hq, .of_steps (.one h0 y6) harr⟩
def anr{id:Nat}{ops:Array Oper}(h:wpListIn (FW r) 0 P ops Q ops.toList a w):il r P (.region id ops false) Q a w:=wpIn_region_list h
def Z4{f:FuncId}{args:Array Value}{R:Ending->World->Prop}(h:Calls P f args w R):CallsIn (FW r) 0 P f args w R:=by
 have h1:CallsIn Fence.wide 0 P f args w R:=callsIn_wide.2 h
 cases r with
 |none=>exact h1
 |some l=>exact h1
def Je{o:Oper}{K K':Act->World->Prop}(h: ∀Q,o.wp P a w K' Q)(hd: ∀a' w',K' a' w'->a'.defers=a.defers/\K a' w'):o.wpIn (FW r) 0 P a w K Q:=by
 have hs:o.semAt r a.eval=execOp a.eval o:=by
  cases r with
  |none=>rfl
  |some l=>
   refine Oper.semAt_some l a.eval o fun c hc=>?_;have h1:=h (fun _ _ _=>False);unfold Oper.wp at h1;obtain⟨dst,op,ty,pos,af,gd⟩:=o;simp only at hc;subst hc;unfold execOp at h1;simp only[Sem.run_bind,Result.andThen] at h1;split at h1
   ·simp only[Sem.run_pure,Oper.upon] at h1
    have:=(hd _ _ h1).1
    cases dst<;>simp[Act.put] at this
   ·rename_i x w1 hx
    cases x<;>simp only[Oper.upon] at h1
 have h1:=h (fun _ _ _=>False);unfold Oper.wp at h1;refine⟨fun _ _=>trivial,?_⟩;show o.uponIn (FW r) 0 P a K Q ((o.semAt r a.eval).run P w);rw[hs];generalize (execOp a.eval o).run P w=x at h1
 cases x with
 |ok nx w'=>
  cases nx with
  |value v=>exact(hd _ _ h1).2
  |skip=>exact(hd _ _ h1).2
  |defer d=>exact(hd _ _ h1).2
  |enter f args=>
   refine⟨fun h=>(by cases h),(Z4 (r:=r) h1).mono fun e w'' he=>?_⟩
   cases e with
   |returned v=>exact(hd _ _ he).2
   |panicked ch=>exact he.elim
   |outgrown=>obtain⟨_,_,hq⟩:=he;exact hq.elim
  |row row args=>
   refine⟨fun h=>(by cases h),fun c cs hroom=>?_⟩;obtain⟨v,w'',hv,hst⟩:=h1 c cs;exact⟨v,w'',(hd _ _ hv).2,stepsIn_wide.2 hst⟩
  |round=>exact h1.elim
  |_=>exact h1.elim
 |halt y w'=>cases y<;>first|exact h1.elim|exact h1
end
def uT:List Nat->Nat->Bool
 |[],_=>false
 |x::t,k=>Nat.beq x k||uT t k
structure Rc where
 rs:List Nat
 d:Option Nat
 f:FX
 rn:List Nat
 bl:List (Nat×Option Bk)
 nw:List Nat
abbrev ST:=LK×BM
def Rc.ap(r:Rc)(s:ST):ST:=(ey s.1 r.d r.f,upB s.2 r.bl)
def cC(p:Nat->Bool):Nat->ST->List Rc->ST
 |_,s,[]=>s
 |k,s,r::t=>cC p (k+1) (if p k then r.ap s else s) t
def mp{α:Type}(l:List Nat)(g:Nat->Option α):Nat->Option α:=fun k=>bif uT l k then g k else none
def Ft{nm:Nat}: ∀{bl:List (Nat×Option Bk)} {s s':BM},((∀e∈bl,e.1≠nm)->s nm=s' nm)->upB s bl nm=upB s' bl nm
 |[],s,s',h=>h (by simp)
 |(k,B)::t,s,s',h=>by
  simp only[upB];refine Ft fun ht=>?_;by_cases e:nm=k
  ·simp[e]
  ·simp only[e,if_false];exact h fun x hx=>(aW.1 hx).elim (fun c=>by rw[c];exact Ne.symm e) (ht x)
def FM{nm:Nat}: ∀{bl:List (Nat×Option Bk)} {s:BM},(∀e∈bl,e.1≠nm)->upB s bl nm=s nm
 |[],s,h=>rfl
 |(k,B)::t,s,h=>by
  simp only[upB];rw[FM fun e he=>h e (aZ _ he)];simp[Ne.symm (h _ aQ)]
def J0{x:Nat}{d:Option Nat}{f:FX}{s:LK}(h:d≠some x):ey s d f x=s x:=by
 cases d with
 |none=>rfl
 |some d=>simp only[ey];rw[if_neg fun e=>h (by rw[e])]
def Cm{x:Nat}{p q:Nat->Bool}: ∀{us:List Rc} {k:Nat} {s s':ST},s.1 x=s'.1 x->(∀j r,us[j]? =some r->r.d=some x->p (k+j)=q (k+j))->(cC p k s us).1 x=(cC q k s' us).1 x
 |[],k,s,s',h,_=>h
 |r::t,k,s,s',h,hp=>by
  simp only[cC];refine Cm ?_ fun j u hj hd=>by have:=hp (j+1) u (by simpa using hj) hd;rwa [show k+(j+1)=k+1+j by omega] at this
  by_cases hd:r.d=some x
  ·have:=hp 0 r J hd
   rw[fJ] at this;rw[this];split
   ·simp only[Rc.ap,ey,hd,if_true]
   ·exact h
  ·have: ∀(b:Bool) (s:ST),(if b then r.ap s else s).1 x=s.1 x:=fun b s=>by cases b<;>simp[Rc.ap,J0 hd]
   rw[this,this,h]
def AO{nm:Nat}{p q:Nat->Bool}: ∀{us:List Rc} {k:Nat} {s s':ST},s.2 nm=s'.2 nm->(∀j r,us[j]? =some r->(∃e∈r.bl,e.1=nm)->p (k+j)=q (k+j))->(cC p k s us).2 nm=(cC q k s' us).2 nm
 |[],k,s,s',h,_=>h
 |r::t,k,s,s',h,hp=>by
  simp only[cC];refine AO ?_ fun j u hj hd=>by have:=hp (j+1) u (by simpa using hj) hd;rwa [show k+(j+1)=k+1+j by omega] at this
  by_cases hd: ∃e∈r.bl,e.1=nm
  ·have:=hp 0 r J hd
   rw[fJ] at this;rw[this];split
   ·exact Ft fun _=>h
   ·exact h
  ·have: ∀(b:Bool) (s:ST),(if b then r.ap s else s).2 nm=s.2 nm:=fun b s=>by
    cases b
    ·rfl
    ·exact FM fun e he hc=>hd ⟨e,he,hc⟩
   rw[this,this,h]
def Mm{x:Nat}{f:FX}{p:Nat->Bool}: ∀{us:List Rc} {k:Nat} {s:ST},(cC p k s us).1 x=some f->s.1 x=some f\/ ∃j r,us[j]? =some r/\p (k+j)=true/\r.d=some x/\r.f=f
 |[],k,s,h=> .inl h
 |r::t,k,s,h=>by
  simp only[cC] at h;rcases Mm h with h|⟨j,u,h1,h2,h3⟩
  ·cases hp:p k with
   |false=>rw[hp] at h;exact .inl h
   |true=>
    rw[hp] at h;simp only[if_true,Rc.ap] at h;by_cases hd:r.d=some x
    ·rw[hd] at h;simp only[ey,if_true] at h;cases h;exact .inr ⟨0,r,J,by simpa using hp,hd,J⟩
    ·rw[J0 hd] at h;exact .inl h
  ·exact .inr ⟨j+1,u,by simpa using h1,by rw[show k+(j+1)=k+1+j by omega];exact h2,h3⟩
def Rh{nm:Nat}{B:Bk}: ∀{bl:List (Nat×Option Bk)} {s:BM},upB s bl nm=some B->s nm=some B\/(nm,some B)∈bl
 |[],s,h=> .inl h
 |(k,B')::t,s,h=>by
  simp only[upB] at h;rcases Rh h with h|h
  ·by_cases e:nm=k
   ·subst e;simp only[if_true] at h;subst h;exact .inr aQ
   ·simp only[e,if_false] at h;exact .inl h
  ·exact .inr (aZ _ h)
def RG{nm:Nat}{B:Bk}{p:Nat->Bool}: ∀{us:List Rc} {k:Nat} {s:ST},(cC p k s us).2 nm=some B->s.2 nm=some B\/ ∃j r,us[j]? =some r/\p (k+j)=true/\(nm,some B)∈r.bl
 |[],k,s,h=> .inl h
 |r::t,k,s,h=>by
  simp only[cC] at h;rcases RG h with h|⟨j,u,h1,h2,h3⟩
  ·cases hp:p k with
   |false=>rw[hp] at h;exact .inl h
   |true=>
    rw[hp] at h;rcases Rh h with h|h
    ·exact .inl h
    ·exact .inr ⟨0,r,J,by simpa using hp,h⟩
  ·exact .inr ⟨j+1,u,by simpa using h1,by rw[show k+(j+1)=k+1+j by omega];exact h2,h3⟩
def aJj(acc:List Nat)(l:List Edge):Nat:=l.foldl (fun s e=>if Region.binds .any e then(s ||| 2^e.on) ||| acc.getD e.on 0 else s) 0
def pe:List Oper->List Nat->List Nat
 |[],acc=>acc
 |o::r,acc=>pe r (acc++[aJj acc o.after.toList])
inductive Bf (ops:List Oper):Nat->Nat->Prop
 |b {i:Nat} {o:Oper} {e:Edge} (ho:ops[i]? =some o) (he:e∈o.after) (hb:Region.binds .any e=true):Bf ops i e.on
 |s {i j:Nat} {o:Oper} {e:Edge} (ho:ops[i]? =some o) (he:e∈o.after) (hb:Region.binds .any e=true) (h:Bf ops e.on j):Bf ops i j
def P0{acc:List Nat}{j:Nat}: ∀(l:List Edge) (s:Nat),(l.foldl (fun s e=>if Region.binds .any e then(s ||| 2^e.on) ||| acc.getD e.on 0 else s) s).testBit j=true->s.testBit j=true\/ ∃e∈l,Region.binds .any e=true/\(e.on=j\/(acc.getD e.on 0).testBit j=true)
 |[],s,h=> .inl h
 |e::t,s,h=>by
  rw[dT] at h;rcases P0 t _ h with h|⟨e',h1,h2⟩
  ·split at h
   ·rename_i hb
    simp only[Nat.testBit_or,iL,Nat.testBit_two_pow,decide_eq_true_eq] at h;rcases h with(h|h)|h
    ·exact .inl h
    ·exact .inr ⟨e,aQ,hb, .inl h⟩
    ·exact .inr ⟨e,aQ,hb, .inr h⟩
   ·exact .inl h
  ·exact .inr ⟨e',aZ _ h1,h2⟩
def Ib{all:List Oper}: ∀(r:List Oper) (acc:List Nat) (pre:List Oper),all=pre++r->acc.length=pre.length->(∀i j,(acc.getD i 0).testBit j=true->Bf all i j)-> ∀i j,((pe r acc).getD i 0).testBit j=true->Bf all i j
 |[],acc,pre,_,_,h=>h
 |o::r,acc,pre,he,hl,h=>by
  refine Ib r _ (pre++[o]) (by rw[he];simp) (by simp[hl]) fun i j hij=>?_;rw[aK,List.getElem?_append] at hij;split at hij
  ·rename_i hi
   exact h i j (by rw[aK];exact hij)
  ·rename_i hi
   by_cases e:i=acc.length
   ·subst e
    simp only[rS,List.getElem?_cons_zero,jK] at hij;have ho:all[acc.length]? =some o:=by rw[he,hl];simp
    rcases P0 _ _ hij with h0|⟨e,h1,h2,h3⟩
    ·simp at h0
    ·rcases h3 with rfl|h3
     ·exact .b ho (by simpa using h1) h2
     ·exact .s ho (by simpa using h1) h2 (h _ _ h3)
   ·rw[eK (by simp;omega)] at hij
    simp at hij
def Ae:Option Nat->Nat->Bool
 |some x,y=>Nat.beq x y
 |none,_=>false
def mI(a b:Rc):Bool:=(match a.d with|some x=>uT b.rs x||Ae b.d x|none=>false)||a.bl.any fun e=>uT b.rn e.1||b.bl.any fun e'=>Nat.beq e'.1 e.1
def yf(nm:Nat)(f:FX):Bool:=Ae f.nm nm
def EY(nm:Nat):Option Bk->Bool
 |some (.o _ cs _)=>cs.any (yf nm)
 |_=>false
def p6(r:Rc)(nm:Nat):Bool:=yf nm r.f||r.bl.any fun e=>EY nm e.2
def DI(m:Nat)(r:Rc):Nat->List Rc->Bool
 |_,[]=>true
 |j,u::t=>(!(mI u r||mI r u||u.nw.any (p6 r))||m.testBit j)&&!(r.nw.any (p6 u))&&DI m r (j+1) t
def uU:List Nat->List Rc->List Rc->Bool
 |m::ms,pre,r::t=>DI m r 0 pre&&uU ms (pre++[r]) t
 |_,_,[]=>true
 |[],_,_::_=>false
def nI:Nat->List Oper->Bool
 |_,[]=>true
 |i,o::t=>o.after.all (fun e=>!Region.binds .any e||Nat.blt e.on i)&&nI (i+1) t
def Ef(us:List Rc)(fr:List (Nat×FX))(own:List (Nat×Option Bk)):Bool:=us.all fun r=>r.nw.all fun nm=>fr.all (fun e=>!yf nm e.2)&&own.all fun e=>!EY nm e.2
def Si{m:Nat}{r:Rc}: ∀{l:List Rc} {k:Nat},DI m r k l=true-> ∀j u,l[j]? =some u->((mI u r=true\/mI r u=true\/ ∃nm∈u.nw,p6 r nm=true)->m.testBit (k+j)=true)/\ ∀nm∈r.nw,p6 u nm=false
 |[],k,_,j,u,h=>by simp at h
 |x::t,k,h,j,u,hj=>by
  simp only[DI,aL,iL,iK] at h;obtain⟨⟨h1,h2⟩,h3⟩:=h
  cases j with
  |zero=>
   simp at hj;subst hj;refine⟨fun hh=>?_,fun nm hn=>by have:=List.any_eq_false.1 h2 nm hn;simpa using this⟩;rcases h1 with h1|h1
   ·simp only[sM] at h1
    rcases hh with hh|hh|⟨nm,hn,hh⟩
    ·rw[h1.1.1] at hh;cases hh
    ·rw[h1.1.2] at hh;cases hh
    ·have:=List.any_eq_false.1 h1.2 nm hn;exact absurd hh this
   ·simpa using h1
  |succ j=>
   have:=Si h3 j u (by simpa using hj);rwa [show k+(j+1)=k+1+j by omega]
def SO: ∀{ms:List Nat} {pre t:List Rc},uU ms pre t=true-> ∀i r,t[i]? =some r-> ∀j u,(pre++t)[j]? =some u->j<pre.length+i->((mI u r=true\/mI r u=true\/ ∃nm∈u.nw,p6 r nm=true)->(ms.getD i 0).testBit j=true)/\ ∀nm∈r.nw,p6 u nm=false
 |[],pre,[],_,i,r,h=>by simp at h
 |_::_,pre,[],_,i,r,h=>by simp at h
 |[],pre,_::_,h,i,r,_=>by simp[uU] at h
 |m::ms,pre,x::t,h,i,r,hi=>by
  simp only[uU,aL] at h;intro j u hj hlt
  cases i with
  |zero=>
   simp at hi;subst hi;rw[dK (by omega)] at hj;simpa using Si h.1 j u hj
  |succ i=>
   have:=SO h.2 i r (by simpa using hi) j u (by simpa using hj) (by simp;omega);simpa using this
def sr: ∀{l:List Oper} {k:Nat},nI k l=true-> ∀i o,l[i]? =some o-> ∀e∈o.after,Region.binds .any e=true->e.on<k+i
 |[],k,_,i,o,h=>by simp at h
 |x::t,k,h,i,o,hi=>by
  simp only[nI,aL] at h;intro e he hb
  cases i with
  |zero=>
   simp at hi;subst hi;have:=Array.all_eq_true_iff_forall_mem.1 h.1 e he;simpa[hb] using this
  |succ i=>have:=sr h.2 i o (by simpa using hi) e he hb;omega
def wO(rd:Option Nat)(P:Program)(ops:Array Oper)(Q:Exit->Act->World->Prop)(o:Oper)(K:Act->World->Prop)(a:Act)(w:World):Prop:=
 if Region.wanted o (yielded ops a.tmps) then o.wpIn (FW rd) 0 P a w K Q else K (a.put o.dst undef) w
section
variable {P:Program} {GB:Gh} {C:aD} {n:Nat} {ops:Array Oper} {Q:Exit->Act->World->Prop}
def uE(P:Program)(GB:Gh)(C:aD)(n:Nat)(ops:Array Oper)(lk:LK)(bk:BM)(o:Oper)(f:FX)(bl:List (Nat×Option Bk))(nw:List Nat):Prop:=
 ∀(Q:Exit->Act->World->Prop) (tl:LK) (tb:BM) (K:Act->World->Prop),kd lk tl->kd bk tb->kz nw o.dst tl tb->SX GB C n (ey tl o.dst f) (upB tb bl) K->SX GB C n tl tb (wO C.rd P ops Q o K)
def SX.drew{lk:LK}{bk:BM}{Φ:Act->World->Prop}(h:SX GB C n lk bk Φ):SX GB C n lk bk (fun a w=>Φ a {w with drawn:=w.drawn+1}):=
 ⟨fun ρ G ov a w r=>h.run ρ G ov a _ ⟨r.gb,r.h.drew,r.sz,r.df,r.fx,r.bx,r.dj,r.fxd⟩⟩
structure jF (P:Program) (GB:Gh) (C:aD) (n:Nat) (ops:Array Oper) (us:List Rc) (s0:ST):Prop where
 len:us.length=ops.size
 snd: ∀i r o,us[i]? =some r->ops[i]? =some o->o.dst=r.d/\uE P GB C n ops (mp r.rs (cC (fun j=>decide (j<i)) 0 s0 us).1) (mp r.rn (cC (fun j=>decide (j<i)) 0 s0 us).2) o r.f r.bl r.nw
 all:uU (pe ops.toList []) [] us=true
 edge:nI 0 ops.toList=true
 fr0: ∀r∈us,∀nm∈r.nw,(∀k f,s0.1 k=some f->f.nm≠some nm)/\ ∀k B,s0.2 k=some B-> ¬B.men nm
def Cr{o:Option Nat}{k:Nat}:Ae o k=true↔o=some k:=by cases o<;>simp[Ae]
def Lm{B:Bk}{nm:Nat}(h:B.men nm):EY nm (some B)=true:=by
 cases B with
 |o ty cs lo=>obtain⟨f,hf,e⟩:=h;exact mX.2 ⟨f,hf,Cr.2 e⟩
 |b=>cases h
 |c=>cases h
def d5(listed:Array Bool):Nat->Bool:=fun j=>listed.getD j false
def un(ops:Array Oper)(listed:Array Bool):Nat:=((List.range ops.size).filter fun j=>!listed.getD j true).length
def Ss{α:Type}{p q:α->Bool}{x:α}: ∀{l:List α},x∈l->(∀y,q y=true->p y=true)->p x=true->q x=false->(l.filter q).length<(l.filter p).length
 |[],h,_,_,_=>by cases h
 |y::t,h,hpq,h1,h2=>by
  have le: ∀l:List α,(l.filter q).length<=(l.filter p).length:=fun l=>by
   induction l with
   |nil=>exact bQ _
   |cons z l ih=>
    simp only[nX]
    cases hq:q z with
    |true=>simp[hpq z hq];omega
    |false=>cases hp:p z<;>simp<;>omega
  rcases aW.1 h with rfl|h
  ·simp only[nX,h1,h2,if_true];have:=le t;simp;omega
  ·have ih:=Ss h hpq h1 h2
   simp only[nX]
   cases hq:q y with
   |true=>simp[hpq y hq];omega
   |false=>cases hp:p y<;>simp<;>omega
def jF.walk{us:List Rc}{s0:ST}(D:jF P GB C n ops us s0)(hk:SX GB C n (cC (fun _=>true) 0 s0 us).1 (cC (fun _=>true) 0 s0 us).2 (Q .normal)):
  ∀(fuel:Nat) (listed:Array Bool),listed.size=ops.size->(∀i o,ops[i]? =some o->d5 listed i=true-> ∀e∈o.after,Region.binds .any e=true->d5 listed e.on=true)->un ops listed<=fuel->
   SX GB C n (cC (d5 listed) 0 s0 us).1 (cC (d5 listed) 0 s0 us).2 (wpAnyIn (FW C.rd) 0 P .any ops Q fuel listed):=by
 -- what comes before something listed is listed
 have clo: ∀listed:Array Bool,(∀i o,ops[i]? =some o->d5 listed i=true-> ∀e∈o.after,Region.binds .any e=true->d5 listed e.on=true)-> ∀i j,Bf ops.toList i j->d5 listed i=true->d5 listed j=true:=by
  intro listed hc i j hb
  induction hb with
  |b ho he hb=>intro hi;exact hc _ _ (by simpa using ho) hi _ he hb
  |s ho he hb _ ih=>intro hi;exact ih (hc _ _ (by simpa using ho) hi _ he hb)
 have bf: ∀i j,((pe ops.toList []).getD i 0).testBit j=true->Bf ops.toList i j:=Ib ops.toList [] [] J J (fun i j h=>by simp at h);have spec: ∀i r,us[i]? =some r-> ∀j u,us[j]? =some u->j<i->((mI u r=true\/mI r u=true\/ ∃nm∈u.nw,p6 r nm=true)->Bf ops.toList i j)/\ ∀nm∈r.nw,p6 u nm=false:=fun i r hi j u hj hlt=>by
  have:=SO D.all i r hi j u (by simpa using hj) (by simpa using hlt);exact⟨fun h=>bf _ _ (this.1 h),this.2⟩
 have done: ∀listed:Array Bool,listed.size=ops.size->Region.ready .any ops listed=[]-> ∀i,i<ops.size->d5 listed i=true:=by
  intro listed hsz hr i
  induction i using Nat.strongRecOn with
  |ind i ih=>
   intro hi
   cases hl:listed.getD i true with
   |true=>unfold d5;simp only[cZ] at hl⊢;rw[gR (by omega)] at hl⊢;simpa using hl
   |false=>
    have:i∈Region.ready .any ops listed:=mem_ready.2 ⟨hl,ops[i],gR hi,fun e he hb=>by
     have hlt:=sr D.edge i ops[i] (by simp[hi]) e he hb;exact ih e.on (by omega) (by omega)⟩
    rw[hr] at this;cases this
 have same: ∀listed:Array Bool,listed.size=ops.size->(∀i,i<ops.size->d5 listed i=true)->(cC (d5 listed) 0 s0 us).1=(cC (fun _=>true) 0 s0 us).1/\(cC (d5 listed) 0 s0 us).2=(cC (fun _=>true) 0 s0 us).2:=by
  intro listed hsz h;refine⟨funext fun x=>Cm J fun j r hj _=>?_,funext fun x=>AO J fun j r hj _=>?_⟩<;>
  ·rw[fQ];exact h j (by have:=(aS.1 hj).1;rw[D.len] at this;exact this)
 intro fuel
 induction fuel with
 |zero=>
  intro listed hsz hc hu;have all: ∀i,i<ops.size->d5 listed i=true:=fun i hi=>by
   cases hl:listed.getD i true with
   |true=>unfold d5;simp only[cZ] at hl⊢;rw[gR (by omega)] at hl⊢;simpa using hl
   |false=>
    have h0:=List.length_eq_zero_iff.1 (Nat.le_zero.1 hu);have:=List.filter_eq_nil_iff.1 h0 i (jY.2 hi);simp[hl] at this
  obtain⟨e1,e2⟩:=same listed hsz all;rw[e1,e2];refine hk.imp fun a w h=>⟨?_,h⟩;refine List.eq_nil_iff_forall_not_mem.2 fun i hi=>?_;obtain⟨h1,o,ho,_⟩:=mem_ready.1 hi;have hlt:=(gQ.1 ho).1;have h2:=all i hlt;unfold d5 at h2;simp only[cZ] at h1 h2;rw[gR (by omega)] at h1 h2;simp at h1 h2;rw[h1] at h2;cases h2
 |succ fuel ih=>
  intro listed hsz hc hu;refine⟨fun ρ G ov a w r=>⟨fun hr=>?_,fun i hi=>?_⟩⟩
  ·obtain⟨e1,e2⟩:=same listed hsz (done listed hsz hr)
   rw[e1,e2] at r;exact hk.run ρ G ov a w r
  ·obtain⟨h1,o,ho,hall⟩:=mem_ready.1 hi
   have hlt:=(gQ.1 ho).1;have hli:d5 listed i=false:=by
    unfold d5;simp only[cZ] at h1⊢;rw[gR (by omega)] at h1⊢;simpa using h1
   obtain⟨u,hui⟩: ∃u,us[i]? =some u:=⟨us[i]'(by rw[D.len];exact hlt),aX _⟩;obtain⟨hd,hop⟩:=D.snd i u o hui ho;have bl: ∀j,Bf ops.toList i j->d5 listed j=true:=fun j hb=>by
    cases hb with
    |b ho' he hb=>rw[pY,ho] at ho';cases ho';exact hall _ he hb
    |s ho' he hb h=>rw[pY,ho] at ho';cases ho';exact clo listed hc _ _ h (hall _ he hb)
   have nb: ∀j r,us[j]? =some r->(mI r u=true\/mI u r=true)->decide (j<i)=d5 listed j:=fun j r hj hh=>by
    rcases pU j i with h|h|h
    ·rw[bl j ((spec i u hui j r hj h).1 (hh.imp id .inl))];simpa using h
    ·subst h;rw[hli];simp
    ·cases hl:d5 listed j with
     |false=>simp;omega
     |true=>have:=clo listed hc j i ((spec j r hj i u hui h).1 (hh.symm.imp id .inl)) hl;rw[hli] at this;cases this
   have sz':(listed.setIfInBounds i true).size=ops.size:=by simpa using hsz
   have l': ∀j,j≠i->d5 (listed.setIfInBounds i true) j=d5 listed j:=fun j hj=>by unfold d5;rw[getD_set_ne false (Ne.symm hj)]
   have li':d5 (listed.setIfInBounds i true) i=true:=by unfold d5;simp[hsz,hlt]
   have hc': ∀j o',ops[j]? =some o'->d5 (listed.setIfInBounds i true) j=true-> ∀e∈o'.after,Region.binds .any e=true->d5 (listed.setIfInBounds i true) e.on=true:=fun j o' hj hlj e he hb=>by
    by_cases hji:j=i
    ·subst hji;rw[ho] at hj;cases hj
     exact getD_set_true (hall e he hb)
    ·rw[l' j hji] at hlj
     exact getD_set_true (hc j o' hj hlj e he hb)
   have hu':un ops (listed.setIfInBounds i true)<=fuel:=by
    have:un ops (listed.setIfInBounds i true)<un ops listed:=by
     refine Ss (x:=i) (jY.2 hlt) (fun y hy=>?_) (by simp[h1]) (by simp[hsz,hlt]);by_cases hyi:y=i
     ·subst hyi;simp[hsz,hlt] at hy
     ·rwa [getD_set_ne true (Ne.symm hyi)] at hy
    omega
   have next:=ih _ sz' hc' hu'
   have e1:(cC (d5 (listed.setIfInBounds i true)) 0 s0 us).1=ey (cC (d5 listed) 0 s0 us).1 o.dst u.f:=by
    funext x;rw[hd];by_cases hx:u.d=some x
    ·-- i is the last to write x
     have key: ∀(us':List Rc) (k:Nat) (s:ST) (p:Nat->Bool) (m:Nat),us'[m]? =some u->p (k+m)=true->(∀j r,us'[j]? =some r->r.d=some x->j≠m->j<m\/p (k+j)=false)->(cC p k s us').1 x=some u.f:=by
      intro us'
      induction us' with
      |nil=>intro k s p m h;simp at h
      |cons r t iht=>
       intro k s p m h hp hj;simp only[cC]
       cases m with
       |zero=>
        simp at h;subst h;rw[fJ] at hp;rw[hp];have:(cC p (k+1) (r.ap s) t).1 x=(cC (fun _=>false) (k+1) (r.ap s) t).1 x:=Cm J fun j r' hj' hd'=>by
         have:=hj (j+1) r' (by simpa using hj') hd' (by omega);rw[show k+(j+1)=k+1+j by omega] at this;exact this.resolve_left (by omega)
        simp only[if_true,this];have nosel: ∀(l:List Rc) (k:Nat) (s:ST),cC (fun _=>false) k s l=s:=fun l=>by
         induction l with
         |nil=>intro k s;rfl
         |cons y l ih=>intro k s;exact ih _ _
        rw[nosel];simp[Rc.ap,ey,hx]
       |succ m=>
        refine iht _ _ p m (by simpa using h) (by rw[show k+1+m=k+(m+1) by omega];exact hp) fun j r' hj' hd' hne=>?_;have:=hj (j+1) r' (by simpa using hj') hd' (by omega);rw[show k+1+j=k+(j+1) by omega];exact this.imp (fun h=>by omega) id
     rw[key us 0 s0 _ i hui (by rw[fQ];exact li') fun j r hj hdr hne=>?_]
     ·rw[hx];simp[ey]
     ·rw[fQ,l' j hne]
      have:=nb j r hj (.inl (by simp[mI,hdr,hx,Ae]));rw[<-this];by_cases hji:j<i
      ·exact .inl hji
      ·exact .inr (by simpa using hji)
    ·rw[J0 hx]
     refine Cm J fun j r hj hdr=>?_;rw[fQ];exact l' j fun e=>by subst e;rw[hui] at hj;cases hj;exact hx hdr
   have e2:(cC (d5 (listed.setIfInBounds i true)) 0 s0 us).2=upB (cC (d5 listed) 0 s0 us).2 u.bl:=by
    funext x;by_cases hx: ∃e∈u.bl,e.1=x
    ·have key: ∀(us':List Rc) (k:Nat) (s s':ST) (p q:Nat->Bool) (m:Nat),us'[m]? =some u->p (k+m)=true->(∀j r,us'[j]? =some r->(∃e∈r.bl,e.1=x)->j≠m->q (k+j)=p (k+j)/\(j<m\/p (k+j)=false))->q (k+m)=false->s.2 x=s'.2 x->(cC p k s us').2 x=upB (cC q k s' us').2 u.bl x:=by
      intro us'
      induction us' with
      |nil=>intro k s s' p q m h;simp at h
      |cons r t iht=>
       intro k s s' p q m h hp hj hq hs;simp only[cC]
       cases m with
       |zero=>
        simp at h;subst h;rw[fJ] at hp hq;rw[hp,hq];have nosel: ∀(l:List Rc) (k:Nat) (s:ST),cC (fun _=>false) k s l=s:=fun l=>by
         induction l with
         |nil=>intro k s;rfl
         |cons y l ih=>intro k s;exact ih _ _
        have a1:(cC p (k+1) (r.ap s) t).2 x=(cC (fun _=>false) (k+1) (r.ap s) t).2 x:=AO J fun j r' hj' hd'=>by
         have:=(hj (j+1) r' (by simpa using hj') hd' (by omega)).2;rw[show k+(j+1)=k+1+j by omega] at this;exact this.resolve_left (by omega)
        have a2:(cC q (k+1) s' t).2 x=(cC (fun _=>false) (k+1) s' t).2 x:=AO J fun j r' hj' hd'=>by
         obtain⟨h3,h4⟩:=hj (j+1) r' (by simpa using hj') hd' (by omega);rw[show k+(j+1)=k+1+j by omega] at h3 h4;rw[h3];exact h4.resolve_left (by omega)
        simp only[if_true,dJ,if_false,a1,nosel];exact Ft fun _=>by rw[a2,nosel];exact hs
       |succ m=>
        refine iht _ _ _ p q m (by simpa using h) (by rw[show k+1+m=k+(m+1) by omega];exact hp) (fun j r' hj' hd' hne=>?_) (by rw[show k+1+m=k+(m+1) by omega];exact hq) ?_
        ·obtain⟨h3,h4⟩:=hj (j+1) r' (by simpa using hj') hd' (by omega)
         rw[show k+1+j=k+(j+1) by omega];exact⟨h3,h4.imp (fun h=>by omega) id⟩
        ·by_cases hr: ∃e∈r.bl,e.1=x
         ·have:=(hj 0 r J hr (by omega)).1
          rw[fJ] at this;rw[this]
          cases p k
          ·exact hs
          ·exact Ft fun _=>hs
         ·have: ∀(b:Bool) (s:ST),(if b then r.ap s else s).2 x=s.2 x:=fun b s=>by
           cases b
           ·rfl
           ·exact FM fun e he hc=>hr ⟨e,he,hc⟩
          rw[this,this];exact hs
     refine key us 0 s0 s0 _ _ i hui (by rw[fQ];exact li') (fun j r hj hdr hne=>?_) (by rw[fQ];exact hli) J;rw[fQ];refine⟨(l' j hne).symm,?_⟩;rw[l' j hne];obtain⟨e,he,rfl⟩:=hx;obtain⟨e',he',hee⟩:=hdr;have hh:mI u r=true:=by
      unfold mI;rw[iL];exact .inr (mX.2 ⟨e,he,by rw[iL];exact .inr (mX.2 ⟨e',he',by simpa using hee⟩)⟩)
     rw[<-nb j r hj (.inr hh)];by_cases hji:j<i
     ·exact .inl hji
     ·exact .inr (by simpa using hji)
    ·rw[FM fun e he hc=>hx ⟨e,he,hc⟩]
     refine AO J fun j r hj hdr=>?_;rw[fQ];exact l' j fun e=>by subst e;rw[hui] at hj;cases hj;exact hx hdr
   rw[e1,e2] at next
   have sub1:kd (mp u.rs (cC (fun j=>decide (j<i)) 0 s0 us).1) (cC (d5 listed) 0 s0 us).1:=fun x f hx=>by
    unfold mp at hx
    cases hm:uT u.rs x with
    |false=>rw[hm] at hx;cases hx
    |true=>
     rw[hm,cond_true] at hx;rw[<-hx];refine(Cm J fun j r hj hdr=>?_).symm;rw[fQ];exact nb j r hj (.inl (by simp[mI,hdr,hm]))
   have sub2:kd (mp u.rn (cC (fun j=>decide (j<i)) 0 s0 us).2) (cC (d5 listed) 0 s0 us).2:=fun x B hx=>by
    unfold mp at hx
    cases hm:uT u.rn x with
    |false=>rw[hm] at hx;cases hx
    |true=>
     rw[hm,cond_true] at hx;rw[<-hx];refine(AO J fun j r hj hdr=>?_).symm;rw[fQ];obtain⟨e,he,rfl⟩:=hdr;refine nb j r hj (.inl ?_);unfold mI;rw[iL];exact .inr (mX.2 ⟨e,he,by rw[hm];rfl⟩)
   have fr:kz u.nw o.dst (cC (d5 listed) 0 s0 us).1 (cC (d5 listed) 0 s0 us).2:=fun nm hnm=>by
    obtain⟨g1,g2⟩:=D.fr0 u (aM hui) nm hnm;have men: ∀j r,us[j]? =some r->d5 listed j=true->p6 r nm=false:=fun j r hj hlj=>by
     rcases pU j i with h|h|h
     ·exact(spec i u hui j r hj h).2 nm hnm
     ·subst h;rw[hli] at hlj;cases hlj
     ·cases hm:p6 r nm with
      |false=>rfl
      |true=>have:=clo listed hc j i ((spec j r hj i u hui h).1 (.inr (.inr ⟨nm,hnm,hm⟩))) hlj;rw[hli] at this;cases this
    refine⟨fun k f hk e=>?_,fun k B hk e hm=>?_⟩
    ·intro hc'
     rcases Mm e with h|⟨j,r,h1,h2,h3,h4⟩
     ·exact g1 k f h hc'
     ·have:=men j r h1 (by simpa using h2)
      simp only[p6,sM,yf] at this;rw[h4,Cr.2 hc'] at this
      cases this.1
    ·rcases RG e with h|⟨j,r,h1,h2,h3⟩
     ·exact g2 k B h hm
     ·have:=men j r h1 (by simpa using h2)
      simp only[p6,sM] at this;have:=List.any_eq_false.1 this.2 _ h3;exact this (Lm hm)
   have fin:=hop Q _ _ _ sub1 sub2 fr next
   have:=fin.run ρ G ov a w r;unfold wO at this;unfold wpOpIn;rw[ho];simp only;split
   ·rename_i hw;rw[if_pos hw] at this;exact this
   ·rename_i hw;rw[if_neg hw] at this;exact⟨fun _ _=>trivial,this⟩
def Eu(m k:Nat):d5 (Array.replicate m false) k=false:=by unfold d5;simp[qL];split<;>rfl
def jF.region{us:List Rc}{s0:ST}{id:Nat}(D:jF P GB C n ops us s0)(hm:P.follows .mixedOrders=true)(hk:SX GB C n (cC (fun _=>true) 0 s0 us).1 (cC (fun _=>true) 0 s0 us).2 (Q .normal)):SX GB C n s0.1 s0.2 (il C.rd P (.region id ops true) Q):=by
 have h:=D.walk hk ops.size (Array.replicate ops.size false) (by simp) (fun i o _ hi=>by rw[Eu] at hi;cases hi) (by unfold un;exact eY (sJ _ _) (by simp));have e:cC (d5 (Array.replicate ops.size false)) 0 s0 us=s0:=by
  have: ∀(l:List Rc) (k:Nat) (s:ST),cC (d5 (Array.replicate ops.size false)) k s l=s:=fun l=>by
   induction l with
   |nil=>intro k s;rfl
   |cons y l ih=>
    intro k s;simp only[cC];rw[ih];rw[Eu];rfl
  exact this us 0 s0
 rw[e] at h;exact h.drew.imp fun a w k=>wpIn_region_any hm k
end
end Go.Sx
end
