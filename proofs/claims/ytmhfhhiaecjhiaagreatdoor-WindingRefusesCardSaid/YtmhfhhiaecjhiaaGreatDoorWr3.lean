import Derived.Test.YtmhfhhiaecjhiaaGreatDoorWr2
import Derived.CallsIn
import Derived.OrdersIn
import Derived.TacticsIn
import Derived.RangeFuncIn
import Derived.RangeFuncRecord
set_option linter.all false
set_option maxRecDepth 100000
section
namespace Go.Sx
open Go
def vH{cs l:List Value}{o k:Nat}(h:cc cs o k=some l):l.length=k:=(ma _ _ _ _ h).1
def vP: ∀{cs m:List Value} {o k:Nat},cc cs o k=some m-> ∀{d:Nat},d<=k->cc cs (o+d) (k-d)=some (m.drop d)
 |cs,m,o,k,h,0,_=>by simpa using h
 |[],m,0,0,h,d+1,hd=>by omega
 |v::t,m,0,0,h,d+1,hd=>by omega
 |[],m,0,k+1,h,d+1,hd=>by simp[cc] at h
 |v::t,m,0,k+1,h,d+1,hd=>by
  simp only[cc] at h;split at h
  .rename_i l hl
   cases h
   have:=vP hl (d:=d) (by omega);rw[dW] at this;rw[dW,Nat.add_sub_add_right,qS];exact this
  .cases h
 |[],m,o+1,k,h,d+1,hd=>by simp[cc] at h
 |v::t,m,o+1,k,h,d+1,hd=>by
  simp only[cc] at h;have:=vP h (d:=d+1) hd;rw[show o+1+(d+1)=(o+(d+1))+1 by omega];exact this
def Dk: ∀{cs m:List Value} {o k:Nat},cc cs o k=some m-> ∀{j:Nat},j<=k->cc cs o j=some (m.take j)
 |cs,m,0,k,h,0,_=>by cases cs<;>rfl
 |[],m,0,0,h,j+1,hd=>by omega
 |v::t,m,0,0,h,j+1,hd=>by omega
 |[],m,0,k+1,h,j+1,hd=>by simp[cc] at h
 |v::t,m,0,k+1,h,j+1,hd=>by
  simp only[cc] at h;split at h
  .rename_i l hl
   cases h
   have:=Dk hl (j:=j) (by omega);simp[cc,this]
  .cases h
 |[],m,o+1,k,h,j,hd=>by simp[cc] at h
 |v::t,m,o+1,k,h,j,hd=>by
  simp only[cc] at h⊢;exact Dk h hd
def uj{m l:List Value}{j k:Nat}(h:cc m j k=some l):j+k<=m.length/\l=(m.drop j).take k:=by
 obtain⟨h1,h2⟩:=ma _ _ _ _ h;have hle:j<=m.length:=by
  clear h1 h2
  induction m generalizing j with
  |nil=>cases j with
   |zero=>exact aM _
   |succ j=>simp[cc] at h
  |cons v t ih=>cases j with
   |zero=>exact bJ _
   |succ j=>have:=ih (j:=j) h;simp;omega
 have hlen:j+k<=m.length:=by
  rcases cN k with h0|h0
  .omega
  .have h3:=h2 (k-1) (by omega)
   rw[aQ (by omega:k-1<l.length)] at h3;have:=(aT.1 h3).1;omega
 rw[ja _ _ _ hlen] at h
 cases h
 exact⟨hlen,J⟩
def Hp{cs m l:List Value}{o s j k:Nat}(h:cc cs o s=some m)(hm:cc m j k=some l):cc cs (o+j) k=some l:=by
 obtain⟨h1,rfl⟩:=uj hm;have hl:=vH h;have h2:=vP h (d:=j) (by omega);exact Dk h2 (j:=k) (by omega)
def N9{cs:List Value}{o:Nat}{v:Value}:cc cs o 1=some [v]↔cs[o]? =some v:=by
 constructor
 .intro h
  obtain⟨_,h2⟩:=ma _ _ _ _ h;simpa using h2 0 (by omega)
 .intro h
  obtain⟨h1,h2⟩:=aT.1 h;rw[ja _ _ _ (by omega),bM h1,lM,h2];rfl
def Bt{m l:List Value}{j k i:Nat}(h:cc m j k=some l)(hi:i<k):m[j+i]? =l[i]? :=(ma _ _ _ _ h).2 i hi
inductive Ai:List cj->Nat->List DV->TypeId->Bool->List DV->List cj->Prop
 |hd (b:Nat) (cs cs':List DV) (ty:TypeId) (lo:Bool) (t:List cj):Ai (⟨b,cs,ty,lo⟩::t) b cs ty lo cs' (⟨b,cs',ty,lo⟩::t)
 |tl (o:cj) (t t':List cj) (b:Nat) (cs cs':List DV) (ty:TypeId) (lo:Bool) (h:Ai t b cs ty lo cs' t'):Ai (o::t) b cs ty lo cs' (o::t')
inductive Av:List cj->Nat->List DV->TypeId->Bool->List cj->Prop
 |hd (b:Nat) (cs:List DV) (ty:TypeId) (lo:Bool) (t:List cj):Av (⟨b,cs,ty,lo⟩::t) b cs ty lo t
 |tl (o:cj) (t t':List cj) (b:Nat) (cs:List DV) (ty:TypeId) (lo:Bool) (h:Av t b cs ty lo t'):Av (o::t) b cs ty lo (o::t')
inductive zT:List cI->cI->List cI->Prop
 |hd (β:cI) (t:List cI):zT (β::t) β t
 |tl (o:cI) (t t':List cI) (β:cI) (h:zT t β t'):zT (o::t) β (o::t')
section
variable {P:Program} {GB:Gh} {C:az} {n:Nat} {E:kB} {fr fr':di} {own own':List cj} {bs bs':List cI} {ops:Array Oper} {Q:Exit->Act->World->Prop} {r:List Oper} {Φ:Act->World->Prop}
variable {dst:Option Nat} {t t' ty':TypeId} {pos:String} {af:Array Edge} {gd:Option (Nat×Bool)} {x y z:Operand} {e s by_:Nat}
def cG.elem{G:Gh}{β:cI}{B:List av}(h:cG G β B){i:Nat}{d:DV}(hi:β.ds[i]? =some d)(hd:d.okc=true):
  ∃b m rest lo l,β.x.a=some ⟨b,0,none⟩/\B=[⟨b,m++rest,β.ty,lo⟩]/\cc (m++rest) (i*β.s) β.s=some l/\IsLs G d.cells l:=by
 obtain⟨vs,hB,hv,hs,_⟩:=h;obtain⟨v,h1,h2⟩:=hv.get hi;rcases hB with⟨e,_,_⟩|⟨b,rest,lo,h3,h4,h5,h6,h7⟩
 .rw[e] at h1;simp at h1
 .obtain⟨h8,h9⟩:=aT.1 h1
  refine⟨b,bc vs,rest,lo,aF v,by rw[h3],h4,?_,(h2.cells hd).1⟩;have:=BU (rest:=rest) hs h8;rw[h9] at this;exact this
def QZ(fr:di)(offs:List (Nat×Nat)):List DV->List (Nat×Operand)->Option (List DV)
 |cs,[]=>some cs
 |cs,(i,x)::r=>match offs[i]?,yh fr x with
  |some (off,k),some d=>bif d.okc&&(Nat.beq d.cells.length k&&Nat.ble (off+k) cs.length) then QZ fr offs (tP cs off d.cells) r else none
  |_,_=>none
class Zy (P:Program) (t:TypeId) (z:outParam Value) (cs:outParam (List DV)):Prop where
 tz:gg P t z
 iz:IsLs (fun _=>none) cs (aF z)
def IsLs.all{G:Gh}: ∀{l:List DV} {m:List Value},IsLs G l m-> ∀v∈m,∃d∈l,Is G d v
 |[],m,h,v,hv=>by rw[b4.1 h] at hv;cases hv
 |d::t,m,h,v,hv=>by
  obtain⟨y,n,rfl,h1,h2⟩:=bi.1 h;rcases aR.1 hv with rfl|hv
  .exact⟨d,aX,h1⟩
  .obtain⟨d',hd,h3⟩:=h2.all v hv
   exact⟨d',aK _ hd,h3⟩
def ee.sub{G:Gh}{s:Nat}{x:SV}{es:List Value}(h:ee G s x es)(lo hi mx:Nat)(h1:lo<=hi)(h2:hi<=es.length)(h3:hi<=mx)(_h4:mx<=x.c):
  ee G s ⟨if mx=lo then x.a else x.a.map (·.add (lo*s)),hi-lo,mx-lo⟩ ((es.take hi).drop lo):=by
 refine⟨by simp;omega,by simp only[];omega,?_⟩;rcases h.mem with h0|⟨b,off,cs,ha,hg,hc⟩
 .left;simp[h0]
 .by_cases he:hi=lo
  .left;simp[he]
  .right
   refine⟨b,off+lo*s,cs,?_,hg,fun i hi'=>?_⟩
   .simp only[]
    rw[if_neg (by omega),ha];simp[oE]
   .simp only[jY,aS] at hi'
    have:=hc (lo+i) (by omega);rw[jT,<-cS,this];simp
def dl(s:Nat)(l:List DV):Prop:= ∀d∈l,d.okc=true/\d.cells.length=s
def wg{G:Gh}{l:List DV}{s' s:Nat}{w:SV}{es:List Value}(hsl:ee G s' w es)(hl:IsLs G l es)(ho:dl s l):es=[]\/s'=s:=by
 rcases hsl.mem with h|⟨b,off,cs,ha,hg,hcs⟩
 .exact .inl h
 .cases es with
  |nil=>exact .inl J
  |cons v t=>
   right;have h1:=hcs 0 (by simp);have h2:=vH h1;obtain⟨d,hd,h3⟩:=hl.all v aX;obtain⟨h4,h5⟩:=ho d hd;have:=(h3.cells h4).1.len;simp only[mY] at h2;omega
end
section
variable {P:Program} {GB:Gh} {C:az} {n:Nat} {E:kB} {fr:di} {own:List cj} {bs:List cI} {ops:Array Oper} {Q:Exit->Act->World->Prop} {r:List Oper} {dst:Option Nat} {ty':TypeId} {pos:String} {af:Array Edge} {x:Operand}
end
inductive FX where
 |d (x:DV)
 /-- a pointer to cells that are written no more -/
 |ep (l:List DV)
 /-- an interface around a value -/
 |ip (t:TypeId) (d:DV)
 /-- a known slice; it may be block nm's -/
 |ri (nm:Nat) (x:SV)
 /-- a pointer into a variable -/
 |ov (nm off:Nat)
 /-- a row -/
 |rw(nm:Nat)
 /-- a pointer into element i of a row -/
 |be (nm s i j:Nat)
 /-- a slice of n elements of a row, from element off on -/
 |rs (nm s off n:Nat)
 /-- a slice bt room behind it -/
 |ct (l:List DV)
 |tt
 |ff
 |pr (p:Prop) (h:Decidable p)
 |nl
 /-- an aggregate (or a tuple) with one row in it -/
 |bx (tp:Bool) (pre:List DV) (nm:Nat) (post:List DV)
 |un
 /-- nothing is known -/
 |no
abbrev NE:=Nat->SV
def bz(ρ:NE)(G:Gh):FX->Value->Prop
 | .d x,y=>Is G x y
 | .ep l,y=> ∃b off cs m,y= .pointer (some ⟨b,off,none⟩)/\G b=some cs/\cc cs off l.length=some m/\IsLs G l m
 | .ip t d,y=> ∃u,y= .iface t u/\Is G d u
 | .ri _ x,y=>y= .slice x.a x.n x.c
 | .ov nm off,y=> ∃b,(ρ nm).a=some ⟨b,0,none⟩/\y= .pointer (some ⟨b,off,none⟩)
 | .rw nm,y=>y= .slice (ρ nm).a (ρ nm).n (ρ nm).c
 | .be nm s i j,y=> ∃b,(ρ nm).a=some ⟨b,0,none⟩/\y= .pointer (some ⟨b,i*s+j,none⟩)
 | .rs nm s off n,y=> ∃b c,(ρ nm).a=some ⟨b,0,none⟩/\y= .slice (some ⟨b,off*s,none⟩) n c/\n<=c
 | .ct l,y=>(∃a n,y= .slice a n n)/\Is G (.sl l) y
 | .tt,y=>y= .bool true
 | .ff,y=>y= .bool false
 | .pr p h,y=>y= .bool (@decide p h)
 | .nl,y=>y= .slice none 0 0
 | .bx tp pre nm post,y=> ∃m1 m2,y=(bif tp then Value.tuple ⟨m1++Value.slice (ρ nm).a (ρ nm).n (ρ nm).c::m2⟩ else .agg ⟨m1++Value.slice (ρ nm).a (ρ nm).n (ρ nm).c::m2⟩)/\IsLs G pre m1/\IsLs G post m2
 | .un,y=>y=undef
 | .no,_=>True
def cD(ρ:NE)(G:Gh):List FX->List Value->Prop
 |[],m=>m=[]
 |f::t,m=> ∃y n,m=y::n/\bz ρ G f y/\cD ρ G t n
def FX.nm:FX->Option Nat
 | .ov n _=>some n
 | .rw n=>some n
 | .be n _ _ _=>some n
 | .rs n _ _ _=>some n
 | .ri n _=>some n
 | .bx _ _ n _=>some n
 |_=>none
section
variable {ρ:NE} {G:Gh}
def bz.up{A:Gh}{f:FX}{y:Value}(h:bz ρ A f y)(k:ba A G):bz ρ G f y:=by
 cases f with
 |d x=>exact Is.up h k
 |ep l=>obtain⟨b,off,cs,m,e,hb,ht,hl⟩:=h;exact⟨b,off,cs,m,e,k _ _ hb,ht,hl.up k⟩
 |ip t l=>obtain⟨u,e,h⟩:=h;exact⟨u,e,h.up k⟩
 |ct l=>exact⟨h.1,h.2.up k⟩
 |bx tp pre nm post=>obtain⟨m1,m2,e,h1,h2⟩:=h;exact⟨m1,m2,e,h1.up k,h2.up k⟩
 |_=>exact h
def bz.ren{ρ':NE}{f:FX}{y:Value}(h:bz ρ G f y)(k: ∀n,f.nm=some n->ρ' n=ρ n):bz ρ' G f y:=by
 cases f with
 |ov n o=>have e:=k n J;simp only[bz] at h⊢;rw[e];exact h
 |rw n=>have e:=k n J;simp only[bz] at h⊢;rw[e];exact h
 |be n s i j=>have e:=k n J;simp only[bz] at h⊢;rw[e];exact h
 |rs n s i j=>have e:=k n J;simp only[bz] at h⊢;rw[e];exact h
 |bx tp pre n post=>have e:=k n J;simp only[bz] at h⊢;rw[e];exact h
 |_=>exact h
def cD.up{A:Gh}(k:ba A G): ∀{l:List FX} {m:List Value},cD ρ A l m->cD ρ G l m
 |[],_,h=>h
 |_::_,_,⟨y,n,e,h1,h2⟩=>⟨y,n,e,h1.up k,h2.up k⟩
def cD.ren{ρ':NE}: ∀{l:List FX} {m:List Value},cD ρ G l m->(∀f∈l,∀n,f.nm=some n->ρ' n=ρ n)->cD ρ' G l m
 |[],_,h,_=>h
 |f::t,_,⟨y,n,e,h1,h2⟩,k=>⟨y,n,e,h1.ren (k f aX),h2.ren fun g hg=>k g (aK _ hg)⟩
def cD.len: ∀{l:List FX} {m:List Value},cD ρ G l m->m.length=l.length
 |[],m,h=>by rw[show m=[] from h];rfl
 |f::t,m,⟨y,n,e,h1,h2⟩=>by subst e;simp[h2.len]
def cD.get: ∀{l:List FX} {m:List Value} {i:Nat} {f:FX},cD ρ G l m->l[i]? =some f-> ∃y,m[i]? =some y/\bz ρ G f y
 |[],m,i,f,h,e=>by simp at e
 |x::t,m,0,f,⟨y,n,e1,h1,h2⟩,e=>by subst e1;simp at e;subst e;exact⟨y,J,h1⟩
 |x::t,m,i+1,f,⟨y,n,e1,h1,h2⟩,e=>by subst e1;simp at e;simpa using h2.get e
def cD.set: ∀{a:List FX} {m:List Value} (k:Nat) {f:FX} {y:Value},cD ρ G a m->bz ρ G f y->cD ρ G (a.set k f) (m.set k y)
 |[],m,k,f,y,h,_=>by rw[show m=[] from h];rfl
 |x::t,m,0,f,y,⟨u,n,e,h1,h2⟩,k=>by subst e;exact⟨y,n,J,k,h2⟩
 |x::t,m,j+1,f,y,⟨u,n,e,h1,h2⟩,k=>by subst e;exact⟨u,n.set j y,J,h1,h2.set j k⟩
end
def gw:FX->Option DV
 | .d x=>some x
 | .ct l=>some (.sl l)
 | .tt=>some (.v (.bool true))
 | .ff=>some (.v (.bool false))
 | .pr p h=>some (.v (.bool (@decide p h)))
 | .nl=>some (.sl [])
 |_=>none
def lu{ρ:NE}{G:Gh}{f:FX}{d:DV}{y:Value}(h:bz ρ G f y)(e:gw f=some d):Is G d y:=by
 cases f with
 |d x=>cases e;exact h
 |ct l=>cases e;exact h.2
 |tt=>cases e;exact aH.2 h
 |ff=>cases e;exact aH.2 h
 |pr p i=>cases e;exact aH.2 h
 |nl=>cases e;rw[show y= .slice none 0 0 from h];exact fe.2 ⟨0,⟨none,0,0⟩,[],J, .nil G 0, .nil⟩
 |_=>cases e
def iq:List FX->Option (List DV)
 |[]=>some []
 |f::t=>match gw f,iq t with
  |some d,some l=>some (d::l)
  |_,_=>none
def q7{ρ:NE}{G:Gh}: ∀{l:List FX} {ds:List DV} {m:List Value},cD ρ G l m->iq l=some ds->IsLs G ds m
 |[],ds,m,h,e=>by cases e;rw[show m=[] from h];exact .nil
 |f::t,ds,m,⟨y,n,e1,h1,h2⟩,e=>by
  subst e1;simp only[iq] at e;split at e
  .rename_i d l hd hl
   cases e
   exact .cons (lu h1 hd) (q7 h2 hl)
  .cases e
def FX.okc:FX->Bool
 | .d x=>x.okc
 | .bx false pre _ post=>(DV.ag pre).okc&&(DV.ag post).okc
 | .bx true _ _ _=>false
 | .un=>false
 | .no=>false
 |_=>true
def FX.cells:FX->List FX
 | .d (.ag l)=>l.map .d
 | .bx false pre nm post=>pre.map .d++ .rw nm::post.map .d
 |f=>[f]
def cD.app{ρ:NE}{G:Gh}: ∀{a b:List FX} {m n:List Value},cD ρ G a m->cD ρ G b n->cD ρ G (a++b) (m++n)
 |[],b,m,n,h,k=>by rw[show m=[] from h];exact k
 |f::t,b,m,n,⟨y,q,e,h1,h2⟩,k=>by subst e;exact⟨y,q++n,J,h1,h2.app k⟩
def oO{ρ:NE}{G:Gh}: ∀{l:List DV} {m:List Value},IsLs G l m->cD ρ G (l.map .d) m
 |[],m,h=>b4.1 h
 |d::t,m,h=>by
  obtain⟨y,n,rfl,h1,h2⟩:=bi.1 h;exact⟨y,n,J,h1,oO h2⟩
def bz.cells{ρ:NE}{G:Gh}{f:FX}{y:Value}(h:bz ρ G f y)(k:f.okc=true):cD ρ G f.cells (aF y)/\ ∀v∈aF y,Go.Sx.flat v=true:=by
 have one: ∀g:FX,bz ρ G g y->Go.Sx.flat y=true->cD ρ G [g] (aF y)/\ ∀v∈aF y,Go.Sx.flat v=true:=fun g hg hf=>by
  rw[uI hf];exact⟨⟨y,[],J,hg,J⟩,fun v hv=>by rw[aL.1 hv];exact hf⟩
 cases f with
 |d x=>
  cases x with
  |ag l=>
   obtain⟨m,rfl,hm⟩:=dt.1 (show Is G (.ag l) y from h);exact⟨oO hm,hm.flat k⟩
  |_=>exact one _ h (Is.flat (show Is G _ y from h) k)
 |ep l=>obtain⟨b,off,cs,m,rfl,_⟩:=h;exact one (.ep l) ⟨b,off,cs,m,rfl,by assumption⟩ rfl
 |ip t l=>obtain⟨u,rfl,hu⟩:=h;exact one (.ip t l) ⟨u,rfl,hu⟩ rfl
 |ri nm x=>cases h;exact one (.ri nm x) J J
 |ov nm off=>obtain⟨b,hb,rfl⟩:=h;exact one (.ov nm off) ⟨b,hb,rfl⟩ rfl
 |rw nm=>cases h;exact one (.rw nm) J J
 |be nm s i j=>obtain⟨b,hb,rfl⟩:=h;exact one (.be nm s i j) ⟨b,hb,rfl⟩ rfl
 |rs nm s i j=>obtain⟨b,c,hb,rfl,hc⟩:=h;exact one (.rs nm s i j) ⟨b,c,hb,rfl,hc⟩ rfl
 |ct l=>obtain⟨⟨a,n,rfl⟩,h2⟩:=h;exact one (.ct l) ⟨⟨a,n,rfl⟩,h2⟩ rfl
 |tt=>cases h;exact one .tt J J
 |ff=>cases h;exact one .ff J J
 |pr p i=>cases h;exact one (.pr p i) J J
 |nl=>cases h;exact one .nl J J
 |bx tp pre nm post=>
  cases tp with
  |true=>cases k
  |false=>
   obtain⟨m1,m2,rfl,h1,h2⟩:=h;simp only[FX.okc,bQ] at k;refine⟨(oO h1).app ⟨_,m2,J,J,oO h2⟩,fun v hv=>?_⟩;rcases cM.1 (show v∈m1++_::m2 from hv) with hv|hv
   .exact h1.flat k.1 v hv
   .rcases aR.1 hv with rfl|hv
    .rfl
    .exact h2.flat k.2 v hv
 |un=>cases k
 |no=>cases k
inductive Bk where
 |o (ty:TypeId) (cs:List FX) (lo:Bool)
 |b (ty:TypeId) (s:Nat) (ds:List DV) (lo:Bool)
 /-- a row with room for cap elements in all -/
 |c (ty:TypeId) (s:Nat) (ds:List DV) (cap:Nat)
 /-- a row whose slice is known -/
 |p (x:SV) (ty:TypeId) (s:Nat) (ds:List DV)
def gr(ρ:NE)(G:Gh)(nm:Nat):Bk->List av->Prop
 | .o ty cs lo,B=> ∃b m,(ρ nm).a=some ⟨b,0,none⟩/\B=[⟨b,m,ty,lo⟩]/\cD ρ G cs m
 | .b ty s ds lo,B=> ∃vs,ir s ty (ρ nm) vs B/\IsLs G ds vs/\(∀v∈vs,(aF v).length=s)/\(lo=true-> ∀o∈B,o.lo=true)
 | .c ty s ds cap,B=> ∃vs,ir s ty (ρ nm) vs B/\IsLs G ds vs/\(∀v∈vs,(aF v).length=s)/\(∀o∈B,o.lo=true)/\cap<=(ρ nm).c
 | .p x ty s ds,B=>ρ nm=x/\ ∃vs,ir s ty x vs B/\IsLs G ds vs/\(∀v∈vs,(aF v).length=s)/\(∀o∈B,o.lo=true)
def Bk.men(n:Nat):Bk->Prop
 | .o _ cs _=> ∃f∈cs,f.nm=some n
 | .b .. =>False
 | .c .. =>False
 | .p .. =>False
section
variable {ρ:NE} {G:Gh} {nm:Nat} {B:Bk} {os:List av}
def gr.up{A:Gh}(h:gr ρ A nm B os)(k:ba A G):gr ρ G nm B os:=by
 cases B with
 |o ty cs lo=>obtain⟨b,m,h1,h2,h3⟩:=h;exact⟨b,m,h1,h2,h3.up k⟩
 |b ty s ds lo=>obtain⟨vs,h1,h2,h3,h4⟩:=h;exact⟨vs,h1,h2.up k,h3,h4⟩
 |c ty s ds cap=>obtain⟨vs,h1,h2,h3,h4⟩:=h;exact⟨vs,h1,h2.up k,h3,h4⟩
 |p x ty s ds=>obtain⟨h0,vs,h1,h2,h3,h4⟩:=h;exact⟨h0,vs,h1,h2.up k,h3,h4⟩
def gr.ren{ρ':NE}(h:gr ρ G nm B os)(h0:ρ' nm=ρ nm)(k: ∀n,B.men n->ρ' n=ρ n):gr ρ' G nm B os:=by
 cases B with
 |o ty cs lo=>obtain⟨b,m,h1,h2,h3⟩:=h;exact⟨b,m,by rw[h0];exact h1,h2,h3.ren fun f hf n hn=>k n ⟨f,hf,hn⟩⟩
 |b ty s ds lo=>obtain⟨vs,h1,h2,h3,h4⟩:=h;exact⟨vs,by rw[h0];exact h1,h2,h3,h4⟩
 |c ty s ds cap=>obtain⟨vs,h1,h2,h3,h4,h5⟩:=h;exact⟨vs,by rw[h0];exact h1,h2,h3,h4,by rw[h0];exact h5⟩
 |p x ty s ds=>obtain⟨h1,h2⟩:=h;exact⟨by rw[h0];exact h1,h2⟩
def gr.blk(h:gr ρ G nm B os){o:av}(ho:o∈os):(ρ nm).a=some ⟨o.b,0,none⟩:=by
 cases B with
 |o ty cs lo=>obtain⟨b,m,h1,rfl,h3⟩:=h;rw[aL.1 ho];exact h1
 |b ty s ds lo=>
  obtain⟨vs,h1,_⟩:=h;rcases h1 with⟨_,_,rfl⟩|⟨b,rest,lo',e,rfl,_⟩
  .cases ho
  .rw[aL.1 ho,e]
 |c ty s ds cap=>
  obtain⟨vs,h1,_⟩:=h;rcases h1 with⟨_,_,rfl⟩|⟨b,rest,lo',e,rfl,_⟩
  .cases ho
  .rw[aL.1 ho,e]
 |p x ty s ds=>
  obtain⟨h0,vs,h1,_⟩:=h;rcases h1 with⟨_,_,rfl⟩|⟨b,rest,lo',e,rfl,_⟩
  .cases ho
  .rw[aL.1 ho,h0,e]
def gr.mem_of(h:gr ρ G nm B os){b:Nat}(hb:(ρ nm).a=some ⟨b,0,none⟩): ∃o∈os,o.b=b:=by
 cases B with
 |o ty cs lo=>obtain⟨b',m,h1,rfl,h3⟩:=h;rw[h1] at hb;cases hb;exact⟨_,aX,rfl⟩
 |b ty s ds lo=>
  obtain⟨vs,h1,_⟩:=h;rcases h1 with⟨_,e,rfl⟩|⟨b',rest,lo',e,rfl,_⟩
  .rw[e] at hb;cases hb
  .rw[e] at hb;cases hb;exact⟨_,aX,J⟩
 |c ty s ds cap=>
  obtain⟨vs,h1,_⟩:=h;rcases h1 with⟨_,e,rfl⟩|⟨b',rest,lo',e,rfl,_⟩
  .rw[e] at hb;cases hb
  .rw[e] at hb;cases hb;exact⟨_,aX,J⟩
 |p x ty s ds=>
  obtain⟨h0,vs,h1,_⟩:=h;rcases h1 with⟨_,e,rfl⟩|⟨b',rest,lo',e,rfl,_⟩
  .rw[h0,e] at hb;cases hb
  .rw[h0,e] at hb;cases hb;exact⟨_,aX,J⟩
end
abbrev LK:=Nat->Option FX
abbrev BM:=Nat->Option Bk
structure bu (GB:Gh) (C:az) (n:Nat) (lk:LK) (bk:BM) (ρ:NE) (G:Gh) (ov:List av) (a:Act) (w:World):Prop where
 gb:ba GB G
 h:bj C ov G w
 sz:a.tmps.size=n
 df:a.defers=C.mks
 fx: ∀k f,lk k=some f-> ∃y,a.tmps[k]? =some y/\bz ρ G f y
 bx: ∀nm B,bk nm=some B-> ∃os,gr ρ G nm B os/\ ∀o∈os,o∈ov
 dj: ∀nm nm' B B',bk nm=some B->bk nm'=some B'->nm≠nm'-> ∀b,(ρ nm).a=some ⟨b,0,none⟩->(ρ nm').a≠some ⟨b,0,none⟩
 fxd: ∀nm p,n<=nm->2000000<=nm->C.fx nm=some p->(ρ nm).a=some p
structure SX (GB:Gh) (C:az) (n:Nat) (lk:LK) (bk:BM) (Φ:Act->World->Prop):Prop where
 run: ∀ρ G ov a w,bu GB C n lk bk ρ G ov a w->Φ a w
def fD{α:Type}(f g:Nat->Option α):Prop:= ∀k x,f k=some x->g k=some x
def fD.refl{α:Type}(f:Nat->Option α):fD f f:=fun _ _ h=>h
def c7(lk:LK)(d:Option Nat)(f:FX):LK:=match d with
 |some d=>fun k=>if k=d then some f else lk k
 |none=>lk
def upB:BM->List (Nat×Option Bk)->BM
 |tb,[]=>tb
 |tb,(nm,B)::t=>upB (fun k=>if k=nm then B else tb k) t
def i6(nw:List Nat)(dst:Option Nat)(tl:LK)(tb:BM):Prop:=
 ∀nm∈nw,(∀k f,some k≠dst->tl k=some f->f.nm≠some nm)/\ ∀k B,k≠nm->tb k=some B-> ¬B.men nm
section
variable {GB:Gh} {C:az} {n:Nat} {lk tl:LK} {bk tb:BM} {ρ:NE} {G:Gh} {ov:List av} {a:Act} {w:World} {Φ Ψ:Act->World->Prop}
def bu.mono(h:bu GB C n tl tb ρ G ov a w)(h1:fD lk tl)(h2:fD bk tb):bu GB C n lk bk ρ G ov a w:=
 ⟨h.gb,h.h,h.sz,h.df,fun k f e=>h.fx k f (h1 _ _ e),fun k B e=>h.bx k B (h2 _ _ e),fun k k' B B' e e'=>h.dj k k' B B' (h2 _ _ e) (h2 _ _ e'),h.fxd⟩
def SX.imp(h:SX GB C n lk bk Φ)(k: ∀a w,Φ a w->Ψ a w):SX GB C n lk bk Ψ:=⟨fun ρ G ov a w r=>k _ _ (h.run ρ G ov a w r)⟩
structure qd (C:az) (n:Nat) (a:Act) (dst:Option Nat) (y:Value) (a':Act):Prop where
 sz:a'.tmps.size=n
 df:a'.defers=C.mks
 old: ∀k v,a.tmps[k]? =some v->dst≠some k->a'.tmps[k]? =some v
 new: ∀d,dst=some d->a'.tmps[d]? =some y
def qd.fx{a a':Act}{dst:Option Nat}{y:Value}{ρ':NE}{G':Gh}{f:FX}(p:qd C n a dst y a')(h: ∀k g,some k≠dst->lk k=some g-> ∃u,a.tmps[k]? =some u/\bz ρ' G' g u)(hy:bz ρ' G' f y)(k:Nat)(g:FX)(e:c7 lk dst f k=some g):
  ∃u,a'.tmps[k]? =some u/\bz ρ' G' g u:=by
 by_cases hk:some k=dst
 .subst hk
  simp only[c7,if_true] at e;cases e;exact⟨y,p.new _ J,hy⟩
 .have e':lk k=some g:=by
   cases dst with
   |none=>exact e
   |some d=>simpa[c7,show k≠d from fun c=>hk (c▸rfl)] using e
  obtain⟨u,h1,h2⟩:=h k g hk e';exact⟨u,p.old _ _ h1 (Ne.symm hk),h2⟩
def bu.putA(r:bu GB C n lk bk ρ G ov a w){dst:Option Nat}(y:Value)(hd:cC n dst=true):qd C n a dst y (a.put dst y):=by
 refine⟨by rw[Ki];exact r.sz,by rw[Em];exact r.df,fun k v h hk=>?_,fun d hk=>?_⟩
 .cases dst with
  |none=>exact h
  |some d=>simp only[Act.put,cR];rw[if_neg (fun e=>hk (by rw[e]))];exact h
 .subst hk
  have hdn:d<a.tmps.size:=by rw[r.sz];simpa[cC,lS] using hd
  simp[Act.put,cR,hdn]
def bu.put(r:bu GB C n lk bk ρ G ov a w){dst:Option Nat}{f:FX}{y:Value}{a':Act}(hy:bz ρ G f y)(hp:qd C n a dst y a'):bu GB C n (c7 lk dst f) bk ρ G ov a' w:=
 ⟨r.gb,r.h,hp.sz,hp.df,hp.fx (fun k g _ e=>r.fx k g e) hy,r.bx,r.dj,r.fxd⟩
def cg(a:Act):Fr:=kE 0 a.tmps.toList
def ci(a:Act):gI (cg a) a:=fun k v h=>by
 obtain⟨j,e,h2⟩:=pG _ _ _ _ h;rw[dW] at e;subst e;simpa using h2
def r5: ∀(vs:List Value) (i j:Nat) (v:Value),vs[j]? =some v->iF (kE i vs) (i+j)=some v
 |[],i,j,v,h=>by simp at h
 |x::t,i,0,v,h=>by simp at h;subst h;simp[kE,iF]
 |x::t,i,j+1,v,h=>by
  simp at h;have:=r5 t (i+1) j v h;rw[show i+(j+1)=i+1+j by omega];simp only[kE,tE];rw[if_neg (by omega)];exact this
def i7{dst:Option Nat}{y:Value}{ov':List av}{G':Gh}{a':Act}{w':World}(h:eB C n (Sx.put (cg a) dst y) ov' G' a' w'):qd C n a dst y a':=by
 refine⟨h.sz,h.df,fun k v hk hd=>?_,fun d hd=>?_⟩
 .have:=r5 a.tmps.toList 0 k v (by simpa using hk)
  rw[dW] at this
  cases dst with
  |none=>exact h.fr k v this
  |some d=>exact h.fr k v (by simp only[Sx.put,tE];rw[if_neg (fun e=>hd (by rw[e]))];exact this)
 .subst hd;exact h.fr d y (by simp[Sx.put,tE])
def xw{k:Nat}{v:Value}(h:a.tmps[k]? =some v):iF (cg a) k=some v:=by
 have:=r5 a.tmps.toList 0 k v (by simpa using h);simpa[cg] using this
def aB(lk:LK):Operand->Option FX
 | .tmp k=>lk k
 | .const (.bool true)=>some .tt
 | .const (.bool false)=>some .ff
 | .const (.slice none 0 0)=>some .nl
 | .const v=>some (.d (.v v))
 | .global g=>some (.d (.v (.pointer (some ⟨g,0,none⟩))))
 | .func f=>some (.d (.v (.func (.func f) #[] #[])))
def bu.ev(r:bu GB C n lk bk ρ G ov a w){x:Operand}{f:FX}(e:aB lk x=some f): ∃y,aC (cg a) x=some y/\bz ρ G f y:=by
 cases x with
 |tmp k=>obtain⟨y,h1,h2⟩:=r.fx k f e;exact⟨y,xw h1,h2⟩
 |const v=>
  refine⟨v,J,?_⟩;unfold aB at e;split at e
  all_goals simp only[Operand.const.injEq,reduceCtorEq] at*
  all_goals (cases e;subst_vars;first|exact J|exact(aH (G:=G)).2 J)
 |global g=>cases e;exact⟨_,J,(aH (G:=G)).2 J⟩
 |func g=>cases e;exact⟨_,J,(aH (G:=G)).2 J⟩
def evD(lk:LK)(x:Operand):Option DV:=match aB lk x with
 |some f=>gw f
 |none=>none
def bu.evD(r:bu GB C n lk bk ρ G ov a w){x:Operand}{d:DV}(e:Sx.evD lk x=some d): ∃y,aC (cg a) x=some y/\Is G d y:=by
 unfold Sx.evD at e;split at e
 .rename_i f hf
  obtain⟨y,h1,h2⟩:=r.ev hf;exact⟨y,h1,lu h2 e⟩
 .cases e
def evDs(lk:LK):List Operand->Option (List DV)
 |[]=>some []
 |x::t=>match evD lk x,evDs lk t with
  |some d,some l=>some (d::l)
  |_,_=>none
def bu.evDs(r:bu GB C n lk bk ρ G ov a w): ∀{x:List Operand} {l:List DV},Sx.evDs lk x=some l-> ∃y,fg (cg a) x=some y/\IsLs G l y
 |[],l,e=>by cases e;exact⟨[],J, .nil⟩
 |x::t,l,e=>by
  simp only[Sx.evDs] at e;split at e
  .rename_i d l' hd hl'
   cases e
   obtain⟨y,h1,h2⟩:=r.evD hd;obtain⟨ys,h3,h4⟩:=r.evDs hl';exact⟨y::ys,by simp only[fg,h1,h3], .cons h2 h4⟩
  .cases e
def bu.upB(r:bu GB C n lk bk ρ G ov a w){nm:Nat}{B':Bk}{os:List av}{ov':List av}{G':Gh}{w':World}(hg:ba G G')(hh:bj C ov' G' w')(hB:gr ρ G' nm B' os)(hos: ∀o∈os,o∈ov')
  (hk: ∀o∈ov,(ρ nm).a≠some ⟨o.b,0,none⟩->o∈ov')(hn: ∃B,bk nm=some B):bu GB C n lk (upB bk [(nm,some B')]) ρ G' ov' a w':=by
 obtain⟨B0,hB0⟩:=hn;refine⟨r.gb.trans hg,hh,r.sz,r.df,fun k f e=>?_,fun m B e=>?_,fun m m' B B2 e e' hne=>?_,r.fxd⟩
 .obtain⟨y,h1,h2⟩:=r.fx k f e;exact⟨y,h1,h2.up hg⟩
 .simp only[Sx.upB] at e
  by_cases hm:m=nm
  .subst hm;simp only[if_true] at e;cases e;exact⟨os,hB,hos⟩
  .simp only[hm,if_false] at e
   obtain⟨os',h1,h2⟩:=r.bx m B e;refine⟨os',h1.up hg,fun o ho=>hk o (h2 o ho) fun hc=>?_⟩;exact r.dj m nm B B0 e hB0 hm _ (h1.blk ho) hc
 .simp only[Sx.upB] at e e'
  by_cases hm:m=nm<;>by_cases hm':m'=nm
  .exact absurd (hm.trans hm'.symm) hne
  .subst hm;simp only[hm',if_false] at e';exact r.dj m m' B0 B2 hB0 e' hne
  .subst hm';simp only[hm,if_false] at e;exact r.dj m m' B B0 e hB0 hne
  .simp only[hm,hm',if_false] at e e';exact r.dj m m' B B2 e e' hne
def bu.dropB(r:bu GB C n lk bk ρ G ov a w)(nm:Nat):bu GB C n lk (Sx.upB bk [(nm,none)]) ρ G ov a w:=
 r.mono (fD.refl _) fun k B e=>by
  simp only[Sx.upB] at e;split at e
  .cases e
  .exact e
def oH{m nm:Nat}(x:SV)(h:m≠nm):(fun k=>if k=nm then x else ρ k) m=ρ m:=if_neg h
def bu.new'(r:bu GB C n tl tb ρ G ov a w){nm:Nat}{dst:Option Nat}{x:SV}{B':Bk}{os:List av}{ov':List av}{G':Gh}{w':World}{f:FX}{y:Value}(hf:i6 [nm] dst tl tb)(hg:ba G G')(hh:bj C ov' G' w')
  (hB:gr (fun k=>if k=nm then x else ρ k) G' nm B' os)(hos: ∀o∈os,o∈ov')(hov: ∀m B,m≠nm->tb m=some B-> ∀o∈ov,(ρ m).a=some ⟨o.b,0,none⟩->o∈ov'/\x.a≠some ⟨o.b,0,none⟩)
  (hy:bz (fun k=>if k=nm then x else ρ k) G' f y){a':Act}(hp:qd C n a dst y a')(hdn:dst=some nm:=by rfl):bu GB C n (c7 tl dst f) (Sx.upB tb [(nm,some B')]) (fun k=>if k=nm then x else ρ k) G' ov' a' w':=by
 obtain⟨f1,f2⟩:=hf nm aX;refine⟨r.gb.trans hg,hh,hp.sz,hp.df,hp.fx (fun k g hk e=>?_) hy,fun m B e=>?_,fun m m' B B2 e e' hne=>?_,fun m p hm hm2 e=>?_⟩
 .obtain⟨u,h1,h2⟩:=r.fx k g e
  exact⟨u,h1,(h2.up hg).ren fun m hm=>oH x fun hc=>f1 k g hk e (by rw[hm,hc])⟩
 .simp only[Sx.upB] at e
  by_cases hm:m=nm
  .subst hm;simp only[if_true] at e;cases e;exact⟨os,hB,hos⟩
  .simp only[hm,if_false] at e
   obtain⟨os',h1,h2⟩:=r.bx m B e;exact⟨os',(h1.up hg).ren (if_neg hm) fun q hq=>oH x fun hc=>f2 m B hm e (by rw[<-hc];exact hq),fun o ho=>(hov m B hm e o (h2 o ho) (h1.blk ho)).1⟩
 .simp only[Sx.upB] at e e'
  by_cases hm:m=nm<;>by_cases hm':m'=nm
  .exact absurd (hm.trans hm'.symm) hne
  .subst hm;simp only[hm',if_false] at e'
   intro b hb hb';simp only[if_true] at hb;rw[if_neg hm'] at hb';obtain⟨os',h1,h2⟩:=r.bx m' B2 e';obtain⟨o,ho,rfl⟩:=h1.mem_of hb';exact(hov m' B2 hm' e' o (h2 o ho) hb').2 hb
  .subst hm';simp only[hm,if_false] at e
   intro b hb hb';simp only[if_true] at hb';rw[if_neg hm] at hb;obtain⟨os',h1,h2⟩:=r.bx m B e;obtain⟨o,ho,rfl⟩:=h1.mem_of hb;exact(hov m B hm e o (h2 o ho) hb).2 hb'
  .simp only[hm,hm',if_false] at e e'
   intro b hb hb';rw[if_neg hm] at hb;rw[if_neg hm'] at hb';exact r.dj m m' B B2 e e' hne b hb hb'
 .have hlt:nm<n:=by
   obtain⟨h,_⟩:=cL.1 (hp.new nm hdn);rw[hp.sz] at h;exact h
  rw[if_neg (by omega)];exact r.fxd m p hm hm2 e
def bu.new(r:bu GB C n tl tb ρ G ov a w){nm:Nat}{dst:Option Nat}{x:SV}{B':Bk}{os:List av}{ov':List av}{G':Gh}{w':World}{f:FX}{y:Value}(hf:i6 [nm] dst tl tb)(hg:ba G G')(hh:bj C ov' G' w')
  (hB:gr (fun k=>if k=nm then x else ρ k) G' nm B' os)(hos: ∀o∈os,o∈ov')(hov: ∀o∈ov,o∈ov')(hnew: ∀o∈ov,x.a≠some ⟨o.b,0,none⟩)
  (hy:bz (fun k=>if k=nm then x else ρ k) G' f y){a':Act}(hp:qd C n a dst y a')(hdn:dst=some nm:=by rfl):bu GB C n (c7 tl dst f) (Sx.upB tb [(nm,some B')]) (fun k=>if k=nm then x else ρ k) G' ov' a' w':=
 r.new' hf hg hh hB hos (fun _ _ _ _ o ho _=>⟨hov o ho,hnew o ho⟩) hy hp hdn
end
def bw(P:Program)(GB:Gh)(C:az)(n:Nat)(lk:LK)(bk:BM)(o:Oper)(f:FX)(bl:List (Nat×Option Bk))(nw:List Nat):Prop:=
 cC n o.dst=true-> ∀(tl:LK) (tb:BM) (K:Act->World->Prop),fD lk tl->fD bk tb->i6 nw o.dst tl tb->SX GB C n (c7 tl o.dst f) (upB tb bl) K->SX GB C n tl tb (fun a w=> ∀Q,o.wp P a w K Q)
section
variable {P:Program} {GB:Gh} {C:az} {n:Nat} {lk:LK} {bk:BM} {f:FX}
def bw.yd{o:Oper}(h: ∀ρ G ov a w,bu GB C n lk bk ρ G ov a w-> ∃y,bz ρ G f y/\Yd P C (cg a) ov G o y):bw P GB C n lk bk o f [] []:=by
 intro hd tl tb K h1 h2 _ hk;refine⟨fun ρ G ov a w r Q=>?_⟩;obtain⟨y,hy,hY⟩:=h ρ G ov a w (r.mono h1 h2);exact ky (hY a w (ci a) r.h) (hk.run ρ G ov _ w (r.put hy (r.putA y hd)))
end
inductive TK where
 |st (fo:List (Nat×Nat×Nat))
 |sl (e s b:Nat)
 |int (k:IntKind)
 |bl
 |pt
 |fc
 |sc
 |o
structure TI where
 k:TK
 sz:Nat
 z:Option (List FX)
 za:Bool
def BX:Option Value->Bool
 |some (.agg _)=>true
 |_=>false
def rD:Value->FX
 | .slice none 0 0=> .nl
 | .bool true=> .tt
 | .bool false=> .ff
 |v=> .d (.v v)
def q8(P:Program):List Field->Option (List (Nat×Nat×Nat))
 |[]=>some []
 |f::t=>match P.info? f.type,q8 P t with
  |some i,some l=>some ((f.offset,f.type,i.size)::l)
  |_,_=>none
def f8(P:Program)(t:TypeId):TK:=match P.underlying t with
 |some (.struct fs)=>match q8 P fs.toList with
  |some l=> .st l
  |none=> .o
 |some (.slice e)=>match P.info? e with
  |some i=> .sl e i.size i.bytes
  |none=> .o
 |some (.int k)=> .int k
 |some .bool=> .bl
 |some (.pointer _)=> .pt
 |some (.interface _)=> .fc
 |some (.array ..)=> .o
 |some .string=> .sc
 |_=> .o
def dC(P:Program)(t:TypeId):Option TI:=match P.info? t with
 |some i=>some ⟨f8 P t,i.size,i.zero.map fun v=>(aF v).map rD,BX i.zero⟩
 |none=>none
abbrev TT:=List (Nat×TI)
def co:TT->Nat->Option TI
 |[],_=>none
 |(k,v)::t,j=>bif Nat.beq k j then some v else co t j
def i5(P:Program)(T:TT):Prop:= ∀t i,co T t=some i->dC P t=some i
def i5.of{P:Program}: ∀{T:TT},T.map (fun e=>some e.2)=T.map (fun e=>dC P e.1)->i5 P T
 |[],_,t,i,h=>by cases h
 |(k,v)::T,e,t,i,h=>by
  simp only[bL,List.cons.injEq] at e;simp only[co] at h
  cases hb:Nat.beq k t with
  |true=>rw[hb] at h;cases h;rw[<-aU hb];exact e.1.symm
  |false=>rw[hb] at h;exact i5.of e.2 t i h
def VU(ρ:NE)(G:Gh)(v:Value):bz ρ G (rD v) v:=by
 unfold rD;split
 .exact J
 .exact J
 .exact J
 .exact(aH (G:=G)).2 J
def He(ρ:NE)(G:Gh): ∀m:List Value,cD ρ G (m.map rD) m
 |[]=>rfl
 |v::m=>⟨v,m,J,VU ρ G v,He ρ G m⟩
section
variable {P:Program} {t:TypeId} {i:TI}
def lx(h:dC P t=some i): ∃j,P.info? t=some j/\i=⟨f8 P t,j.size,j.zero.map fun v=>(aF v).map rD,BX j.zero⟩:=by
 unfold dC at h;split at h
 .rename_i j hj;cases h;exact⟨j,hj,rfl⟩
 .cases h
def kP{d:TypeDesc}(h:P.underlying t=some d)(w:World):(underlying t).run P w= .ok d w:=by
 show(program>>=_).run P w=_;rw[aG (w':=w) (a:=P) J,h];rfl
def Vn{j:TypeInfo}(h:P.info? t=some j)(w:World):(typeInfo t).run P w= .ok j w:=by
 show(program>>=_).run P w=_;rw[aG (w':=w) (a:=P) J,h];rfl
def oG{j:TypeInfo}(h:P.info? t=some j)(w:World):(sizeOf t).run P w= .ok j.size w:=by
 show(typeInfo t>>=_).run P w=_;rw[aG (Vn h w)];rfl
def uJ{d:TypeDesc}(h:P.underlying t=some d)(w:World):(isAgg t).run P w= .ok (match d with| .struct _| .array _ _=>true|_=>false) w:=by
 show(underlying t>>=_).run P w=_;rw[aG (kP h w)]
 cases d<;>rfl
def TI.ag(i:TI):Option (Option Nat):=match i.k with
 | .st _=>some (some i.sz)
 | .o=>none
 |_=>bif Nat.beq i.sz 1 then some none else none
theorem sB{k:Nat}(h:dC P t=some i)(hk:i.ag=some (some k)):mf P t k:=by
 obtain⟨j,h1,rfl⟩:=lx h;unfold TI.ag at hk
 cases e:f8 P t with
 |st fo=>
  simp only[e] at hk;cases hk;unfold f8 at e;split at e<;>first|(cases e;done)|skip
  .rename_i fs hu;exact⟨fun w=>uJ hu w,fun w=>oG h1 w⟩
  .split at e<;>cases e
 |o=>simp only[e] at hk;cases hk
 |_=>simp only[e,cond_eq_ite] at hk;split at hk<;>cases hk
theorem qh(h:dC P t=some i)(hk:i.ag=some none):mi P t:=by
 obtain⟨j,h1,rfl⟩:=lx h;unfold TI.ag at hk;have key:j.size=1->(∀w,(isAgg t).run P w= .ok false w)->mi P t:=fun e1 e2=>⟨e2,fun w=>by rw[oG h1 w,e1]⟩
 cases e:f8 P t with
 |st fo=>simp only[e] at hk;cases hk
 |o=>simp only[e] at hk;cases hk
 |_=>
  simp only[e,cond_eq_ite] at hk;split at hk
  .rename_i hb
   refine key (aU hb) fun w=>?_;unfold f8 at e;split at e<;>first|(cases e;done)|skip
   all_goals first
    |(rename_i hu;rw[uJ hu w];done)
    |(split at e<;>first|(cases e;done)|(rename_i hu _ _ _;rw[uJ hu w];done))
  .cases hk
def yV{z:List FX}(h:dC P t=some i)(hz:i.z=some z): ∃v,gg P t v/\ ∀ρ G,cD ρ G z (aF v):=by
 obtain⟨j,h1,rfl⟩:=lx h
 cases hv:j.zero with
 |none=>simp only[hv] at hz;cases hz
 |some v=>
  simp only[hv] at hz;cases hz;exact⟨v,⟨by rw[h1];simp[hv]⟩,fun ρ G=>He ρ G _⟩
def AM: ∀{fs:List Field} {l:List (Nat×Nat×Nat)} {k off ft s:Nat},q8 P fs=some l->l[k]? =some (off,ft,s)-> ∃f,fs[k]? =some f/\f.offset=off/\f.type=ft/\ ∃j,P.info? ft=some j/\j.size=s
 |[],l,k,off,ft,s,h,e=>by cases h;simp at e
 |f::fs,l,k,off,ft,s,h,e=>by
  simp only[q8] at h;split at h
  .rename_i j l' hj hl
   cases h
   cases k with
   |zero=>simp at e;obtain⟨rfl,rfl,rfl⟩:=e;exact⟨f,rfl,rfl,rfl,j,hj,rfl⟩
   |succ k=>simp at e;obtain⟨g,h1,h2⟩:=AM hl e;exact⟨g,by simpa using h1,h2⟩
  .cases h
def Gt: ∀{fs:List Field} {l:List (Nat×Nat×Nat)},q8 P fs=some l-> ∀w,(fs.mapM (m:=Sem) fun f=>do pure (f.offset,<-sizeOf f.type)).run P w= .ok (l.map fun x=>(x.1,x.2.2)) w
 |[],l,h,w=>by cases h;rfl
 |f::fs,l,h,w=>by
  simp only[q8] at h;split at h
  .rename_i j l' hj hl
   cases h
   rw[nZ];have h1:(do pure (f.offset,<-sizeOf f.type):Sem (Nat×Nat)).run P w= .ok (f.offset,j.size) w:=by
    rw[aG (oG hj w)];rfl
   rw[aG h1,aG (Gt hl w)];rfl
  .cases h
def Be{fo:List (Nat×Nat×Nat)}(h:dC P t=some i)(hk:i.k= .st fo): ∃fs,P.underlying t=some (.struct fs)/\q8 P fs.toList=some fo:=by
 obtain⟨j,h1,rfl⟩:=lx h;have e:f8 P t= .st fo:=hk;unfold f8 at e;split at e<;>first|(cases e;done)|skip
 .rename_i fs hu
  split at e
  .rename_i l hl;cases e;exact⟨fs,hu,hl⟩
  .cases e
 .split at e<;>cases e
theorem XA{fo:List (Nat×Nat×Nat)}{f off ft s:Nat}(h:dC P t=some i)(hk:i.k= .st fo)(hf:fo[f]? =some (off,ft,s)):zJ P t f off ft:=by
 obtain⟨fs,hu,hl⟩:=Be h hk;obtain⟨g,h1,h2,h3,_⟩:=AM hl hf;exact⟨fs,g,fun w=>kP hu w,by simpa using h1,h2,h3⟩
theorem Qm{fo:List (Nat×Nat×Nat)}{f off ft s:Nat}(h:dC P t=some i)(hk:i.k= .st fo)(hf:fo[f]? =some (off,ft,s+1)):El P t f off:=by
 obtain⟨fs,hu,hl⟩:=Be h hk;obtain⟨g,h2,h3,h4,j,h5,h6⟩:=AM hl hf;refine⟨fun b o w=>?_⟩;unfold Instr.fieldAt;rw[aG (kP hu w)];have h2':fs[f]? =some g:=by simpa using h2
 simp only[h2'];have:(fieldPlace ⟨b,o,none⟩ g).run P w= .ok (Addr.add ⟨b,o,none⟩ off) w:=by
  unfold fieldPlace;rw[h4,aG (oG h5 w),h6,h3];rfl
 show(fieldPlace ⟨b,o,none⟩ g>>=_).run P w=_;rw[aG this];rfl
theorem Tg{fo:List (Nat×Nat×Nat)}(h:dC P t=some i)(hk:i.k= .st fo):Lf P t (fo.map fun x=>(x.1,x.2.2)):=by
 obtain⟨fs,hu,hl⟩:=Be h hk;refine⟨fs,fun w=>kP hu w,fun w=>?_⟩;rw[Array.mapM_eq_mapM_toList,map_eq_pure_bind,aG (Gt hl w)];rfl
theorem gy{e s b:Nat}(h:dC P t=some i)(hk:i.k= .sl e s b):c8 P t e s b:=by
 obtain⟨j,h1,rfl⟩:=lx h;have e':f8 P t= .sl e s b:=hk;unfold f8 at e';split at e'<;>first|(cases e';done)|skip
 .split at e'<;>cases e'
 .rename_i el hu
  split at e'
  .rename_i q hq;cases e';exact⟨hu,by rw[hq];rfl⟩
  .cases e'
theorem sN{k:IntKind}(h:dC P t=some i)(hk:i.k= .int k):lG P t k:=by
 obtain⟨j,h1,rfl⟩:=lx h;have e:f8 P t= .int k:=hk;unfold f8 at e;split at e<;>first|(cases e;done)|(split at e<;>cases e;done)|skip
 rename_i k' hu;cases e;exact⟨fun w=>kP hu w⟩
theorem Xl(h:dC P t=some i)(hk:i.k= .bl):AW P t:=by
 obtain⟨j,h1,rfl⟩:=lx h;have e:f8 P t= .bl:=hk;unfold f8 at e;split at e<;>first|(cases e;done)|(split at e<;>cases e;done)|skip
 rename_i hu;exact⟨fun w=>kP hu w⟩
theorem F0(h:dC P t=some i)(hk:i.k= .pt):B9 P t:=by
 obtain⟨j,h1,rfl⟩:=lx h;have e:f8 P t= .pt:=hk;unfold f8 at e;split at e<;>first|(cases e;done)|(split at e<;>cases e;done)|skip
 rename_i el hu;exact⟨el,fun w=>kP hu w⟩
theorem Tt(h:dC P t=some i)(hk:i.k= .fc):AU P t:=by
 obtain⟨j,h1,rfl⟩:=lx h;have e:f8 P t= .fc:=hk;unfold f8 at e;split at e<;>first|(cases e;done)|(split at e<;>cases e;done)|skip
 rename_i el hu;exact⟨el,fun w=>kP hu w⟩
end
def gv{α β:Type}:List α->(List α->β)->β
 |[],k=>k []
 |x::t,k=>gv t fun t'=>k (x::t')
def oo{α β:Type}: ∀(l:List α) (k:List α->β),gv l k=k l
 |[],_=>rfl
 |x::t,k=>by rw[gv,oo t]
def takeX:List FX->Nat->Nat->Option (List FX)
 |_,0,0=>some []
 |[],0,_+1=>none
 |v::t,0,k+1=>match takeX t 0 k with|some l=>some (v::l)|none=>none
 |[],_+1,_=>none
 |_::t,off+1,k=>takeX t off k
def qy:List FX->Nat->List FX->List FX
 |[],_,_=>[]
 |c::t,0,vs=>match vs with
  |[]=>c::t
  |v::vs=>v::qy t 0 vs
 |c::t,off+1,vs=>c::qy t off vs
def Ds: ∀(n:List Value) (off:Nat),c9 [] off n=[]
 |[],_=>rfl
 |_::n,off=>Ds n (off+1)
def Ax: ∀(n:List Value) (y:Value) (m:List Value) (off:Nat),c9 (y::m) (off+1) n=y::c9 m off n
 |[],_,_,_=>rfl
 |v::n,y,m,off=>Ax n y (m.set off v) (off+1)
section
variable {ρ:NE} {G:Gh}
def cD.takeX: ∀{ds:List FX} {m:List Value} {off k:Nat} {l:List FX},cD ρ G ds m->takeX ds off k=some l-> ∃n,cc m off k=some n/\cD ρ G l n
 |[],m,0,0,l,h,e=>by cases e;rw[show m=[] from h];exact⟨[],J,J⟩
 |d::t,m,0,0,l,⟨y,n,e1,h1,h2⟩,e=>by subst e1;cases e;exact⟨[],J,J⟩
 |[],m,0,k+1,l,h,e=>by simp[Sx.takeX] at e
 |d::t,m,0,k+1,l,⟨y,n,e1,h1,h2⟩,e=>by
  subst e1;simp only[Sx.takeX] at e;split at e
  .rename_i l' hl'
   cases e
   obtain⟨q,hq,hl⟩:=h2.takeX hl';exact⟨y::q,by simp only[cc,hq],y,q,J,h1,hl⟩
  .cases e
 |[],m,off+1,k,l,h,e=>by simp[Sx.takeX] at e
 |d::t,m,off+1,k,l,⟨y,n,e1,h1,h2⟩,e=>by subst e1;exact h2.takeX (off:=off) (k:=k) e
def cD.ov: ∀{ds:List FX} {m:List Value} {off:Nat} {vs:List FX} {n:List Value},cD ρ G ds m->cD ρ G vs n->cD ρ G (qy ds off vs) (c9 m off n)
 |[],m,off,vs,n,h,k=>by rw[show m=[] from h,Ds];rfl
 |d::t,m,0,[],n,h,k=>by rw[show n=[] from k];exact h
 |d::t,m,0,v::vs,n,⟨y,m',e,h1,h2⟩,⟨u,n',e',k1,k2⟩=>by
  subst e e';show cD ρ G (v::qy t 0 vs) (c9 (u::m') 1 n');rw[Ax];exact⟨u,_,J,k1,h2.ov k2⟩
 |d::t,m,off+1,vs,n,⟨y,m',e,h1,h2⟩,k=>by
  subst e;rw[Ax];exact⟨y,_,J,h1,h2.ov k⟩
def xM:List FX->Option (List DV×Nat×List DV)
 |[]=>none
 |f::t=>match f with
  | .rw nm=>match iq t with
   |some post=>some ([],nm,post)
   |none=>none
  |f=>match gw f,xM t with
   |some d,some (pre,nm,post)=>some (d::pre,nm,post)
   |_,_=>none
def Hs: ∀{l:List FX} {m:List Value} {pre:List DV} {nm:Nat} {post:List DV},cD ρ G l m->xM l=some (pre,nm,post)-> ∃m1 m2,m=m1++Value.slice (ρ nm).a (ρ nm).n (ρ nm).c::m2/\IsLs G pre m1/\IsLs G post m2
 |[],m,pre,nm,post,h,e=>by cases e
 |f::t,m,pre,nm,post,⟨y,n,e1,h1,h2⟩,e=>by
  subst e1;simp only[xM] at e;split at e
  .split at e<;>cases e
   rename_i hp
   cases (show y=_ from h1)
   exact⟨[],n,J, .nil,q7 h2 hp⟩
  .split at e<;>cases e
   rename_i hd hu;obtain⟨m1,m2,rfl,k1,k2⟩:=Hs h2 hu;exact⟨y::m1,m2,J, .cons (lu h1 hd) k1,k2⟩
def qP(l:List FX):Option FX:=match iq l with
 |some ds=>some (.d (.ag ds))
 |none=>match xM l with
  |some (pre,nm,post)=>some (.bx false pre nm post)
  |none=>none
def Cs{l:List FX}{n:List Value}{f:FX}(h:cD ρ G l n)(e:qP l=some f):bz ρ G f (.agg ⟨n⟩):=by
 unfold qP at e;split at e
 .rename_i hd;cases e;exact dt.2 ⟨n,rfl,q7 h hd⟩
 .split at e<;>cases e
  rename_i hu;obtain⟨m1,m2,rfl,k1,k2⟩:=Hs h hu;exact⟨m1,m2,J,k1,k2⟩
def yS:Nat->List DV->Nat->List DV->Option FX
 |0,[],nm,_=>some (.rw nm)
 |i+1,[],_,post=>match post[i]? with
  |some d=>some (.d d)
  |none=>none
 |0,d::_,_,_=>some (.d d)
 |i+1,_::t,nm,post=>yS i t nm post
def J3: ∀{i:Nat} {pre:List DV} {nm:Nat} {post:List DV} {f:FX} {m1 m2:List Value},yS i pre nm post=some f->IsLs G pre m1->IsLs G post m2-> ∃y,(m1++Value.slice (ρ nm).a (ρ nm).n (ρ nm).c::m2)[i]? =some y/\bz ρ G f y
 |0,[],nm,post,f,m1,m2,e,h1,h2=>by cases e;rw[b4.1 h1];exact⟨_,J,J⟩
 |i+1,[],nm,post,f,m1,m2,e,h1,h2=>by
  rw[b4.1 h1];simp only[yS] at e;split at e<;>cases e;rename_i hp;obtain⟨l',h3,h4⟩:=h2.get hp;exact⟨l',by simpa using h3,h4⟩
 |0,d::t,nm,post,f,m1,m2,e,h1,h2=>by
  cases e
  obtain⟨y,n,rfl,k1,k2⟩:=bi.1 h1;exact⟨y,J,k1⟩
 |i+1,d::t,nm,post,f,m1,m2,e,h1,h2=>by
  obtain⟨y,n,rfl,k1,k2⟩:=bi.1 h1;obtain⟨u,h3,h4⟩:=J3 (i:=i) e k2 h2;exact⟨u,by simpa using h3,h4⟩
end
structure CR where
 vc:Option Prop
 f:FX
 bl:List (Nat×Option Bk)
 nw:List Nat
def kq:IntKind->IntKind->Bool
 | .i64, .i64=>true
 | .u64, .u64=>true
 | .u32, .u32=>true
 | .u8, .u8=>true
 | .i32, .i32=>true
 |_,_=>false
def yR{k j:IntKind}(h:kq k j=true):j=k:=by cases k<;>cases j<;>first|rfl|(simp[kq] at h)
def zB{α:Type}(k:IntKind)(x:Int)(K:Prop->Option α):Option α:=match k with
 | .i64=>K (-9223372036854775808<=x/\x<=9223372036854775807)
 | .u64=>K (0<=x/\x<=18446744073709551615)
 | .u32=>K (0<=x/\x<=4294967295)
 | .u8=>K (0<=x/\x<=255)
 | .i32=>K (-2147483648<=x/\x<=2147483647)
 |_=>none
def Ug{α:Type}{k:IntKind}{x:Int}{K:Prop->Option α}{r:α}(h:zB k x K=some r): ∃p,K p=some r/\(p->k.min<=x/\x<=k.max):=by
 cases k<;>first|(simp[zB] at h;done)|exact⟨_,h,id⟩
def rU(k:IntKind)(x:Int):Option (Option Prop×FX):=zB k x fun p=>some (some p, .d (.v (.int k x)))
def ur(op:BinOp)(k:IntKind)(p q:Int):Option (Option Prop×FX):=match op with
 | .add=>rU k (p+q)
 | .sub=>rU k (p-q)
 | .mul=>rU k (p*q)
 | .quo=>match k with
  | .u64=>some (some (0<=p/\p<=18446744073709551615/\0<q), .d (.v (.int .u64 (p/q))))
  |k=>some (some (q≠0), .d (.v (.int k (k.wrap (p.tdiv q)))))
 | .rem=>match k with
  | .u64=>some (some (0<=p/\q≠0), .d (.v (.int .u64 (p%q))))
  | .u32=>some (some (0<=p/\q≠0), .d (.v (.int .u32 (p%q))))
  |k=>some (some (q≠0), .d (.v (.int k (p.tmod q))))
 | .shr=>some (some (0<=q), .d (.v (.int k (p.fdiv (2^min q.toNat k.bits)))))
 | .shl=>some (some (0<=q), .d (.v (.int k (k.wrap (p*2^min q.toNat k.bits)))))
 | .or=>match k with
  | .u64=>some (none, .d (.v (.int .u64 ((BitVec.ofInt 64 p ||| BitVec.ofInt 64 q).toNat:Nat))))
  | .u32=>some (none, .d (.v (.int .u32 ((BitVec.ofInt 32 p ||| BitVec.ofInt 32 q).toNat:Nat))))
  |_=>none
 | .and=>match k with
  | .u64=>some (none, .d (.v (.int .u64 ((BitVec.ofInt 64 p &&& BitVec.ofInt 64 q).toNat:Nat))))
  | .u32=>some (none, .d (.v (.int .u32 ((BitVec.ofInt 32 p &&& BitVec.ofInt 32 q).toNat:Nat))))
  |_=>none
 | .lss=>some (none, .pr (p<q) inferInstance)
 | .leq=>some (none, .pr (p<=q) inferInstance)
 | .gtr=>some (none, .pr (q<p) inferInstance)
 | .geq=>some (none, .pr (q<=p) inferInstance)
 | .eql=>some (none, .pr (p=q) inferInstance)
 | .neq=>some (none, .pr (p≠q) inferInstance)
 |_=>none
def nH:FX->Option Bool
 | .tt=>some true
 | .ff=>some false
 | .pr p h=>some (@decide p h)
 | .d (.v (.bool b))=>some b
 |_=>none
def rb{ρ:NE}{G:Gh}{f:FX}{b:Bool}{y:Value}(h:bz ρ G f y)(e:nH f=some b):y= .bool b:=by
 unfold nH at e;split at e<;>first|(cases e;done)|(cases e;exact h)|(cases e;exact(aH (G:=G)).1 h)
def AO:FX->Option FX
 | .tt=>some .ff
 | .ff=>some .tt
 | .pr p h=>some (.pr (¬p) (@instDecidableNot p h))
 | .d (.v (.bool b))=>some (.d (.v (.bool (!b))))
 |_=>none
def PH{ρ:NE}{G:Gh}{f g:FX}{y:Value}(h:bz ρ G f y)(e:AO f=some g): ∃b,y= .bool b/\bz ρ G g (.bool (!b)):=by
 unfold AO at e;split at e
 .cases e;exact⟨true,h,J⟩
 .cases e;exact⟨false,h,J⟩
 .rename_i p hp
  cases e
  refine⟨@decide p hp,h,?_⟩;show Value.bool _= .bool _;congr 1
  cases hp<;>rfl
 .rename_i b;cases e;exact⟨b,(aH (G:=G)).1 h,(aH (G:=G)).2 rfl⟩
 .cases e
def zj(T:TT)(t:TypeId)(f:FX)(y:Operand):Option Bool:=match co T t with
 |some ⟨.fc,_,_,_⟩=>match y,f with
  | .const .nilIface, .d (.v .nilIface)=>some true
  | .const .nilIface, .d (.v (.iface _ _))=>some false
  |_,_=>none
 |some ⟨.pt,_,_,_⟩=>match y,f with
  | .const (.pointer none), .d (.v (.pointer none))=>some true
  | .const (.pointer none), .ov _ _=>some false
  | .const (.pointer none), .ep _=>some false
  | .const (.pointer none), .be _ _ _ _=>some false
  | .const (.pointer none), .d (.pt _)=>some false
  |_,_=>none
 |some ⟨.sl _ _ _,_,_,_⟩=>match y,f with
  | .const (.slice none _ _), .nl=>some true
  |_,_=>none
 |_=>none
def D6(T:TT)(op:BinOp)(t:TypeId)(b:Bool):Option (Option Prop×FX):=match co T t with
 |some ⟨.pt,_,_,_⟩=>match op with
  | .eql=>some (none, .pr (b=false) inferInstance)
  | .neq=>some (none, .pr (b=true) inferInstance)
  |_=>none
 |_=>none
def CK(T:TT)(op:BinOp)(t:TypeId)(f g:FX)(y:Operand):Option (Option Prop×FX):=
 match f,g with
 | .d (.v (.int k p)), .d (.v (.int j q))=>match op with
  | .shr=>ur .shr k p q
  | .shl=>ur .shl k p q
  |op=>bif kq k j then ur op k p q else none
 | .d (.op b _), .d (.v (.pointer none))=>D6 T op t b
 |f,g=>match zj T t f y with
  |some b=>match op with
   | .eql=>some (none,bif b then .tt else .ff)
   | .neq=>some (none,bif b then .ff else .tt)
   |_=>none
  |none=>match co T t,nH f,nH g with
   |some ⟨.bl,_,_,_⟩,some a,some b=>match op with
    | .eql=>some (none, .d (.v (.bool (a==b))))
    | .neq=>some (none, .d (.v (.bool (!(a==b)))))
    |_=>none
   |_,_,_=>none
def xg(mx:Bool)(f g:FX):Option FX:=match f,g with
 | .d (.v (.int k p)), .d (.v (.int j q))=>bif kq k j then(match mx with
  |true=>some (.d (.v (.int k (if q>p then q else p))))
  |false=>some (.d (.v (.int k (if q<p then q else p))))) else none
 |_,_=>none
def CB(bk:BM)(i:TI)(f:FX):Option FX:=match i.ag with
 |some (some k)=>match f with
  | .ov nm off=>match bk nm with
   |some (.o _ cs _)=>match takeX cs off k with
    |some l=>qP l
    |none=>none
   |_=>none
  | .ep cs=>match takeD cs 0 k with
   |some l=>some (.d (.ag l))
   |none=>none
  |_=>none
 |some none=>match f with
  | .ov nm off=>match bk nm with
   |some (.o _ cs _)=>cs[off]?
   |_=>none
  | .ep cs=>match cs with
   |d::_=>some (.d d)
   |[]=>none
  |_=>none
 |none=>none
def FX.flat:FX->Bool
 | .d x=>x.flat
 | .bx _ _ _ _=>false
 | .un=>false
 | .no=>false
 |_=>true
def sW(f:FX)(d:Nat):Bool:=match f.nm with
 |some m=>!Nat.beq m d
 |none=>true
def vJ(bk:BM)(i:TI)(fa fv:FX):Option (List (Nat×Option Bk)):=match fa with
 | .ov nm off=>match bk nm with
  |some (.o ty cs lo)=>match i.ag with
   |some (some k)=>bif fv.okc&&(Nat.beq fv.cells.length k&&Nat.ble (off+k) cs.length) then gv (qy cs off fv.cells) fun cs'=>some [(nm,some (.o ty cs' lo))] else none
   |some none=>bif fv.flat&&Nat.blt off cs.length then gv (cs.set off fv) fun cs'=>some [(nm,some (.o ty cs' lo))] else none
   |none=>none
  |_=>none
 |_=>none
def pA(lk:LK)(fo:List (Nat×Nat×Nat)):List FX->List (Nat×Operand)->Option (List FX)
 |cs,[]=>some cs
 |cs,(i,x)::r=>match fo[i]?,aB lk x with
  |some (off,_,k),some d=>bif d.okc&&(Nat.beq d.cells.length k&&Nat.ble (off+k) cs.length) then pA lk fo (qy cs off d.cells) r else none
  |_,_=>none
def zo(bk:BM)(f:FX):Option FX:=match f with
 | .nl=>some (.d (.v (.int .i64 0)))
 | .d (.sl l)=>some (.d (.v (.int .i64 (l.length:Nat))))
 | .ct l=>some (.d (.v (.int .i64 (l.length:Nat))))
 | .rw nm=>match bk nm with
  |some (.b _ _ ds _)=>some (.d (.v (.int .i64 (ds.length:Nat))))
  |_=>none
 |_=>none
def AF(fo:List (Nat×Nat×Nat))(i:Nat)(f:FX):Option FX:=match fo[i]? with
 |some (off,_,_+1)=>match f with
  | .ov nm o=>some (.ov nm (o+off))
  | .ep l=>bif Nat.ble off l.length then gv (l.drop off) fun l'=>some (.ep l') else none
  | .be nm s i j=>some (.be nm s i (j+off))
  |_=>none
 |_=>none
def Cl(T:TT)(fo:List (Nat×Nat×Nat))(i:Nat)(f:FX):Option FX:=match f with
 | .d (.ag cs)=>match fo[i]? with
  |some (off,ft,_)=>match co T ft with
   |some j=>match j.ag with
    |some (some k)=>match takeD cs off k with
     |some l=>some (.d (.ag l))
     |none=>none
    |some none=>match cs[off]? with
     |some c=>some (.d c)
     |none=>none
    |none=>none
   |none=>none
  |none=>none
 |_=>none
def AL(T:TT)(t t':TypeId)(f:FX):Option (Option Prop×FX):=match co T t,co T t' with
 |some ⟨.int k,_,_,_⟩,some ⟨.int k',_,_,_⟩=>match f with
  | .d (.v (.int j p))=>bif kq k j then(match k' with
   | .u32=>some (none, .d (.v (.int .u32 (p%4294967296))))
   |k'=>rU k' p) else none
  |_=>none
 |_,_=>none
def zk(T:TT)(bk:BM)(t:TypeId)(f g:FX):Option (Option Prop×FX):=match f with
 | .rw nm=>match bk nm with
  |some (.b _ s ds _)=>match co T t with
   |some ⟨.sl _ s' _,_,_,_⟩=>match g with
    | .d (.v (.int _ i))=>bif Nat.beq s s' then some (some (0<=i/\i<(ds.length:Nat)), .be nm s i.toNat 0) else none
    |_=>none
   |_=>none
  |_=>none
 |_=>none
def kI(r:Option FX):Option CR:=match r with
 |some f=>some ⟨none,f,[],[]⟩
 |none=>none
def ry(r:Option (Option Prop×FX)):Option CR:=match r with
 |some (v,f)=>some ⟨v,f,[],[]⟩
 |none=>none
def pe{α:Type}(lk:LK)(x y:Operand)(K:FX->FX->Option α):Option α:=match aB lk x with
 |some f=>match aB lk y with
  |some g=>K f g
  |none=>none
 |none=>none
def kg{α:Type}(lk:LK)(x:Operand)(K:FX->Option α):Option α:=match aB lk x with
 |some f=>K f
 |none=>none
def uk{α:Type}(T:TT)(t:TypeId)(K:List (Nat×Nat×Nat)->TI->Option α):Option α:=match co T t with
 |some ⟨.st fo,sz,z,za⟩=>K fo ⟨.st fo,sz,z,za⟩
 |_=>none
def tR{α:Type}(T:TT)(t:TypeId)(K:TI->Option α):Option α:=match co T t with
 |some i=>K i
 |none=>none
def AR(i:Nat)(f:FX):Option FX:=match f with
 | .d (.tp ds)=>match ds[i]? with
  |some d=>some (.d d)
  |none=>none
 | .bx true pre nm post=>yS i pre nm post
 |_=>none
def AN(f:FX):Option (Option Prop×FX):=match f with
 | .ov a b=>some (none, .ov a b)
 | .ep l=>some (none, .ep l)
 | .be a b c d=>some (none, .be a b c d)
 | .d (.pt l)=>some (none, .ep l)
 | .d (.op b l)=>some (some (b=true), .ep l)
 |_=>none
def Af(c f g:FX):Option FX:=match c with
 | .tt=>some f
 | .ff=>some g
 |_=>none
def z8(op:UnOp)(f:FX):Option (Option Prop×FX):=match op with
 | .not=>match AO f with
  |some g=>some (none,g)
  |none=>none
 | .neg=>match f with
  | .d (.v (.int k p))=>rU k (-p)
  |_=>none
 |_=>none
def sX(T:TT)(lk:LK)(bk:BM)(dst:Option Nat)(op:Op):Option CR:=match op with
 | .move x=>kI (aB lk x)
 | .assign x=>kI (aB lk x)
 | .pick c x y=>kg lk c fun c=>pe lk x y fun f g=>kI (Af c f g)
 | .alloc t=>match dst with
  |some d=>tR T t fun i=>match i.z with
   |some z=>gv z fun cs=>some ⟨none, .ov d 0,[(d,some (.o t cs true))],[d]⟩
   |none=>none
  |none=>none
 | .box t x=>match dst with
  |some d=>kg lk x fun f=>bif f.okc&&sW f d then gv f.cells fun cs=>some ⟨none, .ov d 0,[(d,some (.o t cs true))],[d]⟩ else none
  |none=>none
 | .nilCheck x=>kg lk x fun f=>ry (AN f)
 | .fieldAddr t x i=>uk T t fun fo _=>kg lk x fun f=>kI (AF fo i f)
 | .field t x i=>uk T t fun fo _=>kg lk x fun f=>kI (Cl T fo i f)
 | .load t x=>tR T t fun i=>kg lk x fun f=>kI (CB bk i f)
 | .store t x y=>tR T t fun i=>pe lk x y fun f g=>match vJ bk i f g with
  |some bl=>some ⟨none, .un,bl,[]⟩
  |none=>none
 | .extract x i=>kg lk x fun f=>kI (AR i f)
 | .build t parts=>uk T t fun fo i=>match i.z with
  |some z=>match pA lk fo z parts.toList with
   |some cs=>match qP cs with
    |some f=>some ⟨none,f,[],[]⟩
    |none=>none
   |none=>none
  |none=>none
 | .binOp op t x y _=>pe lk x y fun f g=>ry (CK T op t f g y)
 | .unOp op _ x=>kg lk x fun f=>ry (z8 op f)
 | .convert t t' x=>kg lk x fun f=>ry (AL T t t' f)
 | .indexAddr t x y=>pe lk x y fun f g=>ry (zk T bk t f g)
 | .call ⟨.builtin .len,⟨[x]⟩,⟨[t]⟩⟩=>match co T t with
  |some ⟨.sl _ _ _,_,_,_⟩=>kg lk x fun f=>kI (zo bk f)
  |_=>none
 | .call ⟨.builtin .max,⟨[x,y]⟩,⟨[_,_]⟩⟩=>pe lk x y fun f g=>kI (xg true f g)
 | .call ⟨.builtin .min,⟨[x,y]⟩,⟨[_,_]⟩⟩=>pe lk x y fun f g=>kI (xg false f g)
 |_=>none
section
variable {P:Program} {T:TT} {GB:Gh} {C:az} {n:Nat} {lk:LK} {bk:BM} {ρ:NE} {G:Gh} {ov:List av} {a:Act} {w:World}
variable {dst:Option Nat} {t t' ty':TypeId} {pos:String} {af:Array Edge} {gd:Option (Nat×Bool)} {x y z:Operand}
def Pi(P:Program)(GB:Gh)(C:az)(n:Nat)(lk:LK)(bk:BM)(o:Oper)(r:CR):Prop:=(∀p,r.vc=some p->p)->bw P GB C n lk bk o r.f r.bl r.nw
def mp{r:Option FX}{c:CR}(h:kI r=some c): ∃f,r=some f/\c=⟨none,f,[],[]⟩:=by
 unfold kI at h;split at h
 .cases h;exact⟨_,J,J⟩
 .cases h
def vw{r:Option (Option Prop×FX)}{c:CR}(h:ry r=some c): ∃v f,r=some (v,f)/\c=⟨v,f,[],[]⟩:=by
 unfold ry at h;split at h
 .cases h;exact⟨_,_,J,J⟩
 .cases h
def mI{α:Type}{K:FX->Option α}{r:α}(h:kg lk x K=some r): ∃f,aB lk x=some f/\K f=some r:=by
 unfold kg at h;split at h
 .exact⟨_,by assumption,h⟩
 .cases h
def sP{α:Type}{K:FX->FX->Option α}{r:α}(h:pe lk x y K=some r): ∃f g,aB lk x=some f/\aB lk y=some g/\K f g=some r:=by
 unfold pe at h;split at h
 .split at h
  .exact⟨_,_,by assumption,by assumption,h⟩
  .cases h
 .cases h
def Cd{α:Type}{K:TI->Option α}{r:α}(hT:i5 P T)(h:tR T t K=some r): ∃i,dC P t=some i/\K i=some r:=by
 unfold tR at h;split at h
 .rename_i i hi;exact⟨i,hT _ _ hi,h⟩
 .cases h
def A9{α:Type}{K:List (Nat×Nat×Nat)->TI->Option α}{r:α}(hT:i5 P T)(h:uk T t K=some r): ∃fo i,dC P t=some i/\i.k= .st fo/\K fo i=some r:=by
 unfold uk at h;split at h
 .rename_i fo sz z za hi;exact⟨fo,_,hT _ _ hi,rfl,h⟩
 .cases h
def bw.x1{o:Oper}{f g:FX}(e:aB lk x=some f)(h: ∀ρ G ov (a:Act) w y,bj C ov G w->bu GB C n lk bk ρ G ov a w->aC (cg a) x=some y->bz ρ G f y-> ∃u,bz ρ G g u/\Yd P C (cg a) ov G o u):bw P GB C n lk bk o g [] []:=
 .yd fun ρ G ov a w r=>by
  obtain⟨y,h1,h2⟩:=r.ev e;exact h ρ G ov a w y r.h r h1 h2
def PL{f:FX}(e:aB lk x=some f):bw P GB C n lk bk ⟨dst, .move x,ty',pos,af,gd⟩ f [] []:= .x1 e fun _ _ _ _ _ y _ _ h1 h2=>⟨y,h2,K5 h1⟩
def WB{f:FX}(e:aB lk x=some f):bw P GB C n lk bk ⟨dst, .assign x,ty',pos,af,gd⟩ f [] []:= .x1 e fun _ _ _ _ _ y _ _ h1 h2=>⟨y,h2,Lg h1⟩
def OC{c f g v:FX}(ec:aB lk z=some c)(e1:aB lk x=some f)(e2:aB lk y=some g)(h:Af c f g=some v):bw P GB C n lk bk ⟨dst, .pick z x y,ty',pos,af,gd⟩ v [] []:= .yd fun ρ G ov a w r=>by
 obtain⟨u,h1,h2⟩:=r.ev ec;unfold Af at h;split at h
 .cases h;cases h2;obtain⟨u,h3,h4⟩:=r.ev e1;exact⟨u,h4,Wc h1 h3⟩
 .cases h;cases h2;obtain⟨u,h3,h4⟩:=r.ev e2;exact⟨u,h4,M4 h1 h3⟩
 .cases h
def Wr{f g:FX}{v:Option Prop}(e:aB lk x=some f)(h:AN f=some (v,g))(hv: ∀r,v=some r->r):bw P GB C n lk bk ⟨dst, .nilCheck x,ty',pos,af,gd⟩ g [] []:= .x1 e fun ρ G ov a w y _ _ h1 h2=>by
 have key: ∀l,Is G (.pt l) y-> ∃u,bz ρ G (.ep l) u/\Yd P C (cg a) ov G ⟨dst, .nilCheck x,ty',pos,af,gd⟩ u:=fun l h2=>by
  obtain⟨b,m,rfl,hb,hm⟩:=mD.1 h2;refine⟨_,⟨b,0,m,m,J,hb,?_,hm⟩,xD h1⟩;rw[ja _ _ _ (by rw[hm.len];omega),fZ,cW (by rw[hm.len];omega)]
 unfold AN at h;split at h<;>cases h
 .obtain⟨b,hb,rfl⟩:=h2;exact⟨_,⟨b,hb,rfl⟩,xD h1⟩
 .obtain⟨b,o,cs,m,rfl,h3⟩:=h2;exact⟨_,⟨b,o,cs,m,rfl,h3⟩,xD h1⟩
 .obtain⟨b,hb,rfl⟩:=h2;exact⟨_,⟨b,hb,rfl⟩,xD h1⟩
 .exact key _ h2
 .rcases pi.1 (show Is G _ y from h2) with⟨e,_⟩|⟨_,h3⟩
  .have:=hv _ J;rw[e] at this;cases this
  .exact key _ h3
def VO{f g:FX}{fo:List (Nat×Nat×Nat)}{i:TI}{k:Nat}(hi:dC P t=some i)(hk:i.k= .st fo)(e:aB lk x=some f)(h:AF fo k f=some g):bw P GB C n lk bk ⟨dst, .fieldAddr t x k,ty',pos,af,gd⟩ g [] []:= .x1 e fun ρ G ov a w y _ _ h1 h2=>by
 unfold AF at h;split at h
 .rename_i off ft s ho
  have:=Qm hi hk ho;split at h
  .cases h;obtain⟨b,hb,rfl⟩:=h2;exact⟨_,⟨b,hb,rfl⟩,Bv h1⟩
  .rename_i l
   cases hb:Nat.ble off l.length with
   |false=>rw[hb] at h;cases h
   |true=>
    rw[hb,cond_true,oo] at h;cases h;obtain⟨b,o,cs,m,rfl,hb',ht,hm⟩:=h2;refine⟨_,⟨b,o+off,cs,m.drop off,J,hb',?_,hm.drop _⟩,Bv h1⟩;rw[jY];exact vP ht (by simpa using hb)
  .cases h
   obtain⟨b,hb,rfl⟩:=h2;exact⟨_,⟨b,hb,J⟩,by rw[<-jT];exact Bv h1⟩
  .cases h
 .cases h
def OI{f g:FX}{fo:List (Nat×Nat×Nat)}{i:TI}{k:Nat}(hT:i5 P T)(hi:dC P t=some i)(hk:i.k= .st fo)(e:aB lk x=some f)(h:Cl T fo k f=some g):bw P GB C n lk bk ⟨dst, .field t x k,ty',pos,af,gd⟩ g [] []:= .x1 e fun ρ G ov a w y _ _ h1 h2=>by
 unfold Cl at h;split at h<;>try (cases h;done)
 rename_i cs;split at h<;>try (cases h;done)
 rename_i off ft s ho;split at h<;>try (cases h;done)
 rename_i j hj;obtain⟨m,rfl,hm⟩:=dt.1 (show Is G _ y from h2);have:=XA hi hk ho;split at h<;>try (cases h;done)
 .rename_i q ha
  have:=sB (hT _ _ hj) ha;split at h<;>cases h;rename_i l hl;obtain⟨l',h3,h4⟩:=hm.takeD hl;exact⟨.agg ⟨l'⟩,dt.2 ⟨l',J,h4⟩,UR h1 h3⟩
 .rename_i ha
  have:=qh (hT _ _ hj) ha;split at h<;>cases h;rename_i c hc;obtain⟨l',h3,h4⟩:=hm.get hc;exact⟨l',h4,Mv h1 h3⟩
def bu.own{nm off:Nat}{y:Value}{ty:TypeId}{cs:List FX}{lo:Bool}(r:bu GB C n lk bk ρ G ov a w)(h2:bz ρ G (.ov nm off) y)(hb:bk nm=some (.o ty cs lo)): ∃b m,y= .pointer (some ⟨b,off,none⟩)/\(ρ nm).a=some ⟨b,0,none⟩/\cD ρ G cs m/\⟨b,m,ty,lo⟩∈ov:=by
 obtain⟨os,⟨b,m,h3,rfl,h4⟩,h5⟩:=r.bx _ _ hb;obtain⟨b',h6,rfl⟩:=h2;rw[h3] at h6;cases h6;exact⟨b,m,J,h3,h4,h5 _ aX⟩
def T2{f g:FX}{i:TI}(hi:dC P t=some i)(e:aB lk x=some f)(h:CB bk i f=some g):bw P GB C n lk bk ⟨dst, .load t x,ty',pos,af,gd⟩ g [] []:= .x1 e fun ρ G ov a w y _ r h1 h2=>by
 unfold CB at h;split at h<;>try (cases h;done)
 .rename_i k ha
  have:=sB hi ha;split at h<;>try (cases h;done)
  .split at h<;>try (cases h;done)
   rename_i hb;split at h<;>try (cases h;done)
   rename_i l hl;obtain⟨b,m,rfl,h3,h4,h5⟩:=r.own h2 hb;obtain⟨l',h6,h7⟩:=h4.takeX hl;have:ie ov b m _ _:=⟨h5⟩;exact⟨.agg ⟨l'⟩,Cs h7 h,A6 h1 h6⟩
  .split at h<;>cases h
   rename_i hl;obtain⟨b,o,ms,m,rfl,hb,ht,hm⟩:=h2;obtain⟨l',h3,h4⟩:=hm.takeD hl;exact⟨.agg ⟨l'⟩,dt.2 ⟨l',J,h4⟩,Oa h1 hb (by simpa using Hp ht h3)⟩
 .rename_i ha
  have:=qh hi ha;split at h<;>try (cases h;done)
  .split at h<;>try (cases h;done)
   rename_i hb;obtain⟨b,m,rfl,h3,h4,h5⟩:=r.own h2 hb;obtain⟨l',h6,h7⟩:=h4.get h;have:ie ov b m _ _:=⟨h5⟩;exact⟨l',h7,Ku h1 h6⟩
  .split at h<;>cases h
   obtain⟨b,o,ms,m,rfl,hb,ht,hm⟩:=h2;obtain⟨l',h3,h4⟩:=hm.get (i:=0) rfl;have:=Bt ht (i:=0) (Nat.succ_pos _);rw[eK] at this;exact⟨l',h4,CI h1 hb (by rw[this];exact h3)⟩
def Pf{f g:FX}{i:Nat}(e:aB lk x=some f)(h:AR i f=some g):bw P GB C n lk bk ⟨dst, .extract x i,ty',pos,af,gd⟩ g [] []:= .x1 e fun ρ G ov a w y _ r h1 h2=>by
 unfold AR at h;split at h<;>try (cases h;done)
 .split at h<;>cases h
  rename_i hv;obtain⟨m,rfl,hm⟩:=ph.1 (show Is G _ y from h2);obtain⟨l',h3,h4⟩:=hm.get hv;exact⟨l',h4,zw h1 (by simpa using h3)⟩
 .obtain⟨m1,m2,rfl,k1,k2⟩:=h2
  obtain⟨l',h3,h4⟩:=J3 (ρ:=ρ) h k1 k2;exact⟨l',h4,zw h1 (by simpa using h3)⟩
def Bs{fo:List (Nat×Nat×Nat)}(r:bu GB C n lk bk ρ G ov a w): ∀(ps:List (Nat×Operand)) (cs out:List FX) (m:List Value),pA lk fo cs ps=some out->cD ρ G cs m-> ∃l,qa (cg a) (fo.map fun x=>(x.1,x.2.2)) m ps=some l/\cD ρ G out l
 |[],cs,out,m,e,hm=>by simp only[pA] at e;cases e;exact⟨m,J,hm⟩
 |(i,x)::ps,cs,out,m,e,hm=>by
  simp only[pA] at e;split at e
  .rename_i off q k d ho hd
   cases hc:(d.okc&&(Nat.beq d.cells.length k&&Nat.ble (off+k) cs.length)) with
   |false=>rw[hc] at e;cases e
   |true=>
    rw[hc] at e;simp only[bQ,Nat.beq_eq_true_eq,Nat.ble_eq] at hc;obtain⟨h1,h2,h3⟩:=hc;replace h2:=aU h2;obtain⟨y,hy,hy'⟩:=r.ev hd;obtain⟨c1,_⟩:=hy'.cells h1;have c2:=c1.len;obtain⟨l,hl1,hl2⟩:=Bs r ps _ out _ e (hm.ov c1 (off:=off));refine⟨l,?_,hl2⟩;simp only[qa,fK,ho,gL,hy];rw[if_pos ⟨by rw[c2,h2],by rw[hm.len];exact h3⟩];exact hl1
  .cases e
def MK{fo:List (Nat×Nat×Nat)}{i:TI}{zx:List FX}{cs:List FX}{f:FX}{parts:Array (Nat×Operand)}(hi:dC P t=some i)(hk:i.k= .st fo)(hz:i.z=some zx)(h:pA lk fo zx parts.toList=some cs)(hf:qP cs=some f):
  bw P GB C n lk bk ⟨dst, .build t parts,ty',pos,af,gd⟩ f [] []:= .yd fun ρ G ov a w r=>by
 obtain⟨v,hv,hv'⟩:=yV hi hz;have:=Tg hi hk;obtain⟨l,h1,h2⟩:=Bs r _ _ _ _ h (hv' ρ G);exact⟨.agg ⟨l⟩,Cs h2 hf,Ss h1⟩
def tO{k:IntKind}{p:Int}{v:Option Prop}{f:FX}(h:rU k p=some (v,f)):f= .d (.v (.int k p))/\((∀q,v=some q->q)->k.min<=p/\p<=k.max):=by
 obtain⟨q,h1,h2⟩:=Ug h
 cases h1
 exact⟨J,fun k=>h2 (k _ J)⟩
def ce{k:IntKind}{p:Int}{y:Value}:bz ρ G (.d (.v (.int k p))) y↔y= .int k p:=aH (G:=G)
def Hd(b:BitVec 64):IntKind.u64.wrap (b.toNat:Int)=(b.toNat:Int):=oI ⟨by show(0:Int)<=_;omega,by have:=b.isLt;show _<=(18446744073709551615:Int);omega⟩
def yo(b:BitVec 32):IntKind.u32.wrap (b.toNat:Int)=(b.toNat:Int):=oI ⟨by show(0:Int)<=_;omega,by have:=b.isLt;show _<=(4294967295:Int);omega⟩
def yx{op:BinOp}{k j:IntKind}{p q:Int}{v:Option Prop}{f:FX}(h:ur op k p q=some (v,f))(hop:op= .shr\/op= .shl)(hv: ∀r,v=some r->r){fr:Fr}(hx:aC fr x=some (.int k p))(hy:aC fr y=some (.int j q)): ∃u,bz ρ G f u/\Yd P C fr ov G ⟨dst, .binOp op t x y t',ty',pos,af,gd⟩ u:=by
 rcases hop with rfl|rfl<;>cases h
 .exact⟨_,ce.2 J,Ol hx hy (hv _ J)⟩
 .exact⟨_,ce.2 J,Rm hx hy (hv _ J)⟩
def Vl{op:BinOp}{k:IntKind}{p q:Int}{v:Option Prop}{f:FX}(h:ur op k p q=some (v,f))(hv: ∀r,v=some r->r){fr:Fr}(hx:aC fr x=some (.int k p))(hy:aC fr y=some (.int k q)): ∃u,bz ρ G f u/\Yd P C fr ov G ⟨dst, .binOp op t x y t',ty',pos,af,gd⟩ u:=by
 cases op with
 |add=>obtain⟨rfl,h2⟩:=tO h;exact⟨_,ce.2 rfl,MO hx hy (h2 hv)⟩
 |sub=>obtain⟨rfl,h2⟩:=tO h;exact⟨_,ce.2 rfl,Ts hx hy (h2 hv)⟩
 |mul=>obtain⟨rfl,h2⟩:=tO h;exact⟨_,ce.2 rfl,Wy hx hy (h2 hv)⟩
 |quo=>
  cases k<;>cases h<;>first
   |exact⟨_,ce.2 J,KK hx hy (hv _ J)⟩
   |(obtain⟨h1,h2,h3⟩:=hv _ rfl;exact⟨_,ce.2 rfl,Ri hx hy h1 h2 h3⟩)
 |rem=>
  cases k<;>cases h<;>first
   |exact⟨_,ce.2 J,B3 hx hy (hv _ J)⟩
   |(obtain⟨h1,h2⟩:=hv _ rfl;exact⟨_,ce.2 rfl,Wp hx hy h1 h2⟩)
 |shr=>exact yx h (.inl J) hv hx hy
 |shl=>exact yx h (.inr J) hv hx hy
 |or=>
  cases k<;>cases h<;>refine⟨_,ce.2 J,gF hx hy fun w=>?_⟩
  .show(pure (Value.int .u32 (IntKind.u32.wrap ((BitVec.ofInt 32 p ||| BitVec.ofInt 32 q).toNat:Int))):Sem Value).run P w=_
   rw[yo];rfl
  .show(pure (Value.int .u64 (IntKind.u64.wrap ((BitVec.ofInt 64 p ||| BitVec.ofInt 64 q).toNat:Int))):Sem Value).run P w=_
   rw[Hd];rfl
 |and=>
  cases k<;>cases h<;>refine⟨_,ce.2 J,gF hx hy fun w=>?_⟩
  .show(pure (Value.int .u32 (IntKind.u32.wrap ((BitVec.ofInt 32 p &&& BitVec.ofInt 32 q).toNat:Int))):Sem Value).run P w=_
   rw[yo];rfl
  .show(pure (Value.int .u64 (IntKind.u64.wrap ((BitVec.ofInt 64 p &&& BitVec.ofInt 64 q).toNat:Int))):Sem Value).run P w=_
   rw[Hd];rfl
 |lss=>cases h;exact⟨_,J,SI hx hy⟩
 |leq=>cases h;exact⟨_,J,Q6 hx hy⟩
 |gtr=>cases h;exact⟨_,J,Qs hx hy⟩
 |geq=>cases h;exact⟨_,J,Me hx hy⟩
 |eql=>cases h;exact⟨_,J,Of hx hy⟩
 |neq=>cases h;exact⟨_,J,Qd hx hy⟩
 |_=>cases h
def HD{mx:Bool}{f g u:FX}(e1:aB lk x=some f)(e2:aB lk y=some g)(h:xg mx f g=some u){t1 t2:TypeId}:bw P GB C n lk bk ⟨dst, .call ⟨.builtin (if mx then .max else .min),⟨[x,y]⟩,⟨[t1,t2]⟩⟩,ty',pos,af,gd⟩ u [] []:= .yd fun ρ G ov a w r=>by
 obtain⟨p,h1,h2⟩:=r.ev e1;obtain⟨q,h3,h4⟩:=r.ev e2;unfold xg at h;split at h<;>try (cases h;done)
 rename_i k p' j q';rw[ce] at h2 h4;subst h2 h4
 cases hk:kq k j with
 |false=>rw[hk] at h;cases h
 |true=>
  rw[hk] at h;cases yR hk
  cases mx<;>cases h
  .refine⟨_,ce.2 J,?_⟩
   intro a' w' hf hh;simp only[kN,if_false,execOp,resolve,iT,bL,iQ,bh hf h1,bh hf h3];have h1:(Builtin.min_ #[t1,t2] ty' #[.int k p', .int k q']).run P w'= .ok (.int k (if q'<p' then q' else p')) w':=by
    simp[Builtin.min_,Builtin.min2,run_pure]
   exact cp h1
  .refine⟨_,ce.2 J,?_⟩
   intro a' w' hf hh;simp only[if_true,execOp,resolve,iT,bL,iQ,bh hf h1,bh hf h3];have h1:(Builtin.max_ #[t1,t2] ty' #[.int k p', .int k q']).run P w'= .ok (.int k (if q'>p' then q' else p')) w':=by
    simp[Builtin.max_,Builtin.max2,run_pure]
   exact cp h1
def Xi{f g:FX}{b:Bool}(hT:i5 P T)(h:zj T t f y=some b)(hx: ∃v,aC (cg a) x=some v/\bz ρ G f v)(hy:aB lk y=some g):
  Yd P C (cg a) ov G ⟨dst, .binOp .eql t x y t',ty',pos,af,gd⟩ (.bool b)/\Yd P C (cg a) ov G ⟨dst, .binOp .neq t x y t',ty',pos,af,gd⟩ (.bool (!b)):=by
 obtain⟨v,h1,h2⟩:=hx;unfold zj at h;split at h<;>try (cases h;done)
 .rename_i hi
  have:=Tt (hT _ _ hi) J;split at h<;>cases h
  .cases (aH (G:=G)).1 h2;exact⟨H4 (.inl J) h1,DI (.inl J) h1⟩
  .cases (aH (G:=G)).1 h2;exact⟨H4 (.inr ⟨_,_,J⟩) h1,DI (.inr ⟨_,_,J⟩) h1⟩
 .rename_i hi
  have:=F0 (hT _ _ hi) J;have key: ∀p,v= .pointer (some p)->Yd P C (cg a) ov G ⟨dst, .binOp .eql t x (.const (.pointer none)) t',ty',pos,af,gd⟩ (.bool false)/\Yd P C (cg a) ov G ⟨dst, .binOp .neq t x (.const (.pointer none)) t',ty',pos,af,gd⟩ (.bool (!false)):=fun p e=>by
   subst e;exact⟨w6 h1 J,wj h1 J⟩
  split at h<;>cases h
  .cases (aH (G:=G)).1 h2;exact⟨w6 h1 J,wj h1 J⟩
  .obtain⟨b,_,e⟩:=h2;exact key _ e
  .obtain⟨b,o,cs,m,e,_⟩:=h2;exact key _ e
  .obtain⟨b,_,e⟩:=h2;exact key _ e
  .obtain⟨b,m,e,_⟩:=mD.1 (show Is G _ v from h2);exact key _ e
 .rename_i hi
  have:=gy (hT _ _ hi) J;split at h<;>cases h
  cases h2;exact⟨Ju h1 J,UV h1 J⟩
def T6{op:BinOp}{f g u:FX}{v:Option Prop}(hT:i5 P T)(e1:aB lk x=some f)(e2:aB lk y=some g)(h:CK T op t f g y=some (v,u))(hv: ∀r,v=some r->r):bw P GB C n lk bk ⟨dst, .binOp op t x y t',ty',pos,af,gd⟩ u [] []:= .yd fun ρ G ov a w r=>by
 obtain⟨p,h1,h2⟩:=r.ev e1;obtain⟨q,h3,h4⟩:=r.ev e2;unfold CK at h;split at h
 .rename_i k p' j q'
  rw[ce] at h2 h4;subst h2 h4;split at h
  .exact yx h (.inl J) hv h1 h3
  .exact yx h (.inr J) hv h1 h3
  .cases hk:kq k j with
   |false=>rw[hk] at h;cases h
   |true=>rw[hk] at h;cases yR hk;exact Vl h hv h1 h3
 .unfold D6 at h
  split at h<;>try (cases h;done)
  rename_i hi;have:=F0 (hT _ _ hi) J
  cases (aH (G:=G)).1 h4
  split at h<;>cases h<;>rcases pi.1 (show Is G _ p from h2) with⟨rfl,rfl⟩|⟨rfl,k⟩
  .exact⟨_,J,w6 h1 h3⟩
  .obtain⟨b,m,rfl,_⟩:=mD.1 k;exact⟨_,rfl,w6 h1 h3⟩
  .exact⟨_,J,wj h1 h3⟩
  .obtain⟨b,m,rfl,_⟩:=mD.1 k;exact⟨_,rfl,wj h1 h3⟩
 .split at h
  .rename_i b hb
   obtain⟨k1,k2⟩:=Xi (ρ:=ρ) (G:=G) (C:=C) (ov:=ov) (dst:=dst) (t':=t') (ty':=ty') (pos:=pos) (af:=af) (gd:=gd) hT hb ⟨p,h1,h2⟩ e2;split at h<;>cases h
   .exact⟨_,by cases b<;>rfl,k1⟩
   .exact⟨_,by cases b<;>rfl,k2⟩
  .split at h<;>try (cases h;done)
   rename_i hi ha hb;have:=Xl (hT _ _ hi) J;have e3:=rb h2 ha;have e4:=rb h4 hb;subst e3 e4;split at h<;>cases h
   .exact⟨_,(aH (G:=G)).2 J,NX h1 h3⟩
   .exact⟨_,(aH (G:=G)).2 J,Vk h1 h3⟩
def O5{op:UnOp}{f u:FX}{v:Option Prop}(e1:aB lk x=some f)(h:z8 op f=some (v,u))(hv: ∀r,v=some r->r):bw P GB C n lk bk ⟨dst, .unOp op t x,ty',pos,af,gd⟩ u [] []:= .x1 e1 fun ρ G ov a w y _ r h1 h2=>by
 unfold z8 at h;split at h<;>try (cases h;done)
 .split at h<;>cases h
  rename_i g hg;obtain⟨b,rfl,h3⟩:=PH h2 hg;exact⟨_,h3,TQ h1⟩
 .split at h<;>try (cases h;done)
  obtain⟨rfl,h3⟩:=tO h;rw[ce] at h2;subst h2;refine⟨_,ce.2 J,?_⟩;have:=Bd (P:=P) (C:=C) (own:=ov) (G:=G) (dst:=dst) (ty':=ty') (pos:=pos) (af:=af) (gd:=gd) (t:=t) h1;rwa [Int.zero_sub,oI (h3 hv)] at this
def R7{f u:FX}{v:Option Prop}(hT:i5 P T)(e1:aB lk x=some f)(h:AL T t t' f=some (v,u))(hv: ∀r,v=some r->r):bw P GB C n lk bk ⟨dst, .convert t t' x,ty',pos,af,gd⟩ u [] []:= .x1 e1 fun ρ G ov a w y _ r h1 h2=>by
 unfold AL at h;split at h<;>try (cases h;done)
 rename_i k _ _ _ k' _ _ _ hi hi';have:=sN (hT _ _ hi) J;have:=sN (hT _ _ hi') J;split at h<;>try (cases h;done)
 rename_i j p;rw[ce] at h2;subst h2
 cases hk:kq k j with
 |false=>rw[hk] at h;cases h
 |true=>
  rw[hk,cond_true] at h;cases yR hk;split at h
  .cases h;exact⟨_,ce.2 J,Uj h1⟩
  .obtain⟨rfl,h3⟩:=tO h;exact⟨_,ce.2 rfl,Ix h1 (h3 hv)⟩
def bu.row{nm:Nat}{y:Value}{ty:TypeId}{s:Nat}{ds:List DV}{lo:Bool}(r:bu GB C n lk bk ρ G ov a w)(hb:bk nm=some (.b ty s ds lo)): ∃B,cG G ⟨ρ nm,s,ty,ds,lo⟩ B/\ ∀o∈B,o∈ov:=by
 obtain⟨os,h1,h2⟩:=r.bx _ _ hb;exact⟨os,h1,h2⟩
def cG.len{β:cI}{B:List av}(h:cG G β B):β.x.n=β.ds.length:=by
 obtain⟨vs,h1,h2,_⟩:=h;rw[h1.len,h2.len]
def Sm{f g u:FX}{v:Option Prop}(hT:i5 P T)(e1:aB lk x=some f)(e2:aB lk y=some g)(h:zk T bk t f g=some (v,u))(hv: ∀r,v=some r->r):bw P GB C n lk bk ⟨dst, .indexAddr t x y,ty',pos,af,gd⟩ u [] []:= .yd fun ρ G ov a w r=>by
 obtain⟨p,h1,h2⟩:=r.ev e1;obtain⟨q,h3,h4⟩:=r.ev e2;unfold zk at h;split at h<;>try (cases h;done)
 rename_i nm;split at h<;>try (cases h;done)
 rename_i ty s ds lo hb;split at h<;>try (cases h;done)
 rename_i e' s' by_ _ _ _ hi;have:=gy (hT _ _ hi) J;split at h<;>try (cases h;done)
 rename_i k i
 cases hs:Nat.beq s s' with
 |false=>rw[hs] at h;cases h
 |true=>
  rw[hs,cond_true] at h;cases h
  cases aU hs
  rw[ce] at h4;subst h4
  cases h2
  obtain⟨B,hB,hBo⟩:=r.row (y:= .nilFunc) hb;have hl:=hB.len;simp only at hl;obtain⟨h5,h6⟩:=hv _ rfl;obtain⟨vs,hB1,hB2,_⟩:=hB;rcases hB1 with⟨e5,_,_⟩|⟨b,rest,lo',e5,_⟩
  .subst e5;have:=hB2.len;simp at this;rw[<-this] at h6;simp at h6;omega
  .have hw:(ρ nm).a=some ⟨b,0,none⟩:=by simp only at e5;rw[e5]
   rw[hw] at h1;refine⟨_,⟨b,hw,J⟩,?_⟩;have:=BV (P:=P) (C:=C) (own:=ov) (G:=G) (dst:=dst) (ty':=ty') (pos:=pos) (af:=af) (gd:=gd) (t:=t) h1 h3 h5 (by rw[hl];exact h6);simpa using this
def Wb{f g:FX}{e s by_:Nat}(hS:c8 P t e s by_)(e1:aB lk x=some f)(h:zo bk f=some g):bw P GB C n lk bk ⟨dst, .call ⟨.builtin .len,⟨[x]⟩,⟨[t]⟩⟩,ty',pos,af,gd⟩ g [] []:= .x1 e1 fun ρ G ov a w y _ r h1 h2=>by
 have key: ∀l:List DV,Is G (.sl l) y-> ∃u,bz ρ G (.d (.v (.int .i64 (l.length:Nat)))) u/\Yd P C (cg a) ov G ⟨dst, .call ⟨.builtin .len,⟨[x]⟩,⟨[t]⟩⟩,ty',pos,af,gd⟩ u:=fun l hl=>by
  obtain⟨k,z,es,rfl,hs,hl⟩:=fe.1 hl;have:=hs.len;rw[hl.len] at this;exact⟨_,ce.2 J,by rw[<-this];exact wM h1⟩
 unfold zo at h;split at h
 .cases h;cases h2;exact⟨_,ce.2 J,wM h1⟩
 .cases h;exact key _ h2
 .cases h;exact key _ h2.2
 .split at h<;>cases h
  rename_i hb
  cases h2
  obtain⟨B,hB,_⟩:=r.row (y:= .nilFunc) hb;have:=hB.len;simp only at this;exact⟨_,ce.2 J,by rw[<-this];exact wM h1⟩
 .cases h
def V7{f g:FX}{d:Nat}(hg:g∈f.cells)(h:sW f d=true):g.nm≠some d:=by
 have key:g.nm=f.nm\/g.nm=none:=by
  unfold FX.cells at hg;split at hg
  .obtain⟨x,_,rfl⟩:=bV.1 hg;exact .inr rfl
  .rcases cM.1 hg with hg|hg
   .obtain⟨x,_,rfl⟩:=bV.1 hg;exact .inr rfl
   .rcases aR.1 hg with rfl|hg
    .exact .inl J
    .obtain⟨x,_,rfl⟩:=bV.1 hg;exact .inr rfl
  .exact .inl (by rw[aL.1 hg])
 rcases key with h'|h'
 .intro e;unfold sW at h;rw[<-h',e] at h;simp at h
 .rw[h'];simp
def bu.alloc(r:bu GB C n lk bk ρ G ov a w){d b:Nat}{cs:List Value}{zs:List FX}{K:Act->World->Prop}{a':Act}{w':World}(hf:i6 [d] (some d) lk bk)(hz:cD ρ G zs cs)(hn: ∀g∈zs,g.nm≠some d)
  (hk:SX GB C n (c7 lk (some d) (.ov d 0)) (Sx.upB bk [(d,some (.o t zs true))]) K)(rl:eB C n (Sx.put (cg a) (some d) (.pointer (some ⟨b,0,none⟩))) (⟨b,cs,t,true⟩::ov) G a' w'):K a' w':=by
 have hnd:=(bZ.1 rl.h.nd).1;have hy:bz (fun k=>if k=d then⟨some ⟨b,0,none⟩,0,0⟩ else ρ k) G (.ov d 0) (.pointer (some ⟨b,0,none⟩)):=⟨b,by simp,J⟩;have hB:gr (fun k=>if k=d then⟨some ⟨b,0,none⟩,0,0⟩ else ρ k) G d (.o t zs true) [⟨b,cs,t,true⟩]:=
  ⟨b,cs,by simp,J,hz.ren fun g hg m hm=>oH _ fun e'=>hn g hg (by rw[hm,e'])⟩
 refine hk.run _ _ _ a' w' (r.new hf (ba.refl _) rl.h hB ?_ (fun o ho=>aK _ ho) ?_ hy (i7 rl))
 .intro o ho;rw[aL.1 ho];exact aX
 .intro o ho e';cases e';exact hnd o ho rfl
def I3{d:Nat}{f:FX}(e:aB lk x=some f)(hc:f.okc=true)(hn:sW f d=true):bw P GB C n lk bk ⟨some d, .box t x,ty',pos,af,gd⟩ (.ov d 0) [(d,some (.o t f.cells true))] [d]:=by
 intro hd tl tb K s1 s2 hf hk;refine⟨fun ρ G ov a w r Q=>?_⟩;obtain⟨y,h1,h2⟩:=(r.mono s1 s2).ev e;exact Sy h1 hd (fun b a' w' rl=>r.alloc hf (h2.cells hc).1 (fun g hg=>V7 hg hn) hk rl) a w Q ⟨r.h,r.sz,ci a,r.df⟩
def WZ(v:Value):(rD v).nm=none:=by unfold rD;split<;>rfl
def UG{d:Nat}{i:TI}{z:List FX}(hi:dC P t=some i)(hz:i.z=some z):bw P GB C n lk bk ⟨some d, .alloc t,ty',pos,af,gd⟩ (.ov d 0) [(d,some (.o t z true))] [d]:=by
 intro hd tl tb K s1 s2 hf hk;refine⟨fun ρ G ov a w r Q=>?_⟩;obtain⟨v,hv,hv'⟩:=yV hi hz;refine NP hd (fun b a' w' rl=>r.alloc hf (hv' ρ G) (fun g hg=>?_) hk rl) a w Q ⟨r.h,r.sz,ci a,r.df⟩;obtain⟨j,_,rfl⟩:=lx hi
 cases hj:j.zero with
 |none=>simp only[hj] at hz;cases hz
 |some u=>
  simp only[hj] at hz;cases hz;obtain⟨x,_,rfl⟩:=bV.1 hg;rw[WZ];simp
def f5.of_mem{b:Nat}{cs cs':List Value}{ty:TypeId}{lo:Bool}: ∀{own:List av},⟨b,cs,ty,lo⟩∈own-> ∃own',f5 own b cs ty lo cs' own'/\⟨b,cs',ty,lo⟩∈own'/\ ∀o∈own,o.b≠b->o∈own'
 |[],h=>by cases h
 |x::t,h=>by
  rcases aR.1 h with rfl|h
  .exact⟨_, .hd ..,aX,fun o ho hb=>(aR.1 ho).elim (fun e=>absurd (by rw[e]) hb) (fun e=>aK _ e)⟩
  .obtain⟨own',h1,h2,h3⟩:=f5.of_mem h
   exact⟨x::own', .tl _ _ _ _ _ _ _ _ h1,aK _ h2,fun o ho hb=>(aR.1 ho).elim (fun e=>by rw[e];exact aX) (fun e=>aK _ (h3 o e hb))⟩
def bu.wrote{nm:Nat}{b:Nat}{m m':List Value}{ty:TypeId}{cs cs':List FX}{lo:Bool}(r:bu GB C n lk bk ρ G ov a w)(hb:bk nm=some (.o ty cs lo))(ha:(ρ nm).a=some ⟨b,0,none⟩){own':List av}(hm':cD ρ G cs' m')(h1:⟨b,m',ty,lo⟩∈own')(h2: ∀o∈ov,o.b≠b->o∈own')
  {K:Act->World->Prop}(hk:SX GB C n (c7 lk dst .un) (Sx.upB bk [(nm,some (.o ty cs' lo))]) K){a':Act}{w':World}(rl:eB C n (Sx.put (cg a) dst undef) own' G a' w'):K a' w':=by
 have r2:=r.upB (G':=G) (ov':=own') (w':=w') (B':= .o ty cs' lo) (os:=[⟨b,m',ty,lo⟩]) (ba.refl _) rl.h ⟨b,m',ha,J,hm'⟩ (fun o ho=>by rw[aL.1 ho];exact h1) (fun o ho hne=>h2 o ho fun e=>hne (by rw[ha,e])) ⟨_,hb⟩;exact hk.run _ _ _ a' w' (r2.put J (i7 rl))
def N2{f:FX}(h:f.flat=true):f.okc=true:=by
 cases f with
 |d x=>cases x<;>first|exact h|(cases h;done)
 |bx=>cases h
 |_=>exact h
def NS{f:FX}(h:f.flat=true):f.cells=[f]:=by
 cases f with
 |d x=>cases x<;>first|rfl|(cases h;done)
 |bx=>cases h
 |_=>rfl
def bz.flat{f:FX}{y:Value}(h:bz ρ G f y)(k:f.flat=true):Go.Sx.flat y=true:=by
 obtain⟨h1,h2⟩:=h.cells (N2 k);rw[NS k] at h1;have hl:=h1.len
 cases y with
 |agg l=>
  obtain⟨z,q,e,h4,h5⟩:=h1
  cases f with
  |d x=>cases x with
   |v u=>exact Is.flat (show Is G _ _ from h) k
   |ag l=>cases k
   |tp l=>cases k
   |pt l=>exact Is.flat (show Is G _ _ from h) k
   |op b l=>exact Is.flat (show Is G _ _ from h) k
   |sl l=>exact Is.flat (show Is G _ _ from h) k
  |ep l=>obtain⟨_,_,_,_,e,_⟩:=h;cases e
  |ip _ _=>obtain⟨_,e,_⟩:=h;cases e
  |ov _ _=>obtain⟨_,_,e⟩:=h;cases e
  |be _ _ _ _=>obtain⟨_,_,e⟩:=h;cases e
  |rs _ _ _ _=>obtain⟨_,_,_,e,_⟩:=h;cases e
  |ct l=>obtain⟨⟨_,_,e⟩,_⟩:=h;cases e
  |bx=>cases k
  |un=>cases k
  |no=>cases k
  |_=>cases h
 |_=>exact h2 _ (by simp[aF])
def Rx{fa fv:FX}{bl:List (Nat×Option Bk)}{i:TI}(hi:dC P t=some i)(e1:aB lk x=some fa)(e2:aB lk y=some fv)(h:vJ bk i fa fv=some bl):bw P GB C n lk bk ⟨dst, .store t x y,ty',pos,af,gd⟩ .un bl []:=by
 intro hd tl tb K s1 s2 hf hk;refine⟨fun ρ G ov a w r Q=>?_⟩;have r1:=r.mono s1 s2;obtain⟨p,h1,h2⟩:=r1.ev e1;obtain⟨q,h3,h4⟩:=r1.ev e2;unfold vJ at h;split at h<;>try (cases h;done)
 rename_i nm off;split at h<;>try (cases h;done)
 rename_i ty cs lo hb;obtain⟨b,m,rfl,ha,h5,h6⟩:=r1.own h2 hb;split at h<;>try (cases h;done)
 .rename_i k hk'
  have:=sB hi hk'
  cases hc:(fv.okc&&(Nat.beq fv.cells.length k&&Nat.ble (off+k) cs.length)) with
  |false=>rw[hc] at h;cases h
  |true=>
   rw[hc,cond_true,oo] at h;cases h;simp only[bQ,Nat.beq_eq_true_eq,Nat.ble_eq] at hc;obtain⟨c1,c2,c3⟩:=hc;replace c2:=aU c2;obtain⟨h7,h8⟩:=h4.cells c1;obtain⟨own',u1,u2,u3⟩:=f5.of_mem (cs':=c9 m off (aF q)) h6;exact A2 h1 h3 u1 (by rw[h7.len,c2]) (by rw[h5.len];exact c3) (dJ.2 h8) hd (fun a' w' rl=>r.wrote (m:=m) (s2 _ _ hb) ha (h5.ov h7) u2 u3 hk rl) a w Q ⟨r.h,r.sz,ci a,r.df⟩
 .rename_i hk'
  have:=qh hi hk'
  cases hc:(fv.flat&&Nat.blt off cs.length) with
  |false=>rw[hc] at h;cases h
  |true=>
   rw[hc,cond_true,oo] at h;cases h;simp only[bQ,lS] at hc;obtain⟨own',u1,u2,u3⟩:=f5.of_mem (cs':=m.set off q) h6;exact AP h1 h3 u1 (by rw[h5.len];exact hc.2) (h4.flat hc.1) hd (fun a' w' rl=>r.wrote (m:=m) (s2 _ _ hb) ha (h5.set off h4) u2 u3 hk rl) a w Q ⟨r.h,r.sz,ci a,r.df⟩
def sS{op:Op}{r:CR}(hT:i5 P T)(h:sX T lk bk dst op=some r):Pi P GB C n lk bk ⟨dst,op,ty',pos,af,gd⟩ r:=by
 intro hv;unfold sX at h;split at h
 .obtain⟨f,h1,rfl⟩:=mp h;exact PL h1
 .obtain⟨f,h1,rfl⟩:=mp h;exact WB h1
 .obtain⟨c,hc,h⟩:=mI h
  obtain⟨f,g,h1,h2,h⟩:=sP h;obtain⟨u,h3,rfl⟩:=mp h;exact OC hc h1 h2 h3
 .split at h<;>try (cases h;done)
  obtain⟨i,hi,h⟩:=Cd hT h;split at h<;>try (cases h;done)
  rename_i z hz;rw[oo] at h;cases h;exact UG hi hz
 .split at h<;>try (cases h;done)
  obtain⟨f,hf,h⟩:=mI h;rw[oo,cond_eq_ite] at h;split at h<;>cases h;rename_i hc;simp only[bQ] at hc;exact I3 hf hc.1 hc.2
 .obtain⟨f,h1,h⟩:=mI h;obtain⟨v,u,h3,rfl⟩:=vw h;exact Wr h1 h3 hv
 .obtain⟨fo,i,hi,hk,h⟩:=A9 hT h
  obtain⟨f,h1,h⟩:=mI h;obtain⟨u,h3,rfl⟩:=mp h;exact VO hi hk h1 h3
 .obtain⟨fo,i,hi,hk,h⟩:=A9 hT h
  obtain⟨f,h1,h⟩:=mI h;obtain⟨u,h3,rfl⟩:=mp h;exact OI hT hi hk h1 h3
 .obtain⟨i,hi,h⟩:=Cd hT h
  obtain⟨f,h1,h⟩:=mI h;obtain⟨u,h3,rfl⟩:=mp h;exact T2 hi h1 h3
 .obtain⟨i,hi,h⟩:=Cd hT h
  obtain⟨f,g,h1,h2,h⟩:=sP h
  cases hb:vJ bk i f g with
  |none=>simp only[hb] at h;cases h
  |some bl=>simp only[hb] at h;cases h;exact Rx hi h1 h2 hb
 .obtain⟨f,h1,h⟩:=mI h;obtain⟨u,h3,rfl⟩:=mp h;exact Pf h1 h3
 .obtain⟨fo,i,hi,hk,h⟩:=A9 hT h
  split at h<;>try (cases h;done)
  rename_i z hz;split at h<;>try (cases h;done)
  rename_i cs hcs;split at h<;>cases h;rename_i g hg;exact MK hi hk hz hcs hg
 .obtain⟨f,g,h1,h2,h⟩:=sP h;obtain⟨v,u,h3,rfl⟩:=vw h;exact T6 hT h1 h2 h3 hv
 .obtain⟨f,h1,h⟩:=mI h;obtain⟨v,u,h3,rfl⟩:=vw h;exact O5 h1 h3 hv
 .obtain⟨f,h1,h⟩:=mI h;obtain⟨v,u,h3,rfl⟩:=vw h;exact R7 hT h1 h3 hv
 .obtain⟨f,g,h1,h2,h⟩:=sP h;obtain⟨v,u,h3,rfl⟩:=vw h;exact Sm hT h1 h2 h3 hv
 .split at h<;>try (cases h;done)
  rename_i hi;obtain⟨f,h1,h⟩:=mI h;obtain⟨u,h3,rfl⟩:=mp h;exact Wb (gy (hT _ _ hi) J) h1 h3
 .obtain⟨f,g,h1,h2,h⟩:=sP h;obtain⟨u,h3,rfl⟩:=mp h;exact HD (mx:=true) h1 h2 h3
 .obtain⟨f,g,h1,h2,h⟩:=sP h;obtain⟨u,h3,rfl⟩:=mp h;exact HD (mx:=false) h1 h2 h3
 .cases h
end
def FW(r:Option Nat):Fence:={Fence.wide with round:=r}
def d7(r:Option Nat)(P:Program)(c:Code)(Q:Exit->Act->World->Prop)(a:Act)(w:World):Prop:=c.wpIn (FW r) 0 P Q a w
section
variable {r:Option Nat} {P:Program} {Q:Exit->Act->World->Prop} {a:Act} {w:World}
def oh{o:Option Nat}{c:Code}(h:o=none)(k:d7 o P c Q a w):c.wp P Q a w:=by
 subst h;exact wpIn_wide.1 k
def S3{c:Code}{Q':Exit->Act->World->Prop}(h:d7 r P c Q a w)(hq: ∀e a w,Q e a w->Q' e a w):d7 r P c Q' a w:=wpIn_mono h hq
def SW(h:Q .normal a w):d7 r P .skip Q a w:=wpIn_skip h
def Xu{l:Nat}(h:Q .normal a w):d7 r P (.label l) Q a w:=wpIn_label h
def Ws{id:Nat}(h:Q (.exit id) a w):d7 r P (.exit id) Q a w:=wpIn_exit h
def Nj(h:Q .ret a w):d7 r P .ret Q a w:=wpIn_ret h
def M8{x y:Code}(h:d7 r P x (Exit.then (d7 r P y Q) Q) a w):d7 r P (.seq x y) Q a w:=wpIn_seq h
def WV{c:Operand}{x y:Code}{t:Bool}(hc:a.eval c= .bool t)(ht:t=true->d7 r P x Q a w)(hf:t=false->d7 r P y Q a w):d7 r P (.cond c x y) Q a w:=wpIn_cond_split hc ht hf
def M7{id:Nat}{c:Code}(h:d7 r P c (Exit.inBlock id Q) a w):d7 r P (.block id c) Q a w:=wpIn_block h
def sC{b:Frame}{k:List Item}{cs:List Frame}{c:Code}:step P (lone (b.atR a (.code (.scope c)::k)) cs w)= .next (lone (b.atR a (.code c:: .inScope c::k)) cs w):=
 step_lone_go (by simp[stepG,stepG.exec,Frame.atR])
def LX{b:Frame}{k:List Item}{cs:List Frame}{c:Code}:step P (lone (b.atR a (.inScope c::k)) cs w)= .next (lone (b.atR a k) cs w):=
 step_lone_go (by simp[stepG,stepG.exec,Frame.atR])
def WY{c:Code}(h:d7 r P c (Exit.noGoto Q) a w):d7 r P (.scope c) Q a w:=by
 intro b k cs hro hb hr;have h0:(lone (b.atR a (.code (.scope c)::k)) cs w).fenced P (FW r):=fenced_calm hb hr J;obtain⟨e,a₁,w₁,hq,harr⟩:=h b (.inScope c::k) cs hro hb hr
 cases e with
 |normal=>exact⟨.normal,a₁,w₁,hq, .head h0 sC (StepsIn.trans harr (.one (fenced_calm hb hr J) LX))⟩
 |exit id=>
  have hx:exitTo id (.inScope c::k)=exitTo id k:=by simp[exitTo]
  exact⟨.exit id,a₁,w₁,hq,fun k' hk=> .head h0 sC (harr.1 k' (by rw[hx];exact hk)),fun hr' hk=>let⟨k₁,h1,h2⟩:=harr.2 hr' (by rw[hx];exact hk);⟨k₁,h1, .head h0 sC h2⟩⟩
 |goto l=>exact hq.elim
 |ret=>exact⟨_,a₁,w₁,hq, .of_steps (.one h0 sC) harr⟩
 |panic ch=>exact⟨_,a₁,w₁,hq, .of_steps (.one h0 sC) harr⟩
 |outgrown=>exact⟨_,a₁,w₁,hq, .of_steps (.one h0 sC) harr⟩
def So{id:Nat}{ops:Array Oper}(h:wpListIn (FW r) 0 P ops Q ops.toList a w):d7 r P (.region id ops false) Q a w:=wpIn_region_list h
def L4{f:FuncId}{args:Array Value}{R:Ending->World->Prop}(h:Calls P f args w R):CallsIn (FW r) 0 P f args w R:=by
 have h1:CallsIn Fence.wide 0 P f args w R:=callsIn_wide.2 h
 cases r with
 |none=>exact h1
 |some l=>exact h1
def tG{o:Oper}{K K':Act->World->Prop}(h: ∀Q,o.wp P a w K' Q)(hd: ∀a' w',K' a' w'->a'.defers=a.defers/\K a' w'):o.wpIn (FW r) 0 P a w K Q:=by
 have hs:o.semAt r a.eval=execOp a.eval o:=by
  cases r with
  |none=>rfl
  |some l=>
   refine Oper.semAt_some l a.eval o fun c hc=>?_;have h1:=h (fun _ _ _=>False);unfold Oper.wp at h1;obtain⟨dst,op,ty,pos,af,gd⟩:=o;simp only at hc;subst hc;unfold execOp at h1;simp only[Sem.run_bind,Result.andThen] at h1;split at h1
   .simp only[Sem.run_pure,Oper.upon] at h1
    have:=(hd _ _ h1).1
    cases dst<;>simp[Act.put] at this
   .rename_i x w1 hx
    cases x<;>simp only[Oper.upon] at h1
 have h1:=h (fun _ _ _=>False);unfold Oper.wp at h1;refine⟨fun _ _=>trivial,?_⟩;show o.uponIn (FW r) 0 P a K Q ((o.semAt r a.eval).run P w);rw[hs];generalize (execOp a.eval o).run P w=x at h1
 cases x with
 |ok nx w'=>
  cases nx with
  |value v=>exact(hd _ _ h1).2
  |skip=>exact(hd _ _ h1).2
  |defer d=>exact(hd _ _ h1).2
  |enter f args=>
   refine⟨fun h=>(by cases h),(L4 (r:=r) h1).mono fun e w'' he=>?_⟩
   cases e with
   |returned v=>exact(hd _ _ he).2
   |panicked ch=>exact he.elim
   |outgrown=>obtain⟨_,_,hq⟩:=he;exact hq.elim
  |row row args=>
   refine⟨fun h=>(by cases h),fun c cs hroom=>?_⟩;obtain⟨v,w'',hv,hst⟩:=h1 c cs;exact⟨v,w'',(hd _ _ hv).2,stepsIn_wide.2 hst⟩
  |round=>exact h1.elim
  |_=>exact h1.elim
 |halt y w'=>cases y<;>first|exact h1.elim|exact h1
end
end Go.Sx
end
