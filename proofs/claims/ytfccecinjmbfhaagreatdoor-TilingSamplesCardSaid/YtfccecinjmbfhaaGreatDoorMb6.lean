/- Part 6 of a proof. -/
import Derived.Test.YtfccecinjmbfhaaGreatDoorMb5
set_option linter.unusedSimpArgs false
set_option maxRecDepth 100000
set_option linter.unusedVariables false
section
namespace Go.Sx
open Go
theorem ago{cs l:List Value}{o k:Nat}(h:aaX cs o k=some l):l.length=k:=(abw _ _ _ _ h).1
theorem ah8: ∀{cs m:List Value} {o k:Nat},aaX cs o k=some m→ ∀{d:Nat},d≤k→aaX cs (o+d) (k-d)=some (m.drop d)
 |cs,m,o,k,h,0,_=>by simpa using h
 |[],m,0,0,h,d+1,hd=>by omega
 |v::t,m,0,0,h,d+1,hd=>by omega
 |[],m,0,k+1,h,d+1,hd=>by simp[aaX] at h
 |v::t,m,0,k+1,h,d+1,hd=>by
  simp only[aaX] at h
  split at h
  ·rename_i l hl
   cases h
   have:=ah8 hl (d:=d) (by omega)
   rw[eY] at this
   rw[eY,Nat.add_sub_add_right,rW]
   exact this
  ·cases h
 |[],m,o+1,k,h,d+1,hd=>by simp[aaX] at h
 |v::t,m,o+1,k,h,d+1,hd=>by
  simp only[aaX] at h
  have:=ah8 h (d:=d+1) hd
  rw[show o+1+(d+1)=(o+(d+1))+1 by omega]
  exact this
theorem ajf: ∀{cs m:List Value} {o k:Nat},aaX cs o k=some m→ ∀{j:Nat},j≤k→aaX cs o j=some (m.take j)
 |cs,m,0,k,h,0,_=>by cases cs<;>rfl
 |[],m,0,0,h,j+1,hd=>by omega
 |v::t,m,0,0,h,j+1,hd=>by omega
 |[],m,0,k+1,h,j+1,hd=>by simp[aaX] at h
 |v::t,m,0,k+1,h,j+1,hd=>by
  simp only[aaX] at h
  split at h
  ·rename_i l hl
   cases h
   have:=ajf hl (j:=j) (by omega)
   simp[aaX,this]
  ·cases h
 |[],m,o+1,k,h,j,hd=>by simp[aaX] at h
 |v::t,m,o+1,k,h,j,hd=>by
  simp only[aaX] at h⊢
  exact ajf h hd
theorem agR{m l:List Value}{j k:Nat}(h:aaX m j k=some l):j+k≤m.length∧l=(m.drop j).take k:=by
 obtain⟨h1,h2⟩:=abw _ _ _ _ h
 have hle:j≤m.length:=by
  clear h1 h2
  induction m generalizing j with
  |nil=>cases j with
   |zero=>exact aL _
   |succ j=>simp[aaX] at h
  |cons v t ih=>cases j with
   |zero=>exact aR _
   |succ j=>have:=ih (j:=j) h;simp;omega
 have hlen:j+k≤m.length:=by
  rcases fQ k with h0|h0
  ·omega
  ·have h3:=h2 (k-1) (by omega)
   rw[aQ (by omega:k-1<l.length)] at h3
   have:=(bJ.1 h3).1
   omega
 rw[abG _ _ _ hlen] at h
 cases h
 exact⟨hlen,rfl⟩
theorem amy{cs m l:List Value}{o s j k:Nat}(h:aaX cs o s=some m)(hm:aaX m j k=some l):aaX cs (o+j) k=some l:=by
 obtain⟨h1,rfl⟩:=agR hm
 have hl:=ago h
 have h2:=ah8 h (d:=j) (by omega)
 exact ajf h2 (j:=k) (by omega)
theorem ash{cs:List Value}{o:Nat}{v:Value}:aaX cs o 1=some [v]↔cs[o]? =some v:=by
 constructor
 ·intro h
  obtain⟨_,h2⟩:=abw _ _ _ _ h
  simpa using h2 0 (by omega)
 ·intro h
  obtain⟨h1,h2⟩:=bJ.1 h
  rw[abG _ _ _ (by omega),bQ h1,mT,h2]
  rfl
theorem ahK{m l:List Value}{j k i:Nat}(h:aaX m j k=some l)(hi:i<k):m[j+i]? =l[i]? :=(abw _ _ _ _ h).2 i hi
/-! ### lenses -/
inductive ayp:List adg→Nat→List DV→TypeId→Bool→List DV→List adg→Prop
 |hd (b:Nat) (cs cs':List DV) (ty:TypeId) (lo:Bool) (t:List adg):ayp (⟨b,cs,ty,lo⟩::t) b cs ty lo cs' (⟨b,cs',ty,lo⟩::t)
 |tl (o:adg) (t t':List adg) (b:Nat) (cs cs':List DV) (ty:TypeId) (lo:Bool) (h:ayp t b cs ty lo cs' t'):ayp (o::t) b cs ty lo cs' (o::t')
inductive azF:List adg→Nat→List DV→TypeId→Bool→List adg→Prop
 |hd (b:Nat) (cs:List DV) (ty:TypeId) (lo:Bool) (t:List adg):azF (⟨b,cs,ty,lo⟩::t) b cs ty lo t
 |tl (o:adg) (t t':List adg) (b:Nat) (cs:List DV) (ty:TypeId) (lo:Bool) (h:azF t b cs ty lo t'):azF (o::t) b cs ty lo (o::t')
inductive aAc:List adX→adX→List adX→Prop
 |hd (β:adX) (t:List adX):aAc (β::t) β t
 |tl (o:adX) (t t':List adX) (β:adX) (h:aAc t β t'):aAc (o::t) β (o::t')
section
variable {P:Program} {GB:Gh} {C:Ctx} {n:Nat} {E:Ext} {fr fr':FrF} {own own':List adg} {bs bs':List adX} {ops:Array Oper} {Q:Exit→Act→World→Prop} {r:List Oper} {Φ:Act→World→Prop}
variable {dst:Option Nat} {t t' ty':TypeId} {pos:String} {af:Array Edge} {gd:Option (Nat×Bool)} {x y z:Operand} {e s by_:Nat}
/-! loads -/
theorem abx.elem{G:Gh}{β:adX}{B:List Own}(h:abx G β B){i:Nat}{d:DV}(hi:β.ds[i]? =some d)(hd:d.okc=true):
  ∃b m rest lo l,β.x.a=some ⟨b,0,none⟩∧B=[⟨b,m++rest,β.ty,lo⟩]∧aaX (m++rest) (i*β.s) β.s=some l∧IsLs G d.cells l:=by
 obtain⟨vs,hB,hv,hs,_⟩:=h
 obtain⟨v,h1,h2⟩:=hv.get hi
 rcases hB with⟨e,_,_⟩|⟨b,rest,lo,h3,h4,h5,h6,h7⟩
 ·rw[e] at h1;simp at h1
 ·obtain⟨h8,h9⟩:=bJ.1 h1
  refine⟨b,aai vs,rest,lo,aaf v,by rw[h3],h4,?_,(h2.cells hd).1⟩
  have:=ahm (rest:=rest) hs h8
  rw[h9] at this
  exact this
/-! structs, tuples -/
def aGn(fr:FrF)(offs:List (Nat×Nat)):List DV→List (Nat×Operand)→Option (List DV)
 |cs,[]=>some cs
 |cs,(i,x)::r=>match offs[i]?,opD fr x with
  |some (off,k),some d=>bif d.okc&&(Nat.beq d.cells.length k&&Nat.ble (off+k) cs.length) then aGn fr offs (ovD cs off d.cells) r else none
  |_,_=>none
class aGQ (P:Program) (t:TypeId) (z:outParam Value) (cs:outParam (List DV)):Prop where
 tz:TyZ P t z
 iz:IsLs (fun _=>none) cs (aaf z)
/-! slices -/
theorem IsLs.all{G:Gh}: ∀{l:List DV} {m:List Value},IsLs G l m→ ∀v∈m,∃d∈l,Is G d v
 |[],m,h,v,hv=>by rw[aaM.1 h] at hv;cases hv
 |d::t,m,h,v,hv=>by
  obtain⟨y,n,rfl,h1,h2⟩:=aac.1 h
  rcases aS.1 hv with rfl|hv
  ·exact⟨d,aZ,h1⟩
  ·obtain⟨d',hd,h3⟩:=h2.all v hv
   exact⟨d',aK _ hd,h3⟩
theorem afb.sub{G:Gh}{s:Nat}{x:SV}{es:List Value}(h:afb G s x es)(lo hi mx:Nat)(h1:lo≤hi)(h2:hi≤es.length)(h3:hi≤mx)(_h4:mx≤x.c):
  afb G s ⟨if mx=lo then x.a else x.a.map (·.add (lo*s)),hi-lo,mx-lo⟩ ((es.take hi).drop lo):=by
 refine⟨by simp;omega,by simp only[];omega,?_⟩
 rcases h.mem with h0|⟨b,off,cs,ha,hg,hc⟩
 ·left;simp[h0]
 ·by_cases he:hi=lo
  ·left;simp[he]
  ·right
   refine⟨b,off+lo*s,cs,?_,hg,fun i hi'=>?_⟩
   ·simp only[]
    rw[if_neg (by omega),ha]
    simp[acx]
   ·simp only[fM,cK] at hi'
    have:=hc (lo+i) (by omega)
    rw[iL,←cY,this]
    simp
def acI(s:Nat)(l:List DV):Prop:= ∀d∈l,d.okc=true∧d.cells.length=s
theorem afh{G:Gh}{l:List DV}{s' s:Nat}{w:SV}{es:List Value}(hsl:afb G s' w es)(hl:IsLs G l es)(ho:acI s l):es=[]∨s'=s:=by
 rcases hsl.mem with h|⟨b,off,cs,ha,hg,hcs⟩
 ·exact .inl h
 ·cases es with
  |nil=>exact .inl rfl
  |cons v t=>
   right
   have h1:=hcs 0 (by simp)
   have h2:=ago h1
   obtain⟨d,hd,h3⟩:=hl.all v aZ
   obtain⟨h4,h5⟩:=ho d hd
   have:=(h3.cells h4).1.len
   simp only[nR] at h2
   omega
end
section
variable {P:Program} {GB:Gh} {C:Ctx} {n:Nat} {E:Ext} {fr:FrF} {own:List adg} {bs:List adX} {ops:Array Oper} {Q:Exit→Act→World→Prop} {r:List Oper} {dst:Option Nat} {ty':TypeId} {pos:String} {af:Array Edge} {x:Operand}
end
inductive FX where
 |d (x:DV)
 /-- a pointer to cells that are written no more -/
 |ep (l:List DV)
 /-- a pointer into a variable -/
 |ov (nm off:Nat)
 /-- a row -/
 |rw(nm:Nat)
 /-- a pointer into element i of a row -/
 |be (nm s i j:Nat)
 /-- a slice of n elements of a row, from element off on -/
 |rs (nm s off n:Nat)
 /-- a slice without room behind it -/
 |ct (l:List DV)
 |tt
 |ff
 |pr (p:Prop) (h:Decidable p)
 |nl
 /-- an aggregate (or a tuple) with one row in it -/
 |bx (tp:Bool) (pre:List DV) (nm:Nat) (post:List DV)
 |un
 /-- nothing is known -/
 |no
abbrev NE:=Nat→SV
def IsX(ρ:NE)(G:Gh):FX→Value→Prop
 | .d x,y=>Is G x y
 | .ep l,y=> ∃b off cs m,y= .pointer (some ⟨b,off,none⟩)∧G b=some cs∧aaX cs off l.length=some m∧IsLs G l m
 | .ov nm off,y=> ∃b,(ρ nm).a=some ⟨b,0,none⟩∧y= .pointer (some ⟨b,off,none⟩)
 | .rw nm,y=>y= .slice (ρ nm).a (ρ nm).n (ρ nm).c
 | .be nm s i j,y=> ∃b,(ρ nm).a=some ⟨b,0,none⟩∧y= .pointer (some ⟨b,i*s+j,none⟩)
 | .rs nm s off n,y=> ∃b c,(ρ nm).a=some ⟨b,0,none⟩∧y= .slice (some ⟨b,off*s,none⟩) n c∧n≤c
 | .ct l,y=>(∃a n,y= .slice a n n)∧Is G (.sl l) y
 | .tt,y=>y= .bool true
 | .ff,y=>y= .bool false
 | .pr p h,y=>y= .bool (@decide p h)
 | .nl,y=>y= .slice none 0 0
 | .bx tp pre nm post,y=> ∃m1 m2,y=(bif tp then Value.tuple ⟨m1++Value.slice (ρ nm).a (ρ nm).n (ρ nm).c::m2⟩ else .agg ⟨m1++Value.slice (ρ nm).a (ρ nm).n (ρ nm).c::m2⟩)∧IsLs G pre m1∧IsLs G post m2
 | .un,y=>y=undef
 | .no,_=>True
def adu(ρ:NE)(G:Gh):List FX→List Value→Prop
 |[],m=>m=[]
 |f::t,m=> ∃y n,m=y::n∧IsX ρ G f y∧adu ρ G t n
def FX.nm:FX→Option Nat
 | .ov n _=>some n
 | .rw n=>some n
 | .be n _ _ _=>some n
 | .rs n _ _ _=>some n
 | .bx _ _ n _=>some n
 |_=>none
section
variable {ρ:NE} {G:Gh}
theorem IsX.up{A:Gh}{f:FX}{y:Value}(h:IsX ρ A f y)(k:GLe A G):IsX ρ G f y:=by
 cases f with
 |d x=>exact Is.up h k
 |ep l=>obtain⟨b,off,cs,m,e,hb,ht,hl⟩:=h;exact⟨b,off,cs,m,e,k _ _ hb,ht,hl.up k⟩
 |ct l=>exact⟨h.1,h.2.up k⟩
 |bx tp pre nm post=>obtain⟨m1,m2,e,h1,h2⟩:=h;exact⟨m1,m2,e,h1.up k,h2.up k⟩
 |_=>exact h
theorem IsX.ren{ρ':NE}{f:FX}{y:Value}(h:IsX ρ G f y)(k: ∀n,f.nm=some n→ρ' n=ρ n):IsX ρ' G f y:=by
 cases f with
 |ov n o=>have e:=k n rfl;simp only[IsX] at h⊢;rw[e];exact h
 |rw n=>have e:=k n rfl;simp only[IsX] at h⊢;rw[e];exact h
 |be n s i j=>have e:=k n rfl;simp only[IsX] at h⊢;rw[e];exact h
 |rs n s i j=>have e:=k n rfl;simp only[IsX] at h⊢;rw[e];exact h
 |bx tp pre n post=>have e:=k n rfl;simp only[IsX] at h⊢;rw[e];exact h
 |_=>exact h
theorem adu.up{A:Gh}(k:GLe A G): ∀{l:List FX} {m:List Value},adu ρ A l m→adu ρ G l m
 |[],_,h=>h
 |_::_,_,⟨y,n,e,h1,h2⟩=>⟨y,n,e,h1.up k,h2.up k⟩
theorem adu.ren{ρ':NE}: ∀{l:List FX} {m:List Value},adu ρ G l m→(∀f∈l,∀n,f.nm=some n→ρ' n=ρ n)→adu ρ' G l m
 |[],_,h,_=>h
 |f::t,_,⟨y,n,e,h1,h2⟩,k=>⟨y,n,e,h1.ren (k f aZ),h2.ren fun g hg=>k g (aK _ hg)⟩
theorem adu.len: ∀{l:List FX} {m:List Value},adu ρ G l m→m.length=l.length
 |[],m,h=>by rw[show m=[] from h];rfl
 |f::t,m,⟨y,n,e,h1,h2⟩=>by subst e;simp[h2.len]
theorem adu.get: ∀{l:List FX} {m:List Value} {i:Nat} {f:FX},adu ρ G l m→l[i]? =some f→ ∃y,m[i]? =some y∧IsX ρ G f y
 |[],m,i,f,h,e=>by simp at e
 |x::t,m,0,f,⟨y,n,e1,h1,h2⟩,e=>by subst e1;simp at e;subst e;exact⟨y,rfl,h1⟩
 |x::t,m,i+1,f,⟨y,n,e1,h1,h2⟩,e=>by subst e1;simp at e;simpa using h2.get e
theorem adu.set: ∀{a:List FX} {m:List Value} (k:Nat) {f:FX} {y:Value},adu ρ G a m→IsX ρ G f y→adu ρ G (a.set k f) (m.set k y)
 |[],m,k,f,y,h,_=>by rw[show m=[] from h];rfl
 |x::t,m,0,f,y,⟨u,n,e,h1,h2⟩,k=>by subst e;exact⟨y,n,rfl,k,h2⟩
 |x::t,m,j+1,f,y,⟨u,n,e,h1,h2⟩,k=>by subst e;exact⟨u,n.set j y,rfl,h1,h2.set j k⟩
end
def aj8:FX→Option DV
 | .d x=>some x
 | .ct l=>some (.sl l)
 | .tt=>some (.v (.bool true))
 | .ff=>some (.v (.bool false))
 | .pr p h=>some (.v (.bool (@decide p h)))
 | .nl=>some (.sl [])
 |_=>none
theorem aco{ρ:NE}{G:Gh}{f:FX}{d:DV}{y:Value}(h:IsX ρ G f y)(e:aj8 f=some d):Is G d y:=by
 cases f with
 |d x=>cases e;exact h
 |ct l=>cases e;exact h.2
 |tt=>cases e;exact aa2.2 h
 |ff=>cases e;exact aa2.2 h
 |pr p i=>cases e;exact aa2.2 h
 |nl=>cases e;rw[show y= .slice none 0 0 from h];exact adH.2 ⟨0,⟨none,0,0⟩,[],rfl, .nil G 0, .nil⟩
 |_=>cases e
def ad0:List FX→Option (List DV)
 |[]=>some []
 |f::t=>match aj8 f,ad0 t with
  |some d,some l=>some (d::l)
  |_,_=>none
theorem acR{ρ:NE}{G:Gh}: ∀{l:List FX} {ds:List DV} {m:List Value},adu ρ G l m→ad0 l=some ds→IsLs G ds m
 |[],ds,m,h,e=>by cases e;rw[show m=[] from h];exact .nil
 |f::t,ds,m,⟨y,n,e1,h1,h2⟩,e=>by
  subst e1
  simp only[ad0] at e
  split at e
  ·rename_i d l hd hl
   cases e
   exact .cons (aco h1 hd) (acR h2 hl)
  ·cases e
def FX.okc:FX→Bool
 | .d x=>x.okc
 | .bx false pre _ post=>(DV.ag pre).okc&&(DV.ag post).okc
 | .bx true _ _ _=>false
 | .un=>false
 | .no=>false
 |_=>true
def FX.cells:FX→List FX
 | .d (.ag l)=>l.map .d
 | .bx false pre nm post=>pre.map .d++ .rw nm::post.map .d
 |f=>[f]
theorem adu.app{ρ:NE}{G:Gh}: ∀{a b:List FX} {m n:List Value},adu ρ G a m→adu ρ G b n→adu ρ G (a++b) (m++n)
 |[],b,m,n,h,k=>by rw[show m=[] from h];exact k
 |f::t,b,m,n,⟨y,q,e,h1,h2⟩,k=>by subst e;exact⟨y,q++n,rfl,h1,h2.app k⟩
theorem ahB{ρ:NE}{G:Gh}: ∀{l:List DV} {m:List Value},IsLs G l m→adu ρ G (l.map .d) m
 |[],m,h=>aaM.1 h
 |d::t,m,h=>by
  obtain⟨y,n,rfl,h1,h2⟩:=aac.1 h
  exact⟨y,n,rfl,h1,ahB h2⟩
theorem IsX.cells{ρ:NE}{G:Gh}{f:FX}{y:Value}(h:IsX ρ G f y)(k:f.okc=true):adu ρ G f.cells (aaf y)∧ ∀v∈aaf y,Go.Sx.flat v=true:=by
 have one: ∀g:FX,IsX ρ G g y→Go.Sx.flat y=true→adu ρ G [g] (aaf y)∧ ∀v∈aaf y,Go.Sx.flat v=true:=fun g hg hf=>by
  rw[adq hf]
  exact⟨⟨y,[],rfl,hg,rfl⟩,fun v hv=>by rw[aY.1 hv];exact hf⟩
 cases f with
 |d x=>
  cases x with
  |ag l=>
   obtain⟨m,rfl,hm⟩:=acn.1 (show Is G (.ag l) y from h)
   exact⟨ahB hm,hm.flat k⟩
  |_=>exact one _ h (Is.flat (show Is G _ y from h) k)
 |ep l=>obtain⟨b,off,cs,m,rfl,_⟩:=h;exact one (.ep l) ⟨b,off,cs,m,rfl,by assumption⟩ rfl
 |ov nm off=>obtain⟨b,hb,rfl⟩:=h;exact one (.ov nm off) ⟨b,hb,rfl⟩ rfl
 |rw nm=>cases h;exact one (.rw nm) J J
 |be nm s i j=>obtain⟨b,hb,rfl⟩:=h;exact one (.be nm s i j) ⟨b,hb,rfl⟩ rfl
 |rs nm s i j=>obtain⟨b,c,hb,rfl,hc⟩:=h;exact one (.rs nm s i j) ⟨b,c,hb,rfl,hc⟩ rfl
 |ct l=>obtain⟨⟨a,n,rfl⟩,h2⟩:=h;exact one (.ct l) ⟨⟨a,n,rfl⟩,h2⟩ rfl
 |tt=>cases h;exact one .tt J J
 |ff=>cases h;exact one .ff J J
 |pr p i=>cases h;exact one (.pr p i) J J
 |nl=>cases h;exact one .nl J J
 |bx tp pre nm post=>
  cases tp with
  |true=>cases k
  |false=>
   obtain⟨m1,m2,rfl,h1,h2⟩:=h
   simp only[FX.okc,bL] at k
   refine⟨(ahB h1).app ⟨_,m2,rfl,rfl,ahB h2⟩,fun v hv=>?_⟩
   rcases bS.1 (show v∈m1++_::m2 from hv) with hv|hv
   ·exact h1.flat k.1 v hv
   ·rcases aS.1 hv with rfl|hv
    ·rfl
    ·exact h2.flat k.2 v hv
 |un=>cases k
 |no=>cases k
/-! ### blocks of the call's own -/
inductive Bk where
 |o (ty:TypeId) (cs:List FX) (lo:Bool)
 |b (ty:TypeId) (s:Nat) (ds:List DV) (lo:Bool)
 /-- a row with room for cap elements in all -/
 |c (ty:TypeId) (s:Nat) (ds:List DV) (cap:Nat)
def amP(ρ:NE)(G:Gh)(nm:Nat):Bk→List Own→Prop
 | .o ty cs lo,B=> ∃b m,(ρ nm).a=some ⟨b,0,none⟩∧B=[⟨b,m,ty,lo⟩]∧adu ρ G cs m
 | .b ty s ds lo,B=> ∃vs,Buf s ty (ρ nm) vs B∧IsLs G ds vs∧(∀v∈vs,(aaf v).length=s)∧(lo=true→ ∀o∈B,o.lo=true)
 | .c ty s ds cap,B=> ∃vs,Buf s ty (ρ nm) vs B∧IsLs G ds vs∧(∀v∈vs,(aaf v).length=s)∧(∀o∈B,o.lo=true)∧cap≤(ρ nm).c
def Bk.men(n:Nat):Bk→Prop
 | .o _ cs _=> ∃f∈cs,f.nm=some n
 | .b .. =>False
 | .c .. =>False
section
variable {ρ:NE} {G:Gh} {nm:Nat} {B:Bk} {os:List Own}
theorem amP.up{A:Gh}(h:amP ρ A nm B os)(k:GLe A G):amP ρ G nm B os:=by
 cases B with
 |o ty cs lo=>obtain⟨b,m,h1,h2,h3⟩:=h;exact⟨b,m,h1,h2,h3.up k⟩
 |b ty s ds lo=>obtain⟨vs,h1,h2,h3,h4⟩:=h;exact⟨vs,h1,h2.up k,h3,h4⟩
 |c ty s ds cap=>obtain⟨vs,h1,h2,h3,h4⟩:=h;exact⟨vs,h1,h2.up k,h3,h4⟩
theorem amP.ren{ρ':NE}(h:amP ρ G nm B os)(h0:ρ' nm=ρ nm)(k: ∀n,B.men n→ρ' n=ρ n):amP ρ' G nm B os:=by
 cases B with
 |o ty cs lo=>obtain⟨b,m,h1,h2,h3⟩:=h;exact⟨b,m,by rw[h0];exact h1,h2,h3.ren fun f hf n hn=>k n ⟨f,hf,hn⟩⟩
 |b ty s ds lo=>obtain⟨vs,h1,h2,h3,h4⟩:=h;exact⟨vs,by rw[h0];exact h1,h2,h3,h4⟩
 |c ty s ds cap=>obtain⟨vs,h1,h2,h3,h4,h5⟩:=h;exact⟨vs,by rw[h0];exact h1,h2,h3,h4,by rw[h0];exact h5⟩
theorem amP.blk(h:amP ρ G nm B os){o:Own}(ho:o∈os):(ρ nm).a=some ⟨o.b,0,none⟩:=by
 cases B with
 |o ty cs lo=>obtain⟨b,m,h1,rfl,h3⟩:=h;rw[aY.1 ho];exact h1
 |b ty s ds lo=>
  obtain⟨vs,h1,_⟩:=h
  rcases h1 with⟨_,_,rfl⟩|⟨b,rest,lo',e,rfl,_⟩
  ·cases ho
  ·rw[aY.1 ho,e]
 |c ty s ds cap=>
  obtain⟨vs,h1,_⟩:=h
  rcases h1 with⟨_,_,rfl⟩|⟨b,rest,lo',e,rfl,_⟩
  ·cases ho
  ·rw[aY.1 ho,e]
theorem amP.mem_of(h:amP ρ G nm B os){b:Nat}(hb:(ρ nm).a=some ⟨b,0,none⟩): ∃o∈os,o.b=b:=by
 cases B with
 |o ty cs lo=>obtain⟨b',m,h1,rfl,h3⟩:=h;rw[h1] at hb;cases hb;exact⟨_,aZ,rfl⟩
 |b ty s ds lo=>
  obtain⟨vs,h1,_⟩:=h
  rcases h1 with⟨_,e,rfl⟩|⟨b',rest,lo',e,rfl,_⟩
  ·rw[e] at hb;cases hb
  ·rw[e] at hb;cases hb;exact⟨_,aZ,rfl⟩
 |c ty s ds cap=>
  obtain⟨vs,h1,_⟩:=h
  rcases h1 with⟨_,e,rfl⟩|⟨b',rest,lo',e,rfl,_⟩
  ·rw[e] at hb;cases hb
  ·rw[e] at hb;cases hb;exact⟨_,aZ,rfl⟩
end
/-! ### states -/
abbrev LK:=Nat→Option FX
abbrev BM:=Nat→Option Bk
structure RlX (GB:Gh) (C:Ctx) (n:Nat) (lk:LK) (bk:BM) (ρ:NE) (G:Gh) (ov:List Own) (a:Act) (w:World):Prop where
 gb:GLe GB G
 h:ab5 C ov G w
 sz:a.tmps.size=n
 df:a.defers=[]
 fx: ∀k f,lk k=some f→ ∃y,a.tmps[k]? =some y∧IsX ρ G f y
 bx: ∀nm B,bk nm=some B→ ∃os,amP ρ G nm B os∧ ∀o∈os,o∈ov
 dj: ∀nm nm' B B',bk nm=some B→bk nm'=some B'→nm≠nm'→ ∀b,(ρ nm).a=some ⟨b,0,none⟩→(ρ nm').a≠some ⟨b,0,none⟩
structure SX (GB:Gh) (C:Ctx) (n:Nat) (lk:LK) (bk:BM) (Φ:Act→World→Prop):Prop where
 run: ∀ρ G ov a w,RlX GB C n lk bk ρ G ov a w→Φ a w
def akG{α:Type}(f g:Nat→Option α):Prop:= ∀k x,f k=some x→g k=some x
theorem akG.refl{α:Type}(f:Nat→Option α):akG f f:=fun _ _ h=>h
def upL(lk:LK)(d:Option Nat)(f:FX):LK:=match d with
 |some d=>fun k=>if k=d then some f else lk k
 |none=>lk
def upB:BM→List (Nat×Option Bk)→BM
 |tb,[]=>tb
 |tb,(nm,B)::t=>upB (fun k=>if k=nm then B else tb k) t
def acH(nw:List Nat)(dst:Option Nat)(tl:LK)(tb:BM):Prop:=
 ∀nm∈nw,(∀k f,some k≠dst→tl k=some f→f.nm≠some nm)∧ ∀k B,k≠nm→tb k=some B→ ¬B.men nm
section
variable {GB:Gh} {C:Ctx} {n:Nat} {lk tl:LK} {bk tb:BM} {ρ:NE} {G:Gh} {ov:List Own} {a:Act} {w:World} {Φ Ψ:Act→World→Prop}
theorem RlX.mono(h:RlX GB C n tl tb ρ G ov a w)(h1:akG lk tl)(h2:akG bk tb):RlX GB C n lk bk ρ G ov a w:=
 ⟨h.gb,h.h,h.sz,h.df,fun k f e=>h.fx k f (h1 _ _ e),fun k B e=>h.bx k B (h2 _ _ e),fun k k' B B' e e'=>h.dj k k' B B' (h2 _ _ e) (h2 _ _ e')⟩
theorem SX.imp(h:SX GB C n lk bk Φ)(k: ∀a w,Φ a w→Ψ a w):SX GB C n lk bk Ψ:=⟨fun ρ G ov a w r=>k _ _ (h.run ρ G ov a w r)⟩
structure azJ (n:Nat) (a:Act) (dst:Option Nat) (y:Value) (a':Act):Prop where
 sz:a'.tmps.size=n
 df:a'.defers=[]
 old: ∀k v,a.tmps[k]? =some v→dst≠some k→a'.tmps[k]? =some v
 new: ∀d,dst=some d→a'.tmps[d]? =some y
theorem azJ.fx{a a':Act}{dst:Option Nat}{y:Value}{ρ':NE}{G':Gh}{f:FX}(p:azJ n a dst y a')(h: ∀k g,some k≠dst→lk k=some g→ ∃u,a.tmps[k]? =some u∧IsX ρ' G' g u)(hy:IsX ρ' G' f y)(k:Nat)(g:FX)(e:upL lk dst f k=some g):
  ∃u,a'.tmps[k]? =some u∧IsX ρ' G' g u:=by
 by_cases hk:some k=dst
 ·subst hk
  simp only[upL,if_true] at e;cases e
  exact⟨y,p.new _ rfl,hy⟩
 ·have e':lk k=some g:=by
   cases dst with
   |none=>exact e
   |some d=>simpa[upL,show k≠d from fun c=>hk (c▸rfl)] using e
  obtain⟨u,h1,h2⟩:=h k g hk e'
  exact⟨u,p.old _ _ h1 (Ne.symm hk),h2⟩
theorem RlX.putA(r:RlX GB C n lk bk ρ G ov a w){dst:Option Nat}(y:Value)(hd:aaO n dst=true):azJ n a dst y (a.put dst y):=by
 refine⟨by rw[apY];exact r.sz,by rw[akf];exact r.df,fun k v h hk=>?_,fun d hk=>?_⟩
 ·cases dst with
  |none=>exact h
  |some d=>simp only[Act.put,gM];rw[if_neg (fun e=>hk (by rw[e]))];exact h
 ·subst hk
  have hdn:d<a.tmps.size:=by rw[r.sz];simpa[aaO,oK] using hd
  simp[Act.put,gM,hdn]
theorem RlX.put(r:RlX GB C n lk bk ρ G ov a w){dst:Option Nat}{f:FX}{y:Value}{a':Act}(hy:IsX ρ G f y)(hp:azJ n a dst y a'):RlX GB C n (upL lk dst f) bk ρ G ov a' w:=
 ⟨r.gb,r.h,hp.sz,hp.df,hp.fx (fun k g _ e=>r.fx k g e) hy,r.bx,r.dj⟩
def frA(a:Act):Fr:=ajj 0 a.tmps.toList
theorem aaP(a:Act):aof (frA a) a:=fun k v h=>by
 obtain⟨j,e,h2⟩:=ad9 _ _ _ _ h
 rw[eY] at e;subst e
 simpa using h2
theorem acr: ∀(vs:List Value) (i j:Nat) (v:Value),vs[j]? =some v→ahP (ajj i vs) (i+j)=some v
 |[],i,j,v,h=>by simp at h
 |x::t,i,0,v,h=>by simp at h;subst h;simp[ajj,ahP]
 |x::t,i,j+1,v,h=>by
  simp at h
  have:=acr t (i+1) j v h
  rw[show i+(j+1)=i+1+j by omega]
  simp only[ajj,ac0]
  rw[if_neg (by omega)]
  exact this
theorem abk{dst:Option Nat}{y:Value}{ov':List Own}{G':Gh}{a':Act}{w':World}(h:Rel C n (Sx.put (frA a) dst y) ov' G' a' w'):azJ n a dst y a':=by
 refine⟨h.sz,h.df,fun k v hk hd=>?_,fun d hd=>?_⟩
 ·have:=acr a.tmps.toList 0 k v (by simpa using hk)
  rw[eY] at this
  cases dst with
  |none=>exact h.fr k v this
  |some d=>exact h.fr k v (by simp only[Sx.put,ac0];rw[if_neg (fun e=>hd (by rw[e]))];exact this)
 ·subst hd;exact h.fr d y (by simp[Sx.put,ac0])
theorem ah5{k:Nat}{v:Value}(h:a.tmps[k]? =some v):ahP (frA a) k=some v:=by
 have:=acr a.tmps.toList 0 k v (by simpa using h)
 simpa[frA] using this
def evX(lk:LK):Operand→Option FX
 | .tmp k=>lk k
 | .const (.bool true)=>some .tt
 | .const (.bool false)=>some .ff
 | .const (.slice none 0 0)=>some .nl
 | .const v=>some (.d (.v v))
 | .global g=>some (.d (.v (.pointer (some ⟨g,0,none⟩))))
 | .func f=>some (.d (.v (.func (.func f) #[] #[])))
theorem RlX.ev(r:RlX GB C n lk bk ρ G ov a w){x:Operand}{f:FX}(e:evX lk x=some f): ∃y,opv (frA a) x=some y∧IsX ρ G f y:=by
 cases x with
 |tmp k=>obtain⟨y,h1,h2⟩:=r.fx k f e;exact⟨y,ah5 h1,h2⟩
 |const v=>
  refine⟨v,rfl,?_⟩
  unfold evX at e
  split at e
  all_goals simp only[Operand.const.injEq,reduceCtorEq] at*
  all_goals (cases e;subst_vars;first|exact rfl|exact(aa2 (G:=G)).2 rfl)
 |global g=>cases e;exact⟨_,rfl,(aa2 (G:=G)).2 rfl⟩
 |func g=>cases e;exact⟨_,rfl,(aa2 (G:=G)).2 rfl⟩
def evD(lk:LK)(x:Operand):Option DV:=match evX lk x with
 |some f=>aj8 f
 |none=>none
theorem RlX.evD(r:RlX GB C n lk bk ρ G ov a w){x:Operand}{d:DV}(e:Sx.evD lk x=some d): ∃y,opv (frA a) x=some y∧Is G d y:=by
 unfold Sx.evD at e
 split at e
 ·rename_i f hf
  obtain⟨y,h1,h2⟩:=r.ev hf
  exact⟨y,h1,aco h2 e⟩
 ·cases e
def evDs(lk:LK):List Operand→Option (List DV)
 |[]=>some []
 |x::t=>match evD lk x,evDs lk t with
  |some d,some l=>some (d::l)
  |_,_=>none
theorem RlX.evDs(r:RlX GB C n lk bk ρ G ov a w): ∀{x:List Operand} {l:List DV},Sx.evDs lk x=some l→ ∃y,af2 (frA a) x=some y∧IsLs G l y
 |[],l,e=>by cases e;exact⟨[],rfl, .nil⟩
 |x::t,l,e=>by
  simp only[Sx.evDs] at e
  split at e
  ·rename_i d l' hd hl'
   cases e
   obtain⟨y,h1,h2⟩:=r.evD hd
   obtain⟨ys,h3,h4⟩:=r.evDs hl'
   exact⟨y::ys,by simp only[af2,h1,h3], .cons h2 h4⟩
  ·cases e
theorem RlX.upB(r:RlX GB C n lk bk ρ G ov a w){nm:Nat}{B':Bk}{os:List Own}{ov':List Own}{G':Gh}{w':World}(hg:GLe G G')(hh:ab5 C ov' G' w')(hB:amP ρ G' nm B' os)(hos: ∀o∈os,o∈ov')
  (hk: ∀o∈ov,(ρ nm).a≠some ⟨o.b,0,none⟩→o∈ov')(hn: ∃B,bk nm=some B):RlX GB C n lk (upB bk [(nm,some B')]) ρ G' ov' a w':=by
 obtain⟨B0,hB0⟩:=hn
 refine⟨r.gb.trans hg,hh,r.sz,r.df,fun k f e=>?_,fun m B e=>?_,fun m m' B B2 e e' hne=>?_⟩
 ·obtain⟨y,h1,h2⟩:=r.fx k f e;exact⟨y,h1,h2.up hg⟩
 ·simp only[Sx.upB] at e
  by_cases hm:m=nm
  ·subst hm;simp only[if_true] at e;cases e;exact⟨os,hB,hos⟩
  ·simp only[hm,if_false] at e
   obtain⟨os',h1,h2⟩:=r.bx m B e
   refine⟨os',h1.up hg,fun o ho=>hk o (h2 o ho) fun hc=>?_⟩
   exact r.dj m nm B B0 e hB0 hm _ (h1.blk ho) hc
 ·simp only[Sx.upB] at e e'
  by_cases hm:m=nm<;>by_cases hm':m'=nm
  ·exact absurd (hm.trans hm'.symm) hne
  ·subst hm;simp only[hm',if_false] at e';exact r.dj m m' B0 B2 hB0 e' hne
  ·subst hm';simp only[hm,if_false] at e;exact r.dj m m' B B0 e hB0 hne
  ·simp only[hm,hm',if_false] at e e';exact r.dj m m' B B2 e e' hne
theorem RlX.dropB(r:RlX GB C n lk bk ρ G ov a w)(nm:Nat):RlX GB C n lk (Sx.upB bk [(nm,none)]) ρ G ov a w:=
 r.mono (akG.refl _) fun k B e=>by
  simp only[Sx.upB] at e
  split at e
  ·cases e
  ·exact e
theorem neN{m nm:Nat}(x:SV)(h:m≠nm):(fun k=>if k=nm then x else ρ k) m=ρ m:=if_neg h
theorem RlX.new'(r:RlX GB C n tl tb ρ G ov a w){nm:Nat}{dst:Option Nat}{x:SV}{B':Bk}{os:List Own}{ov':List Own}{G':Gh}{w':World}{f:FX}{y:Value}(hf:acH [nm] dst tl tb)(hg:GLe G G')(hh:ab5 C ov' G' w')
  (hB:amP (fun k=>if k=nm then x else ρ k) G' nm B' os)(hos: ∀o∈os,o∈ov')(hov: ∀m B,m≠nm→tb m=some B→ ∀o∈ov,(ρ m).a=some ⟨o.b,0,none⟩→o∈ov'∧x.a≠some ⟨o.b,0,none⟩)
  (hy:IsX (fun k=>if k=nm then x else ρ k) G' f y){a':Act}(hp:azJ n a dst y a'):RlX GB C n (upL tl dst f) (Sx.upB tb [(nm,some B')]) (fun k=>if k=nm then x else ρ k) G' ov' a' w':=by
 obtain⟨f1,f2⟩:=hf nm aZ
 refine⟨r.gb.trans hg,hh,hp.sz,hp.df,hp.fx (fun k g hk e=>?_) hy,fun m B e=>?_,fun m m' B B2 e e' hne=>?_⟩
 ·obtain⟨u,h1,h2⟩:=r.fx k g e
  exact⟨u,h1,(h2.up hg).ren fun m hm=>neN x fun hc=>f1 k g hk e (by rw[hm,hc])⟩
 ·simp only[Sx.upB] at e
  by_cases hm:m=nm
  ·subst hm;simp only[if_true] at e;cases e;exact⟨os,hB,hos⟩
  ·simp only[hm,if_false] at e
   obtain⟨os',h1,h2⟩:=r.bx m B e
   exact⟨os',(h1.up hg).ren (if_neg hm) fun q hq=>neN x fun hc=>f2 m B hm e (by rw[←hc];exact hq),fun o ho=>(hov m B hm e o (h2 o ho) (h1.blk ho)).1⟩
 ·simp only[Sx.upB] at e e'
  by_cases hm:m=nm<;>by_cases hm':m'=nm
  ·exact absurd (hm.trans hm'.symm) hne
  ·subst hm;simp only[hm',if_false] at e'
   intro b hb hb'
   simp only[if_true] at hb
   rw[if_neg hm'] at hb'
   obtain⟨os',h1,h2⟩:=r.bx m' B2 e'
   obtain⟨o,ho,rfl⟩:=h1.mem_of hb'
   exact(hov m' B2 hm' e' o (h2 o ho) hb').2 hb
  ·subst hm';simp only[hm,if_false] at e
   intro b hb hb'
   simp only[if_true] at hb'
   rw[if_neg hm] at hb
   obtain⟨os',h1,h2⟩:=r.bx m B e
   obtain⟨o,ho,rfl⟩:=h1.mem_of hb
   exact(hov m B hm e o (h2 o ho) hb).2 hb'
  ·simp only[hm,hm',if_false] at e e'
   intro b hb hb'
   rw[if_neg hm] at hb;rw[if_neg hm'] at hb'
   exact r.dj m m' B B2 e e' hne b hb hb'
theorem RlX.new(r:RlX GB C n tl tb ρ G ov a w){nm:Nat}{dst:Option Nat}{x:SV}{B':Bk}{os:List Own}{ov':List Own}{G':Gh}{w':World}{f:FX}{y:Value}(hf:acH [nm] dst tl tb)(hg:GLe G G')(hh:ab5 C ov' G' w')
  (hB:amP (fun k=>if k=nm then x else ρ k) G' nm B' os)(hos: ∀o∈os,o∈ov')(hov: ∀o∈ov,o∈ov')(hnew: ∀o∈ov,x.a≠some ⟨o.b,0,none⟩)
  (hy:IsX (fun k=>if k=nm then x else ρ k) G' f y){a':Act}(hp:azJ n a dst y a'):RlX GB C n (upL tl dst f) (Sx.upB tb [(nm,some B')]) (fun k=>if k=nm then x else ρ k) G' ov' a' w':=
 r.new' hf hg hh hB hos (fun _ _ _ _ o ho _=>⟨hov o ho,hnew o ho⟩) hy hp
end
def OpR(P:Program)(GB:Gh)(C:Ctx)(n:Nat)(lk:LK)(bk:BM)(o:Oper)(f:FX)(bl:List (Nat×Option Bk))(nw:List Nat):Prop:=
 aaO n o.dst=true→ ∀(tl:LK) (tb:BM) (K:Act→World→Prop),akG lk tl→akG bk tb→acH nw o.dst tl tb→SX GB C n (upL tl o.dst f) (upB tb bl) K→SX GB C n tl tb (fun a w=> ∀Q,o.wp P a w K Q)
section
variable {P:Program} {GB:Gh} {C:Ctx} {n:Nat} {lk:LK} {bk:BM} {f:FX}
theorem OpR.yd{o:Oper}(h: ∀ρ G ov a w,RlX GB C n lk bk ρ G ov a w→ ∃y,IsX ρ G f y∧Yd P C (frA a) ov G o y):OpR P GB C n lk bk o f [] []:=by
 intro hd tl tb K h1 h2 _ hk
 refine⟨fun ρ G ov a w r Q=>?_⟩
 obtain⟨y,hy,hY⟩:=h ρ G ov a w (r.mono h1 h2)
 exact abu (hY a w (aaP a) r.h) (hk.run ρ G ov _ w (r.put hy (r.putA y hd)))
end
/-! ### the program's types, in short -/
inductive TK where
 |st (fo:List (Nat×Nat×Nat))
 |sl (e s b:Nat)
 |int (k:IntKind)
 |bl
 |pt
 |fc
 |sc
 |o
structure TI where
 k:TK
 sz:Nat
 z:Option (List FX)
 za:Bool
def aDZ:Option Value→Bool
 |some (.agg _)=>true
 |_=>false
def azx:Value→FX
 | .slice none 0 0=> .nl
 | .bool true=> .tt
 | .bool false=> .ff
 |v=> .d (.v v)
def ayq(P:Program):List Field→Option (List (Nat×Nat×Nat))
 |[]=>some []
 |f::t=>match P.info? f.type,ayq P t with
  |some i,some l=>some ((f.offset,f.type,i.size)::l)
  |_,_=>none
def alT(P:Program)(t:TypeId):TK:=match P.underlying t with
 |some (.struct fs)=>match ayq P fs.toList with
  |some l=> .st l
  |none=> .o
 |some (.slice e)=>match P.info? e with
  |some i=> .sl e i.size i.bytes
  |none=> .o
 |some (.int k)=> .int k
 |some .bool=> .bl
 |some (.pointer _)=> .pt
 |some (.interface _)=> .fc
 |some (.array ..)=> .o
 |some .string=> .sc
 |_=> .o
def aft(P:Program)(t:TypeId):Option TI:=match P.info? t with
 |some i=>some ⟨alT P t,i.size,i.zero.map fun v=>(aaf v).map azx,aDZ i.zero⟩
 |none=>none
abbrev TT:=List (Nat×TI)
def abD:TT→Nat→Option TI
 |[],_=>none
 |(k,v)::t,j=>bif Nat.beq k j then some v else abD t j
def TOK(P:Program)(T:TT):Prop:= ∀t i,abD T t=some i→aft P t=some i
theorem TOK.of{P:Program}: ∀{T:TT},T.map (fun e=>some e.2)=T.map (fun e=>aft P e.1)→TOK P T
 |[],_,t,i,h=>by cases h
 |(k,v)::T,e,t,i,h=>by
  simp only[cZ,List.cons.injEq] at e
  simp only[abD] at h
  cases hb:Nat.beq k t with
  |true=>rw[hb] at h;cases h;rw[←aT hb];exact e.1.symm
  |false=>rw[hb] at h;exact TOK.of e.2 t i h
theorem aBr(ρ:NE)(G:Gh)(v:Value):IsX ρ G (azx v) v:=by
 unfold azx
 split
 ·exact rfl
 ·exact rfl
 ·exact rfl
 ·exact(aa2 (G:=G)).2 rfl
theorem atf(ρ:NE)(G:Gh): ∀m:List Value,adu ρ G (m.map azx) m
 |[]=>rfl
 |v::m=>⟨v,m,rfl,aBr ρ G v,atf ρ G m⟩
section
variable {P:Program} {t:TypeId} {i:TI}
theorem adz(h:aft P t=some i): ∃j,P.info? t=some j∧i=⟨alT P t,j.size,j.zero.map fun v=>(aaf v).map azx,aDZ j.zero⟩:=by
 unfold aft at h
 split at h
 ·rename_i j hj;cases h;exact⟨j,hj,rfl⟩
 ·cases h
theorem adT{d:TypeDesc}(h:P.underlying t=some d)(w:World):(underlying t).run P w= .ok d w:=by
 show(program>>=_).run P w=_
 rw[aaa (w':=w) (a:=P) rfl,h];rfl
theorem avL{j:TypeInfo}(h:P.info? t=some j)(w:World):(typeInfo t).run P w= .ok j w:=by
 show(program>>=_).run P w=_
 rw[aaa (w':=w) (a:=P) rfl,h];rfl
theorem agN{j:TypeInfo}(h:P.info? t=some j)(w:World):(sizeOf t).run P w= .ok j.size w:=by
 show(typeInfo t>>=_).run P w=_
 rw[aaa (avL h w)];rfl
theorem anL{d:TypeDesc}(h:P.underlying t=some d)(w:World):(isAgg t).run P w= .ok (match d with| .struct _| .array _ _=>true|_=>false) w:=by
 show(underlying t>>=_).run P w=_
 rw[aaa (adT h w)]
 cases d<;>rfl
def TI.ag(i:TI):Option (Option Nat):=match i.k with
 | .st _=>some (some i.sz)
 | .o=>none
 |_=>bif Nat.beq i.sz 1 then some none else none
theorem akb{k:Nat}(h:aft P t=some i)(hk:i.ag=some (some k)):TyA P t k:=by
 obtain⟨j,h1,rfl⟩:=adz h
 unfold TI.ag at hk
 cases e:alT P t with
 |st fo=>
  simp only[e] at hk;cases hk
  unfold alT at e
  split at e<;>first|(cases e;done)|skip
  ·rename_i fs hu;exact⟨fun w=>anL hu w,fun w=>agN h1 w⟩
  ·split at e<;>cases e
 |o=>simp only[e] at hk;cases hk
 |_=>simp only[e,cond_eq_ite] at hk;split at hk<;>cases hk
theorem aiQ(h:aft P t=some i)(hk:i.ag=some none):TyS P t:=by
 obtain⟨j,h1,rfl⟩:=adz h
 unfold TI.ag at hk
 have key:j.size=1→(∀w,(isAgg t).run P w= .ok false w)→TyS P t:=fun e1 e2=>⟨e2,fun w=>by rw[agN h1 w,e1]⟩
 cases e:alT P t with
 |st fo=>simp only[e] at hk;cases hk
 |o=>simp only[e] at hk;cases hk
 |_=>
  simp only[e,cond_eq_ite] at hk
  split at hk
  ·rename_i hb
   refine key (aT hb) fun w=>?_
   unfold alT at e
   split at e<;>first|(cases e;done)|skip
   all_goals first
    |(rename_i hu;rw[anL hu w];done)
    |(split at e<;>first|(cases e;done)|(rename_i hu _ _ _;rw[anL hu w];done))
  ·cases hk
theorem akI{z:List FX}(h:aft P t=some i)(hz:i.z=some z): ∃v,TyZ P t v∧ ∀ρ G,adu ρ G z (aaf v):=by
 obtain⟨j,h1,rfl⟩:=adz h
 cases hv:j.zero with
 |none=>simp only[hv] at hz;cases hz
 |some v=>
  simp only[hv] at hz;cases hz
  exact⟨v,⟨by rw[h1];simp[hv]⟩,fun ρ G=>atf ρ G _⟩
theorem als: ∀{fs:List Field} {l:List (Nat×Nat×Nat)} {k off ft s:Nat},ayq P fs=some l→l[k]? =some (off,ft,s)→ ∃f,fs[k]? =some f∧f.offset=off∧f.type=ft∧ ∃j,P.info? ft=some j∧j.size=s
 |[],l,k,off,ft,s,h,e=>by cases h;simp at e
 |f::fs,l,k,off,ft,s,h,e=>by
  simp only[ayq] at h
  split at h
  ·rename_i j l' hj hl
   cases h
   cases k with
   |zero=>simp at e;obtain⟨rfl,rfl,rfl⟩:=e;exact⟨f,rfl,rfl,rfl,j,hj,rfl⟩
   |succ k=>simp at e;obtain⟨g,h1,h2⟩:=als hl e;exact⟨g,by simpa using h1,h2⟩
  ·cases h
theorem ap7: ∀{fs:List Field} {l:List (Nat×Nat×Nat)},ayq P fs=some l→ ∀w,(fs.mapM (m:=Sem) fun f=>do pure (f.offset,←sizeOf f.type)).run P w= .ok (l.map fun x=>(x.1,x.2.2)) w
 |[],l,h,w=>by cases h;rfl
 |f::fs,l,h,w=>by
  simp only[ayq] at h
  split at h
  ·rename_i j l' hj hl
   cases h
   rw[rT]
   have h1:(do pure (f.offset,←sizeOf f.type):Sem (Nat×Nat)).run P w= .ok (f.offset,j.size) w:=by
    rw[aaa (agN hj w)];rfl
   rw[aaa h1,aaa (ap7 hl w)];rfl
  ·cases h
theorem azg{fo:List (Nat×Nat×Nat)}(h:aft P t=some i)(hk:i.k= .st fo): ∃fs,P.underlying t=some (.struct fs)∧ayq P fs.toList=some fo:=by
 obtain⟨j,h1,rfl⟩:=adz h
 have e:alT P t= .st fo:=hk
 unfold alT at e
 split at e<;>first|(cases e;done)|skip
 ·rename_i fs hu
  split at e
  ·rename_i l hl;cases e;exact⟨fs,hu,hl⟩
  ·cases e
 ·split at e<;>cases e
theorem aEM{fo:List (Nat×Nat×Nat)}{f off ft s:Nat}(h:aft P t=some i)(hk:i.k= .st fo)(hf:fo[f]? =some (off,ft,s)):aDT P t f off ft:=by
 obtain⟨fs,hu,hl⟩:=azg h hk
 obtain⟨g,h1,h2,h3,_⟩:=als hl hf
 exact⟨fs,g,fun w=>adT hu w,by simpa using h1,h2,h3⟩
theorem aDI{fo:List (Nat×Nat×Nat)}{f off ft s:Nat}(h:aft P t=some i)(hk:i.k= .st fo)(hf:fo[f]? =some (off,ft,s+1)):TyF P t f off:=by
 obtain⟨fs,hu,hl⟩:=azg h hk
 obtain⟨g,h2,h3,h4,j,h5,h6⟩:=als hl hf
 refine⟨fun b o w=>?_⟩
 unfold Instr.fieldAt
 rw[aaa (adT hu w)]
 have h2':fs[f]? =some g:=by simpa using h2
 simp only[h2']
 have:(fieldPlace ⟨b,o,none⟩ g).run P w= .ok (Addr.add ⟨b,o,none⟩ off) w:=by
  unfold fieldPlace
  rw[h4,aaa (agN h5 w),h6,h3];rfl
 show(fieldPlace ⟨b,o,none⟩ g>>=_).run P w=_
 rw[aaa this];rfl
theorem axt{fo:List (Nat×Nat×Nat)}(h:aft P t=some i)(hk:i.k= .st fo):aDW P t (fo.map fun x=>(x.1,x.2.2)):=by
 obtain⟨fs,hu,hl⟩:=azg h hk
 refine⟨fs,fun w=>adT hu w,fun w=>?_⟩
 rw[Array.mapM_eq_mapM_toList,map_eq_pure_bind,aaa (ap7 hl w)]
 rfl
theorem afD{e s b:Nat}(h:aft P t=some i)(hk:i.k= .sl e s b):acN P t e s b:=by
 obtain⟨j,h1,rfl⟩:=adz h
 have e':alT P t= .sl e s b:=hk
 unfold alT at e'
 split at e'<;>first|(cases e';done)|skip
 ·split at e'<;>cases e'
 ·rename_i el hu
  split at e'
  ·rename_i q hq;cases e';exact⟨hu,by rw[hq];rfl⟩
  ·cases e'
theorem ake{k:IntKind}(h:aft P t=some i)(hk:i.k= .int k):TyI P t k:=by
 obtain⟨j,h1,rfl⟩:=adz h
 have e:alT P t= .int k:=hk
 unfold alT at e
 split at e<;>first|(cases e;done)|(split at e<;>cases e;done)|skip
 rename_i k' hu;cases e;exact⟨fun w=>adT hu w⟩
theorem aD7(h:aft P t=some i)(hk:i.k= .bl):TyB P t:=by
 obtain⟨j,h1,rfl⟩:=adz h
 have e:alT P t= .bl:=hk
 unfold alT at e
 split at e<;>first|(cases e;done)|(split at e<;>cases e;done)|skip
 rename_i hu;exact⟨fun w=>adT hu w⟩
theorem aBA(h:aft P t=some i)(hk:i.k= .pt):TyP P t:=by
 obtain⟨j,h1,rfl⟩:=adz h
 have e:alT P t= .pt:=hk
 unfold alT at e
 split at e<;>first|(cases e;done)|(split at e<;>cases e;done)|skip
 rename_i el hu;exact⟨el,fun w=>adT hu w⟩
theorem aEd(h:aft P t=some i)(hk:i.k= .fc):aEz P t:=by
 obtain⟨j,h1,rfl⟩:=adz h
 have e:alT P t= .fc:=hk
 unfold alT at e
 split at e<;>first|(cases e;done)|(split at e<;>cases e;done)|skip
 rename_i el hu;exact⟨el,fun w=>adT hu w⟩
end
def fcL{α β:Type}:List α→(List α→β)→β
 |[],k=>k []
 |x::t,k=>fcL t fun t'=>k (x::t')
theorem age{α β:Type}: ∀(l:List α) (k:List α→β),fcL l k=k l
 |[],_=>rfl
 |x::t,k=>by rw[fcL,age t]
def takeX:List FX→Nat→Nat→Option (List FX)
 |_,0,0=>some []
 |[],0,_+1=>none
 |v::t,0,k+1=>match takeX t 0 k with|some l=>some (v::l)|none=>none
 |[],_+1,_=>none
 |_::t,off+1,k=>takeX t off k
def ovX:List FX→Nat→List FX→List FX
 |[],_,_=>[]
 |c::t,0,vs=>match vs with
  |[]=>c::t
  |v::vs=>v::ovX t 0 vs
 |c::t,off+1,vs=>c::ovX t off vs
theorem ar6: ∀(n:List Value) (off:Nat),ovw [] off n=[]
 |[],_=>rfl
 |_::n,off=>ar6 n (off+1)
theorem alm: ∀(n:List Value) (y:Value) (m:List Value) (off:Nat),ovw (y::m) (off+1) n=y::ovw m off n
 |[],_,_,_=>rfl
 |v::n,y,m,off=>alm n y (m.set off v) (off+1)
section
variable {ρ:NE} {G:Gh}
theorem adu.takeX: ∀{ds:List FX} {m:List Value} {off k:Nat} {l:List FX},adu ρ G ds m→takeX ds off k=some l→ ∃n,aaX m off k=some n∧adu ρ G l n
 |[],m,0,0,l,h,e=>by cases e;rw[show m=[] from h];exact⟨[],rfl,rfl⟩
 |d::t,m,0,0,l,⟨y,n,e1,h1,h2⟩,e=>by subst e1;cases e;exact⟨[],rfl,rfl⟩
 |[],m,0,k+1,l,h,e=>by simp[Sx.takeX] at e
 |d::t,m,0,k+1,l,⟨y,n,e1,h1,h2⟩,e=>by
  subst e1
  simp only[Sx.takeX] at e
  split at e
  ·rename_i l' hl'
   cases e
   obtain⟨q,hq,hl⟩:=h2.takeX hl'
   exact⟨y::q,by simp only[aaX,hq],y,q,rfl,h1,hl⟩
  ·cases e
 |[],m,off+1,k,l,h,e=>by simp[Sx.takeX] at e
 |d::t,m,off+1,k,l,⟨y,n,e1,h1,h2⟩,e=>by subst e1;exact h2.takeX (off:=off) (k:=k) e
theorem adu.ov: ∀{ds:List FX} {m:List Value} {off:Nat} {vs:List FX} {n:List Value},adu ρ G ds m→adu ρ G vs n→adu ρ G (ovX ds off vs) (ovw m off n)
 |[],m,off,vs,n,h,k=>by rw[show m=[] from h,ar6];rfl
 |d::t,m,0,[],n,h,k=>by rw[show n=[] from k];exact h
 |d::t,m,0,v::vs,n,⟨y,m',e,h1,h2⟩,⟨u,n',e',k1,k2⟩=>by
  subst e e'
  show adu ρ G (v::ovX t 0 vs) (ovw (u::m') 1 n')
  rw[alm]
  exact⟨u,_,rfl,k1,h2.ov k2⟩
 |d::t,m,off+1,vs,n,⟨y,m',e,h1,h2⟩,k=>by
  subst e
  rw[alm]
  exact⟨y,_,rfl,h1,h2.ov k⟩
def awM:List FX→Option (List DV×Nat×List DV)
 |[]=>none
 |f::t=>match f with
  | .rw nm=>match ad0 t with
   |some post=>some ([],nm,post)
   |none=>none
  |f=>match aj8 f,awM t with
   |some d,some (pre,nm,post)=>some (d::pre,nm,post)
   |_,_=>none
theorem ao1: ∀{l:List FX} {m:List Value} {pre:List DV} {nm:Nat} {post:List DV},adu ρ G l m→awM l=some (pre,nm,post)→ ∃m1 m2,m=m1++Value.slice (ρ nm).a (ρ nm).n (ρ nm).c::m2∧IsLs G pre m1∧IsLs G post m2
 |[],m,pre,nm,post,h,e=>by cases e
 |f::t,m,pre,nm,post,⟨y,n,e1,h1,h2⟩,e=>by
  subst e1
  simp only[awM] at e
  split at e
  ·split at e<;>cases e
   rename_i hp
   cases (show y=_ from h1)
   exact⟨[],n,rfl, .nil,acR h2 hp⟩
  ·split at e<;>cases e
   rename_i hd hu
   obtain⟨m1,m2,rfl,k1,k2⟩:=ao1 h2 hu
   exact⟨y::m1,m2,rfl, .cons (aco h1 hd) k1,k2⟩
def agX(l:List FX):Option FX:=match ad0 l with
 |some ds=>some (.d (.ag ds))
 |none=>match awM l with
  |some (pre,nm,post)=>some (.bx false pre nm post)
  |none=>none
theorem ax3{l:List FX}{n:List Value}{f:FX}(h:adu ρ G l n)(e:agX l=some f):IsX ρ G f (.agg ⟨n⟩):=by
 unfold agX at e
 split at e
 ·rename_i hd;cases e;exact acn.2 ⟨n,rfl,acR h hd⟩
 ·split at e<;>cases e
  rename_i hu
  obtain⟨m1,m2,rfl,k1,k2⟩:=ao1 h hu
  exact⟨m1,m2,rfl,k1,k2⟩
def exB:Nat→List DV→Nat→List DV→Option FX
 |0,[],nm,_=>some (.rw nm)
 |i+1,[],_,post=>match post[i]? with
  |some d=>some (.d d)
  |none=>none
 |0,d::_,_,_=>some (.d d)
 |i+1,_::t,nm,post=>exB i t nm post
theorem axX: ∀{i:Nat} {pre:List DV} {nm:Nat} {post:List DV} {f:FX} {m1 m2:List Value},exB i pre nm post=some f→IsLs G pre m1→IsLs G post m2→ ∃y,(m1++Value.slice (ρ nm).a (ρ nm).n (ρ nm).c::m2)[i]? =some y∧IsX ρ G f y
 |0,[],nm,post,f,m1,m2,e,h1,h2=>by cases e;rw[aaM.1 h1];exact⟨_,rfl,rfl⟩
 |i+1,[],nm,post,f,m1,m2,e,h1,h2=>by
  rw[aaM.1 h1]
  simp only[exB] at e
  split at e<;>cases e
  rename_i hp
  obtain⟨l',h3,h4⟩:=h2.get hp
  exact⟨l',by simpa using h3,h4⟩
 |0,d::t,nm,post,f,m1,m2,e,h1,h2=>by
  cases e
  obtain⟨y,n,rfl,k1,k2⟩:=aac.1 h1
  exact⟨y,rfl,k1⟩
 |i+1,d::t,nm,post,f,m1,m2,e,h1,h2=>by
  obtain⟨y,n,rfl,k1,k2⟩:=aac.1 h1
  obtain⟨u,h3,h4⟩:=axX (i:=i) e k2 h2
  exact⟨u,by simpa using h3,h4⟩
end
structure CR where
 vc:Option Prop
 f:FX
 bl:List (Nat×Option Bk)
 nw:List Nat
def kq:IntKind→IntKind→Bool
 | .i64, .i64=>true
 | .u64, .u64=>true
 | .u32, .u32=>true
 | .u8, .u8=>true
 | .i32, .i32=>true
 |_,_=>false
theorem awc{k j:IntKind}(h:kq k j=true):j=k:=by cases k<;>cases j<;>first|rfl|(simp[kq] at h)
def rng{α:Type}(k:IntKind)(x:Int)(K:Prop→Option α):Option α:=match k with
 | .i64=>K (-9223372036854775808≤x∧x≤9223372036854775807)
 | .u64=>K (0≤x∧x≤18446744073709551615)
 | .u32=>K (0≤x∧x≤4294967295)
 | .u8=>K (0≤x∧x≤255)
 | .i32=>K (-2147483648≤x∧x≤2147483647)
 |_=>none
theorem aB5{α:Type}{k:IntKind}{x:Int}{K:Prop→Option α}{r:α}(h:rng k x K=some r): ∃p,K p=some r∧(p→k.min≤x∧x≤k.max):=by
 cases k<;>first|(simp[rng] at h;done)|exact⟨_,h,id⟩
def vcI(k:IntKind)(x:Int):Option (Option Prop×FX):=rng k x fun p=>some (some p, .d (.v (.int k x)))
def arX(op:BinOp)(k:IntKind)(p q:Int):Option (Option Prop×FX):=match op with
 | .add=>vcI k (p+q)
 | .sub=>vcI k (p-q)
 | .mul=>vcI k (p*q)
 | .quo=>match k with
  | .u64=>some (some (0≤p∧p≤18446744073709551615∧0<q), .d (.v (.int .u64 (p/q))))
  |k=>some (some (q≠0), .d (.v (.int k (k.wrap (p.tdiv q)))))
 | .rem=>match k with
  | .u64=>some (some (0≤p∧q≠0), .d (.v (.int .u64 (p%q))))
  | .u32=>some (some (0≤p∧q≠0), .d (.v (.int .u32 (p%q))))
  |k=>some (some (q≠0), .d (.v (.int k (p.tmod q))))
 | .shr=>some (some (0≤q), .d (.v (.int k (p.fdiv (2^min q.toNat k.bits)))))
 | .shl=>some (some (0≤q), .d (.v (.int k (k.wrap (p*2^min q.toNat k.bits)))))
 | .or=>match k with
  | .u64=>some (none, .d (.v (.int .u64 ((BitVec.ofInt 64 p ||| BitVec.ofInt 64 q).toNat:Nat))))
  | .u32=>some (none, .d (.v (.int .u32 ((BitVec.ofInt 32 p ||| BitVec.ofInt 32 q).toNat:Nat))))
  |_=>none
 | .and=>match k with
  | .u64=>some (none, .d (.v (.int .u64 ((BitVec.ofInt 64 p &&& BitVec.ofInt 64 q).toNat:Nat))))
  | .u32=>some (none, .d (.v (.int .u32 ((BitVec.ofInt 32 p &&& BitVec.ofInt 32 q).toNat:Nat))))
  |_=>none
 | .lss=>some (none, .pr (p<q) inferInstance)
 | .leq=>some (none, .pr (p≤q) inferInstance)
 | .gtr=>some (none, .pr (q<p) inferInstance)
 | .geq=>some (none, .pr (q≤p) inferInstance)
 | .eql=>some (none, .pr (p=q) inferInstance)
 | .neq=>some (none, .pr (p≠q) inferInstance)
 |_=>none
def toB:FX→Option Bool
 | .tt=>some true
 | .ff=>some false
 | .pr p h=>some (@decide p h)
 | .d (.v (.bool b))=>some b
 |_=>none
theorem ajh{ρ:NE}{G:Gh}{f:FX}{b:Bool}{y:Value}(h:IsX ρ G f y)(e:toB f=some b):y= .bool b:=by
 unfold toB at e
 split at e<;>first|(cases e;done)|(cases e;exact h)|(cases e;exact(aa2 (G:=G)).1 h)
def ngX:FX→Option FX
 | .tt=>some .ff
 | .ff=>some .tt
 | .pr p h=>some (.pr (¬p) (@instDecidableNot p h))
 | .d (.v (.bool b))=>some (.d (.v (.bool (!b))))
 |_=>none
theorem aB4{ρ:NE}{G:Gh}{f g:FX}{y:Value}(h:IsX ρ G f y)(e:ngX f=some g): ∃b,y= .bool b∧IsX ρ G g (.bool (!b)):=by
 unfold ngX at e
 split at e
 ·cases e;exact⟨true,h,rfl⟩
 ·cases e;exact⟨false,h,rfl⟩
 ·rename_i p hp
  cases e
  refine⟨@decide p hp,h,?_⟩
  show Value.bool _= .bool _
  congr 1
  cases hp<;>rfl
 ·rename_i b;cases e;exact⟨b,(aa2 (G:=G)).1 h,(aa2 (G:=G)).2 rfl⟩
 ·cases e
def aEX(T:TT)(t:TypeId)(f:FX)(y:Operand):Option Bool:=match abD T t with
 |some ⟨.fc,_,_,_⟩=>match y,f with
  | .const .nilIface, .d (.v .nilIface)=>some true
  | .const .nilIface, .d (.v (.iface _ _))=>some false
  |_,_=>none
 |some ⟨.pt,_,_,_⟩=>match y,f with
  | .const (.pointer none), .d (.v (.pointer none))=>some true
  | .const (.pointer none), .ov _ _=>some false
  | .const (.pointer none), .ep _=>some false
  | .const (.pointer none), .be _ _ _ _=>some false
  | .const (.pointer none), .d (.pt _)=>some false
  |_,_=>none
 |some ⟨.sl _ _ _,_,_,_⟩=>match y,f with
  | .const (.slice none _ _), .nl=>some true
  |_,_=>none
 |_=>none
def opX(T:TT)(op:BinOp)(t:TypeId)(b:Bool):Option (Option Prop×FX):=match abD T t with
 |some ⟨.pt,_,_,_⟩=>match op with
  | .eql=>some (none, .pr (b=false) inferInstance)
  | .neq=>some (none, .pr (b=true) inferInstance)
  |_=>none
 |_=>none
def boX(T:TT)(op:BinOp)(t:TypeId)(f g:FX)(y:Operand):Option (Option Prop×FX):=
 match f,g with
 | .d (.v (.int k p)), .d (.v (.int j q))=>match op with
  | .shr=>arX .shr k p q
  | .shl=>arX .shl k p q
  |op=>bif kq k j then arX op k p q else none
 | .d (.op b _), .d (.v (.pointer none))=>opX T op t b
 |f,g=>match aEX T t f y with
  |some b=>match op with
   | .eql=>some (none,bif b then .tt else .ff)
   | .neq=>some (none,bif b then .ff else .tt)
   |_=>none
  |none=>match abD T t,toB f,toB g with
   |some ⟨.bl,_,_,_⟩,some a,some b=>match op with
    | .eql=>some (none, .d (.v (.bool (a==b))))
    | .neq=>some (none, .d (.v (.bool (!(a==b)))))
    |_=>none
   |_,_,_=>none
def mmX(mx:Bool)(f g:FX):Option FX:=match f,g with
 | .d (.v (.int k p)), .d (.v (.int j q))=>bif kq k j then(match mx with
  |true=>some (.d (.v (.int k (if q>p then q else p))))
  |false=>some (.d (.v (.int k (if q<p then q else p))))) else none
 |_,_=>none
def ldX(bk:BM)(i:TI)(f:FX):Option FX:=match i.ag with
 |some (some k)=>match f with
  | .ov nm off=>match bk nm with
   |some (.o _ cs _)=>match takeX cs off k with
    |some l=>agX l
    |none=>none
   |_=>none
  | .ep cs=>match takeD cs 0 k with
   |some l=>some (.d (.ag l))
   |none=>none
  |_=>none
 |some none=>match f with
  | .ov nm off=>match bk nm with
   |some (.o _ cs _)=>cs[off]?
   |_=>none
  | .ep cs=>match cs with
   |d::_=>some (.d d)
   |[]=>none
  |_=>none
 |none=>none
def FX.flat:FX→Bool
 | .d x=>x.flat
 | .bx _ _ _ _=>false
 | .un=>false
 | .no=>false
 |_=>true
def aAK(f:FX)(d:Nat):Bool:=match f.nm with
 |some m=>!Nat.beq m d
 |none=>true
def stX(bk:BM)(i:TI)(fa fv:FX):Option (List (Nat×Option Bk)):=match fa with
 | .ov nm off=>match bk nm with
  |some (.o ty cs lo)=>match i.ag with
   |some (some k)=>bif fv.okc&&(Nat.beq fv.cells.length k&&Nat.ble (off+k) cs.length) then fcL (ovX cs off fv.cells) fun cs'=>some [(nm,some (.o ty cs' lo))] else none
   |some none=>bif fv.flat&&Nat.blt off cs.length then fcL (cs.set off fv) fun cs'=>some [(nm,some (.o ty cs' lo))] else none
   |none=>none
  |_=>none
 |_=>none
def ayc(lk:LK)(fo:List (Nat×Nat×Nat)):List FX→List (Nat×Operand)→Option (List FX)
 |cs,[]=>some cs
 |cs,(i,x)::r=>match fo[i]?,evX lk x with
  |some (off,_,k),some d=>bif d.okc&&(Nat.beq d.cells.length k&&Nat.ble (off+k) cs.length) then ayc lk fo (ovX cs off d.cells) r else none
  |_,_=>none
def aEq(bk:BM)(f:FX):Option FX:=match f with
 | .nl=>some (.d (.v (.int .i64 0)))
 | .d (.sl l)=>some (.d (.v (.int .i64 (l.length:Nat))))
 | .ct l=>some (.d (.v (.int .i64 (l.length:Nat))))
 | .rw nm=>match bk nm with
  |some (.b _ _ ds _)=>some (.d (.v (.int .i64 (ds.length:Nat))))
  |_=>none
 |_=>none
def faX(fo:List (Nat×Nat×Nat))(i:Nat)(f:FX):Option FX:=match fo[i]? with
 |some (off,_,_+1)=>match f with
  | .ov nm o=>some (.ov nm (o+off))
  | .ep l=>bif Nat.ble off l.length then fcL (l.drop off) fun l'=>some (.ep l') else none
  | .be nm s i j=>some (.be nm s i (j+off))
  |_=>none
 |_=>none
def fdX(T:TT)(fo:List (Nat×Nat×Nat))(i:Nat)(f:FX):Option FX:=match f with
 | .d (.ag cs)=>match fo[i]? with
  |some (off,ft,_)=>match abD T ft with
   |some j=>match j.ag with
    |some (some k)=>match takeD cs off k with
     |some l=>some (.d (.ag l))
     |none=>none
    |some none=>match cs[off]? with
     |some c=>some (.d c)
     |none=>none
    |none=>none
   |none=>none
  |none=>none
 |_=>none
def cvX(T:TT)(t t':TypeId)(f:FX):Option (Option Prop×FX):=match abD T t,abD T t' with
 |some ⟨.int k,_,_,_⟩,some ⟨.int k',_,_,_⟩=>match f with
  | .d (.v (.int j p))=>bif kq k j then(match k' with
   | .u32=>some (none, .d (.v (.int .u32 (p%4294967296))))
   |k'=>vcI k' p) else none
  |_=>none
 |_,_=>none
def ixX(T:TT)(bk:BM)(t:TypeId)(f g:FX):Option (Option Prop×FX):=match f with
 | .rw nm=>match bk nm with
  |some (.b _ s ds _)=>match abD T t with
   |some ⟨.sl _ s' _,_,_,_⟩=>match g with
    | .d (.v (.int _ i))=>bif Nat.beq s s' then some (some (0≤i∧i<(ds.length:Nat)), .be nm s i.toNat 0) else none
    |_=>none
   |_=>none
  |_=>none
 |_=>none
def pr1(r:Option FX):Option CR:=match r with
 |some f=>some ⟨none,f,[],[]⟩
 |none=>none
def pr2(r:Option (Option Prop×FX)):Option CR:=match r with
 |some (v,f)=>some ⟨v,f,[],[]⟩
 |none=>none
def ev2{α:Type}(lk:LK)(x y:Operand)(K:FX→FX→Option α):Option α:=match evX lk x with
 |some f=>match evX lk y with
  |some g=>K f g
  |none=>none
 |none=>none
def ev1{α:Type}(lk:LK)(x:Operand)(K:FX→Option α):Option α:=match evX lk x with
 |some f=>K f
 |none=>none
def tyS{α:Type}(T:TT)(t:TypeId)(K:List (Nat×Nat×Nat)→TI→Option α):Option α:=match abD T t with
 |some ⟨.st fo,sz,z,za⟩=>K fo ⟨.st fo,sz,z,za⟩
 |_=>none
def tyI{α:Type}(T:TT)(t:TypeId)(K:TI→Option α):Option α:=match abD T t with
 |some i=>K i
 |none=>none
def aEr(i:Nat)(f:FX):Option FX:=match f with
 | .d (.tp ds)=>match ds[i]? with
  |some d=>some (.d d)
  |none=>none
 | .bx true pre nm post=>exB i pre nm post
 |_=>none
def aEY(f:FX):Option (Option Prop×FX):=match f with
 | .ov a b=>some (none, .ov a b)
 | .ep l=>some (none, .ep l)
 | .be a b c d=>some (none, .be a b c d)
 | .d (.pt l)=>some (none, .ep l)
 | .d (.op b l)=>some (some (b=true), .ep l)
 |_=>none
def aDN(c f g:FX):Option FX:=match c with
 | .tt=>some f
 | .ff=>some g
 |_=>none
def unX(op:UnOp)(f:FX):Option (Option Prop×FX):=match op with
 | .not=>match ngX f with
  |some g=>some (none,g)
  |none=>none
 | .neg=>match f with
  | .d (.v (.int k p))=>vcI k (-p)
  |_=>none
 |_=>none
def aAG(T:TT)(lk:LK)(bk:BM)(dst:Option Nat)(op:Op):Option CR:=match op with
 | .move x=>pr1 (evX lk x)
 | .assign x=>pr1 (evX lk x)
 | .pick c x y=>ev1 lk c fun c=>ev2 lk x y fun f g=>pr1 (aDN c f g)
 | .alloc t=>match dst with
  |some d=>tyI T t fun i=>match i.z with
   |some z=>fcL z fun cs=>some ⟨none, .ov d 0,[(d,some (.o t cs true))],[d]⟩
   |none=>none
  |none=>none
 | .box t x=>match dst with
  |some d=>ev1 lk x fun f=>bif f.okc&&aAK f d then fcL f.cells fun cs=>some ⟨none, .ov d 0,[(d,some (.o t cs true))],[d]⟩ else none
  |none=>none
 | .nilCheck x=>ev1 lk x fun f=>pr2 (aEY f)
 | .fieldAddr t x i=>tyS T t fun fo _=>ev1 lk x fun f=>pr1 (faX fo i f)
 | .field t x i=>tyS T t fun fo _=>ev1 lk x fun f=>pr1 (fdX T fo i f)
 | .load t x=>tyI T t fun i=>ev1 lk x fun f=>pr1 (ldX bk i f)
 | .store t x y=>tyI T t fun i=>ev2 lk x y fun f g=>match stX bk i f g with
  |some bl=>some ⟨none, .un,bl,[]⟩
  |none=>none
 | .extract x i=>ev1 lk x fun f=>pr1 (aEr i f)
 | .build t parts=>tyS T t fun fo i=>match i.z with
  |some z=>match ayc lk fo z parts.toList with
   |some cs=>match agX cs with
    |some f=>some ⟨none,f,[],[]⟩
    |none=>none
   |none=>none
  |none=>none
 | .binOp op t x y _=>ev2 lk x y fun f g=>pr2 (boX T op t f g y)
 | .unOp op _ x=>ev1 lk x fun f=>pr2 (unX op f)
 | .convert t t' x=>ev1 lk x fun f=>pr2 (cvX T t t' f)
 | .indexAddr t x y=>ev2 lk x y fun f g=>pr2 (ixX T bk t f g)
 | .call ⟨.builtin .len,⟨[x]⟩,⟨[t]⟩⟩=>match abD T t with
  |some ⟨.sl _ _ _,_,_,_⟩=>ev1 lk x fun f=>pr1 (aEq bk f)
  |_=>none
 | .call ⟨.builtin .max,⟨[x,y]⟩,⟨[_,_]⟩⟩=>ev2 lk x y fun f g=>pr1 (mmX true f g)
 | .call ⟨.builtin .min,⟨[x,y]⟩,⟨[_,_]⟩⟩=>ev2 lk x y fun f g=>pr1 (mmX false f g)
 |_=>none
section
variable {P:Program} {T:TT} {GB:Gh} {C:Ctx} {n:Nat} {lk:LK} {bk:BM} {ρ:NE} {G:Gh} {ov:List Own} {a:Act} {w:World}
variable {dst:Option Nat} {t t' ty':TypeId} {pos:String} {af:Array Edge} {gd:Option (Nat×Bool)} {x y z:Operand}
def aF7(P:Program)(GB:Gh)(C:Ctx)(n:Nat)(lk:LK)(bk:BM)(o:Oper)(r:CR):Prop:=(∀p,r.vc=some p→p)→OpR P GB C n lk bk o r.f r.bl r.nw
theorem afN{r:Option FX}{c:CR}(h:pr1 r=some c): ∃f,r=some f∧c=⟨none,f,[],[]⟩:=by
 unfold pr1 at h
 split at h
 ·cases h;exact⟨_,rfl,rfl⟩
 ·cases h
theorem al9{r:Option (Option Prop×FX)}{c:CR}(h:pr2 r=some c): ∃v f,r=some (v,f)∧c=⟨v,f,[],[]⟩:=by
 unfold pr2 at h
 split at h
 ·cases h;exact⟨_,_,rfl,rfl⟩
 ·cases h
theorem afH{α:Type}{K:FX→Option α}{r:α}(h:ev1 lk x K=some r): ∃f,evX lk x=some f∧K f=some r:=by
 unfold ev1 at h
 split at h
 ·exact⟨_,by assumption,h⟩
 ·cases h
theorem akg{α:Type}{K:FX→FX→Option α}{r:α}(h:ev2 lk x y K=some r): ∃f g,evX lk x=some f∧evX lk y=some g∧K f g=some r:=by
 unfold ev2 at h
 split at h
 ·split at h
  ·exact⟨_,_,by assumption,by assumption,h⟩
  ·cases h
 ·cases h
theorem ars{α:Type}{K:TI→Option α}{r:α}(hT:TOK P T)(h:tyI T t K=some r): ∃i,aft P t=some i∧K i=some r:=by
 unfold tyI at h
 split at h
 ·rename_i i hi;exact⟨i,hT _ _ hi,h⟩
 ·cases h
theorem as2{α:Type}{K:List (Nat×Nat×Nat)→TI→Option α}{r:α}(hT:TOK P T)(h:tyS T t K=some r): ∃fo i,aft P t=some i∧i.k= .st fo∧K fo i=some r:=by
 unfold tyS at h
 split at h
 ·rename_i fo sz z za hi;exact⟨fo,_,hT _ _ hi,rfl,h⟩
 ·cases h
theorem OpR.x1{o:Oper}{f g:FX}(e:evX lk x=some f)(h: ∀ρ G ov (a:Act) w y,ab5 C ov G w→RlX GB C n lk bk ρ G ov a w→opv (frA a) x=some y→IsX ρ G f y→ ∃u,IsX ρ G g u∧Yd P C (frA a) ov G o u):OpR P GB C n lk bk o g [] []:=
 .yd fun ρ G ov a w r=>by
  obtain⟨y,h1,h2⟩:=r.ev e
  exact h ρ G ov a w y r.h r h1 h2
theorem az4{f:FX}(e:evX lk x=some f):OpR P GB C n lk bk ⟨dst, .move x,ty',pos,af,gd⟩ f [] []:= .x1 e fun _ _ _ _ _ y _ _ h1 h2=>⟨y,h2,aaR h1⟩
theorem arl{f:FX}(e:evX lk x=some f):OpR P GB C n lk bk ⟨dst, .assign x,ty',pos,af,gd⟩ f [] []:= .x1 e fun _ _ _ _ _ y _ _ h1 h2=>⟨y,h2,aiG h1⟩
theorem azn{c f g v:FX}(ec:evX lk z=some c)(e1:evX lk x=some f)(e2:evX lk y=some g)(h:aDN c f g=some v):OpR P GB C n lk bk ⟨dst, .pick z x y,ty',pos,af,gd⟩ v [] []:= .yd fun ρ G ov a w r=>by
 obtain⟨u,h1,h2⟩:=r.ev ec
 unfold aDN at h
 split at h
 ·cases h;cases h2;obtain⟨u,h3,h4⟩:=r.ev e1;exact⟨u,h4,acW h1 h3⟩
 ·cases h;cases h2;obtain⟨u,h3,h4⟩:=r.ev e2;exact⟨u,h4,abr h1 h3⟩
 ·cases h
theorem aDe{f g:FX}{v:Option Prop}(e:evX lk x=some f)(h:aEY f=some (v,g))(hv: ∀r,v=some r→r):OpR P GB C n lk bk ⟨dst, .nilCheck x,ty',pos,af,gd⟩ g [] []:= .x1 e fun ρ G ov a w y _ _ h1 h2=>by
 have key: ∀l,Is G (.pt l) y→ ∃u,IsX ρ G (.ep l) u∧Yd P C (frA a) ov G ⟨dst, .nilCheck x,ty',pos,af,gd⟩ u:=fun l h2=>by
  obtain⟨b,m,rfl,hb,hm⟩:=akV.1 h2
  refine⟨_,⟨b,0,m,m,rfl,hb,?_,hm⟩,aaT h1⟩
  rw[abG _ _ _ (by rw[hm.len];omega),hJ,aV (by rw[hm.len];omega)]
 unfold aEY at h
 split at h<;>cases h
 ·obtain⟨b,hb,rfl⟩:=h2;exact⟨_,⟨b,hb,rfl⟩,aaT h1⟩
 ·obtain⟨b,o,cs,m,rfl,h3⟩:=h2;exact⟨_,⟨b,o,cs,m,rfl,h3⟩,aaT h1⟩
 ·obtain⟨b,hb,rfl⟩:=h2;exact⟨_,⟨b,hb,rfl⟩,aaT h1⟩
 ·exact key _ h2
 ·rcases aoo.1 (show Is G _ y from h2) with⟨e,_⟩|⟨_,h3⟩
  ·have:=hv _ rfl;rw[e] at this;cases this
  ·exact key _ h3
theorem aEE{f g:FX}{fo:List (Nat×Nat×Nat)}{i:TI}{k:Nat}(hi:aft P t=some i)(hk:i.k= .st fo)(e:evX lk x=some f)(h:faX fo k f=some g):OpR P GB C n lk bk ⟨dst, .fieldAddr t x k,ty',pos,af,gd⟩ g [] []:= .x1 e fun ρ G ov a w y _ _ h1 h2=>by
 unfold faX at h
 split at h
 ·rename_i off ft s ho
  have:=aDI hi hk ho
  split at h
  ·cases h;obtain⟨b,hb,rfl⟩:=h2;exact⟨_,⟨b,hb,rfl⟩,aaS h1⟩
  ·rename_i l
   cases hb:Nat.ble off l.length with
   |false=>rw[hb] at h;cases h
   |true=>
    rw[hb,cond_true,age] at h;cases h
    obtain⟨b,o,cs,m,rfl,hb',ht,hm⟩:=h2
    refine⟨_,⟨b,o+off,cs,m.drop off,rfl,hb',?_,hm.drop _⟩,aaS h1⟩
    rw[fM]
    exact ah8 ht (by simpa using hb)
  ·cases h
   obtain⟨b,hb,rfl⟩:=h2
   exact⟨_,⟨b,hb,rfl⟩,by rw[←iL];exact aaS h1⟩
  ·cases h
 ·cases h
theorem aD5{f g:FX}{fo:List (Nat×Nat×Nat)}{i:TI}{k:Nat}(hT:TOK P T)(hi:aft P t=some i)(hk:i.k= .st fo)(e:evX lk x=some f)(h:fdX T fo k f=some g):OpR P GB C n lk bk ⟨dst, .field t x k,ty',pos,af,gd⟩ g [] []:= .x1 e fun ρ G ov a w y _ _ h1 h2=>by
 unfold fdX at h
 split at h<;>try (cases h;done)
 rename_i cs
 split at h<;>try (cases h;done)
 rename_i off ft s ho
 split at h<;>try (cases h;done)
 rename_i j hj
 obtain⟨m,rfl,hm⟩:=acn.1 (show Is G _ y from h2)
 have:=aEM hi hk ho
 split at h<;>try (cases h;done)
 ·rename_i q ha
  have:=akb (hT _ _ hj) ha
  split at h<;>cases h
  rename_i l hl
  obtain⟨l',h3,h4⟩:=hm.takeD hl
  exact⟨.agg ⟨l'⟩,acn.2 ⟨l',rfl,h4⟩,asL h1 h3⟩
 ·rename_i ha
  have:=aiQ (hT _ _ hj) ha
  split at h<;>cases h
  rename_i c hc
  obtain⟨l',h3,h4⟩:=hm.get hc
  exact⟨l',h4,as7 h1 h3⟩
theorem RlX.own{nm off:Nat}{y:Value}{ty:TypeId}{cs:List FX}{lo:Bool}(r:RlX GB C n lk bk ρ G ov a w)(h2:IsX ρ G (.ov nm off) y)(hb:bk nm=some (.o ty cs lo)): ∃b m,y= .pointer (some ⟨b,off,none⟩)∧(ρ nm).a=some ⟨b,0,none⟩∧adu ρ G cs m∧⟨b,m,ty,lo⟩∈ov:=by
 obtain⟨os,⟨b,m,h3,rfl,h4⟩,h5⟩:=r.bx _ _ hb
 obtain⟨b',h6,rfl⟩:=h2
 rw[h3] at h6;cases h6
 exact⟨b,m,rfl,h3,h4,h5 _ aZ⟩
theorem aDS{f g:FX}{i:TI}(hi:aft P t=some i)(e:evX lk x=some f)(h:ldX bk i f=some g):OpR P GB C n lk bk ⟨dst, .load t x,ty',pos,af,gd⟩ g [] []:= .x1 e fun ρ G ov a w y _ r h1 h2=>by
 unfold ldX at h
 split at h<;>try (cases h;done)
 ·rename_i k ha
  have:=akb hi ha
  split at h<;>try (cases h;done)
  ·split at h<;>try (cases h;done)
   rename_i hb
   split at h<;>try (cases h;done)
   rename_i l hl
   obtain⟨b,m,rfl,h3,h4,h5⟩:=r.own h2 hb
   obtain⟨l',h6,h7⟩:=h4.takeX hl
   have:OAt ov b m _ _:=⟨h5⟩
   exact⟨.agg ⟨l'⟩,ax3 h7 h,aeC h1 h6⟩
  ·split at h<;>cases h
   rename_i hl
   obtain⟨b,o,ms,m,rfl,hb,ht,hm⟩:=h2
   obtain⟨l',h3,h4⟩:=hm.takeD hl
   exact⟨.agg ⟨l'⟩,acn.2 ⟨l',rfl,h4⟩,aka h1 hb (by simpa using amy ht h3)⟩
 ·rename_i ha
  have:=aiQ hi ha
  split at h<;>try (cases h;done)
  ·split at h<;>try (cases h;done)
   rename_i hb
   obtain⟨b,m,rfl,h3,h4,h5⟩:=r.own h2 hb
   obtain⟨l',h6,h7⟩:=h4.get h
   have:OAt ov b m _ _:=⟨h5⟩
   exact⟨l',h7,aaD h1 h6⟩
  ·split at h<;>cases h
   obtain⟨b,o,ms,m,rfl,hb,ht,hm⟩:=h2
   obtain⟨l',h3,h4⟩:=hm.get (i:=0) rfl
   have:=ahK ht (i:=0) (Nat.succ_pos _)
   rw[dT] at this
   exact⟨l',h4,afR h1 hb (by rw[this];exact h3)⟩
theorem aCf{f g:FX}{i:Nat}(e:evX lk x=some f)(h:aEr i f=some g):OpR P GB C n lk bk ⟨dst, .extract x i,ty',pos,af,gd⟩ g [] []:= .x1 e fun ρ G ov a w y _ r h1 h2=>by
 unfold aEr at h
 split at h<;>try (cases h;done)
 ·split at h<;>cases h
  rename_i hv
  obtain⟨m,rfl,hm⟩:=ad1.1 (show Is G _ y from h2)
  obtain⟨l',h3,h4⟩:=hm.get hv
  exact⟨l',h4,ahn h1 (by simpa using h3)⟩
 ·obtain⟨m1,m2,rfl,k1,k2⟩:=h2
  obtain⟨l',h3,h4⟩:=axX (ρ:=ρ) h k1 k2
  exact⟨l',h4,ahn h1 (by simpa using h3)⟩
theorem alQ{fo:List (Nat×Nat×Nat)}(r:RlX GB C n lk bk ρ G ov a w): ∀(ps:List (Nat×Operand)) (cs out:List FX) (m:List Value),ayc lk fo cs ps=some out→adu ρ G cs m→ ∃l,bld (frA a) (fo.map fun x=>(x.1,x.2.2)) m ps=some l∧adu ρ G out l
 |[],cs,out,m,e,hm=>by simp only[ayc] at e;cases e;exact⟨m,rfl,hm⟩
 |(i,x)::ps,cs,out,m,e,hm=>by
  simp only[ayc] at e
  split at e
  ·rename_i off q k d ho hd
   cases hc:(d.okc&&(Nat.beq d.cells.length k&&Nat.ble (off+k) cs.length)) with
   |false=>rw[hc] at e;cases e
   |true=>
    rw[hc] at e
    simp only[bL,Nat.beq_eq_true_eq,Nat.ble_eq] at hc
    obtain⟨h1,h2,h3⟩:=hc
    replace h2:=aT h2
    obtain⟨y,hy,hy'⟩:=r.ev hd
    obtain⟨c1,_⟩:=hy'.cells h1
    have c2:=c1.len
    obtain⟨l,hl1,hl2⟩:=alQ r ps _ out _ e (hm.ov c1 (off:=off))
    refine⟨l,?_,hl2⟩
    simp only[bld,cN,ho,kJ,hy]
    rw[if_pos ⟨by rw[c2,h2],by rw[hm.len];exact h3⟩]
    exact hl1
  ·cases e
theorem avs{fo:List (Nat×Nat×Nat)}{i:TI}{zx:List FX}{cs:List FX}{f:FX}{parts:Array (Nat×Operand)}(hi:aft P t=some i)(hk:i.k= .st fo)(hz:i.z=some zx)(h:ayc lk fo zx parts.toList=some cs)(hf:agX cs=some f):
  OpR P GB C n lk bk ⟨dst, .build t parts,ty',pos,af,gd⟩ f [] []:= .yd fun ρ G ov a w r=>by
 obtain⟨v,hv,hv'⟩:=akI hi hz
 have:=axt hi hk
 obtain⟨l,h1,h2⟩:=alQ r _ _ _ _ h (hv' ρ G)
 exact⟨.agg ⟨l⟩,ax3 h2 hf,alp h1⟩
theorem anA{k:IntKind}{p:Int}{v:Option Prop}{f:FX}(h:vcI k p=some (v,f)):f= .d (.v (.int k p))∧((∀q,v=some q→q)→k.min≤p∧p≤k.max):=by
 obtain⟨q,h1,h2⟩:=aB5 h
 cases h1
 exact⟨rfl,fun k=>h2 (k _ rfl)⟩
theorem aay{k:IntKind}{p:Int}{y:Value}:IsX ρ G (.d (.v (.int k p))) y↔y= .int k p:=aa2 (G:=G)
theorem atz(b:BitVec 64):IntKind.u64.wrap (b.toNat:Int)=(b.toNat:Int):=aeF ⟨by show(0:Int)≤_;omega,by have:=b.isLt;show _≤(18446744073709551615:Int);omega⟩
theorem akN(b:BitVec 32):IntKind.u32.wrap (b.toNat:Int)=(b.toNat:Int):=aeF ⟨by show(0:Int)≤_;omega,by have:=b.isLt;show _≤(4294967295:Int);omega⟩
theorem awy{op:BinOp}{k j:IntKind}{p q:Int}{v:Option Prop}{f:FX}(h:arX op k p q=some (v,f))(hop:op= .shr∨op= .shl)(hv: ∀r,v=some r→r){fr:Fr}(hx:opv fr x=some (.int k p))(hy:opv fr y=some (.int j q)): ∃u,IsX ρ G f u∧Yd P C fr ov G ⟨dst, .binOp op t x y t',ty',pos,af,gd⟩ u:=by
 rcases hop with rfl|rfl<;>cases h
 ·exact⟨_,aay.2 rfl,ads hx hy (hv _ rfl)⟩
 ·exact⟨_,aay.2 rfl,aiD hx hy (hv _ rfl)⟩
theorem aEw{op:BinOp}{k:IntKind}{p q:Int}{v:Option Prop}{f:FX}(h:arX op k p q=some (v,f))(hv: ∀r,v=some r→r){fr:Fr}(hx:opv fr x=some (.int k p))(hy:opv fr y=some (.int k q)): ∃u,IsX ρ G f u∧Yd P C fr ov G ⟨dst, .binOp op t x y t',ty',pos,af,gd⟩ u:=by
 cases op with
 |add=>obtain⟨rfl,h2⟩:=anA h;exact⟨_,aay.2 rfl,arz hx hy (h2 hv)⟩
 |sub=>obtain⟨rfl,h2⟩:=anA h;exact⟨_,aay.2 rfl,ary hx hy (h2 hv)⟩
 |mul=>obtain⟨rfl,h2⟩:=anA h;exact⟨_,aay.2 rfl,at4 hx hy (h2 hv)⟩
 |quo=>
  cases k<;>cases h<;>first
   |exact⟨_,aay.2 rfl,aso hx hy (hv _ rfl)⟩
   |(obtain⟨h1,h2,h3⟩:=hv _ rfl;exact⟨_,aay.2 rfl,ahr hx hy h1 h2 h3⟩)
 |rem=>
  cases k<;>cases h<;>first
   |exact⟨_,aay.2 rfl,axr hx hy (hv _ rfl)⟩
   |(obtain⟨h1,h2⟩:=hv _ rfl;exact⟨_,aay.2 rfl,ahk hx hy h1 h2⟩)
 |shr=>exact awy h (.inl rfl) hv hx hy
 |shl=>exact awy h (.inr rfl) hv hx hy
 |or=>
  cases k<;>cases h<;>refine⟨_,aay.2 rfl,abX hx hy fun w=>?_⟩
  ·show(pure (Value.int .u32 (IntKind.u32.wrap ((BitVec.ofInt 32 p ||| BitVec.ofInt 32 q).toNat:Int))):Sem Value).run P w=_
   rw[akN];rfl
  ·show(pure (Value.int .u64 (IntKind.u64.wrap ((BitVec.ofInt 64 p ||| BitVec.ofInt 64 q).toNat:Int))):Sem Value).run P w=_
   rw[atz];rfl
 |and=>
  cases k<;>cases h<;>refine⟨_,aay.2 rfl,abX hx hy fun w=>?_⟩
  ·show(pure (Value.int .u32 (IntKind.u32.wrap ((BitVec.ofInt 32 p &&& BitVec.ofInt 32 q).toNat:Int))):Sem Value).run P w=_
   rw[akN];rfl
  ·show(pure (Value.int .u64 (IntKind.u64.wrap ((BitVec.ofInt 64 p &&& BitVec.ofInt 64 q).toNat:Int))):Sem Value).run P w=_
   rw[atz];rfl
 |lss=>cases h;exact⟨_,rfl,ach hx hy⟩
 |leq=>cases h;exact⟨_,rfl,aBM hx hy⟩
 |gtr=>cases h;exact⟨_,rfl,agE hx hy⟩
 |geq=>cases h;exact⟨_,rfl,ahE hx hy⟩
 |eql=>cases h;exact⟨_,rfl,abV hx hy⟩
 |neq=>cases h;exact⟨_,rfl,ahI hx hy⟩
 |_=>cases h
theorem aCg{mx:Bool}{f g u:FX}(e1:evX lk x=some f)(e2:evX lk y=some g)(h:mmX mx f g=some u){t1 t2:TypeId}:OpR P GB C n lk bk ⟨dst, .call ⟨.builtin (if mx then .max else .min),⟨[x,y]⟩,⟨[t1,t2]⟩⟩,ty',pos,af,gd⟩ u [] []:= .yd fun ρ G ov a w r=>by
 obtain⟨p,h1,h2⟩:=r.ev e1
 obtain⟨q,h3,h4⟩:=r.ev e2
 unfold mmX at h
 split at h<;>try (cases h;done)
 rename_i k p' j q'
 rw[aay] at h2 h4
 subst h2 h4
 cases hk:kq k j with
 |false=>rw[hk] at h;cases h
 |true=>
  rw[hk] at h;cases awc hk
  cases mx<;>cases h
  ·refine⟨_,aay.2 rfl,?_⟩
   intro a' w' hf hh
   simp only[iT,if_false,execOp,resolve,gW,cZ,iN,aab hf h1,aab hf h3]
   have h1:(Builtin.min_ #[t1,t2] ty' #[.int k p', .int k q']).run P w'= .ok (.int k (if q'<p' then q' else p')) w':=by
    simp[Builtin.min_,Builtin.min2,aap]
   exact aam h1
  ·refine⟨_,aay.2 rfl,?_⟩
   intro a' w' hf hh
   simp only[if_true,execOp,resolve,gW,cZ,iN,aab hf h1,aab hf h3]
   have h1:(Builtin.max_ #[t1,t2] ty' #[.int k p', .int k q']).run P w'= .ok (.int k (if q'>p' then q' else p')) w':=by
    simp[Builtin.max_,Builtin.max2,aap]
   exact aam h1
theorem aCy{f g:FX}{b:Bool}(hT:TOK P T)(h:aEX T t f y=some b)(hx: ∃v,opv (frA a) x=some v∧IsX ρ G f v)(hy:evX lk y=some g):
  Yd P C (frA a) ov G ⟨dst, .binOp .eql t x y t',ty',pos,af,gd⟩ (.bool b)∧Yd P C (frA a) ov G ⟨dst, .binOp .neq t x y t',ty',pos,af,gd⟩ (.bool (!b)):=by
 obtain⟨v,h1,h2⟩:=hx
 unfold aEX at h
 split at h<;>try (cases h;done)
 ·rename_i hi
  have:=aEd (hT _ _ hi) rfl
  split at h<;>cases h
  ·cases (aa2 (G:=G)).1 h2;exact⟨aw3 (.inl rfl) h1,axG (.inl rfl) h1⟩
  ·cases (aa2 (G:=G)).1 h2;exact⟨aw3 (.inr ⟨_,_,rfl⟩) h1,axG (.inr ⟨_,_,rfl⟩) h1⟩
 ·rename_i hi
  have:=aBA (hT _ _ hi) rfl
  have key: ∀p,v= .pointer (some p)→Yd P C (frA a) ov G ⟨dst, .binOp .eql t x (.const (.pointer none)) t',ty',pos,af,gd⟩ (.bool false)∧Yd P C (frA a) ov G ⟨dst, .binOp .neq t x (.const (.pointer none)) t',ty',pos,af,gd⟩ (.bool (!false)):=fun p e=>by
   subst e;exact⟨apk h1 rfl,apg h1 rfl⟩
  split at h<;>cases h
  ·cases (aa2 (G:=G)).1 h2;exact⟨apk h1 rfl,apg h1 rfl⟩
  ·obtain⟨b,_,e⟩:=h2;exact key _ e
  ·obtain⟨b,o,cs,m,e,_⟩:=h2;exact key _ e
  ·obtain⟨b,_,e⟩:=h2;exact key _ e
  ·obtain⟨b,m,e,_⟩:=akV.1 (show Is G _ v from h2);exact key _ e
 ·rename_i hi
  have:=afD (hT _ _ hi) rfl
  split at h<;>cases h
  cases h2;exact⟨axg h1 rfl,aCu h1 rfl⟩
theorem aEN{op:BinOp}{f g u:FX}{v:Option Prop}(hT:TOK P T)(e1:evX lk x=some f)(e2:evX lk y=some g)(h:boX T op t f g y=some (v,u))(hv: ∀r,v=some r→r):OpR P GB C n lk bk ⟨dst, .binOp op t x y t',ty',pos,af,gd⟩ u [] []:= .yd fun ρ G ov a w r=>by
 obtain⟨p,h1,h2⟩:=r.ev e1
 obtain⟨q,h3,h4⟩:=r.ev e2
 unfold boX at h
 split at h
 ·rename_i k p' j q'
  rw[aay] at h2 h4
  subst h2 h4
  split at h
  ·exact awy h (.inl rfl) hv h1 h3
  ·exact awy h (.inr rfl) hv h1 h3
  ·cases hk:kq k j with
   |false=>rw[hk] at h;cases h
   |true=>rw[hk] at h;cases awc hk;exact aEw h hv h1 h3
 ·unfold opX at h
  split at h<;>try (cases h;done)
  rename_i hi
  have:=aBA (hT _ _ hi) rfl
  cases (aa2 (G:=G)).1 h4
  split at h<;>cases h<;>rcases aoo.1 (show Is G _ p from h2) with⟨rfl,rfl⟩|⟨rfl,k⟩
  ·exact⟨_,rfl,apk h1 h3⟩
  ·obtain⟨b,m,rfl,_⟩:=akV.1 k;exact⟨_,rfl,apk h1 h3⟩
  ·exact⟨_,rfl,apg h1 h3⟩
  ·obtain⟨b,m,rfl,_⟩:=akV.1 k;exact⟨_,rfl,apg h1 h3⟩
 ·split at h
  ·rename_i b hb
   obtain⟨k1,k2⟩:=aCy (ρ:=ρ) (G:=G) (C:=C) (ov:=ov) (dst:=dst) (t':=t') (ty':=ty') (pos:=pos) (af:=af) (gd:=gd) hT hb ⟨p,h1,h2⟩ e2
   split at h<;>cases h
   ·exact⟨_,by cases b<;>rfl,k1⟩
   ·exact⟨_,by cases b<;>rfl,k2⟩
  ·split at h<;>try (cases h;done)
   rename_i hi ha hb
   have:=aD7 (hT _ _ hi) rfl
   have e3:=ajh h2 ha
   have e4:=ajh h4 hb
   subst e3 e4
   split at h<;>cases h
   ·exact⟨_,(aa2 (G:=G)).2 rfl,aAP h1 h3⟩
   ·exact⟨_,(aa2 (G:=G)).2 rfl,aCW h1 h3⟩
theorem aEQ{op:UnOp}{f u:FX}{v:Option Prop}(e1:evX lk x=some f)(h:unX op f=some (v,u))(hv: ∀r,v=some r→r):OpR P GB C n lk bk ⟨dst, .unOp op t x,ty',pos,af,gd⟩ u [] []:= .x1 e1 fun ρ G ov a w y _ r h1 h2=>by
 unfold unX at h
 split at h<;>try (cases h;done)
 ·split at h<;>cases h
  rename_i g hg
  obtain⟨b,rfl,h3⟩:=aB4 h2 hg
  exact⟨_,h3,aqc h1⟩
 ·split at h<;>try (cases h;done)
  obtain⟨rfl,h3⟩:=anA h
  rw[aay] at h2;subst h2
  refine⟨_,aay.2 rfl,?_⟩
  have:=atA (P:=P) (C:=C) (own:=ov) (G:=G) (dst:=dst) (ty':=ty') (pos:=pos) (af:=af) (gd:=gd) (t:=t) h1
  rwa [Int.zero_sub,aeF (h3 hv)] at this
theorem aEH{f u:FX}{v:Option Prop}(hT:TOK P T)(e1:evX lk x=some f)(h:cvX T t t' f=some (v,u))(hv: ∀r,v=some r→r):OpR P GB C n lk bk ⟨dst, .convert t t' x,ty',pos,af,gd⟩ u [] []:= .x1 e1 fun ρ G ov a w y _ r h1 h2=>by
 unfold cvX at h
 split at h<;>try (cases h;done)
 rename_i k _ _ _ k' _ _ _ hi hi'
 have:=ake (hT _ _ hi) rfl
 have:=ake (hT _ _ hi') rfl
 split at h<;>try (cases h;done)
 rename_i j p
 rw[aay] at h2;subst h2
 cases hk:kq k j with
 |false=>rw[hk] at h;cases h
 |true=>
  rw[hk,cond_true] at h;cases awc hk
  split at h
  ·cases h;exact⟨_,aay.2 rfl,abf h1⟩
  ·obtain⟨rfl,h3⟩:=anA h;exact⟨_,aay.2 rfl,alv h1 (h3 hv)⟩
theorem RlX.row{nm:Nat}{y:Value}{ty:TypeId}{s:Nat}{ds:List DV}{lo:Bool}(r:RlX GB C n lk bk ρ G ov a w)(hb:bk nm=some (.b ty s ds lo)): ∃B,abx G ⟨ρ nm,s,ty,ds,lo⟩ B∧ ∀o∈B,o∈ov:=by
 obtain⟨os,h1,h2⟩:=r.bx _ _ hb
 exact⟨os,h1,h2⟩
theorem abx.len{β:adX}{B:List Own}(h:abx G β B):β.x.n=β.ds.length:=by
 obtain⟨vs,h1,h2,_⟩:=h
 rw[h1.len,h2.len]
theorem aD4{f g u:FX}{v:Option Prop}(hT:TOK P T)(e1:evX lk x=some f)(e2:evX lk y=some g)(h:ixX T bk t f g=some (v,u))(hv: ∀r,v=some r→r):OpR P GB C n lk bk ⟨dst, .indexAddr t x y,ty',pos,af,gd⟩ u [] []:= .yd fun ρ G ov a w r=>by
 obtain⟨p,h1,h2⟩:=r.ev e1
 obtain⟨q,h3,h4⟩:=r.ev e2
 unfold ixX at h
 split at h<;>try (cases h;done)
 rename_i nm
 split at h<;>try (cases h;done)
 rename_i ty s ds lo hb
 split at h<;>try (cases h;done)
 rename_i e' s' by_ _ _ _ hi
 have:=afD (hT _ _ hi) rfl
 split at h<;>try (cases h;done)
 rename_i k i
 cases hs:Nat.beq s s' with
 |false=>rw[hs] at h;cases h
 |true=>
  rw[hs,cond_true] at h;cases h
  cases aT hs
  rw[aay] at h4;subst h4
  cases h2
  obtain⟨B,hB,hBo⟩:=r.row (y:= .nilFunc) hb
  have hl:=hB.len
  simp only at hl
  obtain⟨h5,h6⟩:=hv _ rfl
  obtain⟨vs,hB1,hB2,_⟩:=hB
  rcases hB1 with⟨e5,_,_⟩|⟨b,rest,lo',e5,_⟩
  ·subst e5;have:=hB2.len;simp at this;rw[←this] at h6;simp at h6;omega
  ·have hw:(ρ nm).a=some ⟨b,0,none⟩:=by simp only at e5;rw[e5]
   rw[hw] at h1
   refine⟨_,⟨b,hw,rfl⟩,?_⟩
   have:=ahZ (P:=P) (C:=C) (own:=ov) (G:=G) (dst:=dst) (ty':=ty') (pos:=pos) (af:=af) (gd:=gd) (t:=t) h1 h3 h5 (by rw[hl];exact h6)
   simpa using this
theorem aCi{f g:FX}{e s by_:Nat}(hS:acN P t e s by_)(e1:evX lk x=some f)(h:aEq bk f=some g):OpR P GB C n lk bk ⟨dst, .call ⟨.builtin .len,⟨[x]⟩,⟨[t]⟩⟩,ty',pos,af,gd⟩ g [] []:= .x1 e1 fun ρ G ov a w y _ r h1 h2=>by
 have key: ∀l:List DV,Is G (.sl l) y→ ∃u,IsX ρ G (.d (.v (.int .i64 (l.length:Nat)))) u∧Yd P C (frA a) ov G ⟨dst, .call ⟨.builtin .len,⟨[x]⟩,⟨[t]⟩⟩,ty',pos,af,gd⟩ u:=fun l hl=>by
  obtain⟨k,z,es,rfl,hs,hl⟩:=adH.1 hl
  have:=hs.len
  rw[hl.len] at this
  exact⟨_,aay.2 rfl,by rw[←this];exact aeM h1⟩
 unfold aEq at h
 split at h
 ·cases h;cases h2;exact⟨_,aay.2 rfl,aeM h1⟩
 ·cases h;exact key _ h2
 ·cases h;exact key _ h2.2
 ·split at h<;>cases h
  rename_i hb
  cases h2
  obtain⟨B,hB,_⟩:=r.row (y:= .nilFunc) hb
  have:=hB.len
  simp only at this
  exact⟨_,aay.2 rfl,by rw[←this];exact aeM h1⟩
 ·cases h
theorem avI{f g:FX}{d:Nat}(hg:g∈f.cells)(h:aAK f d=true):g.nm≠some d:=by
 have key:g.nm=f.nm∨g.nm=none:=by
  unfold FX.cells at hg
  split at hg
  ·obtain⟨x,_,rfl⟩:=bW.1 hg;exact .inr rfl
  ·rcases bS.1 hg with hg|hg
   ·obtain⟨x,_,rfl⟩:=bW.1 hg;exact .inr rfl
   ·rcases aS.1 hg with rfl|hg
    ·exact .inl rfl
    ·obtain⟨x,_,rfl⟩:=bW.1 hg;exact .inr rfl
  ·exact .inl (by rw[aY.1 hg])
 rcases key with h'|h'
 ·intro e;unfold aAK at h;rw[←h',e] at h;simp at h
 ·rw[h'];simp
theorem RlX.alloc(r:RlX GB C n lk bk ρ G ov a w){d b:Nat}{cs:List Value}{zs:List FX}{K:Act→World→Prop}{a':Act}{w':World}(hf:acH [d] (some d) lk bk)(hz:adu ρ G zs cs)(hn: ∀g∈zs,g.nm≠some d)
  (hk:SX GB C n (upL lk (some d) (.ov d 0)) (Sx.upB bk [(d,some (.o t zs true))]) K)(rl:Rel C n (Sx.put (frA a) (some d) (.pointer (some ⟨b,0,none⟩))) (⟨b,cs,t,true⟩::ov) G a' w'):K a' w':=by
 have hnd:=(bN.1 rl.h.nd).1
 have hy:IsX (fun k=>if k=d then⟨some ⟨b,0,none⟩,0,0⟩ else ρ k) G (.ov d 0) (.pointer (some ⟨b,0,none⟩)):=⟨b,by simp,rfl⟩
 have hB:amP (fun k=>if k=d then⟨some ⟨b,0,none⟩,0,0⟩ else ρ k) G d (.o t zs true) [⟨b,cs,t,true⟩]:=
  ⟨b,cs,by simp,rfl,hz.ren fun g hg m hm=>neN _ fun e'=>hn g hg (by rw[hm,e'])⟩
 refine hk.run _ _ _ a' w' (r.new hf (GLe.refl _) rl.h hB ?_ (fun o ho=>aK _ ho) ?_ hy (abk rl))
 ·intro o ho;rw[aY.1 ho];exact aZ
 ·intro o ho e';cases e';exact hnd o ho rfl
theorem aw0{d:Nat}{f:FX}(e:evX lk x=some f)(hc:f.okc=true)(hn:aAK f d=true):OpR P GB C n lk bk ⟨some d, .box t x,ty',pos,af,gd⟩ (.ov d 0) [(d,some (.o t f.cells true))] [d]:=by
 intro hd tl tb K s1 s2 hf hk
 refine⟨fun ρ G ov a w r Q=>?_⟩
 obtain⟨y,h1,h2⟩:=(r.mono s1 s2).ev e
 exact auj h1 hd (fun b a' w' rl=>r.alloc hf (h2.cells hc).1 (fun g hg=>avI hg hn) hk rl) a w Q ⟨r.h,r.sz,aaP a,r.df⟩
theorem azz(v:Value):(azx v).nm=none:=by unfold azx;split<;>rfl
theorem avS{d:Nat}{i:TI}{z:List FX}(hi:aft P t=some i)(hz:i.z=some z):OpR P GB C n lk bk ⟨some d, .alloc t,ty',pos,af,gd⟩ (.ov d 0) [(d,some (.o t z true))] [d]:=by
 intro hd tl tb K s1 s2 hf hk
 refine⟨fun ρ G ov a w r Q=>?_⟩
 obtain⟨v,hv,hv'⟩:=akI hi hz
 refine agf hd (fun b a' w' rl=>r.alloc hf (hv' ρ G) (fun g hg=>?_) hk rl) a w Q ⟨r.h,r.sz,aaP a,r.df⟩
 obtain⟨j,_,rfl⟩:=adz hi
 cases hj:j.zero with
 |none=>simp only[hj] at hz;cases hz
 |some u=>
  simp only[hj] at hz;cases hz
  obtain⟨x,_,rfl⟩:=bW.1 hg
  rw[azz];simp
theorem agl.of_mem{b:Nat}{cs cs':List Value}{ty:TypeId}{lo:Bool}: ∀{own:List Own},⟨b,cs,ty,lo⟩∈own→ ∃own',agl own b cs ty lo cs' own'∧⟨b,cs',ty,lo⟩∈own'∧ ∀o∈own,o.b≠b→o∈own'
 |[],h=>by cases h
 |x::t,h=>by
  rcases aS.1 h with rfl|h
  ·exact⟨_, .hd ..,aZ,fun o ho hb=>(aS.1 ho).elim (fun e=>absurd (by rw[e]) hb) (fun e=>aK _ e)⟩
  ·obtain⟨own',h1,h2,h3⟩:=agl.of_mem h
   exact⟨x::own', .tl _ _ _ _ _ _ _ _ h1,aK _ h2,fun o ho hb=>(aS.1 ho).elim (fun e=>by rw[e];exact aZ) (fun e=>aK _ (h3 o e hb))⟩
theorem RlX.wrote{nm:Nat}{b:Nat}{m m':List Value}{ty:TypeId}{cs cs':List FX}{lo:Bool}(r:RlX GB C n lk bk ρ G ov a w)(hb:bk nm=some (.o ty cs lo))(ha:(ρ nm).a=some ⟨b,0,none⟩){own':List Own}(hm':adu ρ G cs' m')(h1:⟨b,m',ty,lo⟩∈own')(h2: ∀o∈ov,o.b≠b→o∈own')
  {K:Act→World→Prop}(hk:SX GB C n (upL lk dst .un) (Sx.upB bk [(nm,some (.o ty cs' lo))]) K){a':Act}{w':World}(rl:Rel C n (Sx.put (frA a) dst undef) own' G a' w'):K a' w':=by
 have r2:=r.upB (G':=G) (ov':=own') (w':=w') (B':= .o ty cs' lo) (os:=[⟨b,m',ty,lo⟩]) (GLe.refl _) rl.h ⟨b,m',ha,rfl,hm'⟩ (fun o ho=>by rw[aY.1 ho];exact h1) (fun o ho hne=>h2 o ho fun e=>hne (by rw[ha,e])) ⟨_,hb⟩
 exact hk.run _ _ _ a' w' (r2.put rfl (abk rl))
theorem av9{f:FX}(h:f.flat=true):f.okc=true:=by
 cases f with
 |d x=>cases x<;>first|exact h|(cases h;done)
 |bx=>cases h
 |_=>exact h
theorem aqI{f:FX}(h:f.flat=true):f.cells=[f]:=by
 cases f with
 |d x=>cases x<;>first|rfl|(cases h;done)
 |bx=>cases h
 |_=>rfl
theorem IsX.flat{f:FX}{y:Value}(h:IsX ρ G f y)(k:f.flat=true):Go.Sx.flat y=true:=by
 obtain⟨h1,h2⟩:=h.cells (av9 k)
 rw[aqI k] at h1
 have hl:=h1.len
 cases y with
 |agg l=>
  obtain⟨z,q,e,h4,h5⟩:=h1
  cases f with
  |d x=>cases x with
   |v u=>exact Is.flat (show Is G _ _ from h) k
   |ag l=>cases k
   |tp l=>cases k
   |pt l=>exact Is.flat (show Is G _ _ from h) k
   |op b l=>exact Is.flat (show Is G _ _ from h) k
   |sl l=>exact Is.flat (show Is G _ _ from h) k
  |ep l=>obtain⟨_,_,_,_,e,_⟩:=h;cases e
  |ov _ _=>obtain⟨_,_,e⟩:=h;cases e
  |be _ _ _ _=>obtain⟨_,_,e⟩:=h;cases e
  |rs _ _ _ _=>obtain⟨_,_,_,e,_⟩:=h;cases e
  |ct l=>obtain⟨⟨_,_,e⟩,_⟩:=h;cases e
  |bx=>cases k
  |un=>cases k
  |no=>cases k
  |_=>cases h
 |_=>exact h2 _ (by simp[aaf])
theorem awN{fa fv:FX}{bl:List (Nat×Option Bk)}{i:TI}(hi:aft P t=some i)(e1:evX lk x=some fa)(e2:evX lk y=some fv)(h:stX bk i fa fv=some bl):OpR P GB C n lk bk ⟨dst, .store t x y,ty',pos,af,gd⟩ .un bl []:=by
 intro hd tl tb K s1 s2 hf hk
 refine⟨fun ρ G ov a w r Q=>?_⟩
 have r1:=r.mono s1 s2
 obtain⟨p,h1,h2⟩:=r1.ev e1
 obtain⟨q,h3,h4⟩:=r1.ev e2
 unfold stX at h
 split at h<;>try (cases h;done)
 rename_i nm off
 split at h<;>try (cases h;done)
 rename_i ty cs lo hb
 obtain⟨b,m,rfl,ha,h5,h6⟩:=r1.own h2 hb
 split at h<;>try (cases h;done)
 ·rename_i k hk'
  have:=akb hi hk'
  cases hc:(fv.okc&&(Nat.beq fv.cells.length k&&Nat.ble (off+k) cs.length)) with
  |false=>rw[hc] at h;cases h
  |true=>
   rw[hc,cond_true,age] at h;cases h
   simp only[bL,Nat.beq_eq_true_eq,Nat.ble_eq] at hc
   obtain⟨c1,c2,c3⟩:=hc
   replace c2:=aT c2
   obtain⟨h7,h8⟩:=h4.cells c1
   obtain⟨own',u1,u2,u3⟩:=agl.of_mem (cs':=ovw m off (aaf q)) h6
   exact alB h1 h3 u1 (by rw[h7.len,c2]) (by rw[h5.len];exact c3) (eX.2 h8) hd (fun a' w' rl=>r.wrote (m:=m) (s2 _ _ hb) ha (h5.ov h7) u2 u3 hk rl) a w Q ⟨r.h,r.sz,aaP a,r.df⟩
 ·rename_i hk'
  have:=aiQ hi hk'
  cases hc:(fv.flat&&Nat.blt off cs.length) with
  |false=>rw[hc] at h;cases h
  |true=>
   rw[hc,cond_true,age] at h;cases h
   simp only[bL,oK] at hc
   obtain⟨own',u1,u2,u3⟩:=agl.of_mem (cs':=m.set off q) h6
   exact ado h1 h3 u1 (by rw[h5.len];exact hc.2) (h4.flat hc.1) hd (fun a' w' rl=>r.wrote (m:=m) (s2 _ _ hb) ha (h5.set off h4) u2 u3 hk rl) a w Q ⟨r.h,r.sz,aaP a,r.df⟩
theorem ahb{op:Op}{r:CR}(hT:TOK P T)(h:aAG T lk bk dst op=some r):aF7 P GB C n lk bk ⟨dst,op,ty',pos,af,gd⟩ r:=by
 intro hv
 unfold aAG at h
 split at h
 ·obtain⟨f,h1,rfl⟩:=afN h;exact az4 h1
 ·obtain⟨f,h1,rfl⟩:=afN h;exact arl h1
 ·obtain⟨c,hc,h⟩:=afH h
  obtain⟨f,g,h1,h2,h⟩:=akg h
  obtain⟨u,h3,rfl⟩:=afN h
  exact azn hc h1 h2 h3
 ·split at h<;>try (cases h;done)
  obtain⟨i,hi,h⟩:=ars hT h
  split at h<;>try (cases h;done)
  rename_i z hz
  rw[age] at h;cases h
  exact avS hi hz
 ·split at h<;>try (cases h;done)
  obtain⟨f,hf,h⟩:=afH h
  rw[age,cond_eq_ite] at h
  split at h<;>cases h
  rename_i hc
  simp only[bL] at hc
  exact aw0 hf hc.1 hc.2
 ·obtain⟨f,h1,h⟩:=afH h;obtain⟨v,u,h3,rfl⟩:=al9 h;exact aDe h1 h3 hv
 ·obtain⟨fo,i,hi,hk,h⟩:=as2 hT h
  obtain⟨f,h1,h⟩:=afH h;obtain⟨u,h3,rfl⟩:=afN h;exact aEE hi hk h1 h3
 ·obtain⟨fo,i,hi,hk,h⟩:=as2 hT h
  obtain⟨f,h1,h⟩:=afH h;obtain⟨u,h3,rfl⟩:=afN h;exact aD5 hT hi hk h1 h3
 ·obtain⟨i,hi,h⟩:=ars hT h
  obtain⟨f,h1,h⟩:=afH h;obtain⟨u,h3,rfl⟩:=afN h;exact aDS hi h1 h3
 ·obtain⟨i,hi,h⟩:=ars hT h
  obtain⟨f,g,h1,h2,h⟩:=akg h
  cases hb:stX bk i f g with
  |none=>simp only[hb] at h;cases h
  |some bl=>simp only[hb] at h;cases h;exact awN hi h1 h2 hb
 ·obtain⟨f,h1,h⟩:=afH h;obtain⟨u,h3,rfl⟩:=afN h;exact aCf h1 h3
 ·obtain⟨fo,i,hi,hk,h⟩:=as2 hT h
  split at h<;>try (cases h;done)
  rename_i z hz
  split at h<;>try (cases h;done)
  rename_i cs hcs
  split at h<;>cases h
  rename_i g hg
  exact avs hi hk hz hcs hg
 ·obtain⟨f,g,h1,h2,h⟩:=akg h;obtain⟨v,u,h3,rfl⟩:=al9 h;exact aEN hT h1 h2 h3 hv
 ·obtain⟨f,h1,h⟩:=afH h;obtain⟨v,u,h3,rfl⟩:=al9 h;exact aEQ h1 h3 hv
 ·obtain⟨f,h1,h⟩:=afH h;obtain⟨v,u,h3,rfl⟩:=al9 h;exact aEH hT h1 h3 hv
 ·obtain⟨f,g,h1,h2,h⟩:=akg h;obtain⟨v,u,h3,rfl⟩:=al9 h;exact aD4 hT h1 h2 h3 hv
 ·split at h<;>try (cases h;done)
  rename_i hi
  obtain⟨f,h1,h⟩:=afH h;obtain⟨u,h3,rfl⟩:=afN h
  exact aCi (afD (hT _ _ hi) rfl) h1 h3
 ·obtain⟨f,g,h1,h2,h⟩:=akg h;obtain⟨u,h3,rfl⟩:=afN h;exact aCg (mx:=true) h1 h2 h3
 ·obtain⟨f,g,h1,h2,h⟩:=akg h;obtain⟨u,h3,rfl⟩:=afN h;exact aCg (mx:=false) h1 h2 h3
 ·cases h
end
end Go.Sx
end
