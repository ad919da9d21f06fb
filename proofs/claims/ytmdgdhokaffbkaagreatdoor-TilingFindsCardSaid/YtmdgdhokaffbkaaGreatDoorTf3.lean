import Derived.Test.YtmdgdhokaffbkaaGreatDoorTf2
set_option linter.all false
set_option maxRecDepth 100000
section
namespace Go.Sx
open Go
variable {G A GB G':Gh}{y:Value}{m n vs l es:List Value}{P:Program}{C:aD}{ops:Array Oper}{Q:Exit->Act->World->Prop}{r:List Oper}{Φ Ψ:Act->World->Prop}{j:TypeInfo}{i e by_ s' off ft:Nat}{dst:Option Nat}{t t' ty':TypeId}{pos:String}{af:Array Edge}{B os ov':List av}{w w':World}{α:Type}{a a':Act}
inductive DV where
 |v (x:Value)
 |ag (l:List DV)
 |tp (l:List DV)
 |pt (l:List DV)
 |op (b:Bool) (l:List DV)
 |sl (l:List DV)
mutual
def Is(G:Gh):DV->Value->Prop
 | .v x,y=>y=x
 | .ag l,y=> ∃m,y= .agg ⟨m⟩/\IsLs G l m
 | .tp l,y=> ∃m,y= .tuple ⟨m⟩/\IsLs G l m
 | .pt l,y=> ∃b m,y= .pointer (some ⟨b,0,none⟩)/\G b=some m/\IsLs G l m
 | .op b l,y=>(b=false/\y= .pointer none)\/(b=true/\ ∃b m,y= .pointer (some ⟨b,0,none⟩)/\G b=some m/\IsLs G l m)
 | .sl l,y=> ∃(s:Nat) (x:SV) (es:List Value),y= .slice x.a x.n x.c/\gy G s x es/\IsLs G l es
def IsLs(G:Gh):List DV->List Value->Prop
 |[],m=>m=[]
 |d::t,m=> ∃y n,m=y::n/\Is G d y/\IsLs G t n
end
mutual
def Is.up'{A G:Gh}(h:bA A G): ∀(d:DV) (y:Value),Is A d y->Is G d y
 | .v x,y,k=>by simp only[Is] at k⊢;exact k
 | .ag l,y,k=>by simp only[Is] at k⊢;obtain⟨m,e,k⟩:=k;exact⟨m,e,IsLs.up' h l m k⟩
 | .tp l,y,k=>by simp only[Is] at k⊢;obtain⟨m,e,k⟩:=k;exact⟨m,e,IsLs.up' h l m k⟩
 | .pt l,y,k=>by simp only[Is] at k⊢;obtain⟨b,m,e,hb,k⟩:=k;exact⟨b,m,e,h _ _ hb,IsLs.up' h l m k⟩
 | .op _ l,y,k=>by simp only[Is] at k⊢;exact k.imp id fun⟨e1,b,m,e,hb,k⟩=>⟨e1,b,m,e,h _ _ hb,IsLs.up' h l m k⟩
 | .sl l,y,k=>by simp only[Is] at k⊢;obtain⟨s,x,es,e,hs,k⟩:=k;exact⟨s,x,es,e,hs.up' h,IsLs.up' h l es k⟩
def IsLs.up'{A G:Gh}(h:bA A G): ∀(d:List DV) (y:List Value),IsLs A d y->IsLs G d y
 |[],y,k=>by simp only[IsLs] at k⊢;exact k
 |d::t,y,k=>by simp only[IsLs] at k⊢;obtain⟨u,n,e,h1,h2⟩:=k;exact⟨u,n,e,Is.up' h d u h1,IsLs.up' h t n h2⟩
end
section
def Is.up{d:DV}(k:Is A d y)(h:bA A G):Is G d y:=Is.up' h d y k
def IsLs.up{d:List DV}{y:List Value}(k:IsLs A d y)(h:bA A G):IsLs G d y:=IsLs.up' h d y k
def bh{x:Value}:Is G (.v x) y↔y=x:=by simp only[Is]
def eO{l:List DV}:Is G (.ag l) y↔ ∃m,y= .agg ⟨m⟩/\IsLs G l m:=by simp only[Is]
def mj{l:List DV}:Is G (.tp l) y↔ ∃m,y= .tuple ⟨m⟩/\IsLs G l m:=by simp only[Is]
def oh{l:List DV}:Is G (.pt l) y↔ ∃b m,y= .pointer (some ⟨b,0,none⟩)/\G b=some m/\IsLs G l m:=by simp only[Is]
def ur{b:Bool}{l:List DV}:Is G (.op b l) y↔(b=false/\y= .pointer none)\/(b=true/\Is G (.pt l) y):=by simp only[Is]
def ie{l:List DV}:Is G (.sl l) y↔ ∃(s:Nat) (x:SV) (es:List Value),y= .slice x.a x.n x.c/\gy G s x es/\IsLs G l es:=by simp only[Is]
def eD:IsLs G [] m↔m=[]:=by simp only[IsLs]
def bE{d:DV}{t:List DV}:IsLs G (d::t) m↔ ∃y n,m=y::n/\Is G d y/\IsLs G t n:=by simp only[IsLs]
def IsLs.nil:IsLs G [] []:=eD.2 J
def IsLs.cons{d:DV}{t:List DV}(h:Is G d y)(k:IsLs G t n):IsLs G (d::t) (y::n):=bE.2 ⟨y,n,J,h,k⟩
def IsLs.uncons{d:DV}{t:List DV}(h:IsLs G (d::t) (y::n)):Is G d y/\IsLs G t n:=by
 obtain⟨u,m,e,h1,h2⟩:=bE.1 h
 cases e
 exact⟨h1,h2⟩
def IsLs.len: ∀{d:List DV} {m:List Value},IsLs G d m->m.length=d.length
 |[],m,h=>by rw[eD.1 h];rfl
 |d::t,m,h=>by
  obtain⟨y,n,rfl,_,h2⟩:=bE.1 h;simp[h2.len]
def IsLs.get: ∀{l:List DV} {m:List Value} {i:Nat} {d:DV},IsLs G l m->l[i]? =some d-> ∃y,m[i]? =some y/\Is G d y
 |[],m,i,d,h,e=>by simp at e
 |x::t,m,0,d,h,e=>by
  obtain⟨y,n,rfl,h1,h2⟩:=bE.1 h;simp at e;subst e;exact⟨y,J,h1⟩
 |x::t,m,i+1,d,h,e=>by
  obtain⟨y,n,rfl,h1,h2⟩:=bE.1 h;simp at e;simpa using h2.get e
def IsLs.app: ∀{a b:List DV} {m n:List Value},IsLs G a m->IsLs G b n->IsLs G (a++b) (m++n)
 |[],b,m,n,h,k=>by rw[eD.1 h];exact k
 |d::t,b,m,n,h,k=>by
  obtain⟨y,m',rfl,h1,h2⟩:=bE.1 h;exact .cons h1 (h2.app k)
def IsLs.unapp: ∀{a b:List DV} {m:List Value},IsLs G (a++b) m-> ∃x y,m=x++y/\IsLs G a x/\IsLs G b y
 |[],b,m,h=>⟨[],m,J, .nil,h⟩
 |d::t,b,m,h=>by
  obtain⟨y,m',rfl,h1,h2⟩:=bE.1 h;obtain⟨u,v,rfl,h3,h4⟩:=h2.unapp;exact⟨y::u,v,J, .cons h1 h3,h4⟩
def IsLs.drop: ∀{a:List DV} {m:List Value} (k:Nat),IsLs G a m->IsLs G (a.drop k) (m.drop k)
 |_,_,0,h=>h
 |[],m,k+1,h=>by rw[eD.1 h];exact .nil
 |d::t,m,k+1,h=>by
  obtain⟨y,m',rfl,h1,h2⟩:=bE.1 h;exact h2.drop k
def IsLs.take: ∀{a:List DV} {m:List Value} (k:Nat),IsLs G a m->IsLs G (a.take k) (m.take k)
 |_,_,0,h=> .nil
 |[],m,k+1,h=>by rw[eD.1 h];exact .nil
 |d::t,m,k+1,h=>by
  obtain⟨y,m',rfl,h1,h2⟩:=bE.1 h;exact .cons h1 (h2.take k)
def IsLs.set: ∀{a:List DV} {m:List Value} (k:Nat) {d:DV} {y:Value},IsLs G a m->Is G d y->IsLs G (a.set k d) (m.set k y)
 |[],m,k,d,y,h,_=>by rw[eD.1 h];exact .nil
 |x::t,m,0,d,y,h,k=>by
  obtain⟨u,m',rfl,h1,h2⟩:=bE.1 h;exact .cons k h2
 |x::t,m,j+1,d,y,h,k=>by
  obtain⟨u,m',rfl,h1,h2⟩:=bE.1 h;exact .cons h1 (h2.set j k)
end
def DV.flat:DV->Bool
 | .v x=>Go.Sx.flat x
 | .ag _=>false
 | .tp _=>false
 | .pt _=>true
 | .op .. =>true
 | .sl .. =>true
def DV.okc:DV->Bool
 | .ag l=>l.all DV.flat
 |d=>d.flat
def DV.cells:DV->List DV
 | .ag l=>l
 |d=>[d]
section
def Is.flat{d:DV}{y:Value}(h:Is G d y)(k:d.flat=true):Go.Sx.flat y=true:=by
 cases d with
 |v x=>rw[bh.1 h];exact k
 |ag l=>cases k
 |tp l=>cases k
 |pt l=>obtain⟨b,m,rfl,_⟩:=oh.1 h;rfl
 |op b l=>
  rcases ur.1 h with⟨_,rfl⟩|⟨_,h⟩
  .rfl
  .obtain⟨b,m,rfl,_⟩:=oh.1 h;rfl
 |sl l=>obtain⟨s,x,es,rfl,_⟩:=ie.1 h;rfl
def wv(h:Go.Sx.flat y=true):aH y=[y]:=by cases y<;>first|rfl|(simp[Go.Sx.flat] at h)
def IsLs.flat: ∀{l:List DV} {m:List Value},IsLs G l m->l.all DV.flat=true-> ∀v∈m,Go.Sx.flat v=true
 |[],m,h,_,v,hv=>by rw[eD.1 h] at hv;cases hv
 |d::t,m,h,k,v,hv=>by
  obtain⟨y,n,rfl,h1,h2⟩:=bE.1 h;simp only[rR,bV] at k;rcases aT.1 hv with rfl|hv
  .exact h1.flat k.1
  .exact h2.flat k.2 v hv
def Is.cells{d:DV}{y:Value}(h:Is G d y)(k:d.okc=true):IsLs G d.cells (aH y)/\ ∀v∈aH y,Go.Sx.flat v=true:=by
 cases d with
 |ag l=>obtain⟨m,rfl,hm⟩:=eO.1 h;exact⟨hm,hm.flat k⟩
 |_=>
  have:=h.flat k;rw[wv this];exact⟨.cons h .nil,fun v hv=>by rw[aW.1 hv];exact this⟩
end
def takeD:List DV->Nat->Nat->Option (List DV)
 |_,0,0=>some []
 |[],0,_+1=>none
 |v::t,0,k+1=>match takeD t 0 k with|some l=>some (v::l)|none=>none
 |[],_+1,_=>none
 |_::t,off+1,k=>takeD t off k
def CJ:List DV->Nat->List DV->List DV
 |cs,_,[]=>cs
 |cs,off,v::vs=>CJ (cs.set off v) (off+1) vs
section
def IsLs.takeD: ∀{ds:List DV} {m:List Value} {off k:Nat} {l:List DV},IsLs G ds m->takeD ds off k=some l-> ∃n,co m off k=some n/\IsLs G l n
 |[],m,0,0,l,h,e=>by rw[eD.1 h];simp only[Sx.takeD] at e;cases e;exact⟨[],J, .nil⟩
 |d::t,m,0,0,l,h,e=>by
  obtain⟨y,m',rfl,h1,h2⟩:=bE.1 h;simp only[Sx.takeD] at e;cases e;exact⟨[],J, .nil⟩
 |[],m,0,k+1,l,h,e=>by simp[Sx.takeD] at e
 |d::t,m,0,k+1,l,h,e=>by
  obtain⟨y,m',rfl,h1,h2⟩:=bE.1 h;simp only[Sx.takeD] at e;split at e
  .rename_i l' hl'
   cases e
   obtain⟨n,hn,hl⟩:=h2.takeD hl';exact⟨y::n,by simp only[co,hn], .cons h1 hl⟩
  .cases e
 |[],m,off+1,k,l,h,e=>by simp[Sx.takeD] at e
 |d::t,m,off+1,k,l,h,e=>by
  obtain⟨y,m',rfl,h1,h2⟩:=bE.1 h;exact h2.takeD (off:=off) (k:=k) e
def IsLs.ov: ∀{vs ds:List DV} {n m:List Value} {off:Nat},IsLs G ds m->IsLs G vs n->IsLs G (CJ ds off vs) (ck m off n)
 |[],ds,n,m,off,h,k=>by rw[eD.1 k];exact h
 |v::vs,ds,n,m,off,h,k=>by
  obtain⟨y,n',rfl,h1,h2⟩:=bE.1 k;exact(h.set off h1).ov h2
end
inductive FV where
 |d (x:DV)
 /-- a pointer to cells that are written no more -/
 |ep (l:List DV)
 /-- a pointer to a cell of element i of a row of the call's own -/
 |be (x:SV) (s i j:Nat)
 /-- a slice without room behind it -/
 |ct (l:List DV)
abbrev li:=List (Nat×FV)
variable {fr':li}
def Sq(G:Gh):FV->Value->Prop
 | .d x,y=>Is G x y
 | .ep l,y=> ∃b off cs m,y= .pointer (some ⟨b,off,none⟩)/\G b=some cs/\co cs off l.length=some m/\IsLs G l m
 | .be x s i j,y=> ∃b,x.a=some ⟨b,0,none⟩/\y= .pointer (some ⟨b,i*s+j,none⟩)
 | .ct l,y=>(∃a n,y= .slice a n n)/\Is G (.sl l) y
def BK(G:Gh):li->Fr->Prop
 |[],m=>m=[]
 |(k,f)::t,m=> ∃y n,m=(k,y)::n/\Sq G f y/\BK G t n
structure ju where
 b:Nat
 cs:List DV
 ty:TypeId
 lo:Bool
variable {own':List ju}
structure il where
 x:SV
 s:Nat
 ty:TypeId
 ds:List DV
 lo:Bool
variable {bs bs':List il}
def LY(G:Gh):List ju->List av->Prop
 |[],m=>m=[]
 |o::t,m=> ∃cs n,m=⟨o.b,cs,o.ty,o.lo⟩::n/\IsLs G o.cs cs/\LY G t n
def cH(G:Gh)(β:il)(B:List av):Prop:=
 ∃vs,i4 β.s β.ty β.x vs B/\IsLs G β.ds vs/\(∀v∈vs,(aH v).length=β.s)/\(β.lo=true-> ∀o∈B,o.lo=true)
def Je(G:Gh):List il->List av->Prop
 |[],m=>m=[]
 |β::t,m=> ∃B n,m=B++n/\cH G β B/\Je G t n
def OB(G:Gh)(own:List ju)(bs:List il)(ov:List av):Prop:= ∃a b,ov=a++b/\LY G own a/\Je G bs b
structure Sr (GB G:Gh) (fr:li) (own:List ju) (bs:List il) (frv:Fr) (ov:List av):Prop where
 gb:bA GB G
 fr:BK G fr frv
 ob:OB G own bs ov
structure sk where
 fr:Fr
 own:List av
variable {E:sk}
structure SD (GB:Gh) (C:aD) (n:Nat) (E:sk) (fr:li) (own:List ju) (bs:List il) (Φ:Act->World->Prop):Prop where
 run: ∀G frv ov,Sr GB G fr own bs frv ov->St C n (frv++E.fr) (ov++E.own) G Φ
instance {GB:Gh} {C:aD} {n:Nat} {E:sk} {fr:li} {own:List ju} {bs:List il} {Φ:Act->World->Prop}:CoeFun (SD GB C n E fr own bs Φ) (fun _=> ∀G frv ov,Sr GB G fr own bs frv ov->St C n (frv++E.fr) (ov++E.own) G Φ):=⟨SD.run⟩
section
variable {n:Nat}{fr:li}{own:List ju}
def PF(GB:Gh)(P:Program)(f:FuncId)(ds:List DV)(r:DV):Prop:=
 ∀G vs,bA GB G->IsLs G ds vs->Fn P f vs G (fun v G'=>Is G' r v)
def PM(GB:Gh)(P:Program)(f:FuncId)(ds:List DV)(b:Nat)(ty:TypeId)(cs:List DV)(r:DV)(cs':List DV):Prop:=
 ∀G vs m lo,bA GB G->IsLs G ds vs->IsLs G cs m->kl P f vs [⟨b,m,ty,lo⟩] G (fun v css G'=>Is G' r v/\ ∃m',css=[m']/\IsLs G' cs' m')
def ic:List DV->DV
 |[d]=>d
 |l=> .tp l
def xI{ds:List DV}(h:IsLs G ds vs):Is G (ic ds) (my vs):=by
 match ds,h with
 |[],h=>rw[eD.1 h];exact mj.2 ⟨[],J, .nil⟩
 |[d],h=>
  obtain⟨y,m,rfl,h1,h2⟩:=bE.1 h;rw[eD.1 h2];exact h1
 |a::b::t,h=>
  obtain⟨y,m,rfl,h1,h2⟩:=bE.1 h;obtain⟨z,m',rfl,h3,h4⟩:=bE.1 h2;exact mj.2 ⟨_,J,h⟩
end
def Cu{cs:List Value}{o k:Nat}(h:co cs o k=some l):l.length=k:=(pf _ _ _ _ h).1
def BA: ∀{cs m:List Value} {o k:Nat},co cs o k=some m-> ∀{d:Nat},d<=k->co cs (o+d) (k-d)=some (m.drop d)
 |cs,m,o,k,h,0,_=>by simpa using h
 |[],m,0,0,h,d+1,hd=>by omega
 |v::t,m,0,0,h,d+1,hd=>by omega
 |[],m,0,k+1,h,d+1,hd=>by simp[co] at h
 |v::t,m,0,k+1,h,d+1,hd=>by
  simp only[co] at h;split at h
  .rename_i l hl
   cases h
   have:=BA hl (d:=d) pb;rw[eX] at this;rw[eX,Nat.add_sub_add_right,sY];exact this
  .cases h
 |[],m,o+1,k,h,d+1,hd=>by simp[co] at h
 |v::t,m,o+1,k,h,d+1,hd=>by
  simp only[co] at h;have:=BA h (d:=d+1) hd;rw[show o+1+(d+1)=(o+(d+1))+1 by omega];exact this
def EE: ∀{cs m:List Value} {o k:Nat},co cs o k=some m-> ∀{j:Nat},j<=k->co cs o j=some (m.take j)
 |cs,m,0,k,h,0,_=>by cases cs<;>rfl
 |[],m,0,0,h,j+1,hd=>by omega
 |v::t,m,0,0,h,j+1,hd=>by omega
 |[],m,0,k+1,h,j+1,hd=>by simp[co] at h
 |v::t,m,0,k+1,h,j+1,hd=>by
  simp only[co] at h;split at h
  .rename_i l hl
   cases h
   have:=EE hl (j:=j) pb;simp[co,this]
  .cases h
 |[],m,o+1,k,h,j,hd=>by simp[co] at h
 |v::t,m,o+1,k,h,j,hd=>by
  simp only[co] at h⊢;exact EE h hd
def xJ{j k:Nat}(h:co m j k=some l):j+k<=m.length/\l=(m.drop j).take k:=by
 obtain⟨h1,h2⟩:=pf _ _ _ _ h;have hle:j<=m.length:=by
  clear h1 h2
  induction m generalizing j with
  |nil=>cases j with
   |zero=>exact bZ _
   |succ j=>simp[co] at h
  |cons v t ih=>cases j with
   |zero=>exact aL _
   |succ j=>have:=ih (j:=j) h;simp;omega
 have hlen:j+k<=m.length:=by
  rcases fJ k with h0|h0
  .omega
  .have h3:=h2 (k-1) pb
   rw[aQ (by omega:k-1<l.length)] at h3;have:=(aS.1 h3).1;omega
 rw[ks _ _ _ hlen] at h
 cases h
 exact⟨hlen,J⟩
def Pg{cs:List Value}{o s j k:Nat}(h:co cs o s=some m)(hm:co m j k=some l):co cs (o+j) k=some l:=by
 obtain⟨h1,rfl⟩:=xJ hm;have hl:=Cu h;have h2:=BA h (d:=j) pb;exact EE h2 (j:=k) pb
def S2{cs:List Value}{o:Nat}{v:Value}:co cs o 1=some [v]↔cs[o]? =some v:=by
 constructor
 .intro h
  obtain⟨_,h2⟩:=pf _ _ _ _ h;simpa using h2 0 pb
 .intro h
  obtain⟨h1,h2⟩:=aS.1 h;rw[ks _ _ _ pb,bW h1,nY,h2];rfl
def Nr{j k:Nat}(h:co m j k=some l)(hi:i<k):m[j+i]? =l[i]? :=(pf _ _ _ _ h).2 i hi
section
variable {n:Nat}{fr:li}{own:List ju}
variable {gd:Option (Nat×Bool)}{x y z:Operand}{s:Nat}
def cH.elem{β:il}(h:cH G β B){d:DV}(hi:β.ds[i]? =some d)(hd:d.okc=true):
  ∃b m rest lo l,β.x.a=some ⟨b,0,none⟩/\B=[⟨b,m++rest,β.ty,lo⟩]/\co (m++rest) (i*β.s) β.s=some l/\IsLs G d.cells l:=by
 obtain⟨vs,hB,hv,hs,_⟩:=h;obtain⟨v,h1,h2⟩:=hv.get hi;rcases hB with⟨e,_,_⟩|⟨b,rest,lo,h3,h4,h5,h6,h7⟩
 .rw[e] at h1;simp at h1
 .obtain⟨h8,h9⟩:=aS.1 h1
  refine⟨b,aG vs,rest,lo,aH v,by rw[h3],h4,?_,(h2.cells hd).1⟩;have:=Es (rest:=rest) hs h8;rw[h9] at this;exact this
def IsLs.all{G:Gh}: ∀{l:List DV} {m:List Value},IsLs G l m-> ∀v∈m,∃d∈l,Is G d v
 |[],m,h,v,hv=>by rw[eD.1 h] at hv;cases hv
 |d::t,m,h,v,hv=>by
  obtain⟨y,n,rfl,h1,h2⟩:=bE.1 h;rcases aT.1 hv with rfl|hv
  .exact⟨d,aZ,h1⟩
  .obtain⟨d',hd,h3⟩:=h2.all v hv
   exact⟨d',aK _ hd,h3⟩
def gy.sub{s:Nat}{x:SV}(h:gy G s x es)(lo hi mx:Nat)(h1:lo<=hi)(h2:hi<=es.length)(h3:hi<=mx)(_h4:mx<=x.c):
  gy G s ⟨if mx=lo then x.a else x.a.map (·.add (lo*s)),hi-lo,mx-lo⟩ ((es.take hi).drop lo):=by
 refine⟨by simp;omega,by simp only[];omega,?_⟩;rcases h.mem with h0|⟨b,off,cs,ha,hg,hc⟩
 .left;simp[h0]
 .by_cases he:hi=lo
  .left;simp[he]
  .right
   refine⟨b,off+lo*s,cs,?_,hg,fun i hi'=>?_⟩
   .simp only[]
    rw[if_neg pb,ha];simp[qb]
   .simp only[gU,bR] at hi'
    have:=hc (lo+i) pb;rw[kX,<-cN,this];simp
def cd(s:Nat)(l:List DV):Prop:= ∀d∈l,d.okc=true/\d.cells.length=s
def xp{l:List DV}{s:Nat}{w:SV}(hsl:gy G s' w es)(hl:IsLs G l es)(ho:cd s l):es=[]\/s'=s:=by
 rcases hsl.mem with h|⟨b,off,cs,ha,hg,hcs⟩
 .exact .inl h
 .cases es with
  |nil=>exact .inl J
  |cons v t=>
   right;have h1:=hcs 0 v8;have h2:=Cu h1;obtain⟨d,hd,h3⟩:=hl.all v aZ;obtain⟨h4,h5⟩:=ho d hd;have:=(h3.cells h4).1.len;simp only[oX] at h2;omega
end
section
variable {n:Nat}{fr:li}{own:List ju}{x:Operand}
end
inductive FX where
 |d (x:DV)
 /-- a pointer to cells that are written no more -/
 |ep (l:List DV)
 /-- an interface around a pointer to cells that are written no more -/
 |ip (t:TypeId) (l:List DV)
 /-- a known slice; it may be block nm's -/
 |ri (nm:Nat) (x:SV)
 /-- a pointer into a variable -/
 |ov (nm off:Nat)
 /-- a row -/
 |rw(nm:Nat)
 /-- a pointer into element i of a row -/
 |be (nm s i j:Nat)
 /-- a slice of n elements of a row, from element off on -/
 |rs (nm s off n:Nat)
 /-- a slice without room behind it -/
 |ct (l:List DV)
 |tt
 |ff
 |pr (p:Prop) (h:Decidable p)
 |nl
 /-- an aggregate (or a tuple) with one row in it -/
 |bx (tp:Bool) (pre:List DV) (nm:Nat) (post:List DV)
 |un
 /-- nothing is known -/
 |no
abbrev NE:=Nat->SV
variable {ρ ρ':NE}
def bB(ρ:NE)(G:Gh):FX->Value->Prop
 | .d x,y=>Is G x y
 | .ep l,y=> ∃b off cs m,y= .pointer (some ⟨b,off,none⟩)/\G b=some cs/\co cs off l.length=some m/\IsLs G l m
 | .ip t l,y=> ∃u,y= .iface t u/\Is G (.pt l) u
 | .ri _ x,y=>y= .slice x.a x.n x.c
 | .ov nm off,y=> ∃b,(ρ nm).a=some ⟨b,0,none⟩/\y= .pointer (some ⟨b,off,none⟩)
 | .rw nm,y=>y= .slice (ρ nm).a (ρ nm).n (ρ nm).c
 | .be nm s i j,y=> ∃b,(ρ nm).a=some ⟨b,0,none⟩/\y= .pointer (some ⟨b,i*s+j,none⟩)
 | .rs nm s off n,y=> ∃b c,(ρ nm).a=some ⟨b,0,none⟩/\y= .slice (some ⟨b,off*s,none⟩) n c/\n<=c
 | .ct l,y=>(∃a n,y= .slice a n n)/\Is G (.sl l) y
 | .tt,y=>y= .bool true
 | .ff,y=>y= .bool false
 | .pr p h,y=>y= .bool (@decide p h)
 | .nl,y=>y= .slice none 0 0
 | .bx tp pre nm post,y=> ∃m1 m2,y=(bif tp then Value.tuple ⟨m1++Value.slice (ρ nm).a (ρ nm).n (ρ nm).c::m2⟩ else .agg ⟨m1++Value.slice (ρ nm).a (ρ nm).n (ρ nm).c::m2⟩)/\IsLs G pre m1/\IsLs G post m2
 | .un,y=>y=undef
 | .no,_=>True
def cP(ρ:NE)(G:Gh):List FX->List Value->Prop
 |[],m=>m=[]
 |f::t,m=> ∃y n,m=y::n/\bB ρ G f y/\cP ρ G t n
def FX.nm:FX->Option Nat
 | .ov n _=>some n
 | .rw n=>some n
 | .be n _ _ _=>some n
 | .rs n _ _ _=>some n
 | .ri n _=>some n
 | .bx _ _ n _=>some n
 |_=>none
section
def bB.up{A:Gh}{f:FX}{y:Value}(h:bB ρ A f y)(k:bA A G):bB ρ G f y:=by
 cases f with
 |d x=>exact Is.up h k
 |ep l=>obtain⟨b,off,cs,m,e,hb,ht,hl⟩:=h;exact⟨b,off,cs,m,e,k _ _ hb,ht,hl.up k⟩
 |ip t l=>obtain⟨u,e,h⟩:=h;exact⟨u,e,h.up k⟩
 |ct l=>exact⟨h.1,h.2.up k⟩
 |bx tp pre nm post=>obtain⟨m1,m2,e,h1,h2⟩:=h;exact⟨m1,m2,e,h1.up k,h2.up k⟩
 |_=>exact h
def bB.ren{f:FX}(h:bB ρ G f y)(k: ∀n,f.nm=some n->ρ' n=ρ n):bB ρ' G f y:=by
 cases f with
 |ov n o=>have e:=k n J;simp only[bB] at h⊢;rw[e];exact h
 |rw n=>have e:=k n J;simp only[bB] at h⊢;rw[e];exact h
 |be n s i j=>have e:=k n J;simp only[bB] at h⊢;rw[e];exact h
 |rs n s i j=>have e:=k n J;simp only[bB] at h⊢;rw[e];exact h
 |bx tp pre n post=>have e:=k n J;simp only[bB] at h⊢;rw[e];exact h
 |_=>exact h
def cP.up{A:Gh}(k:bA A G): ∀{l:List FX} {m:List Value},cP ρ A l m->cP ρ G l m
 |[],_,h=>h
 |_::_,_,⟨y,n,e,h1,h2⟩=>⟨y,n,e,h1.up k,h2.up k⟩
def cP.ren{ρ':NE}: ∀{l:List FX} {m:List Value},cP ρ G l m->(∀f∈l,∀n,f.nm=some n->ρ' n=ρ n)->cP ρ' G l m
 |[],_,h,_=>h
 |f::t,_,⟨y,n,e,h1,h2⟩,k=>⟨y,n,e,h1.ren (k f aZ),h2.ren fun g hg=>k g (aK _ hg)⟩
def cP.len: ∀{l:List FX} {m:List Value},cP ρ G l m->m.length=l.length
 |[],m,h=>by rw[show m=[] from h];rfl
 |f::t,m,⟨y,n,e,h1,h2⟩=>by subst e;simp[h2.len]
def cP.get: ∀{l:List FX} {m:List Value} {i:Nat} {f:FX},cP ρ G l m->l[i]? =some f-> ∃y,m[i]? =some y/\bB ρ G f y
 |[],m,i,f,h,e=>by simp at e
 |x::t,m,0,f,⟨y,n,e1,h1,h2⟩,e=>by subst e1;simp at e;subst e;exact⟨y,J,h1⟩
 |x::t,m,i+1,f,⟨y,n,e1,h1,h2⟩,e=>by subst e1;simp at e;simpa using h2.get e
def cP.set: ∀{a:List FX} {m:List Value} (k:Nat) {f:FX} {y:Value},cP ρ G a m->bB ρ G f y->cP ρ G (a.set k f) (m.set k y)
 |[],m,k,f,y,h,_=>by rw[show m=[] from h];rfl
 |x::t,m,0,f,y,⟨u,n,e,h1,h2⟩,k=>by subst e;exact⟨y,n,J,k,h2⟩
 |x::t,m,j+1,f,y,⟨u,n,e,h1,h2⟩,k=>by subst e;exact⟨u,n.set j y,J,h1,h2.set j k⟩
end
def ka:FX->Option DV
 | .d x=>some x
 | .ct l=>some (.sl l)
 | .tt=>some (.v (.bool true))
 | .ff=>some (.v (.bool false))
 | .pr p h=>some (.v (.bool (@decide p h)))
 | .nl=>some (.sl [])
 |_=>none
def mh{f:FX}{d:DV}(h:bB ρ G f y)(e:ka f=some d):Is G d y:=by
 cases f with
 |d x=>cases e;exact h
 |ct l=>cases e;exact h.2
 |tt=>cases e;exact bh.2 h
 |ff=>cases e;exact bh.2 h
 |pr p i=>cases e;exact bh.2 h
 |nl=>cases e;rw[show y= .slice none 0 0 from h];exact ie.2 ⟨0,⟨none,0,0⟩,[],J, .nil G 0, .nil⟩
 |_=>cases e
def gO:List FX->Option (List DV)
 |[]=>some []
 |f::t=>match ka f,gO t with
  |some d,some l=>some (d::l)
  |_,_=>none
def oq{ρ:NE}{G:Gh}: ∀{l:List FX} {ds:List DV} {m:List Value},cP ρ G l m->gO l=some ds->IsLs G ds m
 |[],ds,m,h,e=>by cases e;rw[show m=[] from h];exact .nil
 |f::t,ds,m,⟨y,n,e1,h1,h2⟩,e=>by
  subst e1;simp only[gO] at e;split at e
  .rename_i d l hd hl
   cases e
   exact .cons (mh h1 hd) (oq h2 hl)
  .cases e
def FX.okc:FX->Bool
 | .d x=>x.okc
 | .bx false pre _ post=>(DV.ag pre).okc&&(DV.ag post).okc
 | .bx true _ _ _=>false
 | .un=>false
 | .no=>false
 |_=>true
def FX.cells:FX->List FX
 | .d (.ag l)=>l.map .d
 | .bx false pre nm post=>pre.map .d++ .rw nm::post.map .d
 |f=>[f]
def cP.app{ρ:NE}{G:Gh}: ∀{a b:List FX} {m n:List Value},cP ρ G a m->cP ρ G b n->cP ρ G (a++b) (m++n)
 |[],b,m,n,h,k=>by rw[show m=[] from h];exact k
 |f::t,b,m,n,⟨y,q,e,h1,h2⟩,k=>by subst e;exact⟨y,q++n,J,h1,h2.app k⟩
def px{ρ:NE}{G:Gh}: ∀{l:List DV} {m:List Value},IsLs G l m->cP ρ G (l.map .d) m
 |[],m,h=>eD.1 h
 |d::t,m,h=>by
  obtain⟨y,n,rfl,h1,h2⟩:=bE.1 h;exact⟨y,n,J,h1,px h2⟩
def bB.cells{ρ:NE}{G:Gh}{f:FX}{y:Value}(h:bB ρ G f y)(k:f.okc=true):cP ρ G f.cells (aH y)/\ ∀v∈aH y,Go.Sx.flat v=true:=by
 have one: ∀g:FX,bB ρ G g y->Go.Sx.flat y=true->cP ρ G [g] (aH y)/\ ∀v∈aH y,Go.Sx.flat v=true:=fun g hg hf=>by
  rw[wv hf];exact⟨⟨y,[],J,hg,J⟩,fun v hv=>by rw[aW.1 hv];exact hf⟩
 cases f with
 |d x=>
  cases x with
  |ag l=>
   obtain⟨m,rfl,hm⟩:=eO.1 (show Is G (.ag l) y from h);exact⟨px hm,hm.flat k⟩
  |_=>exact one _ h (Is.flat (show Is G _ y from h) k)
 |ep l=>obtain⟨b,off,cs,m,rfl,_⟩:=h;exact one (.ep l) ⟨b,off,cs,m,rfl,oma⟩ rfl
 |ip t l=>obtain⟨u,rfl,hu⟩:=h;exact one (.ip t l) ⟨u,rfl,hu⟩ rfl
 |ri nm x=>cases h;exact one (.ri nm x) J J
 |ov nm off=>obtain⟨b,hb,rfl⟩:=h;exact one (.ov nm off) ⟨b,hb,rfl⟩ rfl
 |rw nm=>cases h;exact one (.rw nm) J J
 |be nm s i j=>obtain⟨b,hb,rfl⟩:=h;exact one (.be nm s i j) ⟨b,hb,rfl⟩ rfl
 |rs nm s i j=>obtain⟨b,c,hb,rfl,hc⟩:=h;exact one (.rs nm s i j) ⟨b,c,hb,rfl,hc⟩ rfl
 |ct l=>obtain⟨⟨a,n,rfl⟩,h2⟩:=h;exact one (.ct l) ⟨⟨a,n,rfl⟩,h2⟩ rfl
 |tt=>cases h;exact one .tt J J
 |ff=>cases h;exact one .ff J J
 |pr p i=>cases h;exact one (.pr p i) J J
 |nl=>cases h;exact one .nl J J
 |bx tp pre nm post=>
  cases tp with
  |true=>cases k
  |false=>
   obtain⟨m1,m2,rfl,h1,h2⟩:=h;simp only[FX.okc,bV] at k;refine⟨(px h1).app ⟨_,m2,J,J,px h2⟩,fun v hv=>?_⟩;rcases bJ.1 (show v∈m1++_::m2 from hv) with hv|hv
   .exact h1.flat k.1 v hv
   .rcases aT.1 hv with rfl|hv
    .rfl
    .exact h2.flat k.2 v hv
 |un=>cases k
 |no=>cases k
inductive Bk where
 |o (ty:TypeId) (cs:List FX) (lo:Bool)
 |b (ty:TypeId) (s:Nat) (ds:List DV) (lo:Bool)
 /-- a row with room for cap elements in all -/
 |c (ty:TypeId) (s:Nat) (ds:List DV) (cap:Nat)
 /-- a row whose slice is known -/
 |p (x:SV) (ty:TypeId) (s:Nat) (ds:List DV)
variable {B':Bk}
def i6(ρ:NE)(G:Gh)(nm:Nat):Bk->List av->Prop
 | .o ty cs lo,B=> ∃b m,(ρ nm).a=some ⟨b,0,none⟩/\B=[⟨b,m,ty,lo⟩]/\cP ρ G cs m
 | .b ty s ds lo,B=> ∃vs,i4 s ty (ρ nm) vs B/\IsLs G ds vs/\(∀v∈vs,(aH v).length=s)/\(lo=true-> ∀o∈B,o.lo=true)
 | .c ty s ds cap,B=> ∃vs,i4 s ty (ρ nm) vs B/\IsLs G ds vs/\(∀v∈vs,(aH v).length=s)/\(∀o∈B,o.lo=true)/\cap<=(ρ nm).c
 | .p x ty s ds,B=>ρ nm=x/\ ∃vs,i4 s ty x vs B/\IsLs G ds vs/\(∀v∈vs,(aH v).length=s)/\(∀o∈B,o.lo=true)
def Bk.men(n:Nat):Bk->Prop
 | .o _ cs _=> ∃f∈cs,f.nm=some n
 | .b .. =>False
 | .c .. =>False
 | .p .. =>False
section
variable {nm:Nat}{B:Bk}
def i6.up{A:Gh}(h:i6 ρ A nm B os)(k:bA A G):i6 ρ G nm B os:=by
 cases B with
 |o ty cs lo=>obtain⟨b,m,h1,h2,h3⟩:=h;exact⟨b,m,h1,h2,h3.up k⟩
 |b ty s ds lo=>obtain⟨vs,h1,h2,h3,h4⟩:=h;exact⟨vs,h1,h2.up k,h3,h4⟩
 |c ty s ds cap=>obtain⟨vs,h1,h2,h3,h4⟩:=h;exact⟨vs,h1,h2.up k,h3,h4⟩
 |p x ty s ds=>obtain⟨h0,vs,h1,h2,h3,h4⟩:=h;exact⟨h0,vs,h1,h2.up k,h3,h4⟩
def i6.ren{ρ':NE}(h:i6 ρ G nm B os)(h0:ρ' nm=ρ nm)(k: ∀n,B.men n->ρ' n=ρ n):i6 ρ' G nm B os:=by
 cases B with
 |o ty cs lo=>obtain⟨b,m,h1,h2,h3⟩:=h;exact⟨b,m,by rw[h0];exact h1,h2,h3.ren fun f hf n hn=>k n ⟨f,hf,hn⟩⟩
 |b ty s ds lo=>obtain⟨vs,h1,h2,h3,h4⟩:=h;exact⟨vs,by rw[h0];exact h1,h2,h3,h4⟩
 |c ty s ds cap=>obtain⟨vs,h1,h2,h3,h4,h5⟩:=h;exact⟨vs,by rw[h0];exact h1,h2,h3,h4,by rw[h0];exact h5⟩
 |p x ty s ds=>obtain⟨h1,h2⟩:=h;exact⟨by rw[h0];exact h1,h2⟩
def i6.blk(h:i6 ρ G nm B os){o:av}(ho:o∈os):(ρ nm).a=some ⟨o.b,0,none⟩:=by
 cases B with
 |o ty cs lo=>obtain⟨b,m,h1,rfl,h3⟩:=h;rw[aW.1 ho];exact h1
 |b ty s ds lo=>
  obtain⟨vs,h1,_⟩:=h;rcases h1 with⟨_,_,rfl⟩|⟨b,rest,lo',e,rfl,_⟩
  .cases ho
  .rw[aW.1 ho,e]
 |c ty s ds cap=>
  obtain⟨vs,h1,_⟩:=h;rcases h1 with⟨_,_,rfl⟩|⟨b,rest,lo',e,rfl,_⟩
  .cases ho
  .rw[aW.1 ho,e]
 |p x ty s ds=>
  obtain⟨h0,vs,h1,_⟩:=h;rcases h1 with⟨_,_,rfl⟩|⟨b,rest,lo',e,rfl,_⟩
  .cases ho
  .rw[aW.1 ho,h0,e]
def i6.mem_of(h:i6 ρ G nm B os){b:Nat}(hb:(ρ nm).a=some ⟨b,0,none⟩): ∃o∈os,o.b=b:=by
 cases B with
 |o ty cs lo=>obtain⟨b',m,h1,rfl,h3⟩:=h;rw[h1] at hb;cases hb;exact⟨_,aZ,rfl⟩
 |b ty s ds lo=>
  obtain⟨vs,h1,_⟩:=h;rcases h1 with⟨_,e,rfl⟩|⟨b',rest,lo',e,rfl,_⟩
  .rw[e] at hb;cases hb
  .rw[e] at hb;cases hb;exact⟨_,aZ,J⟩
 |c ty s ds cap=>
  obtain⟨vs,h1,_⟩:=h;rcases h1 with⟨_,e,rfl⟩|⟨b',rest,lo',e,rfl,_⟩
  .rw[e] at hb;cases hb
  .rw[e] at hb;cases hb;exact⟨_,aZ,J⟩
 |p x ty s ds=>
  obtain⟨h0,vs,h1,_⟩:=h;rcases h1 with⟨_,e,rfl⟩|⟨b',rest,lo',e,rfl,_⟩
  .rw[h0,e] at hb;cases hb
  .rw[h0,e] at hb;cases hb;exact⟨_,aZ,J⟩
end
abbrev LK:=Nat->Option FX
variable {lk tl:LK}
abbrev BM:=Nat->Option Bk
variable {bk tb:BM}
structure bz (GB:Gh) (C:aD) (n:Nat) (lk:LK) (bk:BM) (ρ:NE) (G:Gh) (ov:List av) (a:Act) (w:World):Prop where
 gb:bA GB G
 h:bu C ov G w
 sz:a.tmps.size=n
 df:a.defers=C.mks
 fx: ∀k f,lk k=some f-> ∃y,a.tmps[k]? =some y/\bB ρ G f y
 bx: ∀nm B,bk nm=some B-> ∃os,i6 ρ G nm B os/\ ∀o∈os,o∈ov
 dj: ∀nm nm' B B',bk nm=some B->bk nm'=some B'->nm≠nm'-> ∀b,(ρ nm).a=some ⟨b,0,none⟩->(ρ nm').a≠some ⟨b,0,none⟩
 fxd: ∀nm p,n<=nm->2000000<=nm->C.fx nm=some p->(ρ nm).a=some p
structure SX (GB:Gh) (C:aD) (n:Nat) (lk:LK) (bk:BM) (Φ:Act->World->Prop):Prop where
 run: ∀ρ G ov a w,bz GB C n lk bk ρ G ov a w->Φ a w
def iO(f g:Nat->Option α):Prop:= ∀k x,f k=some x->g k=some x
def iO.refl(f:Nat->Option α):iO f f:=fun _ _ h=>h
def dm(lk:LK)(d:Option Nat)(f:FX):LK:=match d with
 |some d=>fun k=>if k=d then some f else lk k
 |none=>lk
def upB:BM->List (Nat×Option Bk)->BM
 |tb,[]=>tb
 |tb,(nm,B)::t=>upB (fun k=>if k=nm then B else tb k) t
def ir(nw:List Nat)(dst:Option Nat)(tl:LK)(tb:BM):Prop:=
 ∀nm∈nw,(∀k f,some k≠dst->tl k=some f->f.nm≠some nm)/\ ∀k B,k≠nm->tb k=some B-> ¬B.men nm
section
variable {n:Nat}{ov:List av}
def bz.mono(h:bz GB C n tl tb ρ G ov a w)(h1:iO lk tl)(h2:iO bk tb):bz GB C n lk bk ρ G ov a w:=
 ⟨h.gb,h.h,h.sz,h.df,fun k f e=>h.fx k f (h1 _ _ e),fun k B e=>h.bx k B (h2 _ _ e),fun k k' B B' e e'=>h.dj k k' B B' (h2 _ _ e) (h2 _ _ e'),h.fxd⟩
def SX.imp(h:SX GB C n lk bk Φ)(k: ∀a w,Φ a w->Ψ a w):SX GB C n lk bk Ψ:=⟨fun ρ G ov a w r=>k _ _ (h.run ρ G ov a w r)⟩
structure tn (C:aD) (n:Nat) (a:Act) (dst:Option Nat) (y:Value) (a':Act):Prop where
 sz:a'.tmps.size=n
 df:a'.defers=C.mks
 old: ∀k v,a.tmps[k]? =some v->dst≠some k->a'.tmps[k]? =some v
 new: ∀d,dst=some d->a'.tmps[d]? =some y
def tn.fx{f:FX}(p:tn C n a dst y a')(h: ∀k g,some k≠dst->lk k=some g-> ∃u,a.tmps[k]? =some u/\bB ρ' G' g u)(hy:bB ρ' G' f y)(k:Nat)(g:FX)(e:dm lk dst f k=some g):
  ∃u,a'.tmps[k]? =some u/\bB ρ' G' g u:=by
 by_cases hk:some k=dst
 .subst hk
  simp only[dm,if_true] at e;cases e;exact⟨y,p.new _ J,hy⟩
 .have e':lk k=some g:=by
   cases dst with
   |none=>exact e
   |some d=>simpa[dm,show k≠d from fun c=>hk (c▸rfl)] using e
  obtain⟨u,h1,h2⟩:=h k g hk e';exact⟨u,p.old _ _ h1 (Ne.symm hk),h2⟩
theorem okE{p:Prop}(h:p:=by rw[e]):p:=h
def bz.putA(r:bz GB C n lk bk ρ G ov a w)(y:Value)(hd:bP n dst=true):tn C n a dst y (a.put dst y):=by
 refine⟨by rw[OE];exact r.sz,by rw[Ox];exact r.df,fun k v h hk=>?_,fun d hk=>?_⟩
 .cases dst with
  |none=>exact h
  |some d=>simp only[Act.put,dV];rw[if_neg (fun e=>hk okE)];exact h
 .subst hk
  have hdn:d<a.tmps.size:=by rw[r.sz];simpa[bP,jN] using hd
  simp[Act.put,dV,hdn]
def bz.put(r:bz GB C n lk bk ρ G ov a w){f:FX}(hy:bB ρ G f y)(hp:tn C n a dst y a'):bz GB C n (dm lk dst f) bk ρ G ov a' w:=
 ⟨r.gb,r.h,hp.sz,hp.df,hp.fx (fun k g _ e=>r.fx k g e) hy,r.bx,r.dj,r.fxd⟩
def b8(a:Act):Fr:=mG 0 a.tmps.toList
def b9(a:Act):kh (b8 a) a:=fun k v h=>by
 obtain⟨j,e,h2⟩:=tG _ _ _ _ h;rw[eX] at e;subst e;simpa using h2
def ua: ∀(vs:List Value) (i j:Nat) (v:Value),vs[j]? =some v->iq (mG i vs) (i+j)=some v
 |[],i,j,v,h=>by simp at h
 |x::t,i,0,v,h=>by simp at h;subst h;simp[mG,iq]
 |x::t,i,j+1,v,h=>by
  simp at h;have:=ua t (i+1) j v h;rw[show i+(j+1)=i+1+j by omega];simp only[mG,tF];rw[if_neg pb];exact this
def iA(h:gh C n (Sx.put (b8 a) dst y) ov' G' a' w'):tn C n a dst y a':=by
 refine⟨h.sz,h.df,fun k v hk hd=>?_,fun d hd=>?_⟩
 .have:=ua a.tmps.toList 0 k v ozo
  rw[eX] at this
  cases dst with
  |none=>exact h.fr k v this
  |some d=>exact h.fr k v (by simp only[Sx.put,tF];rw[if_neg (fun e=>hd okE)];exact this)
 .subst hd;exact h.fr d y (by simp[Sx.put,tF])
def BO{k:Nat}{v:Value}(h:a.tmps[k]? =some v):iq (b8 a) k=some v:=by
 have:=ua a.tmps.toList 0 k v omu;simpa[b8] using this
def ba(lk:LK):Operand->Option FX
 | .tmp k=>lk k
 | .const (.bool true)=>some .tt
 | .const (.bool false)=>some .ff
 | .const (.slice none 0 0)=>some .nl
 | .const v=>some (.d (.v v))
 | .global g=>some (.d (.v (.pointer (some ⟨g,0,none⟩))))
 | .func f=>some (.d (.v (.func (.func f) #[] #[])))
def bz.ev(r:bz GB C n lk bk ρ G ov a w){x:Operand}{f:FX}(e:ba lk x=some f): ∃y,aB (b8 a) x=some y/\bB ρ G f y:=by
 cases x with
 |tmp k=>obtain⟨y,h1,h2⟩:=r.fx k f e;exact⟨y,BO h1,h2⟩
 |const v=>
  refine⟨v,J,?_⟩;unfold ba at e;split at e
  all_goals simp only[Operand.const.injEq,reduceCtorEq] at*
  all_goals (cases e;subst_vars;first|exact J|exact(bh (G:=G)).2 J)
 |global g=>cases e;exact⟨_,J,(bh (G:=G)).2 J⟩
 |func g=>cases e;exact⟨_,J,(bh (G:=G)).2 J⟩
def evD(lk:LK)(x:Operand):Option DV:=match ba lk x with
 |some f=>ka f
 |none=>none
def bz.evD(r:bz GB C n lk bk ρ G ov a w){x:Operand}{d:DV}(e:Sx.evD lk x=some d): ∃y,aB (b8 a) x=some y/\Is G d y:=by
 unfold Sx.evD at e;split at e
 .rename_i f hf
  obtain⟨y,h1,h2⟩:=r.ev hf;exact⟨y,h1,mh h2 e⟩
 .cases e
def evDs(lk:LK):List Operand->Option (List DV)
 |[]=>some []
 |x::t=>match evD lk x,evDs lk t with
  |some d,some l=>some (d::l)
  |_,_=>none
def bz.evDs(r:bz GB C n lk bk ρ G ov a w): ∀{x:List Operand} {l:List DV},Sx.evDs lk x=some l-> ∃y,fm (b8 a) x=some y/\IsLs G l y
 |[],l,e=>by cases e;exact⟨[],J, .nil⟩
 |x::t,l,e=>by
  simp only[Sx.evDs] at e;split at e
  .rename_i d l' hd hl'
   cases e
   obtain⟨y,h1,h2⟩:=r.evD hd;obtain⟨ys,h3,h4⟩:=r.evDs hl';exact⟨y::ys,by simp only[fm,h1,h3], .cons h2 h4⟩
  .cases e
def bz.upB(r:bz GB C n lk bk ρ G ov a w){nm:Nat}{B':Bk}{os:List av}{ov':List av}{G':Gh}{w':World}(hg:bA G G')(hh:bu C ov' G' w')(hB:i6 ρ G' nm B' os)(hos: ∀o∈os,o∈ov')
  (hk: ∀o∈ov,(ρ nm).a≠some ⟨o.b,0,none⟩->o∈ov')(hn: ∃B,bk nm=some B):bz GB C n lk (upB bk [(nm,some B')]) ρ G' ov' a w':=by
 obtain⟨B0,hB0⟩:=hn;refine⟨r.gb.trans hg,hh,r.sz,r.df,fun k f e=>?_,fun m B e=>?_,fun m m' B B2 e e' hne=>?_,r.fxd⟩
 .obtain⟨y,h1,h2⟩:=r.fx k f e;exact⟨y,h1,h2.up hg⟩
 .simp only[Sx.upB] at e
  by_cases hm:m=nm
  .subst hm;simp only[if_true] at e;cases e;exact⟨os,hB,hos⟩
  .simp only[hm,if_false] at e
   obtain⟨os',h1,h2⟩:=r.bx m B e;refine⟨os',h1.up hg,fun o ho=>hk o (h2 o ho) fun hc=>?_⟩;exact r.dj m nm B B0 e hB0 hm _ (h1.blk ho) hc
 .simp only[Sx.upB] at e e'
  by_cases hm:m=nm<;>by_cases hm':m'=nm
  .exact absurd (hm.trans hm'.symm) hne
  .subst hm;simp only[hm',if_false] at e';exact r.dj m m' B0 B2 hB0 e' hne
  .subst hm';simp only[hm,if_false] at e;exact r.dj m m' B B0 e hB0 hne
  .simp only[hm,hm',if_false] at e e';exact r.dj m m' B B2 e e' hne
def bz.dropB(r:bz GB C n lk bk ρ G ov a w)(nm:Nat):bz GB C n lk (Sx.upB bk [(nm,none)]) ρ G ov a w:=
 r.mono (iO.refl _) fun k B e=>by
  simp only[Sx.upB] at e;split at e
  .cases e
  .exact e
def pw{m nm:Nat}(x:SV)(h:m≠nm):(fun k=>if k=nm then x else ρ k) m=ρ m:=if_neg h
theorem okA{p:Prop}(h:p:=by rw[<-hc];exact hq):p:=h
def bz.new'(r:bz GB C n tl tb ρ G ov a w){nm:Nat}{x:SV}{f:FX}(hf:ir [nm] dst tl tb)(hg:bA G G')(hh:bu C ov' G' w')
  (hB:i6 (fun k=>if k=nm then x else ρ k) G' nm B' os)(hos: ∀o∈os,o∈ov')(hov: ∀m B,m≠nm->tb m=some B-> ∀o∈ov,(ρ m).a=some ⟨o.b,0,none⟩->o∈ov'/\x.a≠some ⟨o.b,0,none⟩)
  (hy:bB (fun k=>if k=nm then x else ρ k) G' f y)(hp:tn C n a dst y a')(hdn:dst=some nm:=by rfl):bz GB C n (dm tl dst f) (Sx.upB tb [(nm,some B')]) (fun k=>if k=nm then x else ρ k) G' ov' a' w':=by
 obtain⟨f1,f2⟩:=hf nm aZ;refine⟨r.gb.trans hg,hh,hp.sz,hp.df,hp.fx (fun k g hk e=>?_) hy,fun m B e=>?_,fun m m' B B2 e e' hne=>?_,fun m p hm hm2 e=>?_⟩
 .obtain⟨u,h1,h2⟩:=r.fx k g e
  exact⟨u,h1,(h2.up hg).ren fun m hm=>pw x fun hc=>f1 k g hk e (by rw[hm,hc])⟩
 .simp only[Sx.upB] at e
  by_cases hm:m=nm
  .subst hm;simp only[if_true] at e;cases e;exact⟨os,hB,hos⟩
  .simp only[hm,if_false] at e
   obtain⟨os',h1,h2⟩:=r.bx m B e;exact⟨os',(h1.up hg).ren (if_neg hm) fun q hq=>pw x fun hc=>f2 m B hm e okA,fun o ho=>(hov m B hm e o (h2 o ho) (h1.blk ho)).1⟩
 .simp only[Sx.upB] at e e'
  by_cases hm:m=nm<;>by_cases hm':m'=nm
  .exact absurd (hm.trans hm'.symm) hne
  .subst hm;simp only[hm',if_false] at e'
   intro b hb hb';simp only[if_true] at hb;rw[if_neg hm'] at hb';obtain⟨os',h1,h2⟩:=r.bx m' B2 e';obtain⟨o,ho,rfl⟩:=h1.mem_of hb';exact(hov m' B2 hm' e' o (h2 o ho) hb').2 hb
  .subst hm';simp only[hm,if_false] at e
   intro b hb hb';simp only[if_true] at hb';rw[if_neg hm] at hb;obtain⟨os',h1,h2⟩:=r.bx m B e;obtain⟨o,ho,rfl⟩:=h1.mem_of hb;exact(hov m B hm e o (h2 o ho) hb).2 hb'
  .simp only[hm,hm',if_false] at e e'
   intro b hb hb';rw[if_neg hm] at hb;rw[if_neg hm'] at hb';exact r.dj m m' B B2 e e' hne b hb hb'
 .have hlt:nm<n:=by
   obtain⟨h,_⟩:=fZ.1 (hp.new nm hdn);rw[hp.sz] at h;exact h
  rw[if_neg pb];exact r.fxd m p hm hm2 e
def bz.new(r:bz GB C n tl tb ρ G ov a w){nm:Nat}{x:SV}{f:FX}(hf:ir [nm] dst tl tb)(hg:bA G G')(hh:bu C ov' G' w')
  (hB:i6 (fun k=>if k=nm then x else ρ k) G' nm B' os)(hos: ∀o∈os,o∈ov')(hov: ∀o∈ov,o∈ov')(hnew: ∀o∈ov,x.a≠some ⟨o.b,0,none⟩)
  (hy:bB (fun k=>if k=nm then x else ρ k) G' f y)(hp:tn C n a dst y a')(hdn:dst=some nm:=by rfl):bz GB C n (dm tl dst f) (Sx.upB tb [(nm,some B')]) (fun k=>if k=nm then x else ρ k) G' ov' a' w':=
 r.new' hf hg hh hB hos (fun _ _ _ _ o ho _=>⟨hov o ho,hnew o ho⟩) hy hp hdn
end
def bD(P:Program)(GB:Gh)(C:aD)(n:Nat)(lk:LK)(bk:BM)(o:Oper)(f:FX)(bl:List (Nat×Option Bk))(nw:List Nat):Prop:=
 bP n o.dst=true-> ∀(tl:LK) (tb:BM) (K:Act->World->Prop),iO lk tl->iO bk tb->ir nw o.dst tl tb->SX GB C n (dm tl o.dst f) (upB tb bl) K->SX GB C n tl tb (fun a w=> ∀Q,o.wp P a w K Q)
section
variable {n:Nat}{f:FX}
def bD.yd{o:Oper}(h: ∀ρ G ov a w,bz GB C n lk bk ρ G ov a w-> ∃y,bB ρ G f y/\Yd P C (b8 a) ov G o y):bD P GB C n lk bk o f [] []:=by
 intro hd tl tb K h1 h2 _ hk;refine⟨fun ρ G ov a w r Q=>?_⟩;obtain⟨y,hy,hY⟩:=h ρ G ov a w (r.mono h1 h2);exact j0 (hY a w (b9 a) r.h) (hk.run ρ G ov _ w (r.put hy (r.putA y hd)))
end
inductive TK where
 |st (fo:List (Nat×Nat×Nat))
 |sl (e s b:Nat)
 |int (k:IntKind)
 |bl
 |pt
 |fc
 |sc
 |o
structure TI where
 k:TK
 sz:Nat
 z:Option (List FX)
 za:Bool
def HG:Option Value->Bool
 |some (.agg _)=>true
 |_=>false
def ul:Value->FX
 | .slice none 0 0=> .nl
 | .bool true=> .tt
 | .bool false=> .ff
 |v=> .d (.v v)
def tN(P:Program):List Field->Option (List (Nat×Nat×Nat))
 |[]=>some []
 |f::t=>match P.info? f.type,tN P t with
  |some i,some l=>some ((f.offset,f.type,i.size)::l)
  |_,_=>none
def jv(P:Program)(t:TypeId):TK:=match P.underlying t with
 |some (.struct fs)=>match tN P fs.toList with
  |some l=> .st l
  |none=> .o
 |some (.slice e)=>match P.info? e with
  |some i=> .sl e i.size i.bytes
  |none=> .o
 |some (.int k)=> .int k
 |some .bool=> .bl
 |some (.pointer _)=> .pt
 |some (.interface _)=> .fc
 |some (.array ..)=> .o
 |some .string=> .sc
 |_=> .o
def d7(P:Program)(t:TypeId):Option TI:=match P.info? t with
 |some i=>some ⟨jv P t,i.size,i.zero.map fun v=>(aH v).map ul,HG i.zero⟩
 |none=>none
abbrev TT:=List (Nat×TI)
def di:TT->Nat->Option TI
 |[],_=>none
 |(k,v)::t,j=>bif Nat.beq k j then some v else di t j
def lg(P:Program)(T:TT):Prop:= ∀t i,di T t=some i->d7 P t=some i
def lg.of{P:Program}: ∀{T:TT},T.map (fun e=>some e.2)=T.map (fun e=>d7 P e.1)->lg P T
 |[],_,t,i,h=>by cases h
 |(k,v)::T,e,t,i,h=>by
  simp only[cZ,List.cons.injEq] at e;simp only[di] at h
  cases hb:Nat.beq k t with
  |true=>rw[hb] at h;cases h;rw[<-aR hb];exact e.1.symm
  |false=>rw[hb] at h;exact lg.of e.2 t i h
def Tm(ρ:NE)(G:Gh)(v:Value):bB ρ G (ul v) v:=by
 unfold ul;split
 .exact J
 .exact J
 .exact J
 .exact(bh (G:=G)).2 J
def Ii(ρ:NE)(G:Gh): ∀m:List Value,cP ρ G (m.map ul) m
 |[]=>rfl
 |v::m=>⟨v,m,J,Tm ρ G v,Ii ρ G m⟩
section
variable {i:TI}
def oc(h:d7 P t=some i): ∃j,P.info? t=some j/\i=⟨jv P t,j.size,j.zero.map fun v=>(aH v).map ul,HG j.zero⟩:=by
 unfold d7 at h;split at h
 .rename_i j hj;cases h;exact⟨j,hj,rfl⟩
 .cases h
def o5{d:TypeDesc}(h:P.underlying t=some d)(w:World):(underlying t).run P w= .ok d w:=by
 show(program>>=_).run P w=_;rw[aP (w':=w) (a:=P) J,h];rfl
def WK(h:P.info? t=some j)(w:World):(typeInfo t).run P w= .ok j w:=by
 show(program>>=_).run P w=_;rw[aP (w':=w) (a:=P) J,h];rfl
def tk(h:P.info? t=some j)(w:World):(sizeOf t).run P w= .ok j.size w:=by
 show(typeInfo t>>=_).run P w=_;rw[aP (WK h w)];rfl
def BT{d:TypeDesc}(h:P.underlying t=some d)(w:World):(isAgg t).run P w= .ok (match d with| .struct _| .array _ _=>true|_=>false) w:=by
 show(underlying t>>=_).run P w=_;rw[aP (o5 h w)]
 cases d<;>rfl
def TI.ag(i:TI):Option (Option Nat):=match i.k with
 | .st _=>some (some i.sz)
 | .o=>none
 |_=>bif Nat.beq i.sz 1 then some none else none
theorem vp{k:Nat}(h:d7 P t=some i)(hk:i.ag=some (some k)):la P t k:=by
 obtain⟨j,h1,rfl⟩:=oc h;unfold TI.ag at hk
 cases e:jv P t with
 |st fo=>
  simp only[e] at hk;cases hk;unfold jv at e;split at e<;>first|(cases e;done)|skip
  .rename_i fs hu;exact⟨fun w=>BT hu w,fun w=>tk h1 w⟩
  .split at e<;>cases e
 |o=>simp only[e] at hk;cases hk
 |_=>simp only[e,cond_eq_ite] at hk;split at hk<;>cases hk
theorem ui(h:d7 P t=some i)(hk:i.ag=some none):kI P t:=by
 obtain⟨j,h1,rfl⟩:=oc h;unfold TI.ag at hk;have key:j.size=1->(∀w,(isAgg t).run P w= .ok false w)->kI P t:=fun e1 e2=>⟨e2,fun w=>by rw[tk h1 w,e1]⟩
 cases e:jv P t with
 |st fo=>simp only[e] at hk;cases hk
 |o=>simp only[e] at hk;cases hk
 |_=>
  simp only[e,cond_eq_ite] at hk;split at hk
  .rename_i hb
   refine key (aR hb) fun w=>?_;unfold jv at e;split at e<;>first|(cases e;done)|skip
   all_goals first
    |(rename_i hu;rw[BT hu w];done)
    |(split at e<;>first|(cases e;done)|(rename_i hu _ _ _;rw[BT hu w];done))
  .cases hk
def y8{z:List FX}(h:d7 P t=some i)(hz:i.z=some z): ∃v,iv P t v/\ ∀ρ G,cP ρ G z (aH v):=by
 obtain⟨j,h1,rfl⟩:=oc h
 cases hv:j.zero with
 |none=>simp only[hv] at hz;cases hz
 |some v=>
  simp only[hv] at hz;cases hz;exact⟨v,⟨by rw[h1];simp[hv]⟩,fun ρ G=>Ii ρ G _⟩
def GY: ∀{fs:List Field} {l:List (Nat×Nat×Nat)} {k off ft s:Nat},tN P fs=some l->l[k]? =some (off,ft,s)-> ∃f,fs[k]? =some f/\f.offset=off/\f.type=ft/\ ∃j,P.info? ft=some j/\j.size=s
 |[],l,k,off,ft,s,h,e=>by cases h;simp at e
 |f::fs,l,k,off,ft,s,h,e=>by
  simp only[tN] at h;split at h
  .rename_i j l' hj hl
   cases h
   cases k with
   |zero=>simp at e;obtain⟨rfl,rfl,rfl⟩:=e;exact⟨f,rfl,rfl,rfl,j,hj,rfl⟩
   |succ k=>simp at e;obtain⟨g,h1,h2⟩:=GY hl e;exact⟨g,by simpa using h1,h2⟩
  .cases h
def KM: ∀{fs:List Field} {l:List (Nat×Nat×Nat)},tN P fs=some l-> ∀w,(fs.mapM (m:=Sem) fun f=>do pure (f.offset,<-sizeOf f.type)).run P w= .ok (l.map fun x=>(x.1,x.2.2)) w
 |[],l,h,w=>by cases h;rfl
 |f::fs,l,h,w=>by
  simp only[tN] at h;split at h
  .rename_i j l' hj hl
   cases h
   rw[qR];have h1:(do pure (f.offset,<-sizeOf f.type):Sem (Nat×Nat)).run P w= .ok (f.offset,j.size) w:=by
    rw[aP (tk hj w)];rfl
   rw[aP h1,aP (KM hl w)];rfl
  .cases h
def F7{fo:List (Nat×Nat×Nat)}(h:d7 P t=some i)(hk:i.k= .st fo): ∃fs,P.underlying t=some (.struct fs)/\tN P fs.toList=some fo:=by
 obtain⟨j,h1,rfl⟩:=oc h;have e:jv P t= .st fo:=hk;unfold jv at e;split at e<;>first|(cases e;done)|skip
 .rename_i fs hu
  split at e
  .rename_i l hl;cases e;exact⟨fs,hu,hl⟩
  .cases e
 .split at e<;>cases e
theorem QU{fo:List (Nat×Nat×Nat)}{f s:Nat}(h:d7 P t=some i)(hk:i.k= .st fo)(hf:fo[f]? =some (off,ft,s)):FL P t f off ft:=by
 obtain⟨fs,hu,hl⟩:=F7 h hk;obtain⟨g,h1,h2,h3,_⟩:=GY hl hf;exact⟨fs,g,fun w=>o5 hu w,by simpa using h1,h2,h3⟩
theorem Tg{fo:List (Nat×Nat×Nat)}{f s:Nat}(h:d7 P t=some i)(hk:i.k= .st fo)(hf:fo[f]? =some (off,ft,s+1)):mo P t f off:=by
 obtain⟨fs,hu,hl⟩:=F7 h hk;obtain⟨g,h2,h3,h4,j,h5,h6⟩:=GY hl hf;refine⟨fun b o w=>?_⟩;unfold Instr.fieldAt;rw[aP (o5 hu w)];have h2':fs[f]? =some g:=by simpa using h2
 simp only[h2'];have:(fieldPlace ⟨b,o,none⟩ g).run P w= .ok (Addr.add ⟨b,o,none⟩ off) w:=by
  unfold fieldPlace;rw[h4,aP (tk h5 w),h6,h3];rfl
 show(fieldPlace ⟨b,o,none⟩ g>>=_).run P w=_;rw[aP this];rfl
theorem Nv{fo:List (Nat×Nat×Nat)}(h:d7 P t=some i)(hk:i.k= .st fo):DI P t (fo.map fun x=>(x.1,x.2.2)):=by
 obtain⟨fs,hu,hl⟩:=F7 h hk;refine⟨fs,fun w=>o5 hu w,fun w=>?_⟩;rw[Array.mapM_eq_mapM_toList,map_eq_pure_bind,aP (KM hl w)];rfl
theorem ji{s b:Nat}(h:d7 P t=some i)(hk:i.k= .sl e s b):cg P t e s b:=by
 obtain⟨j,h1,rfl⟩:=oc h;have e':jv P t= .sl e s b:=hk;unfold jv at e';split at e'<;>first|(cases e';done)|skip
 .split at e'<;>cases e'
 .rename_i el hu
  split at e'
  .rename_i q hq;cases e';exact⟨hu,by rw[hq];rfl⟩
  .cases e'
theorem wk{k:IntKind}(h:d7 P t=some i)(hk:i.k= .int k):tO P t k:=by
 obtain⟨j,h1,rfl⟩:=oc h;have e:jv P t= .int k:=hk;unfold jv at e;split at e<;>first|(cases e;done)|(split at e<;>cases e;done)|skip
 rename_i k' hu;cases e;exact⟨fun w=>o5 hu w⟩
theorem Vv(h:d7 P t=some i)(hk:i.k= .bl):DC P t:=by
 obtain⟨j,h1,rfl⟩:=oc h;have e:jv P t= .bl:=hk;unfold jv at e;split at e<;>first|(cases e;done)|(split at e<;>cases e;done)|skip
 rename_i hu;exact⟨fun w=>o5 hu w⟩
theorem Km(h:d7 P t=some i)(hk:i.k= .pt):Fg P t:=by
 obtain⟨j,h1,rfl⟩:=oc h;have e:jv P t= .pt:=hk;unfold jv at e;split at e<;>first|(cases e;done)|(split at e<;>cases e;done)|skip
 rename_i el hu;exact⟨el,fun w=>o5 hu w⟩
theorem V7(h:d7 P t=some i)(hk:i.k= .fc):F2 P t:=by
 obtain⟨j,h1,rfl⟩:=oc h;have e:jv P t= .fc:=hk;unfold jv at e;split at e<;>first|(cases e;done)|(split at e<;>cases e;done)|skip
 rename_i el hu;exact⟨el,fun w=>o5 hu w⟩
end
def kb{α β:Type}:List α->(List α->β)->β
 |[],k=>k []
 |x::t,k=>kb t fun t'=>k (x::t')
def re{α β:Type}: ∀(l:List α) (k:List α->β),kb l k=k l
 |[],_=>rfl
 |x::t,k=>by rw[kb,re t]
def takeX:List FX->Nat->Nat->Option (List FX)
 |_,0,0=>some []
 |[],0,_+1=>none
 |v::t,0,k+1=>match takeX t 0 k with|some l=>some (v::l)|none=>none
 |[],_+1,_=>none
 |_::t,off+1,k=>takeX t off k
def tH:List FX->Nat->List FX->List FX
 |[],_,_=>[]
 |c::t,0,vs=>match vs with
  |[]=>c::t
  |v::vs=>v::tH t 0 vs
 |c::t,off+1,vs=>c::tH t off vs
def MD: ∀(n:List Value) (off:Nat),ck [] off n=[]
 |[],_=>rfl
 |_::n,off=>MD n (off+1)
def Hk: ∀(n:List Value) (y:Value) (m:List Value) (off:Nat),ck (y::m) (off+1) n=y::ck m off n
 |[],_,_,_=>rfl
 |v::n,y,m,off=>Hk n y (m.set off v) (off+1)
section
def cP.takeX: ∀{ds:List FX} {m:List Value} {off k:Nat} {l:List FX},cP ρ G ds m->takeX ds off k=some l-> ∃n,co m off k=some n/\cP ρ G l n
 |[],m,0,0,l,h,e=>by cases e;rw[show m=[] from h];exact⟨[],J,J⟩
 |d::t,m,0,0,l,⟨y,n,e1,h1,h2⟩,e=>by subst e1;cases e;exact⟨[],J,J⟩
 |[],m,0,k+1,l,h,e=>by simp[Sx.takeX] at e
 |d::t,m,0,k+1,l,⟨y,n,e1,h1,h2⟩,e=>by
  subst e1;simp only[Sx.takeX] at e;split at e
  .rename_i l' hl'
   cases e
   obtain⟨q,hq,hl⟩:=h2.takeX hl';exact⟨y::q,by simp only[co,hq],y,q,J,h1,hl⟩
  .cases e
 |[],m,off+1,k,l,h,e=>by simp[Sx.takeX] at e
 |d::t,m,off+1,k,l,⟨y,n,e1,h1,h2⟩,e=>by subst e1;exact h2.takeX (off:=off) (k:=k) e
def cP.ov: ∀{ds:List FX} {m:List Value} {off:Nat} {vs:List FX} {n:List Value},cP ρ G ds m->cP ρ G vs n->cP ρ G (tH ds off vs) (ck m off n)
 |[],m,off,vs,n,h,k=>by rw[show m=[] from h,MD];rfl
 |d::t,m,0,[],n,h,k=>by rw[show n=[] from k];exact h
 |d::t,m,0,v::vs,n,⟨y,m',e,h1,h2⟩,⟨u,n',e',k1,k2⟩=>by
  subst e e';show cP ρ G (v::tH t 0 vs) (ck (u::m') 1 n');rw[Hk];exact⟨u,_,J,k1,h2.ov k2⟩
 |d::t,m,off+1,vs,n,⟨y,m',e,h1,h2⟩,k=>by
  subst e;rw[Hk];exact⟨y,_,J,h1,h2.ov k⟩
def z6:List FX->Option (List DV×Nat×List DV)
 |[]=>none
 |f::t=>match f with
  | .rw nm=>match gO t with
   |some post=>some ([],nm,post)
   |none=>none
  |f=>match ka f,z6 t with
   |some d,some (pre,nm,post)=>some (d::pre,nm,post)
   |_,_=>none
def IJ: ∀{l:List FX} {m:List Value} {pre:List DV} {nm:Nat} {post:List DV},cP ρ G l m->z6 l=some (pre,nm,post)-> ∃m1 m2,m=m1++Value.slice (ρ nm).a (ρ nm).n (ρ nm).c::m2/\IsLs G pre m1/\IsLs G post m2
 |[],m,pre,nm,post,h,e=>by cases e
 |f::t,m,pre,nm,post,⟨y,n,e1,h1,h2⟩,e=>by
  subst e1;simp only[z6] at e;split at e
  .split at e<;>cases e
   rename_i hp
   cases (show y=_ from h1)
   exact⟨[],n,J, .nil,oq h2 hp⟩
  .split at e<;>cases e
   rename_i hd hu;obtain⟨m1,m2,rfl,k1,k2⟩:=IJ h2 hu;exact⟨y::m1,m2,J, .cons (mh h1 hd) k1,k2⟩
def vh(l:List FX):Option FX:=match gO l with
 |some ds=>some (.d (.ag ds))
 |none=>match z6 l with
  |some (pre,nm,post)=>some (.bx false pre nm post)
  |none=>none
def F9{l:List FX}{f:FX}(h:cP ρ G l n)(e:vh l=some f):bB ρ G f (.agg ⟨n⟩):=by
 unfold vh at e;split at e
 .rename_i hd;cases e;exact eO.2 ⟨n,rfl,oq h hd⟩
 .split at e<;>cases e
  rename_i hu;obtain⟨m1,m2,rfl,k1,k2⟩:=IJ h hu;exact⟨m1,m2,J,k1,k2⟩
def Cs:Nat->List DV->Nat->List DV->Option FX
 |0,[],nm,_=>some (.rw nm)
 |i+1,[],_,post=>match post[i]? with
  |some d=>some (.d d)
  |none=>none
 |0,d::_,_,_=>some (.d d)
 |i+1,_::t,nm,post=>Cs i t nm post
def Kv: ∀{i:Nat} {pre:List DV} {nm:Nat} {post:List DV} {f:FX} {m1 m2:List Value},Cs i pre nm post=some f->IsLs G pre m1->IsLs G post m2-> ∃y,(m1++Value.slice (ρ nm).a (ρ nm).n (ρ nm).c::m2)[i]? =some y/\bB ρ G f y
 |0,[],nm,post,f,m1,m2,e,h1,h2=>by cases e;rw[eD.1 h1];exact⟨_,J,J⟩
 |i+1,[],nm,post,f,m1,m2,e,h1,h2=>by
  rw[eD.1 h1];simp only[Cs] at e;split at e<;>cases e;rename_i hp;obtain⟨l',h3,h4⟩:=h2.get hp;exact⟨l',by simpa using h3,h4⟩
 |0,d::t,nm,post,f,m1,m2,e,h1,h2=>by
  cases e
  obtain⟨y,n,rfl,k1,k2⟩:=bE.1 h1;exact⟨y,J,k1⟩
 |i+1,d::t,nm,post,f,m1,m2,e,h1,h2=>by
  obtain⟨y,n,rfl,k1,k2⟩:=bE.1 h1;obtain⟨u,h3,h4⟩:=Kv (i:=i) e k2 h2;exact⟨u,by simpa using h3,h4⟩
end
structure CR where
 vc:Option Prop
 f:FX
 bl:List (Nat×Option Bk)
 nw:List Nat
def kq:IntKind->IntKind->Bool
 | .i64, .i64=>true
 | .u64, .u64=>true
 | .u32, .u32=>true
 | .u8, .u8=>true
 | .i32, .i32=>true
 |_,_=>false
def AG{k j:IntKind}(h:kq k j=true):j=k:=by cases k<;>cases j<;>first|rfl|(simp[kq] at h)
def Hi(k:IntKind)(x:Int)(K:Prop->Option α):Option α:=match k with
 | .i64=>K (-9223372036854775808<=x/\x<=9223372036854775807)
 | .u64=>K (0<=x/\x<=18446744073709551615)
 | .u32=>K (0<=x/\x<=4294967295)
 | .u8=>K (0<=x/\x<=255)
 | .i32=>K (-2147483648<=x/\x<=2147483647)
 |_=>none
def U2{k:IntKind}{x:Int}{K:Prop->Option α}{r:α}(h:Hi k x K=some r): ∃p,K p=some r/\(p->k.min<=x/\x<=k.max):=by
 cases k<;>first|(simp[Hi] at h;done)|exact⟨_,h,id⟩
def vS(k:IntKind)(x:Int):Option (Option Prop×FX):=Hi k x fun p=>some (some p, .d (.v (.int k x)))
def w6(op:BinOp)(k:IntKind)(p q:Int):Option (Option Prop×FX):=match op with
 | .add=>vS k (p+q)
 | .sub=>vS k (p-q)
 | .mul=>vS k (p*q)
 | .quo=>match k with
  | .u64=>some (some (0<=p/\p<=18446744073709551615/\0<q), .d (.v (.int .u64 (p/q))))
  |k=>some (some (q≠0), .d (.v (.int k (k.wrap (p.tdiv q)))))
 | .rem=>match k with
  | .u64=>some (some (0<=p/\q≠0), .d (.v (.int .u64 (p%q))))
  | .u32=>some (some (0<=p/\q≠0), .d (.v (.int .u32 (p%q))))
  |k=>some (some (q≠0), .d (.v (.int k (p.tmod q))))
 | .shr=>some (some (0<=q), .d (.v (.int k (p.fdiv (2^min q.toNat k.bits)))))
 | .shl=>some (some (0<=q), .d (.v (.int k (k.wrap (p*2^min q.toNat k.bits)))))
 | .or=>match k with
  | .u64=>some (none, .d (.v (.int .u64 ((BitVec.ofInt 64 p ||| BitVec.ofInt 64 q).toNat:Nat))))
  | .u32=>some (none, .d (.v (.int .u32 ((BitVec.ofInt 32 p ||| BitVec.ofInt 32 q).toNat:Nat))))
  |_=>none
 | .and=>match k with
  | .u64=>some (none, .d (.v (.int .u64 ((BitVec.ofInt 64 p &&& BitVec.ofInt 64 q).toNat:Nat))))
  | .u32=>some (none, .d (.v (.int .u32 ((BitVec.ofInt 32 p &&& BitVec.ofInt 32 q).toNat:Nat))))
  |_=>none
 | .lss=>some (none, .pr (p<q) inferInstance)
 | .leq=>some (none, .pr (p<=q) inferInstance)
 | .gtr=>some (none, .pr (q<p) inferInstance)
 | .geq=>some (none, .pr (q<=p) inferInstance)
 | .eql=>some (none, .pr (p=q) inferInstance)
 | .neq=>some (none, .pr (p≠q) inferInstance)
 |_=>none
def qH:FX->Option Bool
 | .tt=>some true
 | .ff=>some false
 | .pr p h=>some (@decide p h)
 | .d (.v (.bool b))=>some b
 |_=>none
def uE{f:FX}{b:Bool}(h:bB ρ G f y)(e:qH f=some b):y= .bool b:=by
 unfold qH at e;split at e<;>first|(cases e;done)|(cases e;exact h)|(cases e;exact(bh (G:=G)).1 h)
def HH:FX->Option FX
 | .tt=>some .ff
 | .ff=>some .tt
 | .pr p h=>some (.pr (¬p) (@instDecidableNot p h))
 | .d (.v (.bool b))=>some (.d (.v (.bool (!b))))
 |_=>none
def Qu{f g:FX}(h:bB ρ G f y)(e:HH f=some g): ∃b,y= .bool b/\bB ρ G g (.bool (!b)):=by
 unfold HH at e;split at e
 .cases e;exact⟨true,h,J⟩
 .cases e;exact⟨false,h,J⟩
 .rename_i p hp
  cases e
  refine⟨@decide p hp,h,?_⟩;show Value.bool _= .bool _;congr 1
  cases hp<;>rfl
 .rename_i b;cases e;exact⟨b,(bh (G:=G)).1 h,(bh (G:=G)).2 rfl⟩
 .cases e
def Do(T:TT)(t:TypeId)(f:FX)(y:Operand):Option Bool:=match di T t with
 |some ⟨.fc,_,_,_⟩=>match y,f with
  | .const .nilIface, .d (.v .nilIface)=>some true
  | .const .nilIface, .d (.v (.iface _ _))=>some false
  |_,_=>none
 |some ⟨.pt,_,_,_⟩=>match y,f with
  | .const (.pointer none), .d (.v (.pointer none))=>some true
  | .const (.pointer none), .ov _ _=>some false
  | .const (.pointer none), .ep _=>some false
  | .const (.pointer none), .be _ _ _ _=>some false
  | .const (.pointer none), .d (.pt _)=>some false
  |_,_=>none
 |some ⟨.sl _ _ _,_,_,_⟩=>match y,f with
  | .const (.slice none _ _), .nl=>some true
  |_,_=>none
 |_=>none
def MB(T:TT)(op:BinOp)(t:TypeId)(b:Bool):Option (Option Prop×FX):=match di T t with
 |some ⟨.pt,_,_,_⟩=>match op with
  | .eql=>some (none, .pr (b=false) inferInstance)
  | .neq=>some (none, .pr (b=true) inferInstance)
  |_=>none
 |_=>none
def EW(T:TT)(op:BinOp)(t:TypeId)(f g:FX)(y:Operand):Option (Option Prop×FX):=
 match f,g with
 | .d (.v (.int k p)), .d (.v (.int j q))=>match op with
  | .shr=>w6 .shr k p q
  | .shl=>w6 .shl k p q
  |op=>bif kq k j then w6 op k p q else none
 | .d (.op b _), .d (.v (.pointer none))=>MB T op t b
 |f,g=>match Do T t f y with
  |some b=>match op with
   | .eql=>some (none,bif b then .tt else .ff)
   | .neq=>some (none,bif b then .ff else .tt)
   |_=>none
  |none=>match di T t,qH f,qH g with
   |some ⟨.bl,_,_,_⟩,some a,some b=>match op with
    | .eql=>some (none, .d (.v (.bool (a==b))))
    | .neq=>some (none, .d (.v (.bool (!(a==b)))))
    |_=>none
   |_,_,_=>none
def CF(mx:Bool)(f g:FX):Option FX:=match f,g with
 | .d (.v (.int k p)), .d (.v (.int j q))=>bif kq k j then(match mx with
  |true=>some (.d (.v (.int k (if q>p then q else p))))
  |false=>some (.d (.v (.int k (if q<p then q else p))))) else none
 |_,_=>none
def GK(bk:BM)(i:TI)(f:FX):Option FX:=match i.ag with
 |some (some k)=>match f with
  | .ov nm off=>match bk nm with
   |some (.o _ cs _)=>match takeX cs off k with
    |some l=>vh l
    |none=>none
   |_=>none
  | .ep cs=>match takeD cs 0 k with
   |some l=>some (.d (.ag l))
   |none=>none
  |_=>none
 |some none=>match f with
  | .ov nm off=>match bk nm with
   |some (.o _ cs _)=>cs[off]?
   |_=>none
  | .ep cs=>match cs with
   |d::_=>some (.d d)
   |[]=>none
  |_=>none
 |none=>none
def FX.flat:FX->Bool
 | .d x=>x.flat
 | .bx _ _ _ _=>false
 | .un=>false
 | .no=>false
 |_=>true
def vO(f:FX)(d:Nat):Bool:=match f.nm with
 |some m=>!Nat.beq m d
 |none=>true
def Ao(bk:BM)(i:TI)(fa fv:FX):Option (List (Nat×Option Bk)):=match fa with
 | .ov nm off=>match bk nm with
  |some (.o ty cs lo)=>match i.ag with
   |some (some k)=>bif fv.okc&&(Nat.beq fv.cells.length k&&Nat.ble (off+k) cs.length) then kb (tH cs off fv.cells) fun cs'=>some [(nm,some (.o ty cs' lo))] else none
   |some none=>bif fv.flat&&Nat.blt off cs.length then kb (cs.set off fv) fun cs'=>some [(nm,some (.o ty cs' lo))] else none
   |none=>none
  |_=>none
 |_=>none
def qf(lk:LK)(fo:List (Nat×Nat×Nat)):List FX->List (Nat×Operand)->Option (List FX)
 |cs,[]=>some cs
 |cs,(i,x)::r=>match fo[i]?,ba lk x with
  |some (off,_,k),some d=>bif d.okc&&(Nat.beq d.cells.length k&&Nat.ble (off+k) cs.length) then qf lk fo (tH cs off d.cells) r else none
  |_,_=>none
def GG(bk:BM)(f:FX):Option FX:=match f with
 | .nl=>some (.d (.v (.int .i64 0)))
 | .d (.sl l)=>some (.d (.v (.int .i64 (l.length:Nat))))
 | .ct l=>some (.d (.v (.int .i64 (l.length:Nat))))
 | .rw nm=>match bk nm with
  |some (.b _ _ ds _)=>some (.d (.v (.int .i64 (ds.length:Nat))))
  |_=>none
 |_=>none
def Gb(fo:List (Nat×Nat×Nat))(i:Nat)(f:FX):Option FX:=match fo[i]? with
 |some (off,_,_+1)=>match f with
  | .ov nm o=>some (.ov nm (o+off))
  | .ep l=>bif Nat.ble off l.length then kb (l.drop off) fun l'=>some (.ep l') else none
  | .be nm s i j=>some (.be nm s i (j+off))
  |_=>none
 |_=>none
def GQ(T:TT)(fo:List (Nat×Nat×Nat))(i:Nat)(f:FX):Option FX:=match f with
 | .d (.ag cs)=>match fo[i]? with
  |some (off,ft,_)=>match di T ft with
   |some j=>match j.ag with
    |some (some k)=>match takeD cs off k with
     |some l=>some (.d (.ag l))
     |none=>none
    |some none=>match cs[off]? with
     |some c=>some (.d c)
     |none=>none
    |none=>none
   |none=>none
  |none=>none
 |_=>none
def E1(T:TT)(t t':TypeId)(f:FX):Option (Option Prop×FX):=match di T t,di T t' with
 |some ⟨.int k,_,_,_⟩,some ⟨.int k',_,_,_⟩=>match f with
  | .d (.v (.int j p))=>bif kq k j then(match k' with
   | .u32=>some (none, .d (.v (.int .u32 (p%4294967296))))
   |k'=>vS k' p) else none
  |_=>none
 |_,_=>none
def Dy(T:TT)(bk:BM)(t:TypeId)(f g:FX):Option (Option Prop×FX):=match f with
 | .rw nm=>match bk nm with
  |some (.b _ s ds _)=>match di T t with
   |some ⟨.sl _ s' _,_,_,_⟩=>match g with
    | .d (.v (.int _ i))=>bif Nat.beq s s' then some (some (0<=i/\i<(ds.length:Nat)), .be nm s i.toNat 0) else none
    |_=>none
   |_=>none
  |_=>none
 |_=>none
def nf(r:Option FX):Option CR:=match r with
 |some f=>some ⟨none,f,[],[]⟩
 |none=>none
def uA(r:Option (Option Prop×FX)):Option CR:=match r with
 |some (v,f)=>some ⟨v,f,[],[]⟩
 |none=>none
def rO(lk:LK)(x y:Operand)(K:FX->FX->Option α):Option α:=match ba lk x with
 |some f=>match ba lk y with
  |some g=>K f g
  |none=>none
 |none=>none
def nj(lk:LK)(x:Operand)(K:FX->Option α):Option α:=match ba lk x with
 |some f=>K f
 |none=>none
def yz(T:TT)(t:TypeId)(K:List (Nat×Nat×Nat)->TI->Option α):Option α:=match di T t with
 |some ⟨.st fo,sz,z,za⟩=>K fo ⟨.st fo,sz,z,za⟩
 |_=>none
def zm(T:TT)(t:TypeId)(K:TI->Option α):Option α:=match di T t with
 |some i=>K i
 |none=>none
def E8(i:Nat)(f:FX):Option FX:=match f with
 | .d (.tp ds)=>match ds[i]? with
  |some d=>some (.d d)
  |none=>none
 | .bx true pre nm post=>Cs i pre nm post
 |_=>none
def F1(f:FX):Option (Option Prop×FX):=match f with
 | .ov a b=>some (none, .ov a b)
 | .ep l=>some (none, .ep l)
 | .be a b c d=>some (none, .be a b c d)
 | .d (.pt l)=>some (none, .ep l)
 | .d (.op b l)=>some (some (b=true), .ep l)
 |_=>none
def F0(c f g:FX):Option FX:=match c with
 | .tt=>some f
 | .ff=>some g
 |_=>none
def D4(op:UnOp)(f:FX):Option (Option Prop×FX):=match op with
 | .not=>match HH f with
  |some g=>some (none,g)
  |none=>none
 | .neg=>match f with
  | .d (.v (.int k p))=>vS k (-p)
  |_=>none
 |_=>none
def vb(T:TT)(lk:LK)(bk:BM)(dst:Option Nat)(op:Op):Option CR:=match op with
 | .move x=>nf (ba lk x)
 | .assign x=>nf (ba lk x)
 | .pick c x y=>nj lk c fun c=>rO lk x y fun f g=>nf (F0 c f g)
 | .alloc t=>match dst with
  |some d=>zm T t fun i=>match i.z with
   |some z=>kb z fun cs=>some ⟨none, .ov d 0,[(d,some (.o t cs true))],[d]⟩
   |none=>none
  |none=>none
 | .box t x=>match dst with
  |some d=>nj lk x fun f=>bif f.okc&&vO f d then kb f.cells fun cs=>some ⟨none, .ov d 0,[(d,some (.o t cs true))],[d]⟩ else none
  |none=>none
 | .nilCheck x=>nj lk x fun f=>uA (F1 f)
 | .fieldAddr t x i=>yz T t fun fo _=>nj lk x fun f=>nf (Gb fo i f)
 | .field t x i=>yz T t fun fo _=>nj lk x fun f=>nf (GQ T fo i f)
 | .load t x=>zm T t fun i=>nj lk x fun f=>nf (GK bk i f)
 | .store t x y=>zm T t fun i=>rO lk x y fun f g=>match Ao bk i f g with
  |some bl=>some ⟨none, .un,bl,[]⟩
  |none=>none
 | .extract x i=>nj lk x fun f=>nf (E8 i f)
 | .build t parts=>yz T t fun fo i=>match i.z with
  |some z=>match qf lk fo z parts.toList with
   |some cs=>match vh cs with
    |some f=>some ⟨none,f,[],[]⟩
    |none=>none
   |none=>none
  |none=>none
 | .binOp op t x y _=>rO lk x y fun f g=>uA (EW T op t f g y)
 | .unOp op _ x=>nj lk x fun f=>uA (D4 op f)
 | .convert t t' x=>nj lk x fun f=>uA (E1 T t t' f)
 | .indexAddr t x y=>rO lk x y fun f g=>uA (Dy T bk t f g)
 | .call ⟨.builtin .len,⟨[x]⟩,⟨[t]⟩⟩=>match di T t with
  |some ⟨.sl _ _ _,_,_,_⟩=>nj lk x fun f=>nf (GG bk f)
  |_=>none
 | .call ⟨.builtin .max,⟨[x,y]⟩,⟨[_,_]⟩⟩=>rO lk x y fun f g=>nf (CF true f g)
 | .call ⟨.builtin .min,⟨[x,y]⟩,⟨[_,_]⟩⟩=>rO lk x y fun f g=>nf (CF false f g)
 |_=>none
end Go.Sx
end
