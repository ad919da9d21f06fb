import Derived.Test.YtmhfhhiaecjhiaaGreatDoorBr2
set_option linter.all false
set_option maxRecDepth 100000
section
namespace Go.Sx
open Go
def gj(s:Nat)(ty:TypeId)(x:SV)(vs:List Value)(B:List au):Prop:=
 (vs=[]/\x=⟨none,0,0⟩/\B=[])\/
 ∃b rest lo,x=⟨some ⟨b,0,none⟩,vs.length,x.c⟩/\B=[⟨b,aG vs++rest,ty,lo⟩]/\(aG vs).length=vs.length*s/\(aG vs).length+rest.length=x.c*s/\vs.length<=x.c
def gj.nil(s:Nat)(ty:TypeId):gj s ty ⟨none,0,0⟩ [] []:= .inl ⟨J,J,J⟩
def gj.relo{s:Nat}{ty:TypeId}{x:SV}{vs:List Value}{B:List au}(h:gj s ty x vs B)(fl:Nat->Bool):gj s ty x vs (B.map (Go.Sx.relo fl)):=by
 rcases h with⟨h1,h2,h3⟩|⟨b,rest,lo,h1,h2,h3,h4,h5⟩
 .exact .inl ⟨h1,h2,by rw[h3];rfl⟩
 .exact .inr ⟨b,rest,fl b,h1,by rw[h2];rfl,h3,h4,h5⟩
def gj.asB{s:Nat}{ty:TypeId}{x:SV}{vs:List Value}{B:List au}(h:gj s ty x vs B):gj s ty x vs (asB B):=by
 rcases h with⟨h1,h2,h3⟩|⟨b,rest,lo,h1,h2,h3,h4,h5⟩
 .exact .inl ⟨h1,h2,by rw[h3];rfl⟩
 .exact .inr ⟨b,rest,false,h1,by rw[h2];rfl,h3,h4,h5⟩
def gj.len{s:Nat}{ty:TypeId}{x:SV}{vs:List Value}{B:List au}(h:gj s ty x vs B):x.n=vs.length:=by
 rcases h with⟨h1,h2,h3⟩|⟨b,rest,lo,h1,h2,h3,h4,h5⟩
 .rw[h2,h1];rfl
 .rw[h1]
def YE{M:List au}{m:au}(h:m∈M)(hl:m.lo=false):ju M m.b=false:=by
 refine List.all_eq_false.2 ⟨m,h,?_⟩;simp[hl]
def F7{M:List au}(b:Nat)(h: ∀m∈M,m.lo=true):ju M b=true:=by
 refine dT.2 fun m hm=>?_;simp[h m hm]
section
variable {P:Program} {C:aC} {n:Nat} {fr:Fr} {own own':List au} {G:Gh} {Φ:Act->World->Prop}
variable {dst:Option Nat} {t t' ty':TypeId} {pos:String} {af:Array Edge} {gd:Option (Nat×Bool)} {x y:Operand} {e s by_:Nat}
def akP[hT:cB P t e s by_][hN:jP P t']{z:Value}[hz:gk P e z]{w:SV}{vs:List Value}{v:Value}{B:List au}(L:List au){ad2:Option Addr}{cap2:Nat}
  (ho:own=L++B)(hB:gj s e w vs B)(hx:aD fr x=some (.slice w.a w.n w.c))(hy:aD fr y=some (.slice ad2 1 cap2))
  (hsy:kC P C own G s 1 (.slice ad2 1 cap2) (aE v))(hv:(aE v).length=s)(hf: ∀c∈aE v,flat c=true)
  (hby:0<by_)(hb:(vs.length+1)*by_<=140737488355328)(hzs:(aE z).length=s)(hd:cg n dst=true)
  (h: ∀w' B',gj s e w' (vs++[v]) B'->St C n (put fr dst (.slice w'.a w'.n w'.c)) (L++B') G Φ):
  Ch P C n fr own G ⟨dst, .call ⟨.builtin .append, #[x,y], #[t,t']⟩,ty',pos,af,gd⟩ Φ:=by
 subst ho;rcases hB with⟨h1,h2,h3⟩|⟨b,rest,lo,h1,h2,h3,h4,h5⟩
 .subst h1 h2 h3
  rw[iN] at hsy⊢;refine HK (z:=z) (xs:=[]) (ys:=aE v) hx hy (tO) hsy (by show 0<0+1;omega) hby (by simpa using hb) hd (fun b cap' hc=>?_);refine Cm (L++[⟨b,[]++aE v++dG z (cap'-(0+1)),e,true⟩]) ?_ (h ⟨some ⟨b,0,none⟩,1,cap'⟩ _ (.inr ⟨b,dG z (cap'-(0+1)),true,J,?_,?_,?_,by simpa using hc⟩))
  .exact(oR (l₁:=[_]) (l₂:=L))
  .simp[aG]
  .simp[aG,hv]
  .simp only[cZ,ug,hv,pd,hzs]
   obtain⟨c,rfl⟩: ∃c,cap'=c+1:=⟨cap'-1,by have:0+1<=cap':=hc;omega⟩;rw[show c+1-(0+1)=c by omega,fL,kK]
 .have hwc:w.a=some ⟨b,0,none⟩/\w.n=vs.length:=by rw[h1];exact⟨J,J⟩
  rw[hwc.1,hwc.2] at hx;subst h2;have hsub:i4 (L++[⟨b,aG vs++rest,e,lo⟩]) ⟨b,aG vs++rest,e,lo⟩ L:=by
   clear hsy h
   induction L with
   |nil=>exact .hd ..
   |cons a l ih=>exact .tl _ _ _ _ ih
  refine TN (z:=z) (xs:=aG vs) (ys:=aE v) (rest:=rest) hx hy hsub h3 h4 h5 hsy (by rw[hv,lL]) hf hby hb hzs hd (fun b' lo' cap' rest' hc hr=>?_);refine Cm (L++[⟨b',aG vs++aE v++rest',e,lo'⟩]) ?_ (h ⟨some ⟨b',0,none⟩,vs.length+1,cap'⟩ _ (.inr ⟨b',rest',lo',by simp,?_,?_,?_,by simpa using hc⟩))
  .exact(oR (l₁:=[_]) (l₂:=L))
  .rw[oc,ug]
  .rw[oc,ug,aL,h3,hv,aL,jX,fL]
  .rw[oc,ug,aL,h3,hv]
   rw[fL] at hr;show vs.length*s+s+rest'.length=cap'*s;omega
end
instance kl.nil (l:List au):kl [] l:=⟨kQ l⟩
def H4{C:aC}{n:Nat}{fr:Fr}{own own':List au}{G:Gh}{Φ:Act->World->Prop}(e:own=own')(h:St C n fr own' G Φ):St C n fr own G Φ:=e▸h
def HV{P:Program}{C:aC}{n:Nat}{fr:Fr}{own:List au}{G:Gh}{Φ:Act->World->Prop}{dst:Option Nat}{ty':TypeId}{pos:String}{af:Array Edge}{gd:Option (Nat×Bool)}{f:FuncId}{fo:Operand}{args:Array Operand}{tys:Array TypeId}{vs c1 c2:List Value}{M rest:List au}{K:Value->List au->Gh->Prop}(ho:aD fr fo=some (.func (.func f) ⟨c1⟩ ⟨c2⟩))(hv:f5 fr args.toList=some vs)
  (hp:own.Perm (M++rest))(hF:gE P f (c1++vs++c2) M G K)(hd:cg n dst=true)
  (h: ∀v own1 (G':Gh) (fl:Nat->Bool),[GE G G']->(∀m∈M,m.lo=false->fl m.b=false)->((∀m∈M,m.lo=true)-> ∀b,fl b=true)->K v own1 G'->St C n (put fr dst v) (own1.map (relo fl)++rest) G' Φ):
  Ch P C n fr own G ⟨dst, .call ⟨.value fo,args,tys⟩,ty',pos,af,gd⟩ Φ:=
 QX ho hv hp hF hd (fun v own1 G' _ hK=>h v own1 G' (ju M) (fun _ hm hl=>YE hm hl) (fun hl b=>F7 b hl) hK)
def M7{s:Nat}{rest:List Value}{x:Value}{j:Nat}(hj:j<s): ∀(vs:List Value) (n:Nat) (hn:n<vs.length),(∀v∈vs,(aE v).length=s)->
  (aG vs++rest).set (n*s+j) x=aG (vs.take n)++((aE vs[n]).set j x++(aG (vs.drop (n+1))++rest))
 |[],n,hn,_=>by simp at hn
 |v::vs,0,hn,h=>by
  have h2:=h v aQ;have e:aG (v::vs)=aE v++aG vs:=by simp[aG]
  rw[e,cN,jK,dL,List.set_append_left _ _ (by omega)];simp[aG]
 |v::vs,n+1,hn,h=>by
  have h2:=h v aQ;have ih:=M7 (rest:=rest) (x:=x) hj vs n (by simpa using hn) (fun u hu=>h u (aJ _ hu));have e:aG (v::vs)=aE v++aG vs:=by simp[aG]
  rw[e,cN,mT _ _ (by rw[h2,fL];omega),h2,show(n+1)*s+j-s=n*s+j by rw[fL];omega,ih];simp[aG]
def XA{C:aC}{n:Nat}{fr:Fr}{L B:List au}{G:Gh}{Φ:Act->World->Prop}{s:Nat}{ty:TypeId}{x:SV}{vs:List Value}(hC:C.mb=[])(hB:gj s ty x vs B)(hvs: ∀v∈vs,(aE v).length=s)
  (h: ∀G':Gh,[GE G G']->eB G' s x vs->St C n fr L G' Φ):St C n fr (L++B) G Φ:=by
 rcases hB with⟨h1,h2,h3⟩|⟨b,rest,lo,h1,h2,h3,h4,h5⟩
 .subst h1 h2 h3
  rw[iN];exact @h G ⟨bD.refl _⟩ (eB.nil _ _)
 .subst h2
  refine Cm (⟨b,aG vs++rest,ty,lo⟩::L) oR ?_;refine Sy hC ?_;refine P2 b (.hd ..) ?_;intro G' hG hg;refine @h G' hG ?_;rw[h1];exact eB.of_flat hvs hg.h h5
inductive DV where
 |v (x:Value)
 |ag (l:List DV)
 |tp (l:List DV)
 |pt (l:List DV)
 |op (b:Bool) (l:List DV)
 |sl (l:List DV)
mutual
def Is(G:Gh):DV->Value->Prop
 | .v x,y=>y=x
 | .ag l,y=> ∃m,y= .agg ⟨m⟩/\IsLs G l m
 | .tp l,y=> ∃m,y= .tuple ⟨m⟩/\IsLs G l m
 | .pt l,y=> ∃b m,y= .pointer (some ⟨b,0,none⟩)/\G b=some m/\IsLs G l m
 | .op b l,y=>(b=false/\y= .pointer none)\/(b=true/\ ∃b m,y= .pointer (some ⟨b,0,none⟩)/\G b=some m/\IsLs G l m)
 | .sl l,y=> ∃(s:Nat) (x:SV) (es:List Value),y= .slice x.a x.n x.c/\eB G s x es/\IsLs G l es
def IsLs(G:Gh):List DV->List Value->Prop
 |[],m=>m=[]
 |d::t,m=> ∃y n,m=y::n/\Is G d y/\IsLs G t n
end
mutual
def Is.up'{A G:Gh}(h:bD A G): ∀(d:DV) (y:Value),Is A d y->Is G d y
 | .v x,y,k=>by simp only[Is] at k⊢;exact k
 | .ag l,y,k=>by simp only[Is] at k⊢;obtain⟨m,e,k⟩:=k;exact⟨m,e,IsLs.up' h l m k⟩
 | .tp l,y,k=>by simp only[Is] at k⊢;obtain⟨m,e,k⟩:=k;exact⟨m,e,IsLs.up' h l m k⟩
 | .pt l,y,k=>by simp only[Is] at k⊢;obtain⟨b,m,e,hb,k⟩:=k;exact⟨b,m,e,h _ _ hb,IsLs.up' h l m k⟩
 | .op _ l,y,k=>by simp only[Is] at k⊢;exact k.imp id fun⟨e1,b,m,e,hb,k⟩=>⟨e1,b,m,e,h _ _ hb,IsLs.up' h l m k⟩
 | .sl l,y,k=>by simp only[Is] at k⊢;obtain⟨s,x,es,e,hs,k⟩:=k;exact⟨s,x,es,e,hs.up' h,IsLs.up' h l es k⟩
def IsLs.up'{A G:Gh}(h:bD A G): ∀(d:List DV) (y:List Value),IsLs A d y->IsLs G d y
 |[],y,k=>by simp only[IsLs] at k⊢;exact k
 |d::t,y,k=>by simp only[IsLs] at k⊢;obtain⟨u,n,e,h1,h2⟩:=k;exact⟨u,n,e,Is.up' h d u h1,IsLs.up' h t n h2⟩
end
section
variable {G:Gh}
def Is.up{A:Gh}{d:DV}{y:Value}(k:Is A d y)(h:bD A G):Is G d y:=Is.up' h d y k
def IsLs.up{A:Gh}{d:List DV}{y:List Value}(k:IsLs A d y)(h:bD A G):IsLs G d y:=IsLs.up' h d y k
def aP{x y:Value}:Is G (.v x) y↔y=x:=by simp only[Is]
def dm{l:List DV}{y:Value}:Is G (.ag l) y↔ ∃m,y= .agg ⟨m⟩/\IsLs G l m:=by simp only[Is]
def rP{l:List DV}{y:Value}:Is G (.tp l) y↔ ∃m,y= .tuple ⟨m⟩/\IsLs G l m:=by simp only[Is]
def l7{l:List DV}{y:Value}:Is G (.pt l) y↔ ∃b m,y= .pointer (some ⟨b,0,none⟩)/\G b=some m/\IsLs G l m:=by simp only[Is]
def tA{b:Bool}{l:List DV}{y:Value}:Is G (.op b l) y↔(b=false/\y= .pointer none)\/(b=true/\Is G (.pt l) y):=by simp only[Is]
def ie{l:List DV}{y:Value}:Is G (.sl l) y↔ ∃(s:Nat) (x:SV) (es:List Value),y= .slice x.a x.n x.c/\eB G s x es/\IsLs G l es:=by simp only[Is]
def ck{m:List Value}:IsLs G [] m↔m=[]:=by simp only[IsLs]
def bm{d:DV}{t:List DV}{m:List Value}:IsLs G (d::t) m↔ ∃y n,m=y::n/\Is G d y/\IsLs G t n:=by simp only[IsLs]
def IsLs.nil:IsLs G [] []:=ck.2 J
def IsLs.cons{d:DV}{t:List DV}{y:Value}{n:List Value}(h:Is G d y)(k:IsLs G t n):IsLs G (d::t) (y::n):=bm.2 ⟨y,n,J,h,k⟩
def IsLs.uncons{d:DV}{t:List DV}{y:Value}{n:List Value}(h:IsLs G (d::t) (y::n)):Is G d y/\IsLs G t n:=by
 obtain⟨u,m,e,h1,h2⟩:=bm.1 h
 cases e
 exact⟨h1,h2⟩
def IsLs.len: ∀{d:List DV} {m:List Value},IsLs G d m->m.length=d.length
 |[],m,h=>by rw[ck.1 h];rfl
 |d::t,m,h=>by
  obtain⟨y,n,rfl,_,h2⟩:=bm.1 h;simp[h2.len]
def IsLs.get: ∀{l:List DV} {m:List Value} {i:Nat} {d:DV},IsLs G l m->l[i]? =some d-> ∃y,m[i]? =some y/\Is G d y
 |[],m,i,d,h,e=>by simp at e
 |x::t,m,0,d,h,e=>by
  obtain⟨y,n,rfl,h1,h2⟩:=bm.1 h;simp at e;subst e;exact⟨y,J,h1⟩
 |x::t,m,i+1,d,h,e=>by
  obtain⟨y,n,rfl,h1,h2⟩:=bm.1 h;simp at e;simpa using h2.get e
def IsLs.app: ∀{a b:List DV} {m n:List Value},IsLs G a m->IsLs G b n->IsLs G (a++b) (m++n)
 |[],b,m,n,h,k=>by rw[ck.1 h];exact k
 |d::t,b,m,n,h,k=>by
  obtain⟨y,m',rfl,h1,h2⟩:=bm.1 h;exact .cons h1 (h2.app k)
def IsLs.unapp: ∀{a b:List DV} {m:List Value},IsLs G (a++b) m-> ∃x y,m=x++y/\IsLs G a x/\IsLs G b y
 |[],b,m,h=>⟨[],m,J, .nil,h⟩
 |d::t,b,m,h=>by
  obtain⟨y,m',rfl,h1,h2⟩:=bm.1 h;obtain⟨u,v,rfl,h3,h4⟩:=h2.unapp;exact⟨y::u,v,J, .cons h1 h3,h4⟩
def IsLs.drop: ∀{a:List DV} {m:List Value} (k:Nat),IsLs G a m->IsLs G (a.drop k) (m.drop k)
 |_,_,0,h=>h
 |[],m,k+1,h=>by rw[ck.1 h];exact .nil
 |d::t,m,k+1,h=>by
  obtain⟨y,m',rfl,h1,h2⟩:=bm.1 h;exact h2.drop k
def IsLs.take: ∀{a:List DV} {m:List Value} (k:Nat),IsLs G a m->IsLs G (a.take k) (m.take k)
 |_,_,0,h=> .nil
 |[],m,k+1,h=>by rw[ck.1 h];exact .nil
 |d::t,m,k+1,h=>by
  obtain⟨y,m',rfl,h1,h2⟩:=bm.1 h;exact .cons h1 (h2.take k)
def IsLs.set: ∀{a:List DV} {m:List Value} (k:Nat) {d:DV} {y:Value},IsLs G a m->Is G d y->IsLs G (a.set k d) (m.set k y)
 |[],m,k,d,y,h,_=>by rw[ck.1 h];exact .nil
 |x::t,m,0,d,y,h,k=>by
  obtain⟨u,m',rfl,h1,h2⟩:=bm.1 h;exact .cons k h2
 |x::t,m,j+1,d,y,h,k=>by
  obtain⟨u,m',rfl,h1,h2⟩:=bm.1 h;exact .cons h1 (h2.set j k)
end
def DV.flat:DV->Bool
 | .v x=>Go.Sx.flat x
 | .ag _=>false
 | .tp _=>false
 | .pt _=>true
 | .op .. =>true
 | .sl .. =>true
def DV.okc:DV->Bool
 | .ag l=>l.all DV.flat
 |d=>d.flat
def DV.cells:DV->List DV
 | .ag l=>l
 |d=>[d]
section
variable {G:Gh}
def Is.flat{d:DV}{y:Value}(h:Is G d y)(k:d.flat=true):Go.Sx.flat y=true:=by
 cases d with
 |v x=>rw[aP.1 h];exact k
 |ag l=>cases k
 |tp l=>cases k
 |pt l=>obtain⟨b,m,rfl,_⟩:=l7.1 h;rfl
 |op b l=>
  rcases tA.1 h with⟨_,rfl⟩|⟨_,h⟩
  .rfl
  .obtain⟨b,m,rfl,_⟩:=l7.1 h;rfl
 |sl l=>obtain⟨s,x,es,rfl,_⟩:=ie.1 h;rfl
def ym{y:Value}(h:Go.Sx.flat y=true):aE y=[y]:=by cases y<;>first|rfl|(simp[Go.Sx.flat] at h)
def IsLs.flat: ∀{l:List DV} {m:List Value},IsLs G l m->l.all DV.flat=true-> ∀v∈m,Go.Sx.flat v=true
 |[],m,h,_,v,hv=>by rw[ck.1 h] at hv;cases hv
 |d::t,m,h,k,v,hv=>by
  obtain⟨y,n,rfl,h1,h2⟩:=bm.1 h;simp only[rM,aM] at k;rcases aU.1 hv with rfl|hv
  .exact h1.flat k.1
  .exact h2.flat k.2 v hv
def Is.cells{d:DV}{y:Value}(h:Is G d y)(k:d.okc=true):IsLs G d.cells (aE y)/\ ∀v∈aE y,Go.Sx.flat v=true:=by
 cases d with
 |ag l=>obtain⟨m,rfl,hm⟩:=dm.1 h;exact⟨hm,hm.flat k⟩
 |_=>
  have:=h.flat k;rw[ym this];exact⟨.cons h .nil,fun v hv=>by rw[aY.1 hv];exact this⟩
end
def takeD:List DV->Nat->Nat->Option (List DV)
 |_,0,0=>some []
 |[],0,_+1=>none
 |v::t,0,k+1=>match takeD t 0 k with|some l=>some (v::l)|none=>none
 |[],_+1,_=>none
 |_::t,off+1,k=>takeD t off k
def zM:List DV->Nat->List DV->List DV
 |cs,_,[]=>cs
 |cs,off,v::vs=>zM (cs.set off v) (off+1) vs
section
variable {G:Gh}
def IsLs.takeD: ∀{ds:List DV} {m:List Value} {off k:Nat} {l:List DV},IsLs G ds m->takeD ds off k=some l-> ∃n,cA m off k=some n/\IsLs G l n
 |[],m,0,0,l,h,e=>by rw[ck.1 h];simp only[Sx.takeD] at e;cases e;exact⟨[],J, .nil⟩
 |d::t,m,0,0,l,h,e=>by
  obtain⟨y,m',rfl,h1,h2⟩:=bm.1 h;simp only[Sx.takeD] at e;cases e;exact⟨[],J, .nil⟩
 |[],m,0,k+1,l,h,e=>by simp[Sx.takeD] at e
 |d::t,m,0,k+1,l,h,e=>by
  obtain⟨y,m',rfl,h1,h2⟩:=bm.1 h;simp only[Sx.takeD] at e;split at e
  .rename_i l' hl'
   cases e
   obtain⟨n,hn,hl⟩:=h2.takeD hl';exact⟨y::n,by simp only[cA,hn], .cons h1 hl⟩
  .cases e
 |[],m,off+1,k,l,h,e=>by simp[Sx.takeD] at e
 |d::t,m,off+1,k,l,h,e=>by
  obtain⟨y,m',rfl,h1,h2⟩:=bm.1 h;exact h2.takeD (off:=off) (k:=k) e
def IsLs.ov: ∀{vs ds:List DV} {n m:List Value} {off:Nat},IsLs G ds m->IsLs G vs n->IsLs G (zM ds off vs) (cp m off n)
 |[],ds,n,m,off,h,k=>by rw[ck.1 k];exact h
 |v::vs,ds,n,m,off,h,k=>by
  obtain⟨y,n',rfl,h1,h2⟩:=bm.1 k;exact(h.set off h1).ov h2
end
inductive FV where
 |d (x:DV)
 /-- a pointer to cells that are written no more -/
 |ep (l:List DV)
 /-- a pointer to a cell of element i of a row of the call's own -/
 |be (x:SV) (s i j:Nat)
 /-- a slice kj room behind it -/
 |ct (l:List DV)
abbrev dP:=List (Nat×FV)
def JA(G:Gh):FV->Value->Prop
 | .d x,y=>Is G x y
 | .ep l,y=> ∃b off cs m,y= .pointer (some ⟨b,off,none⟩)/\G b=some cs/\cA cs off l.length=some m/\IsLs G l m
 | .be x s i j,y=> ∃b,x.a=some ⟨b,0,none⟩/\y= .pointer (some ⟨b,i*s+j,none⟩)
 | .ct l,y=>(∃a n,y= .slice a n n)/\Is G (.sl l) y
def tL:dP->Nat->Option FV
 |[],_=>none
 |(k,v)::t,j=>bif Nat.beq k j then some v else tL t j
def aKG(fr:dP)(dst:Option Nat)(v:FV):dP:=match dst with|some d=>(d,v)::fr|none=>fr
def CM(G:Gh):dP->Fr->Prop
 |[],m=>m=[]
 |(k,f)::t,m=> ∃y n,m=(k,y)::n/\JA G f y/\CM G t n
def GV(fr:dP):Operand->Option FV
 | .tmp k=>tL fr k
 | .const v=>some (.d (.v v))
 | .global g=>some (.d (.v (.pointer (some ⟨g,0,none⟩))))
 | .func f=>some (.d (.v (.func (.func f) #[] #[])))
def KO:FV->Option DV
 | .d (.v (.slice none 0 0))=>some (.sl [])
 | .d d=>some d
 | .ct l=>some (.sl l)
 |_=>none
def Cj(fr:dP)(x:Operand):Option DV:=(GV fr x).bind KO
def aJ2(fr:dP):List Operand->Option (List DV)
 |[]=>some []
 |x::t=>match Cj fr x,aJ2 fr t with
  |some d,some l=>some (d::l)
  |_,_=>none
structure c9 where
 b:Nat
 cs:List DV
 ty:TypeId
 lo:Bool
structure dx where
 x:SV
 s:Nat
 ty:TypeId
 ds:List DV
 lo:Bool
class uB (own:List c9) (b:Nat) (cs:outParam (List DV)) (ty:outParam TypeId) (lo:outParam Bool):Prop where
 mem:⟨b,cs,ty,lo⟩∈own
instance uB.i1 (b:Nat) (cs:List DV) (ty:TypeId) (lo:Bool) (t:List c9):uB (⟨b,cs,ty,lo⟩::t) b cs ty lo:=⟨aQ⟩
instance uB.i2 (o:c9) (t:List c9) (b:Nat) (cs:List DV) (ty:TypeId) (lo:Bool) [h:uB t b cs ty lo]:uB (o::t) b cs ty lo:=⟨aJ _ h.mem⟩
class zX (bs:List dx) (x:SV) (s:outParam Nat) (ty:outParam TypeId) (ds:outParam (List DV)) (lo:outParam Bool):Prop where
 mem:⟨x,s,ty,ds,lo⟩∈bs
instance zX.i1 (x:SV) (s:Nat) (ty:TypeId) (ds:List DV) (lo:Bool) (t:List dx):zX (⟨x,s,ty,ds,lo⟩::t) x s ty ds lo:=⟨aQ⟩
instance zX.i2 (o:dx) (t:List dx) (x:SV) (s:Nat) (ty:TypeId) (ds:List DV) (lo:Bool) [h:zX t x s ty ds lo]:zX (o::t) x s ty ds lo:=⟨aJ _ h.mem⟩
def Mq(G:Gh):List c9->List au->Prop
 |[],m=>m=[]
 |o::t,m=> ∃cs n,m=⟨o.b,cs,o.ty,o.lo⟩::n/\IsLs G o.cs cs/\Mq G t n
def dq(G:Gh)(β:dx)(B:List au):Prop:=
 ∃vs,gj β.s β.ty β.x vs B/\IsLs G β.ds vs/\(∀v∈vs,(aE v).length=β.s)/\(β.lo=true-> ∀o∈B,o.lo=true)
def NS(G:Gh):List dx->List au->Prop
 |[],m=>m=[]
 |β::t,m=> ∃B n,m=B++n/\dq G β B/\NS G t n
def OB(G:Gh)(own:List c9)(bs:List dx)(ov:List au):Prop:= ∃a b,ov=a++b/\Mq G own a/\NS G bs b
structure Sr (GB G:Gh) (fr:dP) (own:List c9) (bs:List dx) (frv:Fr) (ov:List au):Prop where
 gb:bD GB G
 fr:CM G fr frv
 ob:OB G own bs ov
structure nP where
 fr:Fr
 own:List au
def E0:nP:=⟨[],[]⟩
structure SD (GB:Gh) (C:aC) (n:Nat) (E:nP) (fr:dP) (own:List c9) (bs:List dx) (Φ:Act->World->Prop):Prop where
 run: ∀G frv ov,Sr GB G fr own bs frv ov->St C n (frv++E.fr) (ov++E.own) G Φ
instance {GB:Gh} {C:aC} {n:Nat} {E:nP} {fr:dP} {own:List c9} {bs:List dx} {Φ:Act->World->Prop}:CoeFun (SD GB C n E fr own bs Φ) (fun _=> ∀G frv ov,Sr GB G fr own bs frv ov->St C n (frv++E.fr) (ov++E.own) G Φ):=⟨SD.run⟩
def YD(P:Program)(GB:Gh)(C:aC)(fr:dP)(own:List c9)(bs:List dx)(o:Oper)(f:FV):Prop:=
 ∀G frv ov,Sr GB G fr own bs frv ov-> ∃y,JA G f y/\ ∀G',bD G G'->Yd P C frv ov G' o y
def CD(P:Program)(GB:Gh)(C:aC)(n:Nat)(E:nP)(fr:dP)(own:List c9)(bs:List dx)(o:Oper)(Φ:Act->World->Prop):Prop:=
 ∀G frv ov,Sr GB G fr own bs frv ov->Ch P C n (frv++E.fr) (ov++E.own) G o Φ
def TD(P:Program)(GB:Gh)(C:aC)(n:Nat)(fr:dP)(own:List c9)(bs:List dx)(o:Oper)(fr':dP)(own':List c9)(bs':List dx):Prop:=
 ∀(GB':Gh) (E:nP) (Φ:Act->World->Prop),bD GB GB'->SD GB' C n E fr' own' bs' Φ->CD P GB' C n E fr own bs o Φ
def TF(P:Program)(GB:Gh)(C:aC)(n:Nat)(fr:dP)(own:List c9)(bs:List dx)(o:Oper)(ι:Type)(fr':ι->dP)(own':ι->List c9)(bs':ι->List dx):Prop:=
 ∀(GB':Gh) (E:nP) (Φ:Act->World->Prop),bD GB GB'->(∀x,SD GB' C n E (fr' x) (own' x) (bs' x) Φ)->CD P GB' C n E fr own bs o Φ
section
variable {P:Program} {GB:Gh} {C:aC} {n:Nat} {E:nP} {fr fr':dP} {own own':List c9} {bs bs':List dx} {ops:Array Oper} {Q:Exit->Act->World->Prop} {r:List Oper} {Φ:Act->World->Prop}
def aK1(P:Program)(y:Code)(Q:Exit->Act->World->Prop):Exit->Act->World->Prop:=Exit.then (y.wp P Q) Q
def aKN(fr' fr:dP):Prop:= ∀e∈fr',tL fr e.1=some e.2
def aHy(GB:Gh)(C:aC)(n:Nat){X:Type}(F:X->dP)(O:X->List c9)(B:X->List dx)(I:X->Prop)(μ:X->Nat)(m:Nat)(a:Act)(w:World):Prop:=
 ∃x G frv ov,I x/\μ x<m/\Sr GB G (F x) (O x) (B x) frv ov/\gq C n frv ov G a w
def AtD(GB:Gh)(C:aC)(n:Nat){X:Type}(F:X->dP)(O:X->List c9)(B:X->List dx)(I:X->Prop)(a:Act)(w:World):Prop:=
 ∃x G frv ov,I x/\Sr GB G (F x) (O x) (B x) frv ov/\gq C n frv ov G a w
def PF(GB:Gh)(P:Program)(f:FuncId)(ds:List DV)(r:DV):Prop:=
 ∀G vs,bD GB G->IsLs G ds vs->Fn P f vs G (fun v G'=>Is G' r v)
def PM(GB:Gh)(P:Program)(f:FuncId)(ds:List DV)(b:Nat)(ty:TypeId)(cs:List DV)(r:DV)(cs':List DV):Prop:=
 ∀G vs m lo,bD GB G->IsLs G ds vs->IsLs G cs m->lE P f vs [⟨b,m,ty,lo⟩] G (fun v css G'=>Is G' r v/\ ∃m',css=[m']/\IsLs G' cs' m')
def aDo:Nat->List DV->dP
 |_,[]=>[]
 |i,v::t=>(i, .d v)::aDo (i+1) t
inductive t8 (P:Program) (fr:dP) (own:List c9):List ResultVar->List DV->Prop
 |nil:t8 P fr own [] []
 |tmp {t:Nat} {v:DV} {rs:List ResultVar} {vs:List DV} (h:(tL fr t).bind KO=some v) (k:t8 P fr own rs vs):t8 P fr own (.tmp t::rs) (v::vs)
 |agg {a b k:Nat} {t:TypeId} {cs l:List DV} {ty:TypeId} {lo:Bool} {rs:List ResultVar} {vs:List DV} (h:tL fr a=some (.d (.v (.pointer (some ⟨b,0,none⟩))))) (ho:uB own b cs ty lo) (ht:mz P t k) (hl:takeD cs 0 k=some l) (h2:t8 P fr own rs vs):
   t8 P fr own (.cell a t::rs) (.ag l::vs)
 |sc {a b:Nat} {t:TypeId} {cs:List DV} {v:DV} {ty:TypeId} {lo:Bool} {rs:List ResultVar} {vs:List DV} (h:tL fr a=some (.d (.v (.pointer (some ⟨b,0,none⟩))))) (ho:uB own b cs ty lo) (ht:i9 P t) (hl:cs[0]? =some v) (h2:t8 P fr own rs vs):
   t8 P fr own (.cell a t::rs) (v::vs)
def gm:List DV->DV
 |[d]=>d
 |l=> .tp l
def uY{G:Gh}{ds:List DV}{vs:List Value}(h:IsLs G ds vs):Is G (gm ds) (kH vs):=by
 match ds,h with
 |[],h=>rw[ck.1 h];exact rP.2 ⟨[],J, .nil⟩
 |[d],h=>
  obtain⟨y,m,rfl,h1,h2⟩:=bm.1 h;rw[ck.1 h2];exact h1
 |a::b::t,h=>
  obtain⟨y,m,rfl,h1,h2⟩:=bm.1 h;obtain⟨z,m',rfl,h3,h4⟩:=bm.1 h2;exact rP.2 ⟨_,J,h⟩
end
def A0{cs l:List Value}{o k:Nat}(h:cA cs o k=some l):l.length=k:=(qh _ _ _ _ h).1
def Dh: ∀{cs m:List Value} {o k:Nat},cA cs o k=some m-> ∀{d:Nat},d<=k->cA cs (o+d) (k-d)=some (m.drop d)
 |cs,m,o,k,h,0,_=>by simpa using h
 |[],m,0,0,h,d+1,hd=>by omega
 |v::t,m,0,0,h,d+1,hd=>by omega
 |[],m,0,k+1,h,d+1,hd=>by simp[cA] at h
 |v::t,m,0,k+1,h,d+1,hd=>by
  simp only[cA] at h;split at h
  .rename_i l hl
   cases h
   have:=Dh hl (d:=d) (by omega);rw[dL] at this;rw[dL,Nat.add_sub_add_right,sT];exact this
  .cases h
 |[],m,o+1,k,h,d+1,hd=>by simp[cA] at h
 |v::t,m,o+1,k,h,d+1,hd=>by
  simp only[cA] at h;have:=Dh h (d:=d+1) hd;rw[show o+1+(d+1)=(o+(d+1))+1 by omega];exact this
def H6: ∀{cs m:List Value} {o k:Nat},cA cs o k=some m-> ∀{j:Nat},j<=k->cA cs o j=some (m.take j)
 |cs,m,0,k,h,0,_=>by cases cs<;>rfl
 |[],m,0,0,h,j+1,hd=>by omega
 |v::t,m,0,0,h,j+1,hd=>by omega
 |[],m,0,k+1,h,j+1,hd=>by simp[cA] at h
 |v::t,m,0,k+1,h,j+1,hd=>by
  simp only[cA] at h;split at h
  .rename_i l hl
   cases h
   have:=H6 hl (j:=j) (by omega);simp[cA,this]
  .cases h
 |[],m,o+1,k,h,j,hd=>by simp[cA] at h
 |v::t,m,o+1,k,h,j,hd=>by
  simp only[cA] at h⊢;exact H6 h hd
def xM{m l:List Value}{j k:Nat}(h:cA m j k=some l):j+k<=m.length/\l=(m.drop j).take k:=by
 obtain⟨h1,h2⟩:=qh _ _ _ _ h;have hle:j<=m.length:=by
  clear h1 h2
  induction m generalizing j with
  |nil=>cases j with
   |zero=>exact bQ _
   |succ j=>simp[cA] at h
  |cons v t ih=>cases j with
   |zero=>exact aN _
   |succ j=>have:=ih (j:=j) h;simp;omega
 have hlen:j+k<=m.length:=by
  rcases fU k with h0|h0
  .omega
  .have h3:=h2 (k-1) (by omega)
   rw[aZ (by omega:k-1<l.length)] at h3;have:=(aT.1 h3).1;omega
 rw[jC _ _ _ hlen] at h
 cases h
 exact⟨hlen,J⟩
def MM{cs m l:List Value}{o s j k:Nat}(h:cA cs o s=some m)(hm:cA m j k=some l):cA cs (o+j) k=some l:=by
 obtain⟨h1,rfl⟩:=xM hm;have hl:=A0 h;have h2:=Dh h (d:=j) (by omega);exact H6 h2 (j:=k) (by omega)
def asp{cs:List Value}{o:Nat}{v:Value}:cA cs o 1=some [v]↔cs[o]? =some v:=by
 constructor
 .intro h
  obtain⟨_,h2⟩:=qh _ _ _ _ h;simpa using h2 0 (by omega)
 .intro h
  obtain⟨h1,h2⟩:=aT.1 h;rw[jC _ _ _ (by omega),cW h1,nV,h2];rfl
def JH{m l:List Value}{j k i:Nat}(h:cA m j k=some l)(hi:i<k):m[j+i]? =l[i]? :=(qh _ _ _ _ h).2 i hi
inductive Hp:List c9->Nat->List DV->TypeId->Bool->List DV->List c9->Prop
 |hd (b:Nat) (cs cs':List DV) (ty:TypeId) (lo:Bool) (t:List c9):Hp (⟨b,cs,ty,lo⟩::t) b cs ty lo cs' (⟨b,cs',ty,lo⟩::t)
 |tl (o:c9) (t t':List c9) (b:Nat) (cs cs':List DV) (ty:TypeId) (lo:Bool) (h:Hp t b cs ty lo cs' t'):Hp (o::t) b cs ty lo cs' (o::t')
inductive Hg:List c9->Nat->List DV->TypeId->Bool->List c9->Prop
 |hd (b:Nat) (cs:List DV) (ty:TypeId) (lo:Bool) (t:List c9):Hg (⟨b,cs,ty,lo⟩::t) b cs ty lo t
 |tl (o:c9) (t t':List c9) (b:Nat) (cs:List DV) (ty:TypeId) (lo:Bool) (h:Hg t b cs ty lo t'):Hg (o::t) b cs ty lo (o::t')
inductive GD:List dx->dx->List dx->Prop
 |hd (β:dx) (t:List dx):GD (β::t) β t
 |tl (o:dx) (t t':List dx) (β:dx) (h:GD t β t'):GD (o::t) β (o::t')
section
variable {P:Program} {GB:Gh} {C:aC} {n:Nat} {E:nP} {fr fr':dP} {own own':List c9} {bs bs':List dx} {ops:Array Oper} {Q:Exit->Act->World->Prop} {r:List Oper} {Φ:Act->World->Prop}
variable {dst:Option Nat} {t t' ty':TypeId} {pos:String} {af:Array Edge} {gd:Option (Nat×Bool)} {x y z:Operand} {e s by_:Nat}
def dq.elem{G:Gh}{β:dx}{B:List au}(h:dq G β B){i:Nat}{d:DV}(hi:β.ds[i]? =some d)(hd:d.okc=true):
  ∃b m rest lo l,β.x.a=some ⟨b,0,none⟩/\B=[⟨b,m++rest,β.ty,lo⟩]/\cA (m++rest) (i*β.s) β.s=some l/\IsLs G d.cells l:=by
 obtain⟨vs,hB,hv,hs,_⟩:=h;obtain⟨v,h1,h2⟩:=hv.get hi;rcases hB with⟨e,_,_⟩|⟨b,rest,lo,h3,h4,h5,h6,h7⟩
 .rw[e] at h1;simp at h1
 .obtain⟨h8,h9⟩:=aT.1 h1
  refine⟨b,aG vs,rest,lo,aE v,by rw[h3],h4,?_,(h2.cells hd).1⟩;have:=GF (rest:=rest) hs h8;rw[h9] at this;exact this
def aJw(fr:dP)(offs:List (Nat×Nat)):List DV->List (Nat×Operand)->Option (List DV)
 |cs,[]=>some cs
 |cs,(i,x)::r=>match offs[i]?,Cj fr x with
  |some (off,k),some d=>bif d.okc&&(Nat.beq d.cells.length k&&Nat.ble (off+k) cs.length) then aJw fr offs (zM cs off d.cells) r else none
  |_,_=>none
class aKd (P:Program) (t:TypeId) (z:outParam Value) (cs:outParam (List DV)):Prop where
 tz:gk P t z
 iz:IsLs (fun _=>none) cs (aE z)
def IsLs.all{G:Gh}: ∀{l:List DV} {m:List Value},IsLs G l m-> ∀v∈m,∃d∈l,Is G d v
 |[],m,h,v,hv=>by rw[ck.1 h] at hv;cases hv
 |d::t,m,h,v,hv=>by
  obtain⟨y,n,rfl,h1,h2⟩:=bm.1 h;rcases aU.1 hv with rfl|hv
  .exact⟨d,aQ,h1⟩
  .obtain⟨d',hd,h3⟩:=h2.all v hv
   exact⟨d',aJ _ hd,h3⟩
def eB.sub{G:Gh}{s:Nat}{x:SV}{es:List Value}(h:eB G s x es)(lo hi mx:Nat)(h1:lo<=hi)(h2:hi<=es.length)(h3:hi<=mx)(_h4:mx<=x.c):
  eB G s ⟨if mx=lo then x.a else x.a.map (·.add (lo*s)),hi-lo,mx-lo⟩ ((es.take hi).drop lo):=by
 refine⟨by simp;omega,by simp only[];omega,?_⟩;rcases h.mem with h0|⟨b,off,cs,ha,hg,hc⟩
 .left;simp[h0]
 .by_cases he:hi=lo
  .left;simp[he]
  .right
   refine⟨b,off+lo*s,cs,?_,hg,fun i hi'=>?_⟩
   .simp only[]
    rw[if_neg (by omega),ha];simp[tc]
   .simp only[fN,bK] at hi'
    have:=hc (lo+i) (by omega);rw[lK,<-dZ,this];simp
def du(s:Nat)(l:List DV):Prop:= ∀d∈l,d.okc=true/\d.cells.length=s
def Bn{G:Gh}{l:List DV}{s' s:Nat}{w:SV}{es:List Value}(hsl:eB G s' w es)(hl:IsLs G l es)(ho:du s l):es=[]\/s'=s:=by
 rcases hsl.mem with h|⟨b,off,cs,ha,hg,hcs⟩
 .exact .inl h
 .cases es with
  |nil=>exact .inl J
  |cons v t=>
   right;have h1:=hcs 0 (by simp);have h2:=A0 h1;obtain⟨d,hd,h3⟩:=hl.all v aQ;obtain⟨h4,h5⟩:=ho d hd;have:=(h3.cells h4).1.len;simp only[oZ] at h2;omega
end
section
variable {P:Program} {GB:Gh} {C:aC} {n:Nat} {E:nP} {fr:dP} {own:List c9} {bs:List dx} {ops:Array Oper} {Q:Exit->Act->World->Prop} {r:List Oper} {dst:Option Nat} {ty':TypeId} {pos:String} {af:Array Edge} {x:Operand}
end
inductive FX where
 |d (x:DV)
 /-- a pointer to cells that are written no more -/
 |ep (l:List DV)
 /-- an interface around a value -/
 |ip (t:TypeId) (d:DV)
 /-- a known slice; it may be block nm's -/
 |ri (nm:Nat) (x:SV)
 /-- a pointer into a variable -/
 |ov (nm off:Nat)
 /-- a row -/
 |rw(nm:Nat)
 /-- a pointer into element i of a row -/
 |be (nm s i j:Nat)
 /-- a slice of n elements of a row, from element off on -/
 |rs (nm s off n:Nat)
 /-- a slice kj room behind it -/
 |ct (l:List DV)
 |tt
 |ff
 |pr (p:Prop) (h:Decidable p)
 |nl
 /-- an aggregate (or a tuple) with one row in it -/
 |bx (tp:Bool) (pre:List DV) (nm:Nat) (post:List DV)
 |un
 /-- nothing is known -/
 |no
abbrev NE:=Nat->SV
def b6(ρ:NE)(G:Gh):FX->Value->Prop
 | .d x,y=>Is G x y
 | .ep l,y=> ∃b off cs m,y= .pointer (some ⟨b,off,none⟩)/\G b=some cs/\cA cs off l.length=some m/\IsLs G l m
 | .ip t d,y=> ∃u,y= .iface t u/\Is G d u
 | .ri _ x,y=>y= .slice x.a x.n x.c
 | .ov nm off,y=> ∃b,(ρ nm).a=some ⟨b,0,none⟩/\y= .pointer (some ⟨b,off,none⟩)
 | .rw nm,y=>y= .slice (ρ nm).a (ρ nm).n (ρ nm).c
 | .be nm s i j,y=> ∃b,(ρ nm).a=some ⟨b,0,none⟩/\y= .pointer (some ⟨b,i*s+j,none⟩)
 | .rs nm s off n,y=> ∃b c,(ρ nm).a=some ⟨b,0,none⟩/\y= .slice (some ⟨b,off*s,none⟩) n c/\n<=c
 | .ct l,y=>(∃a n,y= .slice a n n)/\Is G (.sl l) y
 | .tt,y=>y= .bool true
 | .ff,y=>y= .bool false
 | .pr p h,y=>y= .bool (@decide p h)
 | .nl,y=>y= .slice none 0 0
 | .bx tp pre nm post,y=> ∃m1 m2,y=(bif tp then Value.tuple ⟨m1++Value.slice (ρ nm).a (ρ nm).n (ρ nm).c::m2⟩ else .agg ⟨m1++Value.slice (ρ nm).a (ρ nm).n (ρ nm).c::m2⟩)/\IsLs G pre m1/\IsLs G post m2
 | .un,y=>y=undef
 | .no,_=>True
def dt(ρ:NE)(G:Gh):List FX->List Value->Prop
 |[],m=>m=[]
 |f::t,m=> ∃y n,m=y::n/\b6 ρ G f y/\dt ρ G t n
def FX.nm:FX->Option Nat
 | .ov n _=>some n
 | .rw n=>some n
 | .be n _ _ _=>some n
 | .rs n _ _ _=>some n
 | .ri n _=>some n
 | .bx _ _ n _=>some n
 |_=>none
section
variable {ρ:NE} {G:Gh}
def b6.up{A:Gh}{f:FX}{y:Value}(h:b6 ρ A f y)(k:bD A G):b6 ρ G f y:=by
 cases f with
 |d x=>exact Is.up h k
 |ep l=>obtain⟨b,off,cs,m,e,hb,ht,hl⟩:=h;exact⟨b,off,cs,m,e,k _ _ hb,ht,hl.up k⟩
 |ip t l=>obtain⟨u,e,h⟩:=h;exact⟨u,e,h.up k⟩
 |ct l=>exact⟨h.1,h.2.up k⟩
 |bx tp pre nm post=>obtain⟨m1,m2,e,h1,h2⟩:=h;exact⟨m1,m2,e,h1.up k,h2.up k⟩
 |_=>exact h
def b6.ren{ρ':NE}{f:FX}{y:Value}(h:b6 ρ G f y)(k: ∀n,f.nm=some n->ρ' n=ρ n):b6 ρ' G f y:=by
 cases f with
 |ov n o=>have e:=k n J;simp only[b6] at h⊢;rw[e];exact h
 |rw n=>have e:=k n J;simp only[b6] at h⊢;rw[e];exact h
 |be n s i j=>have e:=k n J;simp only[b6] at h⊢;rw[e];exact h
 |rs n s i j=>have e:=k n J;simp only[b6] at h⊢;rw[e];exact h
 |bx tp pre n post=>have e:=k n J;simp only[b6] at h⊢;rw[e];exact h
 |_=>exact h
def dt.up{A:Gh}(k:bD A G): ∀{l:List FX} {m:List Value},dt ρ A l m->dt ρ G l m
 |[],_,h=>h
 |_::_,_,⟨y,n,e,h1,h2⟩=>⟨y,n,e,h1.up k,h2.up k⟩
def dt.ren{ρ':NE}: ∀{l:List FX} {m:List Value},dt ρ G l m->(∀f∈l,∀n,f.nm=some n->ρ' n=ρ n)->dt ρ' G l m
 |[],_,h,_=>h
 |f::t,_,⟨y,n,e,h1,h2⟩,k=>⟨y,n,e,h1.ren (k f aQ),h2.ren fun g hg=>k g (aJ _ hg)⟩
def dt.len: ∀{l:List FX} {m:List Value},dt ρ G l m->m.length=l.length
 |[],m,h=>by rw[show m=[] from h];rfl
 |f::t,m,⟨y,n,e,h1,h2⟩=>by subst e;simp[h2.len]
def dt.get: ∀{l:List FX} {m:List Value} {i:Nat} {f:FX},dt ρ G l m->l[i]? =some f-> ∃y,m[i]? =some y/\b6 ρ G f y
 |[],m,i,f,h,e=>by simp at e
 |x::t,m,0,f,⟨y,n,e1,h1,h2⟩,e=>by subst e1;simp at e;subst e;exact⟨y,J,h1⟩
 |x::t,m,i+1,f,⟨y,n,e1,h1,h2⟩,e=>by subst e1;simp at e;simpa using h2.get e
def dt.set: ∀{a:List FX} {m:List Value} (k:Nat) {f:FX} {y:Value},dt ρ G a m->b6 ρ G f y->dt ρ G (a.set k f) (m.set k y)
 |[],m,k,f,y,h,_=>by rw[show m=[] from h];rfl
 |x::t,m,0,f,y,⟨u,n,e,h1,h2⟩,k=>by subst e;exact⟨y,n,J,k,h2⟩
 |x::t,m,j+1,f,y,⟨u,n,e,h1,h2⟩,k=>by subst e;exact⟨u,n.set j y,J,h1,h2.set j k⟩
end
def j':FX->Option DV
 | .d x=>some x
 | .ct l=>some (.sl l)
 | .tt=>some (.v (.bool true))
 | .ff=>some (.v (.bool false))
 | .pr p h=>some (.v (.bool (@decide p h)))
 | .nl=>some (.sl [])
 |_=>none
def nH{ρ:NE}{G:Gh}{f:FX}{d:DV}{y:Value}(h:b6 ρ G f y)(e:j' f=some d):Is G d y:=by
 cases f with
 |d x=>cases e;exact h
 |ct l=>cases e;exact h.2
 |tt=>cases e;exact aP.2 h
 |ff=>cases e;exact aP.2 h
 |pr p i=>cases e;exact aP.2 h
 |nl=>cases e;rw[show y= .slice none 0 0 from h];exact ie.2 ⟨0,⟨none,0,0⟩,[],J, .nil G 0, .nil⟩
 |_=>cases e
def ki:List FX->Option (List DV)
 |[]=>some []
 |f::t=>match j' f,ki t with
  |some d,some l=>some (d::l)
  |_,_=>none
def uK{ρ:NE}{G:Gh}: ∀{l:List FX} {ds:List DV} {m:List Value},dt ρ G l m->ki l=some ds->IsLs G ds m
 |[],ds,m,h,e=>by cases e;rw[show m=[] from h];exact .nil
 |f::t,ds,m,⟨y,n,e1,h1,h2⟩,e=>by
  subst e1;simp only[ki] at e;split at e
  .rename_i d l hd hl
   cases e
   exact .cons (nH h1 hd) (uK h2 hl)
  .cases e
def FX.okc:FX->Bool
 | .d x=>x.okc
 | .bx false pre _ post=>(DV.ag pre).okc&&(DV.ag post).okc
 | .bx true _ _ _=>false
 | .un=>false
 | .no=>false
 |_=>true
def FX.cells:FX->List FX
 | .d (.ag l)=>l.map .d
 | .bx false pre nm post=>pre.map .d++ .rw nm::post.map .d
 |f=>[f]
def dt.app{ρ:NE}{G:Gh}: ∀{a b:List FX} {m n:List Value},dt ρ G a m->dt ρ G b n->dt ρ G (a++b) (m++n)
 |[],b,m,n,h,k=>by rw[show m=[] from h];exact k
 |f::t,b,m,n,⟨y,q,e,h1,h2⟩,k=>by subst e;exact⟨y,q++n,J,h1,h2.app k⟩
def uC{ρ:NE}{G:Gh}: ∀{l:List DV} {m:List Value},IsLs G l m->dt ρ G (l.map .d) m
 |[],m,h=>ck.1 h
 |d::t,m,h=>by
  obtain⟨y,n,rfl,h1,h2⟩:=bm.1 h;exact⟨y,n,J,h1,uC h2⟩
def b6.cells{ρ:NE}{G:Gh}{f:FX}{y:Value}(h:b6 ρ G f y)(k:f.okc=true):dt ρ G f.cells (aE y)/\ ∀v∈aE y,Go.Sx.flat v=true:=by
 have one: ∀g:FX,b6 ρ G g y->Go.Sx.flat y=true->dt ρ G [g] (aE y)/\ ∀v∈aE y,Go.Sx.flat v=true:=fun g hg hf=>by
  rw[ym hf];exact⟨⟨y,[],J,hg,J⟩,fun v hv=>by rw[aY.1 hv];exact hf⟩
 cases f with
 |d x=>
  cases x with
  |ag l=>
   obtain⟨m,rfl,hm⟩:=dm.1 (show Is G (.ag l) y from h);exact⟨uC hm,hm.flat k⟩
  |_=>exact one _ h (Is.flat (show Is G _ y from h) k)
 |ep l=>obtain⟨b,off,cs,m,rfl,_⟩:=h;exact one (.ep l) ⟨b,off,cs,m,rfl,by assumption⟩ rfl
 |ip t l=>obtain⟨u,rfl,hu⟩:=h;exact one (.ip t l) ⟨u,rfl,hu⟩ rfl
 |ri nm x=>cases h;exact one (.ri nm x) J J
 |ov nm off=>obtain⟨b,hb,rfl⟩:=h;exact one (.ov nm off) ⟨b,hb,rfl⟩ rfl
 |rw nm=>cases h;exact one (.rw nm) J J
 |be nm s i j=>obtain⟨b,hb,rfl⟩:=h;exact one (.be nm s i j) ⟨b,hb,rfl⟩ rfl
 |rs nm s i j=>obtain⟨b,c,hb,rfl,hc⟩:=h;exact one (.rs nm s i j) ⟨b,c,hb,rfl,hc⟩ rfl
 |ct l=>obtain⟨⟨a,n,rfl⟩,h2⟩:=h;exact one (.ct l) ⟨⟨a,n,rfl⟩,h2⟩ rfl
 |tt=>cases h;exact one .tt J J
 |ff=>cases h;exact one .ff J J
 |pr p i=>cases h;exact one (.pr p i) J J
 |nl=>cases h;exact one .nl J J
 |bx tp pre nm post=>
  cases tp with
  |true=>cases k
  |false=>
   obtain⟨m1,m2,rfl,h1,h2⟩:=h;simp only[FX.okc,aM] at k;refine⟨(uC h1).app ⟨_,m2,J,J,uC h2⟩,fun v hv=>?_⟩;rcases bS.1 (show v∈m1++_::m2 from hv) with hv|hv
   .exact h1.flat k.1 v hv
   .rcases aU.1 hv with rfl|hv
    .rfl
    .exact h2.flat k.2 v hv
 |un=>cases k
 |no=>cases k
inductive Bk where
 |o (ty:TypeId) (cs:List FX) (lo:Bool)
 |b (ty:TypeId) (s:Nat) (ds:List DV) (lo:Bool)
 /-- a row with room for cap elements in all -/
 |c (ty:TypeId) (s:Nat) (ds:List DV) (cap:Nat)
 /-- a row whose slice is known -/
 |p (x:SV) (ty:TypeId) (s:Nat) (ds:List DV)
def jx(ρ:NE)(G:Gh)(nm:Nat):Bk->List au->Prop
 | .o ty cs lo,B=> ∃b m,(ρ nm).a=some ⟨b,0,none⟩/\B=[⟨b,m,ty,lo⟩]/\dt ρ G cs m
 | .b ty s ds lo,B=> ∃vs,gj s ty (ρ nm) vs B/\IsLs G ds vs/\(∀v∈vs,(aE v).length=s)/\(lo=true-> ∀o∈B,o.lo=true)
 | .c ty s ds cap,B=> ∃vs,gj s ty (ρ nm) vs B/\IsLs G ds vs/\(∀v∈vs,(aE v).length=s)/\(∀o∈B,o.lo=true)/\cap<=(ρ nm).c
 | .p x ty s ds,B=>ρ nm=x/\ ∃vs,gj s ty x vs B/\IsLs G ds vs/\(∀v∈vs,(aE v).length=s)/\(∀o∈B,o.lo=true)
def Bk.men(n:Nat):Bk->Prop
 | .o _ cs _=> ∃f∈cs,f.nm=some n
 | .b .. =>False
 | .c .. =>False
 | .p .. =>False
section
variable {ρ:NE} {G:Gh} {nm:Nat} {B:Bk} {os:List au}
def jx.up{A:Gh}(h:jx ρ A nm B os)(k:bD A G):jx ρ G nm B os:=by
 cases B with
 |o ty cs lo=>obtain⟨b,m,h1,h2,h3⟩:=h;exact⟨b,m,h1,h2,h3.up k⟩
 |b ty s ds lo=>obtain⟨vs,h1,h2,h3,h4⟩:=h;exact⟨vs,h1,h2.up k,h3,h4⟩
 |c ty s ds cap=>obtain⟨vs,h1,h2,h3,h4⟩:=h;exact⟨vs,h1,h2.up k,h3,h4⟩
 |p x ty s ds=>obtain⟨h0,vs,h1,h2,h3,h4⟩:=h;exact⟨h0,vs,h1,h2.up k,h3,h4⟩
def jx.ren{ρ':NE}(h:jx ρ G nm B os)(h0:ρ' nm=ρ nm)(k: ∀n,B.men n->ρ' n=ρ n):jx ρ' G nm B os:=by
 cases B with
 |o ty cs lo=>obtain⟨b,m,h1,h2,h3⟩:=h;exact⟨b,m,by rw[h0];exact h1,h2,h3.ren fun f hf n hn=>k n ⟨f,hf,hn⟩⟩
 |b ty s ds lo=>obtain⟨vs,h1,h2,h3,h4⟩:=h;exact⟨vs,by rw[h0];exact h1,h2,h3,h4⟩
 |c ty s ds cap=>obtain⟨vs,h1,h2,h3,h4,h5⟩:=h;exact⟨vs,by rw[h0];exact h1,h2,h3,h4,by rw[h0];exact h5⟩
 |p x ty s ds=>obtain⟨h1,h2⟩:=h;exact⟨by rw[h0];exact h1,h2⟩
def jx.blk(h:jx ρ G nm B os){o:au}(ho:o∈os):(ρ nm).a=some ⟨o.b,0,none⟩:=by
 cases B with
 |o ty cs lo=>obtain⟨b,m,h1,rfl,h3⟩:=h;rw[aY.1 ho];exact h1
 |b ty s ds lo=>
  obtain⟨vs,h1,_⟩:=h;rcases h1 with⟨_,_,rfl⟩|⟨b,rest,lo',e,rfl,_⟩
  .cases ho
  .rw[aY.1 ho,e]
 |c ty s ds cap=>
  obtain⟨vs,h1,_⟩:=h;rcases h1 with⟨_,_,rfl⟩|⟨b,rest,lo',e,rfl,_⟩
  .cases ho
  .rw[aY.1 ho,e]
 |p x ty s ds=>
  obtain⟨h0,vs,h1,_⟩:=h;rcases h1 with⟨_,_,rfl⟩|⟨b,rest,lo',e,rfl,_⟩
  .cases ho
  .rw[aY.1 ho,h0,e]
def jx.mem_of(h:jx ρ G nm B os){b:Nat}(hb:(ρ nm).a=some ⟨b,0,none⟩): ∃o∈os,o.b=b:=by
 cases B with
 |o ty cs lo=>obtain⟨b',m,h1,rfl,h3⟩:=h;rw[h1] at hb;cases hb;exact⟨_,aQ,rfl⟩
 |b ty s ds lo=>
  obtain⟨vs,h1,_⟩:=h;rcases h1 with⟨_,e,rfl⟩|⟨b',rest,lo',e,rfl,_⟩
  .rw[e] at hb;cases hb
  .rw[e] at hb;cases hb;exact⟨_,aQ,J⟩
 |c ty s ds cap=>
  obtain⟨vs,h1,_⟩:=h;rcases h1 with⟨_,e,rfl⟩|⟨b',rest,lo',e,rfl,_⟩
  .rw[e] at hb;cases hb
  .rw[e] at hb;cases hb;exact⟨_,aQ,J⟩
 |p x ty s ds=>
  obtain⟨h0,vs,h1,_⟩:=h;rcases h1 with⟨_,e,rfl⟩|⟨b',rest,lo',e,rfl,_⟩
  .rw[h0,e] at hb;cases hb
  .rw[h0,e] at hb;cases hb;exact⟨_,aQ,J⟩
end
abbrev LK:=Nat->Option FX
abbrev BM:=Nat->Option Bk
structure b5 (GB:Gh) (C:aC) (n:Nat) (lk:LK) (bk:BM) (ρ:NE) (G:Gh) (ov:List au) (a:Act) (w:World):Prop where
 gb:bD GB G
 h:bF C ov G w
 sz:a.tmps.size=n
 df:a.defers=C.mks
 fx: ∀k f,lk k=some f-> ∃y,a.tmps[k]? =some y/\b6 ρ G f y
 bx: ∀nm B,bk nm=some B-> ∃os,jx ρ G nm B os/\ ∀o∈os,o∈ov
 dj: ∀nm nm' B B',bk nm=some B->bk nm'=some B'->nm≠nm'-> ∀b,(ρ nm).a=some ⟨b,0,none⟩->(ρ nm').a≠some ⟨b,0,none⟩
 fxd: ∀nm p,n<=nm->2000000<=nm->C.fx nm=some p->(ρ nm).a=some p
structure SX (GB:Gh) (C:aC) (n:Nat) (lk:LK) (bk:BM) (Φ:Act->World->Prop):Prop where
 run: ∀ρ G ov a w,b5 GB C n lk bk ρ G ov a w->Φ a w
def iO{α:Type}(f g:Nat->Option α):Prop:= ∀k x,f k=some x->g k=some x
def iO.refl{α:Type}(f:Nat->Option α):iO f f:=fun _ _ h=>h
def dO(lk:LK)(d:Option Nat)(f:FX):LK:=match d with
 |some d=>fun k=>if k=d then some f else lk k
 |none=>lk
def upB:BM->List (Nat×Option Bk)->BM
 |tb,[]=>tb
 |tb,(nm,B)::t=>upB (fun k=>if k=nm then B else tb k) t
def jO(nw:List Nat)(dst:Option Nat)(tl:LK)(tb:BM):Prop:=
 ∀nm∈nw,(∀k f,some k≠dst->tl k=some f->f.nm≠some nm)/\ ∀k B,k≠nm->tb k=some B-> ¬B.men nm
section
variable {GB:Gh} {C:aC} {n:Nat} {lk tl:LK} {bk tb:BM} {ρ:NE} {G:Gh} {ov:List au} {a:Act} {w:World} {Φ Ψ:Act->World->Prop}
def b5.mono(h:b5 GB C n tl tb ρ G ov a w)(h1:iO lk tl)(h2:iO bk tb):b5 GB C n lk bk ρ G ov a w:=
 ⟨h.gb,h.h,h.sz,h.df,fun k f e=>h.fx k f (h1 _ _ e),fun k B e=>h.bx k B (h2 _ _ e),fun k k' B B' e e'=>h.dj k k' B B' (h2 _ _ e) (h2 _ _ e'),h.fxd⟩
def SX.imp(h:SX GB C n lk bk Φ)(k: ∀a w,Φ a w->Ψ a w):SX GB C n lk bk Ψ:=⟨fun ρ G ov a w r=>k _ _ (h.run ρ G ov a w r)⟩
structure ui (C:aC) (n:Nat) (a:Act) (dst:Option Nat) (y:Value) (a':Act):Prop where
 sz:a'.tmps.size=n
 df:a'.defers=C.mks
 old: ∀k v,a.tmps[k]? =some v->dst≠some k->a'.tmps[k]? =some v
 new: ∀d,dst=some d->a'.tmps[d]? =some y
def ui.fx{a a':Act}{dst:Option Nat}{y:Value}{ρ':NE}{G':Gh}{f:FX}(p:ui C n a dst y a')(h: ∀k g,some k≠dst->lk k=some g-> ∃u,a.tmps[k]? =some u/\b6 ρ' G' g u)(hy:b6 ρ' G' f y)(k:Nat)(g:FX)(e:dO lk dst f k=some g):
  ∃u,a'.tmps[k]? =some u/\b6 ρ' G' g u:=by
 by_cases hk:some k=dst
 .subst hk
  simp only[dO,if_true] at e;cases e;exact⟨y,p.new _ J,hy⟩
 .have e':lk k=some g:=by
   cases dst with
   |none=>exact e
   |some d=>simpa[dO,show k≠d from fun c=>hk (c▸rfl)] using e
  obtain⟨u,h1,h2⟩:=h k g hk e';exact⟨u,p.old _ _ h1 (Ne.symm hk),h2⟩
def b5.putA(r:b5 GB C n lk bk ρ G ov a w){dst:Option Nat}(y:Value)(hd:cg n dst=true):ui C n a dst y (a.put dst y):=by
 refine⟨by rw[O7];exact r.sz,by rw[LJ];exact r.df,fun k v h hk=>?_,fun d hk=>?_⟩
 .cases dst with
  |none=>exact h
  |some d=>simp only[Act.put,dW];rw[if_neg (fun e=>hk (by rw[e]))];exact h
 .subst hk
  have hdn:d<a.tmps.size:=by rw[r.sz];simpa[cg,mX] using hd
  simp[Act.put,dW,hdn]
def b5.put(r:b5 GB C n lk bk ρ G ov a w){dst:Option Nat}{f:FX}{y:Value}{a':Act}(hy:b6 ρ G f y)(hp:ui C n a dst y a'):b5 GB C n (dO lk dst f) bk ρ G ov a' w:=
 ⟨r.gb,r.h,hp.sz,hp.df,hp.fx (fun k g _ e=>r.fx k g e) hy,r.bx,r.dj,r.fxd⟩
def cC(a:Act):Fr:=lA 0 a.tmps.toList
def c6(a:Act):kc (cC a) a:=fun k v h=>by
 obtain⟨j,e,h2⟩:=qE _ _ _ _ h;rw[dL] at e;subst e;simpa using h2
def wu: ∀(vs:List Value) (i j:Nat) (v:Value),vs[j]? =some v->kD (lA i vs) (i+j)=some v
 |[],i,j,v,h=>by simp at h
 |x::t,i,0,v,h=>by simp at h;subst h;simp[lA,kD]
 |x::t,i,j+1,v,h=>by
  simp at h;have:=wu t (i+1) j v h;rw[show i+(j+1)=i+1+j by omega];simp only[lA,ye];rw[if_neg (by omega)];exact this
def jz{dst:Option Nat}{y:Value}{ov':List au}{G':Gh}{a':Act}{w':World}(h:gq C n (Sx.put (cC a) dst y) ov' G' a' w'):ui C n a dst y a':=by
 refine⟨h.sz,h.df,fun k v hk hd=>?_,fun d hd=>?_⟩
 .have:=wu a.tmps.toList 0 k v (by simpa using hk)
  rw[dL] at this
  cases dst with
  |none=>exact h.fr k v this
  |some d=>exact h.fr k v (by simp only[Sx.put,ye];rw[if_neg (fun e=>hd (by rw[e]))];exact this)
 .subst hd;exact h.fr d y (by simp[Sx.put,ye])
def wi{k:Nat}{v:Value}(h:a.tmps[k]? =some v):kD (cC a) k=some v:=by
 have:=wu a.tmps.toList 0 k v (by simpa using h);simpa[cC] using this
def aI(lk:LK):Operand->Option FX
 | .tmp k=>lk k
 | .const (.bool true)=>some .tt
 | .const (.bool false)=>some .ff
 | .const (.slice none 0 0)=>some .nl
 | .const v=>some (.d (.v v))
 | .global g=>some (.d (.v (.pointer (some ⟨g,0,none⟩))))
 | .func f=>some (.d (.v (.func (.func f) #[] #[])))
def b5.ev(r:b5 GB C n lk bk ρ G ov a w){x:Operand}{f:FX}(e:aI lk x=some f): ∃y,aD (cC a) x=some y/\b6 ρ G f y:=by
 cases x with
 |tmp k=>obtain⟨y,h1,h2⟩:=r.fx k f e;exact⟨y,wi h1,h2⟩
 |const v=>
  refine⟨v,J,?_⟩;unfold aI at e;split at e
  all_goals simp only[Operand.const.injEq,reduceCtorEq] at*
  all_goals (cases e;subst_vars;first|exact J|exact(aP (G:=G)).2 J)
 |global g=>cases e;exact⟨_,J,(aP (G:=G)).2 J⟩
 |func g=>cases e;exact⟨_,J,(aP (G:=G)).2 J⟩
def evD(lk:LK)(x:Operand):Option DV:=match aI lk x with
 |some f=>j' f
 |none=>none
def b5.evD(r:b5 GB C n lk bk ρ G ov a w){x:Operand}{d:DV}(e:Sx.evD lk x=some d): ∃y,aD (cC a) x=some y/\Is G d y:=by
 unfold Sx.evD at e;split at e
 .rename_i f hf
  obtain⟨y,h1,h2⟩:=r.ev hf;exact⟨y,h1,nH h2 e⟩
 .cases e
def evDs(lk:LK):List Operand->Option (List DV)
 |[]=>some []
 |x::t=>match evD lk x,evDs lk t with
  |some d,some l=>some (d::l)
  |_,_=>none
def b5.evDs(r:b5 GB C n lk bk ρ G ov a w): ∀{x:List Operand} {l:List DV},Sx.evDs lk x=some l-> ∃y,f5 (cC a) x=some y/\IsLs G l y
 |[],l,e=>by cases e;exact⟨[],J, .nil⟩
 |x::t,l,e=>by
  simp only[Sx.evDs] at e;split at e
  .rename_i d l' hd hl'
   cases e
   obtain⟨y,h1,h2⟩:=r.evD hd;obtain⟨ys,h3,h4⟩:=r.evDs hl';exact⟨y::ys,by simp only[f5,h1,h3], .cons h2 h4⟩
  .cases e
def b5.upB(r:b5 GB C n lk bk ρ G ov a w){nm:Nat}{B':Bk}{os:List au}{ov':List au}{G':Gh}{w':World}(hg:bD G G')(hh:bF C ov' G' w')(hB:jx ρ G' nm B' os)(hos: ∀o∈os,o∈ov')
  (hk: ∀o∈ov,(ρ nm).a≠some ⟨o.b,0,none⟩->o∈ov')(hn: ∃B,bk nm=some B):b5 GB C n lk (upB bk [(nm,some B')]) ρ G' ov' a w':=by
 obtain⟨B0,hB0⟩:=hn;refine⟨r.gb.trans hg,hh,r.sz,r.df,fun k f e=>?_,fun m B e=>?_,fun m m' B B2 e e' hne=>?_,r.fxd⟩
 .obtain⟨y,h1,h2⟩:=r.fx k f e;exact⟨y,h1,h2.up hg⟩
 .simp only[Sx.upB] at e
  by_cases hm:m=nm
  .subst hm;simp only[if_true] at e;cases e;exact⟨os,hB,hos⟩
  .simp only[hm,if_false] at e
   obtain⟨os',h1,h2⟩:=r.bx m B e;refine⟨os',h1.up hg,fun o ho=>hk o (h2 o ho) fun hc=>?_⟩;exact r.dj m nm B B0 e hB0 hm _ (h1.blk ho) hc
 .simp only[Sx.upB] at e e'
  by_cases hm:m=nm<;>by_cases hm':m'=nm
  .exact absurd (hm.trans hm'.symm) hne
  .subst hm;simp only[hm',if_false] at e';exact r.dj m m' B0 B2 hB0 e' hne
  .subst hm';simp only[hm,if_false] at e;exact r.dj m m' B B0 e hB0 hne
  .simp only[hm,hm',if_false] at e e';exact r.dj m m' B B2 e e' hne
def b5.dropB(r:b5 GB C n lk bk ρ G ov a w)(nm:Nat):b5 GB C n lk (Sx.upB bk [(nm,none)]) ρ G ov a w:=
 r.mono (iO.refl _) fun k B e=>by
  simp only[Sx.upB] at e;split at e
  .cases e
  .exact e
def sv{m nm:Nat}(x:SV)(h:m≠nm):(fun k=>if k=nm then x else ρ k) m=ρ m:=if_neg h
def b5.new'(r:b5 GB C n tl tb ρ G ov a w){nm:Nat}{dst:Option Nat}{x:SV}{B':Bk}{os:List au}{ov':List au}{G':Gh}{w':World}{f:FX}{y:Value}(hf:jO [nm] dst tl tb)(hg:bD G G')(hh:bF C ov' G' w')
  (hB:jx (fun k=>if k=nm then x else ρ k) G' nm B' os)(hos: ∀o∈os,o∈ov')(hov: ∀m B,m≠nm->tb m=some B-> ∀o∈ov,(ρ m).a=some ⟨o.b,0,none⟩->o∈ov'/\x.a≠some ⟨o.b,0,none⟩)
  (hy:b6 (fun k=>if k=nm then x else ρ k) G' f y){a':Act}(hp:ui C n a dst y a')(hdn:dst=some nm:=by rfl):b5 GB C n (dO tl dst f) (Sx.upB tb [(nm,some B')]) (fun k=>if k=nm then x else ρ k) G' ov' a' w':=by
 obtain⟨f1,f2⟩:=hf nm aQ;refine⟨r.gb.trans hg,hh,hp.sz,hp.df,hp.fx (fun k g hk e=>?_) hy,fun m B e=>?_,fun m m' B B2 e e' hne=>?_,fun m p hm hm2 e=>?_⟩
 .obtain⟨u,h1,h2⟩:=r.fx k g e
  exact⟨u,h1,(h2.up hg).ren fun m hm=>sv x fun hc=>f1 k g hk e (by rw[hm,hc])⟩
 .simp only[Sx.upB] at e
  by_cases hm:m=nm
  .subst hm;simp only[if_true] at e;cases e;exact⟨os,hB,hos⟩
  .simp only[hm,if_false] at e
   obtain⟨os',h1,h2⟩:=r.bx m B e;exact⟨os',(h1.up hg).ren (if_neg hm) fun q hq=>sv x fun hc=>f2 m B hm e (by rw[<-hc];exact hq),fun o ho=>(hov m B hm e o (h2 o ho) (h1.blk ho)).1⟩
 .simp only[Sx.upB] at e e'
  by_cases hm:m=nm<;>by_cases hm':m'=nm
  .exact absurd (hm.trans hm'.symm) hne
  .subst hm;simp only[hm',if_false] at e'
   intro b hb hb';simp only[if_true] at hb;rw[if_neg hm'] at hb';obtain⟨os',h1,h2⟩:=r.bx m' B2 e';obtain⟨o,ho,rfl⟩:=h1.mem_of hb';exact(hov m' B2 hm' e' o (h2 o ho) hb').2 hb
  .subst hm';simp only[hm,if_false] at e
   intro b hb hb';simp only[if_true] at hb';rw[if_neg hm] at hb;obtain⟨os',h1,h2⟩:=r.bx m B e;obtain⟨o,ho,rfl⟩:=h1.mem_of hb;exact(hov m B hm e o (h2 o ho) hb).2 hb'
  .simp only[hm,hm',if_false] at e e'
   intro b hb hb';rw[if_neg hm] at hb;rw[if_neg hm'] at hb';exact r.dj m m' B B2 e e' hne b hb hb'
 .have hlt:nm<n:=by
   obtain⟨h,_⟩:=eJ.1 (hp.new nm hdn);rw[hp.sz] at h;exact h
  rw[if_neg (by omega)];exact r.fxd m p hm hm2 e
def b5.new(r:b5 GB C n tl tb ρ G ov a w){nm:Nat}{dst:Option Nat}{x:SV}{B':Bk}{os:List au}{ov':List au}{G':Gh}{w':World}{f:FX}{y:Value}(hf:jO [nm] dst tl tb)(hg:bD G G')(hh:bF C ov' G' w')
  (hB:jx (fun k=>if k=nm then x else ρ k) G' nm B' os)(hos: ∀o∈os,o∈ov')(hov: ∀o∈ov,o∈ov')(hnew: ∀o∈ov,x.a≠some ⟨o.b,0,none⟩)
  (hy:b6 (fun k=>if k=nm then x else ρ k) G' f y){a':Act}(hp:ui C n a dst y a')(hdn:dst=some nm:=by rfl):b5 GB C n (dO tl dst f) (Sx.upB tb [(nm,some B')]) (fun k=>if k=nm then x else ρ k) G' ov' a' w':=
 r.new' hf hg hh hB hos (fun _ _ _ _ o ho _=>⟨hov o ho,hnew o ho⟩) hy hp hdn
end
def b7(P:Program)(GB:Gh)(C:aC)(n:Nat)(lk:LK)(bk:BM)(o:Oper)(f:FX)(bl:List (Nat×Option Bk))(nw:List Nat):Prop:=
 cg n o.dst=true-> ∀(tl:LK) (tb:BM) (K:Act->World->Prop),iO lk tl->iO bk tb->jO nw o.dst tl tb->SX GB C n (dO tl o.dst f) (upB tb bl) K->SX GB C n tl tb (fun a w=> ∀Q,o.wp P a w K Q)
section
variable {P:Program} {GB:Gh} {C:aC} {n:Nat} {lk:LK} {bk:BM} {f:FX}
def b7.yd{o:Oper}(h: ∀ρ G ov a w,b5 GB C n lk bk ρ G ov a w-> ∃y,b6 ρ G f y/\Yd P C (cC a) ov G o y):b7 P GB C n lk bk o f [] []:=by
 intro hd tl tb K h1 h2 _ hk;refine⟨fun ρ G ov a w r Q=>?_⟩;obtain⟨y,hy,hY⟩:=h ρ G ov a w (r.mono h1 h2);exact jv (hY a w (c6 a) r.h) (hk.run ρ G ov _ w (r.put hy (r.putA y hd)))
end
inductive TK where
 |st (fo:List (Nat×Nat×Nat))
 |sl (e s b:Nat)
 |int (k:IntKind)
 |bl
 |pt
 |fc
 |sc
 |o
structure TI where
 k:TK
 sz:Nat
 z:Option (List FX)
 za:Bool
def Iu:Option Value->Bool
 |some (.agg _)=>true
 |_=>false
def tK:Value->FX
 | .slice none 0 0=> .nl
 | .bool true=> .tt
 | .bool false=> .ff
 |v=> .d (.v v)
def t7(P:Program):List Field->Option (List (Nat×Nat×Nat))
 |[]=>some []
 |f::t=>match P.info? f.type,t7 P t with
  |some i,some l=>some ((f.offset,f.type,i.size)::l)
  |_,_=>none
def jo(P:Program)(t:TypeId):TK:=match P.underlying t with
 |some (.struct fs)=>match t7 P fs.toList with
  |some l=> .st l
  |none=> .o
 |some (.slice e)=>match P.info? e with
  |some i=> .sl e i.size i.bytes
  |none=> .o
 |some (.int k)=> .int k
 |some .bool=> .bl
 |some (.pointer _)=> .pt
 |some (.interface _)=> .fc
 |some (.array ..)=> .o
 |some .string=> .sc
 |_=> .o
def e7(P:Program)(t:TypeId):Option TI:=match P.info? t with
 |some i=>some ⟨jo P t,i.size,i.zero.map fun v=>(aE v).map tK,Iu i.zero⟩
 |none=>none
abbrev TT:=List (Nat×TI)
def de:TT->Nat->Option TI
 |[],_=>none
 |(k,v)::t,j=>bif Nat.beq k j then some v else de t j
def kO(P:Program)(T:TT):Prop:= ∀t i,de T t=some i->e7 P t=some i
def kO.of{P:Program}: ∀{T:TT},T.map (fun e=>some e.2)=T.map (fun e=>e7 P e.1)->kO P T
 |[],_,t,i,h=>by cases h
 |(k,v)::T,e,t,i,h=>by
  simp only[bJ,List.cons.injEq] at e;simp only[de] at h
  cases hb:Nat.beq k t with
  |true=>rw[hb] at h;cases h;rw[<-aS hb];exact e.1.symm
  |false=>rw[hb] at h;exact kO.of e.2 t i h
def Ze(ρ:NE)(G:Gh)(v:Value):b6 ρ G (tK v) v:=by
 unfold tK;split
 .exact J
 .exact J
 .exact J
 .exact(aP (G:=G)).2 J
def KP(ρ:NE)(G:Gh): ∀m:List Value,dt ρ G (m.map tK) m
 |[]=>rfl
 |v::m=>⟨v,m,J,Ze ρ G v,KP ρ G m⟩
section
variable {P:Program} {t:TypeId} {i:TI}
def oC(h:e7 P t=some i): ∃j,P.info? t=some j/\i=⟨jo P t,j.size,j.zero.map fun v=>(aE v).map tK,Iu j.zero⟩:=by
 unfold e7 at h;split at h
 .rename_i j hj;cases h;exact⟨j,hj,rfl⟩
 .cases h
def o6{d:TypeDesc}(h:P.underlying t=some d)(w:World):(underlying t).run P w= .ok d w:=by
 show(program>>=_).run P w=_;rw[bh (w':=w) (a:=P) J,h];rfl
def V2{j:TypeInfo}(h:P.info? t=some j)(w:World):(typeInfo t).run P w= .ok j w:=by
 show(program>>=_).run P w=_;rw[bh (w':=w) (a:=P) J,h];rfl
def ss{j:TypeInfo}(h:P.info? t=some j)(w:World):(sizeOf t).run P w= .ok j.size w:=by
 show(typeInfo t>>=_).run P w=_;rw[bh (V2 h w)];rfl
def ya{d:TypeDesc}(h:P.underlying t=some d)(w:World):(isAgg t).run P w= .ok (match d with| .struct _| .array _ _=>true|_=>false) w:=by
 show(underlying t>>=_).run P w=_;rw[bh (o6 h w)]
 cases d<;>rfl
def TI.ag(i:TI):Option (Option Nat):=match i.k with
 | .st _=>some (some i.sz)
 | .o=>none
 |_=>bif Nat.beq i.sz 1 then some none else none
theorem wT{k:Nat}(h:e7 P t=some i)(hk:i.ag=some (some k)):mz P t k:=by
 obtain⟨j,h1,rfl⟩:=oC h;unfold TI.ag at hk
 cases e:jo P t with
 |st fo=>
  simp only[e] at hk;cases hk;unfold jo at e;split at e<;>first|(cases e;done)|skip
  .rename_i fs hu;exact⟨fun w=>ya hu w,fun w=>ss h1 w⟩
  .split at e<;>cases e
 |o=>simp only[e] at hk;cases hk
 |_=>simp only[e,cond_eq_ite] at hk;split at hk<;>cases hk
theorem vd(h:e7 P t=some i)(hk:i.ag=some none):i9 P t:=by
 obtain⟨j,h1,rfl⟩:=oC h;unfold TI.ag at hk;have key:j.size=1->(∀w,(isAgg t).run P w= .ok false w)->i9 P t:=fun e1 e2=>⟨e2,fun w=>by rw[ss h1 w,e1]⟩
 cases e:jo P t with
 |st fo=>simp only[e] at hk;cases hk
 |o=>simp only[e] at hk;cases hk
 |_=>
  simp only[e,cond_eq_ite] at hk;split at hk
  .rename_i hb
   refine key (aS hb) fun w=>?_;unfold jo at e;split at e<;>first|(cases e;done)|skip
   all_goals first
    |(rename_i hu;rw[ya hu w];done)
    |(split at e<;>first|(cases e;done)|(rename_i hu _ _ _;rw[ya hu w];done))
  .cases hk
def Al{z:List FX}(h:e7 P t=some i)(hz:i.z=some z): ∃v,gk P t v/\ ∀ρ G,dt ρ G z (aE v):=by
 obtain⟨j,h1,rfl⟩:=oC h
 cases hv:j.zero with
 |none=>simp only[hv] at hz;cases hz
 |some v=>
  simp only[hv] at hz;cases hz;exact⟨v,⟨by rw[h1];simp[hv]⟩,fun ρ G=>KP ρ G _⟩
def Gv: ∀{fs:List Field} {l:List (Nat×Nat×Nat)} {k off ft s:Nat},t7 P fs=some l->l[k]? =some (off,ft,s)-> ∃f,fs[k]? =some f/\f.offset=off/\f.type=ft/\ ∃j,P.info? ft=some j/\j.size=s
 |[],l,k,off,ft,s,h,e=>by cases h;simp at e
 |f::fs,l,k,off,ft,s,h,e=>by
  simp only[t7] at h;split at h
  .rename_i j l' hj hl
   cases h
   cases k with
   |zero=>simp at e;obtain⟨rfl,rfl,rfl⟩:=e;exact⟨f,rfl,rfl,rfl,j,hj,rfl⟩
   |succ k=>simp at e;obtain⟨g,h1,h2⟩:=Gv hl e;exact⟨g,by simpa using h1,h2⟩
  .cases h
def QV: ∀{fs:List Field} {l:List (Nat×Nat×Nat)},t7 P fs=some l-> ∀w,(fs.mapM (m:=Sem) fun f=>do pure (f.offset,<-sizeOf f.type)).run P w= .ok (l.map fun x=>(x.1,x.2.2)) w
 |[],l,h,w=>by cases h;rfl
 |f::fs,l,h,w=>by
  simp only[t7] at h;split at h
  .rename_i j l' hj hl
   cases h
   rw[nU];have h1:(do pure (f.offset,<-sizeOf f.type):Sem (Nat×Nat)).run P w= .ok (f.offset,j.size) w:=by
    rw[bh (ss hj w)];rfl
   rw[bh h1,bh (QV hl w)];rfl
  .cases h
def EV{fo:List (Nat×Nat×Nat)}(h:e7 P t=some i)(hk:i.k= .st fo): ∃fs,P.underlying t=some (.struct fs)/\t7 P fs.toList=some fo:=by
 obtain⟨j,h1,rfl⟩:=oC h;have e:jo P t= .st fo:=hk;unfold jo at e;split at e<;>first|(cases e;done)|skip
 .rename_i fs hu
  split at e
  .rename_i l hl;cases e;exact⟨fs,hu,hl⟩
  .cases e
 .split at e<;>cases e
theorem VX{fo:List (Nat×Nat×Nat)}{f off ft s:Nat}(h:e7 P t=some i)(hk:i.k= .st fo)(hf:fo[f]? =some (off,ft,s)):E8 P t f off ft:=by
 obtain⟨fs,hu,hl⟩:=EV h hk;obtain⟨g,h1,h2,h3,_⟩:=Gv hl hf;exact⟨fs,g,fun w=>o6 hu w,by simpa using h1,h2,h3⟩
theorem Sg{fo:List (Nat×Nat×Nat)}{f off ft s:Nat}(h:e7 P t=some i)(hk:i.k= .st fo)(hf:fo[f]? =some (off,ft,s+1)):nI P t f off:=by
 obtain⟨fs,hu,hl⟩:=EV h hk;obtain⟨g,h2,h3,h4,j,h5,h6⟩:=Gv hl hf;refine⟨fun b o w=>?_⟩;unfold Instr.fieldAt;rw[bh (o6 hu w)];have h2':fs[f]? =some g:=by simpa using h2
 simp only[h2'];have:(fieldPlace ⟨b,o,none⟩ g).run P w= .ok (Addr.add ⟨b,o,none⟩ off) w:=by
  unfold fieldPlace;rw[h4,bh (ss h5 w),h6,h3];rfl
 show(fieldPlace ⟨b,o,none⟩ g>>=_).run P w=_;rw[bh this];rfl
theorem RM{fo:List (Nat×Nat×Nat)}(h:e7 P t=some i)(hk:i.k= .st fo):G7 P t (fo.map fun x=>(x.1,x.2.2)):=by
 obtain⟨fs,hu,hl⟩:=EV h hk;refine⟨fs,fun w=>o6 hu w,fun w=>?_⟩;rw[Array.mapM_eq_mapM_toList,map_eq_pure_bind,bh (QV hl w)];rfl
theorem lg{e s b:Nat}(h:e7 P t=some i)(hk:i.k= .sl e s b):cB P t e s b:=by
 obtain⟨j,h1,rfl⟩:=oC h;have e':jo P t= .sl e s b:=hk;unfold jo at e';split at e'<;>first|(cases e';done)|skip
 .split at e'<;>cases e'
 .rename_i el hu
  split at e'
  .rename_i q hq;cases e';exact⟨hu,by rw[hq];rfl⟩
  .cases e'
theorem wB{k:IntKind}(h:e7 P t=some i)(hk:i.k= .int k):pg P t k:=by
 obtain⟨j,h1,rfl⟩:=oC h;have e:jo P t= .int k:=hk;unfold jo at e;split at e<;>first|(cases e;done)|(split at e<;>cases e;done)|skip
 rename_i k' hu;cases e;exact⟨fun w=>o6 hu w⟩
theorem T3(h:e7 P t=some i)(hk:i.k= .bl):Gj P t:=by
 obtain⟨j,h1,rfl⟩:=oC h;have e:jo P t= .bl:=hk;unfold jo at e;split at e<;>first|(cases e;done)|(split at e<;>cases e;done)|skip
 rename_i hu;exact⟨fun w=>o6 hu w⟩
theorem Nd(h:e7 P t=some i)(hk:i.k= .pt):HE P t:=by
 obtain⟨j,h1,rfl⟩:=oC h;have e:jo P t= .pt:=hk;unfold jo at e;split at e<;>first|(cases e;done)|(split at e<;>cases e;done)|skip
 rename_i el hu;exact⟨el,fun w=>o6 hu w⟩
theorem Vy(h:e7 P t=some i)(hk:i.k= .fc):HC P t:=by
 obtain⟨j,h1,rfl⟩:=oC h;have e:jo P t= .fc:=hk;unfold jo at e;split at e<;>first|(cases e;done)|(split at e<;>cases e;done)|skip
 rename_i el hu;exact⟨el,fun w=>o6 hu w⟩
end
def jE{α β:Type}:List α->(List α->β)->β
 |[],k=>k []
 |x::t,k=>jE t fun t'=>k (x::t')
def rC{α β:Type}: ∀(l:List α) (k:List α->β),jE l k=k l
 |[],_=>rfl
 |x::t,k=>by rw[jE,rC t]
def takeX:List FX->Nat->Nat->Option (List FX)
 |_,0,0=>some []
 |[],0,_+1=>none
 |v::t,0,k+1=>match takeX t 0 k with|some l=>some (v::l)|none=>none
 |[],_+1,_=>none
 |_::t,off+1,k=>takeX t off k
def uz:List FX->Nat->List FX->List FX
 |[],_,_=>[]
 |c::t,0,vs=>match vs with
  |[]=>c::t
  |v::vs=>v::uz t 0 vs
 |c::t,off+1,vs=>c::uz t off vs
def MP: ∀(n:List Value) (off:Nat),cp [] off n=[]
 |[],_=>rfl
 |_::n,off=>MP n (off+1)
def Fz: ∀(n:List Value) (y:Value) (m:List Value) (off:Nat),cp (y::m) (off+1) n=y::cp m off n
 |[],_,_,_=>rfl
 |v::n,y,m,off=>Fz n y (m.set off v) (off+1)
section
variable {ρ:NE} {G:Gh}
def dt.takeX: ∀{ds:List FX} {m:List Value} {off k:Nat} {l:List FX},dt ρ G ds m->takeX ds off k=some l-> ∃n,cA m off k=some n/\dt ρ G l n
 |[],m,0,0,l,h,e=>by cases e;rw[show m=[] from h];exact⟨[],J,J⟩
 |d::t,m,0,0,l,⟨y,n,e1,h1,h2⟩,e=>by subst e1;cases e;exact⟨[],J,J⟩
 |[],m,0,k+1,l,h,e=>by simp[Sx.takeX] at e
 |d::t,m,0,k+1,l,⟨y,n,e1,h1,h2⟩,e=>by
  subst e1;simp only[Sx.takeX] at e;split at e
  .rename_i l' hl'
   cases e
   obtain⟨q,hq,hl⟩:=h2.takeX hl';exact⟨y::q,by simp only[cA,hq],y,q,J,h1,hl⟩
  .cases e
 |[],m,off+1,k,l,h,e=>by simp[Sx.takeX] at e
 |d::t,m,off+1,k,l,⟨y,n,e1,h1,h2⟩,e=>by subst e1;exact h2.takeX (off:=off) (k:=k) e
def dt.ov: ∀{ds:List FX} {m:List Value} {off:Nat} {vs:List FX} {n:List Value},dt ρ G ds m->dt ρ G vs n->dt ρ G (uz ds off vs) (cp m off n)
 |[],m,off,vs,n,h,k=>by rw[show m=[] from h,MP];rfl
 |d::t,m,0,[],n,h,k=>by rw[show n=[] from k];exact h
 |d::t,m,0,v::vs,n,⟨y,m',e,h1,h2⟩,⟨u,n',e',k1,k2⟩=>by
  subst e e';show dt ρ G (v::uz t 0 vs) (cp (u::m') 1 n');rw[Fz];exact⟨u,_,J,k1,h2.ov k2⟩
 |d::t,m,off+1,vs,n,⟨y,m',e,h1,h2⟩,k=>by
  subst e;rw[Fz];exact⟨y,_,J,h1,h2.ov k⟩
def BK:List FX->Option (List DV×Nat×List DV)
 |[]=>none
 |f::t=>match f with
  | .rw nm=>match ki t with
   |some post=>some ([],nm,post)
   |none=>none
  |f=>match j' f,BK t with
   |some d,some (pre,nm,post)=>some (d::pre,nm,post)
   |_,_=>none
def OY: ∀{l:List FX} {m:List Value} {pre:List DV} {nm:Nat} {post:List DV},dt ρ G l m->BK l=some (pre,nm,post)-> ∃m1 m2,m=m1++Value.slice (ρ nm).a (ρ nm).n (ρ nm).c::m2/\IsLs G pre m1/\IsLs G post m2
 |[],m,pre,nm,post,h,e=>by cases e
 |f::t,m,pre,nm,post,⟨y,n,e1,h1,h2⟩,e=>by
  subst e1;simp only[BK] at e;split at e
  .split at e<;>cases e
   rename_i hp
   cases (show y=_ from h1)
   exact⟨[],n,J, .nil,uK h2 hp⟩
  .split at e<;>cases e
   rename_i hd hu;obtain⟨m1,m2,rfl,k1,k2⟩:=OY h2 hu;exact⟨y::m1,m2,J, .cons (nH h1 hd) k1,k2⟩
def ue(l:List FX):Option FX:=match ki l with
 |some ds=>some (.d (.ag ds))
 |none=>match BK l with
  |some (pre,nm,post)=>some (.bx false pre nm post)
  |none=>none
def GQ{l:List FX}{n:List Value}{f:FX}(h:dt ρ G l n)(e:ue l=some f):b6 ρ G f (.agg ⟨n⟩):=by
 unfold ue at e;split at e
 .rename_i hd;cases e;exact dm.2 ⟨n,rfl,uK h hd⟩
 .split at e<;>cases e
  rename_i hu;obtain⟨m1,m2,rfl,k1,k2⟩:=OY h hu;exact⟨m1,m2,J,k1,k2⟩
def BW:Nat->List DV->Nat->List DV->Option FX
 |0,[],nm,_=>some (.rw nm)
 |i+1,[],_,post=>match post[i]? with
  |some d=>some (.d d)
  |none=>none
 |0,d::_,_,_=>some (.d d)
 |i+1,_::t,nm,post=>BW i t nm post
def NI: ∀{i:Nat} {pre:List DV} {nm:Nat} {post:List DV} {f:FX} {m1 m2:List Value},BW i pre nm post=some f->IsLs G pre m1->IsLs G post m2-> ∃y,(m1++Value.slice (ρ nm).a (ρ nm).n (ρ nm).c::m2)[i]? =some y/\b6 ρ G f y
 |0,[],nm,post,f,m1,m2,e,h1,h2=>by cases e;rw[ck.1 h1];exact⟨_,J,J⟩
 |i+1,[],nm,post,f,m1,m2,e,h1,h2=>by
  rw[ck.1 h1];simp only[BW] at e;split at e<;>cases e;rename_i hp;obtain⟨l',h3,h4⟩:=h2.get hp;exact⟨l',by simpa using h3,h4⟩
 |0,d::t,nm,post,f,m1,m2,e,h1,h2=>by
  cases e
  obtain⟨y,n,rfl,k1,k2⟩:=bm.1 h1;exact⟨y,J,k1⟩
 |i+1,d::t,nm,post,f,m1,m2,e,h1,h2=>by
  obtain⟨y,n,rfl,k1,k2⟩:=bm.1 h1;obtain⟨u,h3,h4⟩:=NI (i:=i) e k2 h2;exact⟨u,by simpa using h3,h4⟩
end
structure CR where
 vc:Option Prop
 f:FX
 bl:List (Nat×Option Bk)
 nw:List Nat
def kq:IntKind->IntKind->Bool
 | .i64, .i64=>true
 | .u64, .u64=>true
 | .u32, .u32=>true
 | .u8, .u8=>true
 | .i32, .i32=>true
 |_,_=>false
def AB{k j:IntKind}(h:kq k j=true):j=k:=by cases k<;>cases j<;>first|rfl|(simp[kq] at h)
def EN{α:Type}(k:IntKind)(x:Int)(K:Prop->Option α):Option α:=match k with
 | .i64=>K (-9223372036854775808<=x/\x<=9223372036854775807)
 | .u64=>K (0<=x/\x<=18446744073709551615)
 | .u32=>K (0<=x/\x<=4294967295)
 | .u8=>K (0<=x/\x<=255)
 | .i32=>K (-2147483648<=x/\x<=2147483647)
 |_=>none
def RI{α:Type}{k:IntKind}{x:Int}{K:Prop->Option α}{r:α}(h:EN k x K=some r): ∃p,K p=some r/\(p->k.min<=x/\x<=k.max):=by
 cases k<;>first|(simp[EN] at h;done)|exact⟨_,h,id⟩
def vN(k:IntKind)(x:Int):Option (Option Prop×FX):=EN k x fun p=>some (some p, .d (.v (.int k x)))
def xL(op:BinOp)(k:IntKind)(p q:Int):Option (Option Prop×FX):=match op with
 | .add=>vN k (p+q)
 | .sub=>vN k (p-q)
 | .mul=>vN k (p*q)
 | .quo=>match k with
  | .u64=>some (some (0<=p/\p<=18446744073709551615/\0<q), .d (.v (.int .u64 (p/q))))
  |k=>some (some (q≠0), .d (.v (.int k (k.wrap (p.tdiv q)))))
 | .rem=>match k with
  | .u64=>some (some (0<=p/\q≠0), .d (.v (.int .u64 (p%q))))
  | .u32=>some (some (0<=p/\q≠0), .d (.v (.int .u32 (p%q))))
  |k=>some (some (q≠0), .d (.v (.int k (p.tmod q))))
 | .shr=>some (some (0<=q), .d (.v (.int k (p.fdiv (2^min q.toNat k.bits)))))
 | .shl=>some (some (0<=q), .d (.v (.int k (k.wrap (p*2^min q.toNat k.bits)))))
 | .or=>match k with
  | .u64=>some (none, .d (.v (.int .u64 ((BitVec.ofInt 64 p ||| BitVec.ofInt 64 q).toNat:Nat))))
  | .u32=>some (none, .d (.v (.int .u32 ((BitVec.ofInt 32 p ||| BitVec.ofInt 32 q).toNat:Nat))))
  |_=>none
 | .and=>match k with
  | .u64=>some (none, .d (.v (.int .u64 ((BitVec.ofInt 64 p &&& BitVec.ofInt 64 q).toNat:Nat))))
  | .u32=>some (none, .d (.v (.int .u32 ((BitVec.ofInt 32 p &&& BitVec.ofInt 32 q).toNat:Nat))))
  |_=>none
 | .lss=>some (none, .pr (p<q) inferInstance)
 | .leq=>some (none, .pr (p<=q) inferInstance)
 | .gtr=>some (none, .pr (q<p) inferInstance)
 | .geq=>some (none, .pr (q<=p) inferInstance)
 | .eql=>some (none, .pr (p=q) inferInstance)
 | .neq=>some (none, .pr (p≠q) inferInstance)
 |_=>none
def qD:FX->Option Bool
 | .tt=>some true
 | .ff=>some false
 | .pr p h=>some (@decide p h)
 | .d (.v (.bool b))=>some b
 |_=>none
def uZ{ρ:NE}{G:Gh}{f:FX}{b:Bool}{y:Value}(h:b6 ρ G f y)(e:qD f=some b):y= .bool b:=by
 unfold qD at e;split at e<;>first|(cases e;done)|(cases e;exact h)|(cases e;exact(aP (G:=G)).1 h)
def F':FX->Option FX
 | .tt=>some .ff
 | .ff=>some .tt
 | .pr p h=>some (.pr (¬p) (@instDecidableNot p h))
 | .d (.v (.bool b))=>some (.d (.v (.bool (!b))))
 |_=>none
def aEK{ρ:NE}{G:Gh}{f g:FX}{y:Value}(h:b6 ρ G f y)(e:F' f=some g): ∃b,y= .bool b/\b6 ρ G g (.bool (!b)):=by
 unfold F' at e;split at e
 .cases e;exact⟨true,h,J⟩
 .cases e;exact⟨false,h,J⟩
 .rename_i p hp
  cases e
  refine⟨@decide p hp,h,?_⟩;show Value.bool _= .bool _;congr 1
  cases hp<;>rfl
 .rename_i b;cases e;exact⟨b,(aP (G:=G)).1 h,(aP (G:=G)).2 rfl⟩
 .cases e
def E2(T:TT)(t:TypeId)(f:FX)(y:Operand):Option Bool:=match de T t with
 |some ⟨.fc,_,_,_⟩=>match y,f with
  | .const .nilIface, .d (.v .nilIface)=>some true
  | .const .nilIface, .d (.v (.iface _ _))=>some false
  |_,_=>none
 |some ⟨.pt,_,_,_⟩=>match y,f with
  | .const (.pointer none), .d (.v (.pointer none))=>some true
  | .const (.pointer none), .ov _ _=>some false
  | .const (.pointer none), .ep _=>some false
  | .const (.pointer none), .be _ _ _ _=>some false
  | .const (.pointer none), .d (.pt _)=>some false
  |_,_=>none
 |some ⟨.sl _ _ _,_,_,_⟩=>match y,f with
  | .const (.slice none _ _), .nl=>some true
  |_,_=>none
 |_=>none
def J9(T:TT)(op:BinOp)(t:TypeId)(b:Bool):Option (Option Prop×FX):=match de T t with
 |some ⟨.pt,_,_,_⟩=>match op with
  | .eql=>some (none, .pr (b=false) inferInstance)
  | .neq=>some (none, .pr (b=true) inferInstance)
  |_=>none
 |_=>none
def Ht(T:TT)(op:BinOp)(t:TypeId)(f g:FX)(y:Operand):Option (Option Prop×FX):=
 match f,g with
 | .d (.v (.int k p)), .d (.v (.int j q))=>match op with
  | .shr=>xL .shr k p q
  | .shl=>xL .shl k p q
  |op=>bif kq k j then xL op k p q else none
 | .d (.op b _), .d (.v (.pointer none))=>J9 T op t b
 |f,g=>match E2 T t f y with
  |some b=>match op with
   | .eql=>some (none,bif b then .tt else .ff)
   | .neq=>some (none,bif b then .ff else .tt)
   |_=>none
  |none=>match de T t,qD f,qD g with
   |some ⟨.bl,_,_,_⟩,some a,some b=>match op with
    | .eql=>some (none, .d (.v (.bool (a==b))))
    | .neq=>some (none, .d (.v (.bool (!(a==b)))))
    |_=>none
   |_,_,_=>none
def Bi(mx:Bool)(f g:FX):Option FX:=match f,g with
 | .d (.v (.int k p)), .d (.v (.int j q))=>bif kq k j then(match mx with
  |true=>some (.d (.v (.int k (if q>p then q else p))))
  |false=>some (.d (.v (.int k (if q<p then q else p))))) else none
 |_,_=>none
def Ej(bk:BM)(i:TI)(f:FX):Option FX:=match i.ag with
 |some (some k)=>match f with
  | .ov nm off=>match bk nm with
   |some (.o _ cs _)=>match takeX cs off k with
    |some l=>ue l
    |none=>none
   |_=>none
  | .ep cs=>match takeD cs 0 k with
   |some l=>some (.d (.ag l))
   |none=>none
  |_=>none
 |some none=>match f with
  | .ov nm off=>match bk nm with
   |some (.o _ cs _)=>cs[off]?
   |_=>none
  | .ep cs=>match cs with
   |d::_=>some (.d d)
   |[]=>none
  |_=>none
 |none=>none
def FX.flat:FX->Bool
 | .d x=>x.flat
 | .bx _ _ _ _=>false
 | .un=>false
 | .no=>false
 |_=>true
def vP(f:FX)(d:Nat):Bool:=match f.nm with
 |some m=>!Nat.beq m d
 |none=>true
def Cl(bk:BM)(i:TI)(fa fv:FX):Option (List (Nat×Option Bk)):=match fa with
 | .ov nm off=>match bk nm with
  |some (.o ty cs lo)=>match i.ag with
   |some (some k)=>bif fv.okc&&(Nat.beq fv.cells.length k&&Nat.ble (off+k) cs.length) then jE (uz cs off fv.cells) fun cs'=>some [(nm,some (.o ty cs' lo))] else none
   |some none=>bif fv.flat&&Nat.blt off cs.length then jE (cs.set off fv) fun cs'=>some [(nm,some (.o ty cs' lo))] else none
   |none=>none
  |_=>none
 |_=>none
def s7(lk:LK)(fo:List (Nat×Nat×Nat)):List FX->List (Nat×Operand)->Option (List FX)
 |cs,[]=>some cs
 |cs,(i,x)::r=>match fo[i]?,aI lk x with
  |some (off,_,k),some d=>bif d.okc&&(Nat.beq d.cells.length k&&Nat.ble (off+k) cs.length) then s7 lk fo (uz cs off d.cells) r else none
  |_,_=>none
def FU(bk:BM)(f:FX):Option FX:=match f with
 | .nl=>some (.d (.v (.int .i64 0)))
 | .d (.sl l)=>some (.d (.v (.int .i64 (l.length:Nat))))
 | .ct l=>some (.d (.v (.int .i64 (l.length:Nat))))
 | .rw nm=>match bk nm with
  |some (.b _ _ ds _)=>some (.d (.v (.int .i64 (ds.length:Nat))))
  |_=>none
 |_=>none
def FO(fo:List (Nat×Nat×Nat))(i:Nat)(f:FX):Option FX:=match fo[i]? with
 |some (off,_,_+1)=>match f with
  | .ov nm o=>some (.ov nm (o+off))
  | .ep l=>bif Nat.ble off l.length then jE (l.drop off) fun l'=>some (.ep l') else none
  | .be nm s i j=>some (.be nm s i (j+off))
  |_=>none
 |_=>none
def Ep(T:TT)(fo:List (Nat×Nat×Nat))(i:Nat)(f:FX):Option FX:=match f with
 | .d (.ag cs)=>match fo[i]? with
  |some (off,ft,_)=>match de T ft with
   |some j=>match j.ag with
    |some (some k)=>match takeD cs off k with
     |some l=>some (.d (.ag l))
     |none=>none
    |some none=>match cs[off]? with
     |some c=>some (.d c)
     |none=>none
    |none=>none
   |none=>none
  |none=>none
 |_=>none
def Hh(T:TT)(t t':TypeId)(f:FX):Option (Option Prop×FX):=match de T t,de T t' with
 |some ⟨.int k,_,_,_⟩,some ⟨.int k',_,_,_⟩=>match f with
  | .d (.v (.int j p))=>bif kq k j then(match k' with
   | .u32=>some (none, .d (.v (.int .u32 (p%4294967296))))
   |k'=>vN k' p) else none
  |_=>none
 |_,_=>none
def EL(T:TT)(bk:BM)(t:TypeId)(f g:FX):Option (Option Prop×FX):=match f with
 | .rw nm=>match bk nm with
  |some (.b _ s ds _)=>match de T t with
   |some ⟨.sl _ s' _,_,_,_⟩=>match g with
    | .d (.v (.int _ i))=>bif Nat.beq s s' then some (some (0<=i/\i<(ds.length:Nat)), .be nm s i.toNat 0) else none
    |_=>none
   |_=>none
  |_=>none
 |_=>none
def ny(r:Option FX):Option CR:=match r with
 |some f=>some ⟨none,f,[],[]⟩
 |none=>none
def uX(r:Option (Option Prop×FX)):Option CR:=match r with
 |some (v,f)=>some ⟨v,f,[],[]⟩
 |none=>none
def sG{α:Type}(lk:LK)(x y:Operand)(K:FX->FX->Option α):Option α:=match aI lk x with
 |some f=>match aI lk y with
  |some g=>K f g
  |none=>none
 |none=>none
def nn{α:Type}(lk:LK)(x:Operand)(K:FX->Option α):Option α:=match aI lk x with
 |some f=>K f
 |none=>none
def zF{α:Type}(T:TT)(t:TypeId)(K:List (Nat×Nat×Nat)->TI->Option α):Option α:=match de T t with
 |some ⟨.st fo,sz,z,za⟩=>K fo ⟨.st fo,sz,z,za⟩
 |_=>none
def yE{α:Type}(T:TT)(t:TypeId)(K:TI->Option α):Option α:=match de T t with
 |some i=>K i
 |none=>none
def DH(i:Nat)(f:FX):Option FX:=match f with
 | .d (.tp ds)=>match ds[i]? with
  |some d=>some (.d d)
  |none=>none
 | .bx true pre nm post=>BW i pre nm post
 |_=>none
def GA(f:FX):Option (Option Prop×FX):=match f with
 | .ov a b=>some (none, .ov a b)
 | .ep l=>some (none, .ep l)
 | .be a b c d=>some (none, .be a b c d)
 | .d (.pt l)=>some (none, .ep l)
 | .d (.op b l)=>some (some (b=true), .ep l)
 |_=>none
def F6(c f g:FX):Option FX:=match c with
 | .tt=>some f
 | .ff=>some g
 |_=>none
def Gt(op:UnOp)(f:FX):Option (Option Prop×FX):=match op with
 | .not=>match F' f with
  |some g=>some (none,g)
  |none=>none
 | .neg=>match f with
  | .d (.v (.int k p))=>vN k (-p)
  |_=>none
 |_=>none
def wm(T:TT)(lk:LK)(bk:BM)(dst:Option Nat)(op:Op):Option CR:=match op with
 | .move x=>ny (aI lk x)
 | .assign x=>ny (aI lk x)
 | .pick c x y=>nn lk c fun c=>sG lk x y fun f g=>ny (F6 c f g)
 | .alloc t=>match dst with
  |some d=>yE T t fun i=>match i.z with
   |some z=>jE z fun cs=>some ⟨none, .ov d 0,[(d,some (.o t cs true))],[d]⟩
   |none=>none
  |none=>none
 | .box t x=>match dst with
  |some d=>nn lk x fun f=>bif f.okc&&vP f d then jE f.cells fun cs=>some ⟨none, .ov d 0,[(d,some (.o t cs true))],[d]⟩ else none
  |none=>none
 | .nilCheck x=>nn lk x fun f=>uX (GA f)
 | .fieldAddr t x i=>zF T t fun fo _=>nn lk x fun f=>ny (FO fo i f)
 | .field t x i=>zF T t fun fo _=>nn lk x fun f=>ny (Ep T fo i f)
 | .load t x=>yE T t fun i=>nn lk x fun f=>ny (Ej bk i f)
 | .store t x y=>yE T t fun i=>sG lk x y fun f g=>match Cl bk i f g with
  |some bl=>some ⟨none, .un,bl,[]⟩
  |none=>none
 | .extract x i=>nn lk x fun f=>ny (DH i f)
 | .build t parts=>zF T t fun fo i=>match i.z with
  |some z=>match s7 lk fo z parts.toList with
   |some cs=>match ue cs with
    |some f=>some ⟨none,f,[],[]⟩
    |none=>none
   |none=>none
  |none=>none
 | .binOp op t x y _=>sG lk x y fun f g=>uX (Ht T op t f g y)
 | .unOp op _ x=>nn lk x fun f=>uX (Gt op f)
 | .convert t t' x=>nn lk x fun f=>uX (Hh T t t' f)
 | .indexAddr t x y=>sG lk x y fun f g=>uX (EL T bk t f g)
 | .call ⟨.builtin .len,⟨[x]⟩,⟨[t]⟩⟩=>match de T t with
  |some ⟨.sl _ _ _,_,_,_⟩=>nn lk x fun f=>ny (FU bk f)
  |_=>none
 | .call ⟨.builtin .max,⟨[x,y]⟩,⟨[_,_]⟩⟩=>sG lk x y fun f g=>ny (Bi true f g)
 | .call ⟨.builtin .min,⟨[x,y]⟩,⟨[_,_]⟩⟩=>sG lk x y fun f g=>ny (Bi false f g)
 |_=>none
end Go.Sx
end
