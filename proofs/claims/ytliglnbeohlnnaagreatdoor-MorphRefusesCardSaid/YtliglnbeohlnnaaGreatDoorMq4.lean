import Derived.Test.YtliglnbeohlnnaaGreatDoorMq3
set_option linter.all false
set_option maxRecDepth 100000
section
namespace Go.Sx
open Go
variable {vs m c1 c2 l es:List Value}{B M own' rest L os ov':List aB}{P:Program}{C:aF}{n e by_ i s' off ft:Nat}{G A GB G':Gh}{Φ Ψ:Act->World->Prop}{dst:Option Nat}{t t' ty':TypeId}{pos:String}{af:Array Edge}{y:Value}{ops:Array Oper}{Q:Exit->Act->World->Prop}{r:List Oper}{j:TypeInfo}{w w':World}{α:Type}{a a':Act}
def io(s:Nat)(ty:TypeId)(x:SV)(vs:List Value)(B:List aB):Prop:=
 (vs=[]/\x=⟨none,0,0⟩/\B=[])\/
 ∃b rest lo,x=⟨some ⟨b,0,none⟩,vs.length,x.c⟩/\B=[⟨b,aH vs++rest,ty,lo⟩]/\(aH vs).length=vs.length*s/\(aH vs).length+rest.length=x.c*s/\vs.length<=x.c
def io.nil(s:Nat)(ty:TypeId):io s ty ⟨none,0,0⟩ [] []:= .inl ⟨J,J,J⟩
def io.relo{s:Nat}{ty:TypeId}{x:SV}{vs:List Value}{B:List aB}(h:io s ty x vs B)(fl:Nat->Bool):io s ty x vs (B.map (Go.Sx.relo fl)):=by
 rcases h with⟨h1,h2,h3⟩|⟨b,rest,lo,h1,h2,h3,h4,h5⟩
 .exact .inl ⟨h1,h2,by rw[h3];rfl⟩
 .exact .inr ⟨b,rest,fl b,h1,by rw[h2];rfl,h3,h4,h5⟩
def io.asB{s:Nat}{ty:TypeId}{x:SV}{vs:List Value}{B:List aB}(h:io s ty x vs B):io s ty x vs (asB B):=by
 rcases h with⟨h1,h2,h3⟩|⟨b,rest,lo,h1,h2,h3,h4,h5⟩
 .exact .inl ⟨h1,h2,by rw[h3];rfl⟩
 .exact .inr ⟨b,rest,false,h1,by rw[h2];rfl,h3,h4,h5⟩
def io.len{s:Nat}{ty:TypeId}{x:SV}(h:io s ty x vs B):x.n=vs.length:=by
 rcases h with⟨h1,h2,h3⟩|⟨b,rest,lo,h1,h2,h3,h4,h5⟩
 .rw[h2,h1];rfl
 .rw[h1]
def awn{m:aB}(h:m∈M)(hl:m.lo=false):gI M m.b=false:=by
 refine sQ.2 ⟨m,h,?_⟩;simp[hl]
def Dy(b:Nat)(h: ∀m∈M,m.lo=true):gI M b=true:=by
 refine dJ.2 fun m hm=>?_;simp[h m hm]
section
variable {fr:Fr}{own:List aB}
variable {gd:Option (Nat×Bool)}{x y:Operand}{s:Nat}
def Vd[hT:cD P t e s by_][hN:j0 P t']{z:Value}[hz:gv P e z]{w:SV}{vs:List Value}{v:Value}{B:List aB}(L:List aB){ad2:Option Addr}{cap2:Nat}
  (ho:own=L++B)(hB:io s e w vs B)(hx:aD fr x=some (.slice w.a w.n w.c))(hy:aD fr y=some (.slice ad2 1 cap2))
  (hsy:m8 P C own G s 1 (.slice ad2 1 cap2) (aG v))(hv:(aG v).length=s)(hf: ∀c∈aG v,flat c=true)
  (hby:0<by_)(hb:(vs.length+1)*by_<=140737488355328)(hzs:(aG z).length=s)(hd:cg n dst=true)
  (h: ∀w' B',io s e w' (vs++[v]) B'->St C n (put fr dst (.slice w'.a w'.n w'.c)) (L++B') G Φ):
  Ch P C n fr own G ⟨dst, .call ⟨.builtin .append, #[x,y], #[t,t']⟩,ty',pos,af,gd⟩ Φ:=by
 subst ho;rcases hB with⟨h1,h2,h3⟩|⟨b,rest,lo,h1,h2,h3,h4,h5⟩
 .subst h1 h2 h3
  rw[gX] at hsy⊢;refine Fd (z:=z) (xs:=[]) (ys:=aG v) hx hy (vn) hsy (by show 0<0+1;omega) hby ozF hd (fun b cap' hc=>?_);refine AV (L++[⟨b,[]++aG v++dH z (cap'-(0+1)),e,true⟩]) ?_ (h ⟨some ⟨b,0,none⟩,1,cap'⟩ _ (.inr ⟨b,dH z (cap'-(0+1)),true,J,?_,?_,?_,by simpa using hc⟩))
  .exact(jK (l₁:=[_]) (l₂:=L))
  .simp[aH]
  .simp[aH,hv]
  .simp only[kV,xv,hv,pu,hzs]
   obtain⟨c,rfl⟩: ∃c,cap'=c+1:=⟨cap'-1,by have:0+1<=cap':=hc;omega⟩;rw[show c+1-(0+1)=c by omega,gQ,lV]
 .have hwc:w.a=some ⟨b,0,none⟩/\w.n=vs.length:=by rw[h1];exact⟨J,J⟩
  rw[hwc.1,hwc.2] at hx;subst h2;have hsub:jE (L++[⟨b,aH vs++rest,e,lo⟩]) ⟨b,aH vs++rest,e,lo⟩ L:=by
   clear hsy h
   induction L with
   |nil=>exact .hd ..
   |cons a l ih=>exact .tl _ _ _ _ ih
  refine Km (z:=z) (xs:=aH vs) (ys:=aG v) (rest:=rest) hx hy hsub h3 h4 h5 hsy (by rw[hv,nU]) hf hby hb hzs hd (fun b' lo' cap' rest' hc hr=>?_);refine AV (L++[⟨b',aH vs++aG v++rest',e,lo'⟩]) ?_ (h ⟨some ⟨b',0,none⟩,vs.length+1,cap'⟩ _ (.inr ⟨b',rest',lo',omc,?_,?_,?_,by simpa using hc⟩))
  .exact(jK (l₁:=[_]) (l₂:=L))
  .rw[oE,xv]
  .rw[oE,xv,aY,h3,hv,aY,fY,gQ]
  .rw[oE,xv,aY,h3,hv]
   rw[gQ] at hr;show vs.length*s+s+rest'.length=cap'*s;omega
end
instance mz.nil (l:List aB):mz [] l:=⟨jV l⟩
def I8{fr:Fr}{own:List aB}(e:own=own')(h:St C n fr own' G Φ):St C n fr own G Φ:=e▸h
def AA{fr:Fr}{own:List aB}{gd:Option (Nat×Bool)}{f:FuncId}{fo:Operand}{args:Array Operand}{tys:Array TypeId}{K:Value->List aB->Gh->Prop}(ho:aD fr fo=some (.func (.func f) ⟨c1⟩ ⟨c2⟩))(hv:fG fr args.toList=some vs)
  (hp:own.Perm (M++rest))(hF:iu P f (c1++vs++c2) M G K)(hd:cg n dst=true)
  (h: ∀v own1 (G':Gh) (fl:Nat->Bool),[GE G G']->(∀m∈M,m.lo=false->fl m.b=false)->((∀m∈M,m.lo=true)-> ∀b,fl b=true)->K v own1 G'->St C n (put fr dst v) (own1.map (relo fl)++rest) G' Φ):
  Ch P C n fr own G ⟨dst, .call ⟨.value fo,args,tys⟩,ty',pos,af,gd⟩ Φ:=
 T3 ho hv hp hF hd (fun v own1 G' _ hK=>h v own1 G' (gI M) (fun _ hm hl=>awn hm hl) (fun hl b=>Dy b hl) hK)
def R9{s:Nat}{rest:List Value}{x:Value}{j:Nat}(hj:j<s): ∀(vs:List Value) (n:Nat) (hn:n<vs.length),(∀v∈vs,(aG v).length=s)->
  (aH vs++rest).set (n*s+j) x=aH (vs.take n)++((aG vs[n]).set j x++(aH (vs.drop (n+1))++rest))
 |[],n,hn,_=>by simp at hn
 |v::vs,0,hn,h=>by
  have h2:=h v aZ;have e:aH (v::vs)=aG v++aH vs:=by simp[aH]
  rw[e,dV,kS,eM,List.set_append_left _ _ we];simp[aH]
 |v::vs,n+1,hn,h=>by
  have h2:=h v aZ;have ih:=R9 (rest:=rest) (x:=x) hj vs n (by simpa using hn) (fun u hu=>h u (aJ _ hu));have e:aH (v::vs)=aG v++aH vs:=by simp[aH]
  rw[e,dV,nM _ _ (by rw[h2,gQ];omega),h2,show(n+1)*s+j-s=n*s+j by rw[gQ];omega,ih];simp[aH]
def ao0{fr:Fr}{s:Nat}{ty:TypeId}{x:SV}(hC:C.mb=[])(hB:io s ty x vs B)(hvs: ∀v∈vs,(aG v).length=s)
  (h: ∀G':Gh,[GE G G']->gp G' s x vs->St C n fr L G' Φ):St C n fr (L++B) G Φ:=by
 rcases hB with⟨h1,h2,h3⟩|⟨b,rest,lo,h1,h2,h3,h4,h5⟩
 .subst h1 h2 h3
  rw[gX];exact @h G ⟨bI.refl _⟩ (gp.nil _ _)
 .subst h2
  refine AV (⟨b,aH vs++rest,ty,lo⟩::L) jK ?_;refine aI0 hC ?_;refine Bm b (.hd ..) ?_;intro G' hG hg;refine @h G' hG ?_;rw[h1];exact gp.of_flat hvs hg.h h5
inductive DV where
 |v (x:Value)
 |ag (l:List DV)
 |tp (l:List DV)
 |pt (l:List DV)
 |op (b:Bool) (l:List DV)
 |sl (l:List DV)
mutual
def Is(G:Gh):DV->Value->Prop
 | .v x,y=>y=x
 | .ag l,y=> ∃m,y= .agg ⟨m⟩/\IsLs G l m
 | .tp l,y=> ∃m,y= .tuple ⟨m⟩/\IsLs G l m
 | .pt l,y=> ∃b m,y= .pointer (some ⟨b,0,none⟩)/\G b=some m/\IsLs G l m
 | .op b l,y=>(b=false/\y= .pointer none)\/(b=true/\ ∃b m,y= .pointer (some ⟨b,0,none⟩)/\G b=some m/\IsLs G l m)
 | .sl l,y=> ∃(s:Nat) (x:SV) (es:List Value),y= .slice x.a x.n x.c/\gp G s x es/\IsLs G l es
def IsLs(G:Gh):List DV->List Value->Prop
 |[],m=>m=[]
 |d::t,m=> ∃y n,m=y::n/\Is G d y/\IsLs G t n
end
mutual
def Is.up'{A G:Gh}(h:bI A G): ∀(d:DV) (y:Value),Is A d y->Is G d y
 | .v x,y,k=>by simp only[Is] at k⊢;exact k
 | .ag l,y,k=>by simp only[Is] at k⊢;obtain⟨m,e,k⟩:=k;exact⟨m,e,IsLs.up' h l m k⟩
 | .tp l,y,k=>by simp only[Is] at k⊢;obtain⟨m,e,k⟩:=k;exact⟨m,e,IsLs.up' h l m k⟩
 | .pt l,y,k=>by simp only[Is] at k⊢;obtain⟨b,m,e,hb,k⟩:=k;exact⟨b,m,e,h _ _ hb,IsLs.up' h l m k⟩
 | .op _ l,y,k=>by simp only[Is] at k⊢;exact k.imp id fun⟨e1,b,m,e,hb,k⟩=>⟨e1,b,m,e,h _ _ hb,IsLs.up' h l m k⟩
 | .sl l,y,k=>by simp only[Is] at k⊢;obtain⟨s,x,es,e,hs,k⟩:=k;exact⟨s,x,es,e,hs.up' h,IsLs.up' h l es k⟩
def IsLs.up'{A G:Gh}(h:bI A G): ∀(d:List DV) (y:List Value),IsLs A d y->IsLs G d y
 |[],y,k=>by simp only[IsLs] at k⊢;exact k
 |d::t,y,k=>by simp only[IsLs] at k⊢;obtain⟨u,n,e,h1,h2⟩:=k;exact⟨u,n,e,Is.up' h d u h1,IsLs.up' h t n h2⟩
end
section
def Is.up{d:DV}(k:Is A d y)(h:bI A G):Is G d y:=Is.up' h d y k
def IsLs.up{d:List DV}{y:List Value}(k:IsLs A d y)(h:bI A G):IsLs G d y:=IsLs.up' h d y k
def aI{x:Value}:Is G (.v x) y↔y=x:=by simp only[Is]
def eG{l:List DV}:Is G (.ag l) y↔ ∃m,y= .agg ⟨m⟩/\IsLs G l m:=by simp only[Is]
def mo{l:List DV}:Is G (.tp l) y↔ ∃m,y= .tuple ⟨m⟩/\IsLs G l m:=by simp only[Is]
def lG{l:List DV}:Is G (.pt l) y↔ ∃b m,y= .pointer (some ⟨b,0,none⟩)/\G b=some m/\IsLs G l m:=by simp only[Is]
def xi{b:Bool}{l:List DV}:Is G (.op b l) y↔(b=false/\y= .pointer none)\/(b=true/\Is G (.pt l) y):=by simp only[Is]
def gr{l:List DV}:Is G (.sl l) y↔ ∃(s:Nat) (x:SV) (es:List Value),y= .slice x.a x.n x.c/\gp G s x es/\IsLs G l es:=by simp only[Is]
def dm:IsLs G [] m↔m=[]:=by simp only[IsLs]
def bh{d:DV}{t:List DV}:IsLs G (d::t) m↔ ∃y n,m=y::n/\Is G d y/\IsLs G t n:=by simp only[IsLs]
def IsLs.nil:IsLs G [] []:=dm.2 J
def IsLs.cons{d:DV}{t:List DV}{y:Value}{n:List Value}(h:Is G d y)(k:IsLs G t n):IsLs G (d::t) (y::n):=bh.2 ⟨y,n,J,h,k⟩
def IsLs.uncons{d:DV}{t:List DV}{n:List Value}(h:IsLs G (d::t) (y::n)):Is G d y/\IsLs G t n:=by
 obtain⟨u,m,e,h1,h2⟩:=bh.1 h
 cases e
 exact⟨h1,h2⟩
def IsLs.len: ∀{d:List DV} {m:List Value},IsLs G d m->m.length=d.length
 |[],m,h=>by rw[dm.1 h];rfl
 |d::t,m,h=>by
  obtain⟨y,n,rfl,_,h2⟩:=bh.1 h;simp[h2.len]
def IsLs.get: ∀{l:List DV} {m:List Value} {i:Nat} {d:DV},IsLs G l m->l[i]? =some d-> ∃y,m[i]? =some y/\Is G d y
 |[],m,i,d,h,e=>by simp at e
 |x::t,m,0,d,h,e=>by
  obtain⟨y,n,rfl,h1,h2⟩:=bh.1 h;simp at e;subst e;exact⟨y,J,h1⟩
 |x::t,m,i+1,d,h,e=>by
  obtain⟨y,n,rfl,h1,h2⟩:=bh.1 h;simp at e;simpa using h2.get e
def IsLs.app: ∀{a b:List DV} {m n:List Value},IsLs G a m->IsLs G b n->IsLs G (a++b) (m++n)
 |[],b,m,n,h,k=>by rw[dm.1 h];exact k
 |d::t,b,m,n,h,k=>by
  obtain⟨y,m',rfl,h1,h2⟩:=bh.1 h;exact .cons h1 (h2.app k)
def IsLs.unapp: ∀{a b:List DV} {m:List Value},IsLs G (a++b) m-> ∃x y,m=x++y/\IsLs G a x/\IsLs G b y
 |[],b,m,h=>⟨[],m,J, .nil,h⟩
 |d::t,b,m,h=>by
  obtain⟨y,m',rfl,h1,h2⟩:=bh.1 h;obtain⟨u,v,rfl,h3,h4⟩:=h2.unapp;exact⟨y::u,v,J, .cons h1 h3,h4⟩
def IsLs.drop: ∀{a:List DV} {m:List Value} (k:Nat),IsLs G a m->IsLs G (a.drop k) (m.drop k)
 |_,_,0,h=>h
 |[],m,k+1,h=>by rw[dm.1 h];exact .nil
 |d::t,m,k+1,h=>by
  obtain⟨y,m',rfl,h1,h2⟩:=bh.1 h;exact h2.drop k
def IsLs.take: ∀{a:List DV} {m:List Value} (k:Nat),IsLs G a m->IsLs G (a.take k) (m.take k)
 |_,_,0,h=> .nil
 |[],m,k+1,h=>by rw[dm.1 h];exact .nil
 |d::t,m,k+1,h=>by
  obtain⟨y,m',rfl,h1,h2⟩:=bh.1 h;exact .cons h1 (h2.take k)
def IsLs.set: ∀{a:List DV} {m:List Value} (k:Nat) {d:DV} {y:Value},IsLs G a m->Is G d y->IsLs G (a.set k d) (m.set k y)
 |[],m,k,d,y,h,_=>by rw[dm.1 h];exact .nil
 |x::t,m,0,d,y,h,k=>by
  obtain⟨u,m',rfl,h1,h2⟩:=bh.1 h;exact .cons k h2
 |x::t,m,j+1,d,y,h,k=>by
  obtain⟨u,m',rfl,h1,h2⟩:=bh.1 h;exact .cons h1 (h2.set j k)
end
def DV.flat:DV->Bool
 | .v x=>Go.Sx.flat x
 | .ag _=>false
 | .tp _=>false
 | .pt _=>true
 | .op .. =>true
 | .sl .. =>true
def DV.okc:DV->Bool
 | .ag l=>l.all DV.flat
 |d=>d.flat
def DV.cells:DV->List DV
 | .ag l=>l
 |d=>[d]
section
def Is.flat{d:DV}{y:Value}(h:Is G d y)(k:d.flat=true):Go.Sx.flat y=true:=by
 cases d with
 |v x=>rw[aI.1 h];exact k
 |ag l=>cases k
 |tp l=>cases k
 |pt l=>obtain⟨b,m,rfl,_⟩:=lG.1 h;rfl
 |op b l=>
  rcases xi.1 h with⟨_,rfl⟩|⟨_,h⟩
  .rfl
  .obtain⟨b,m,rfl,_⟩:=lG.1 h;rfl
 |sl l=>obtain⟨s,x,es,rfl,_⟩:=gr.1 h;rfl
def A4(h:Go.Sx.flat y=true):aG y=[y]:=by cases y<;>first|rfl|(simp[Go.Sx.flat] at h)
def IsLs.flat: ∀{l:List DV} {m:List Value},IsLs G l m->l.all DV.flat=true-> ∀v∈m,Go.Sx.flat v=true
 |[],m,h,_,v,hv=>by rw[dm.1 h] at hv;cases hv
 |d::t,m,h,k,v,hv=>by
  obtain⟨y,n,rfl,h1,h2⟩:=bh.1 h;simp only[tZ,bW] at k;rcases aW.1 hv with rfl|hv
  .exact h1.flat k.1
  .exact h2.flat k.2 v hv
def Is.cells{d:DV}{y:Value}(h:Is G d y)(k:d.okc=true):IsLs G d.cells (aG y)/\ ∀v∈aG y,Go.Sx.flat v=true:=by
 cases d with
 |ag l=>obtain⟨m,rfl,hm⟩:=eG.1 h;exact⟨hm,hm.flat k⟩
 |_=>
  have:=h.flat k;rw[A4 this];exact⟨.cons h .nil,fun v hv=>by rw[aR.1 hv];exact this⟩
end
def takeD:List DV->Nat->Nat->Option (List DV)
 |_,0,0=>some []
 |[],0,_+1=>none
 |v::t,0,k+1=>match takeD t 0 k with|some l=>some (v::l)|none=>none
 |[],_+1,_=>none
 |_::t,off+1,k=>takeD t off k
def Cq:List DV->Nat->List DV->List DV
 |cs,_,[]=>cs
 |cs,off,v::vs=>Cq (cs.set off v) (off+1) vs
section
def IsLs.takeD: ∀{ds:List DV} {m:List Value} {off k:Nat} {l:List DV},IsLs G ds m->takeD ds off k=some l-> ∃n,cw m off k=some n/\IsLs G l n
 |[],m,0,0,l,h,e=>by rw[dm.1 h];simp only[Sx.takeD] at e;cases e;exact⟨[],J, .nil⟩
 |d::t,m,0,0,l,h,e=>by
  obtain⟨y,m',rfl,h1,h2⟩:=bh.1 h;simp only[Sx.takeD] at e;cases e;exact⟨[],J, .nil⟩
 |[],m,0,k+1,l,h,e=>by simp[Sx.takeD] at e
 |d::t,m,0,k+1,l,h,e=>by
  obtain⟨y,m',rfl,h1,h2⟩:=bh.1 h;simp only[Sx.takeD] at e;split at e
  .rename_i l' hl'
   cases e
   obtain⟨n,hn,hl⟩:=h2.takeD hl';exact⟨y::n,by simp only[cw,hn], .cons h1 hl⟩
  .cases e
 |[],m,off+1,k,l,h,e=>by simp[Sx.takeD] at e
 |d::t,m,off+1,k,l,h,e=>by
  obtain⟨y,m',rfl,h1,h2⟩:=bh.1 h;exact h2.takeD (off:=off) (k:=k) e
def IsLs.ov: ∀{vs ds:List DV} {n m:List Value} {off:Nat},IsLs G ds m->IsLs G vs n->IsLs G (Cq ds off vs) (cH m off n)
 |[],ds,n,m,off,h,k=>by rw[dm.1 k];exact h
 |v::vs,ds,n,m,off,h,k=>by
  obtain⟨y,n',rfl,h1,h2⟩:=bh.1 k;exact(h.set off h1).ov h2
end
inductive FV where
 |d (x:DV)
 /-- a pointer to cells that are written no more -/
 |ep (l:List DV)
 /-- a pointer to a cell of element i of a row of the call's own -/
 |be (x:SV) (s i j:Nat)
 /-- a slice without room behind it -/
 |ct (l:List DV)
abbrev nC:=List (Nat×FV)
variable {fr':nC}
def IsF(G:Gh):FV->Value->Prop
 | .d x,y=>Is G x y
 | .ep l,y=> ∃b off cs m,y= .pointer (some ⟨b,off,none⟩)/\G b=some cs/\cw cs off l.length=some m/\IsLs G l m
 | .be x s i j,y=> ∃b,x.a=some ⟨b,0,none⟩/\y= .pointer (some ⟨b,i*s+j,none⟩)
 | .ct l,y=>(∃a n,y= .slice a n n)/\Is G (.sl l) y
def CW(G:Gh):nC->Fr->Prop
 |[],m=>m=[]
 |(k,f)::t,m=> ∃y n,m=(k,y)::n/\IsF G f y/\CW G t n
structure kH where
 b:Nat
 cs:List DV
 ty:TypeId
 lo:Bool
structure jq where
 x:SV
 s:Nat
 ty:TypeId
 ds:List DV
 lo:Bool
variable {bs bs':List jq}
def Tl(G:Gh):List kH->List aB->Prop
 |[],m=>m=[]
 |o::t,m=> ∃cs n,m=⟨o.b,cs,o.ty,o.lo⟩::n/\IsLs G o.cs cs/\Tl G t n
def d9(G:Gh)(β:jq)(B:List aB):Prop:=
 ∃vs,io β.s β.ty β.x vs B/\IsLs G β.ds vs/\(∀v∈vs,(aG v).length=β.s)/\(β.lo=true-> ∀o∈B,o.lo=true)
def QW(G:Gh):List jq->List aB->Prop
 |[],m=>m=[]
 |β::t,m=> ∃B n,m=B++n/\d9 G β B/\QW G t n
def OB(G:Gh)(own:List kH)(bs:List jq)(ov:List aB):Prop:= ∃a b,ov=a++b/\Tl G own a/\QW G bs b
structure Sr (GB G:Gh) (fr:nC) (own:List kH) (bs:List jq) (frv:Fr) (ov:List aB):Prop where
 gb:bI GB G
 fr:CW G fr frv
 ob:OB G own bs ov
structure vt where
 fr:Fr
 own:List aB
variable {E:vt}
structure SD (GB:Gh) (C:aF) (n:Nat) (E:vt) (fr:nC) (own:List kH) (bs:List jq) (Φ:Act->World->Prop):Prop where
 run: ∀G frv ov,Sr GB G fr own bs frv ov->St C n (frv++E.fr) (ov++E.own) G Φ
instance {GB:Gh} {C:aF} {n:Nat} {E:vt} {fr:nC} {own:List kH} {bs:List jq} {Φ:Act->World->Prop}:CoeFun (SD GB C n E fr own bs Φ) (fun _=> ∀G frv ov,Sr GB G fr own bs frv ov->St C n (frv++E.fr) (ov++E.own) G Φ):=⟨SD.run⟩
section
variable {fr:nC}{own own':List kH}
def PF(GB:Gh)(P:Program)(f:FuncId)(ds:List DV)(r:DV):Prop:=
 ∀G vs,bI GB G->IsLs G ds vs->Fn P f vs G (fun v G'=>Is G' r v)
def PM(GB:Gh)(P:Program)(f:FuncId)(ds:List DV)(b:Nat)(ty:TypeId)(cs:List DV)(r:DV)(cs':List DV):Prop:=
 ∀G vs m lo,bI GB G->IsLs G ds vs->IsLs G cs m->kG P f vs [⟨b,m,ty,lo⟩] G (fun v css G'=>Is G' r v/\ ∃m',css=[m']/\IsLs G' cs' m')
def fg:List DV->DV
 |[d]=>d
 |l=> .tp l
def zF{ds:List DV}(h:IsLs G ds vs):Is G (fg ds) (m9 vs):=by
 match ds,h with
 |[],h=>rw[dm.1 h];exact mo.2 ⟨[],J, .nil⟩
 |[d],h=>
  obtain⟨y,m,rfl,h1,h2⟩:=bh.1 h;rw[dm.1 h2];exact h1
 |a::b::t,h=>
  obtain⟨y,m,rfl,h1,h2⟩:=bh.1 h;obtain⟨z,m',rfl,h3,h4⟩:=bh.1 h2;exact mo.2 ⟨_,J,h⟩
end
def Di{cs:List Value}{o k:Nat}(h:cw cs o k=some l):l.length=k:=(rI _ _ _ _ h).1
def FR: ∀{cs m:List Value} {o k:Nat},cw cs o k=some m-> ∀{d:Nat},d<=k->cw cs (o+d) (k-d)=some (m.drop d)
 |cs,m,o,k,h,0,_=>by simpa using h
 |[],m,0,0,h,d+1,hd=>by omega
 |v::t,m,0,0,h,d+1,hd=>by omega
 |[],m,0,k+1,h,d+1,hd=>by simp[cw] at h
 |v::t,m,0,k+1,h,d+1,hd=>by
  simp only[cw] at h;split at h
  .rename_i l hl
   cases h
   have:=FR hl (d:=d) we;rw[eM] at this;rw[eM,Nat.add_sub_add_right,uQ];exact this
  .cases h
 |[],m,o+1,k,h,d+1,hd=>by simp[cw] at h
 |v::t,m,o+1,k,h,d+1,hd=>by
  simp only[cw] at h;have:=FR h (d:=d+1) hd;rw[show o+1+(d+1)=(o+(d+1))+1 by omega];exact this
def Hi: ∀{cs m:List Value} {o k:Nat},cw cs o k=some m-> ∀{j:Nat},j<=k->cw cs o j=some (m.take j)
 |cs,m,0,k,h,0,_=>by cases cs<;>rfl
 |[],m,0,0,h,j+1,hd=>by omega
 |v::t,m,0,0,h,j+1,hd=>by omega
 |[],m,0,k+1,h,j+1,hd=>by simp[cw] at h
 |v::t,m,0,k+1,h,j+1,hd=>by
  simp only[cw] at h;split at h
  .rename_i l hl
   cases h
   have:=Hi hl (j:=j) we;simp[cw,this]
  .cases h
 |[],m,o+1,k,h,j,hd=>by simp[cw] at h
 |v::t,m,o+1,k,h,j,hd=>by
  simp only[cw] at h⊢;exact Hi h hd
def AO{j k:Nat}(h:cw m j k=some l):j+k<=m.length/\l=(m.drop j).take k:=by
 obtain⟨h1,h2⟩:=rI _ _ _ _ h;have hle:j<=m.length:=by
  clear h1 h2
  induction m generalizing j with
  |nil=>cases j with
   |zero=>exact bJ _
   |succ j=>simp[cw] at h
  |cons v t ih=>cases j with
   |zero=>exact aS _
   |succ j=>have:=ih (j:=j) h;simp;omega
 have hlen:j+k<=m.length:=by
  rcases fL k with h0|h0
  .omega
  .have h3:=h2 (k-1) we
   rw[aQ (by omega:k-1<l.length)] at h3;have:=(aT.1 h3).1;omega
 rw[ld _ _ _ hlen] at h
 cases h
 exact⟨hlen,J⟩
def Nl{cs:List Value}{o s j k:Nat}(h:cw cs o s=some m)(hm:cw m j k=some l):cw cs (o+j) k=some l:=by
 obtain⟨h1,rfl⟩:=AO hm;have hl:=Di h;have h2:=FR h (d:=j) we;exact Hi h2 (j:=k) we
def Xe{cs:List Value}{o:Nat}{v:Value}:cw cs o 1=some [v]↔cs[o]? =some v:=by
 constructor
 .intro h
  obtain⟨_,h2⟩:=rI _ _ _ _ h;simpa using h2 0 we
 .intro h
  obtain⟨h1,h2⟩:=aT.1 h;rw[ld _ _ _ we,bK h1,oU,h2];rfl
def H8{j k:Nat}(h:cw m j k=some l)(hi:i<k):m[j+i]? =l[i]? :=(rI _ _ _ _ h).2 i hi
section
variable {fr:nC}{own own':List kH}
variable {gd:Option (Nat×Bool)}{x y z:Operand}{s:Nat}
def d9.elem{β:jq}(h:d9 G β B){d:DV}(hi:β.ds[i]? =some d)(hd:d.okc=true):
  ∃b m rest lo l,β.x.a=some ⟨b,0,none⟩/\B=[⟨b,m++rest,β.ty,lo⟩]/\cw (m++rest) (i*β.s) β.s=some l/\IsLs G d.cells l:=by
 obtain⟨vs,hB,hv,hs,_⟩:=h;obtain⟨v,h1,h2⟩:=hv.get hi;rcases hB with⟨e,_,_⟩|⟨b,rest,lo,h3,h4,h5,h6,h7⟩
 .rw[e] at h1;simp at h1
 .obtain⟨h8,h9⟩:=aT.1 h1
  refine⟨b,aH vs,rest,lo,aG v,by rw[h3],h4,?_,(h2.cells hd).1⟩;have:=KD (rest:=rest) hs h8;rw[h9] at this;exact this
def IsLs.all{G:Gh}: ∀{l:List DV} {m:List Value},IsLs G l m-> ∀v∈m,∃d∈l,Is G d v
 |[],m,h,v,hv=>by rw[dm.1 h] at hv;cases hv
 |d::t,m,h,v,hv=>by
  obtain⟨y,n,rfl,h1,h2⟩:=bh.1 h;rcases aW.1 hv with rfl|hv
  .exact⟨d,aZ,h1⟩
  .obtain⟨d',hd,h3⟩:=h2.all v hv
   exact⟨d',aJ _ hd,h3⟩
def gp.sub{s:Nat}{x:SV}(h:gp G s x es)(lo hi mx:Nat)(h1:lo<=hi)(h2:hi<=es.length)(h3:hi<=mx)(_h4:mx<=x.c):
  gp G s ⟨if mx=lo then x.a else x.a.map (·.add (lo*s)),hi-lo,mx-lo⟩ ((es.take hi).drop lo):=by
 refine⟨by simp;omega,by simp only[];omega,?_⟩;rcases h.mem with h0|⟨b,off,cs,ha,hg,hc⟩
 .left;simp[h0]
 .by_cases he:hi=lo
  .left;simp[he]
  .right
   refine⟨b,off+lo*s,cs,?_,hg,fun i hi'=>?_⟩
   .simp only[]
    rw[if_neg we,ha];simp[tk]
   .simp only[gW,bT] at hi'
    have:=hc (lo+i) we;rw[lL,<-dY,this];simp
def cI(s:Nat)(l:List DV):Prop:= ∀d∈l,d.okc=true/\d.cells.length=s
def Bx{l:List DV}{s:Nat}{w:SV}(hsl:gp G s' w es)(hl:IsLs G l es)(ho:cI s l):es=[]\/s'=s:=by
 rcases hsl.mem with h|⟨b,off,cs,ha,hg,hcs⟩
 .exact .inl h
 .cases es with
  |nil=>exact .inl J
  |cons v t=>
   right;have h1:=hcs 0 omc;have h2:=Di h1;obtain⟨d,hd,h3⟩:=hl.all v aZ;obtain⟨h4,h5⟩:=ho d hd;have:=(h3.cells h4).1.len;simp only[pV] at h2;omega
end
section
variable {fr:nC}{own:List kH}{x:Operand}
end
inductive FX where
 |d (x:DV)
 /-- a pointer to cells that are written no more -/
 |ep (l:List DV)
 /-- an interface around a value -/
 |ip (t:TypeId) (d:DV)
 /-- a known slice; it may be block nm's -/
 |ri (nm:Nat) (x:SV)
 /-- a pointer into a variable -/
 |ov (nm off:Nat)
 /-- a row -/
 |rw(nm:Nat)
 /-- a pointer into element i of a row -/
 |be (nm s i j:Nat)
 /-- a slice of n elements of a row, from element off on -/
 |rs (nm s off n:Nat)
 /-- a slice without room behind it -/
 |ct (l:List DV)
 |tt
 |ff
 |pr (p:Prop) (h:Decidable p)
 |nl
 /-- an aggregate (or a tuple) with one row in it -/
 |bx (tp:Bool) (pre:List DV) (nm:Nat) (post:List DV)
 |un
 /-- nothing is known -/
 |no
abbrev NE:=Nat->SV
variable {ρ ρ':NE}
def b9(ρ:NE)(G:Gh):FX->Value->Prop
 | .d x,y=>Is G x y
 | .ep l,y=> ∃b off cs m,y= .pointer (some ⟨b,off,none⟩)/\G b=some cs/\cw cs off l.length=some m/\IsLs G l m
 | .ip t d,y=> ∃u,y= .iface t u/\Is G d u
 | .ri _ x,y=>y= .slice x.a x.n x.c
 | .ov nm off,y=> ∃b,(ρ nm).a=some ⟨b,0,none⟩/\y= .pointer (some ⟨b,off,none⟩)
 | .rw nm,y=>y= .slice (ρ nm).a (ρ nm).n (ρ nm).c
 | .be nm s i j,y=> ∃b,(ρ nm).a=some ⟨b,0,none⟩/\y= .pointer (some ⟨b,i*s+j,none⟩)
 | .rs nm s off n,y=> ∃b c,(ρ nm).a=some ⟨b,0,none⟩/\y= .slice (some ⟨b,off*s,none⟩) n c/\n<=c
 | .ct l,y=>(∃a n,y= .slice a n n)/\Is G (.sl l) y
 | .tt,y=>y= .bool true
 | .ff,y=>y= .bool false
 | .pr p h,y=>y= .bool (@decide p h)
 | .nl,y=>y= .slice none 0 0
 | .bx tp pre nm post,y=> ∃m1 m2,y=(bif tp then Value.tuple ⟨m1++Value.slice (ρ nm).a (ρ nm).n (ρ nm).c::m2⟩ else .agg ⟨m1++Value.slice (ρ nm).a (ρ nm).n (ρ nm).c::m2⟩)/\IsLs G pre m1/\IsLs G post m2
 | .un,y=>y=undef
 | .no,_=>True
def du(ρ:NE)(G:Gh):List FX->List Value->Prop
 |[],m=>m=[]
 |f::t,m=> ∃y n,m=y::n/\b9 ρ G f y/\du ρ G t n
def FX.nm:FX->Option Nat
 | .ov n _=>some n
 | .rw n=>some n
 | .be n _ _ _=>some n
 | .rs n _ _ _=>some n
 | .ri n _=>some n
 | .bx _ _ n _=>some n
 |_=>none
section
def b9.up{A:Gh}{f:FX}{y:Value}(h:b9 ρ A f y)(k:bI A G):b9 ρ G f y:=by
 cases f with
 |d x=>exact Is.up h k
 |ep l=>obtain⟨b,off,cs,m,e,hb,ht,hl⟩:=h;exact⟨b,off,cs,m,e,k _ _ hb,ht,hl.up k⟩
 |ip t l=>obtain⟨u,e,h⟩:=h;exact⟨u,e,h.up k⟩
 |ct l=>exact⟨h.1,h.2.up k⟩
 |bx tp pre nm post=>obtain⟨m1,m2,e,h1,h2⟩:=h;exact⟨m1,m2,e,h1.up k,h2.up k⟩
 |_=>exact h
def b9.ren{f:FX}(h:b9 ρ G f y)(k: ∀n,f.nm=some n->ρ' n=ρ n):b9 ρ' G f y:=by
 cases f with
 |ov n o=>have e:=k n J;simp only[b9] at h⊢;rw[e];exact h
 |rw n=>have e:=k n J;simp only[b9] at h⊢;rw[e];exact h
 |be n s i j=>have e:=k n J;simp only[b9] at h⊢;rw[e];exact h
 |rs n s i j=>have e:=k n J;simp only[b9] at h⊢;rw[e];exact h
 |bx tp pre n post=>have e:=k n J;simp only[b9] at h⊢;rw[e];exact h
 |_=>exact h
def du.up{A:Gh}(k:bI A G): ∀{l:List FX} {m:List Value},du ρ A l m->du ρ G l m
 |[],_,h=>h
 |_::_,_,⟨y,n,e,h1,h2⟩=>⟨y,n,e,h1.up k,h2.up k⟩
def du.ren{ρ':NE}: ∀{l:List FX} {m:List Value},du ρ G l m->(∀f∈l,∀n,f.nm=some n->ρ' n=ρ n)->du ρ' G l m
 |[],_,h,_=>h
 |f::t,_,⟨y,n,e,h1,h2⟩,k=>⟨y,n,e,h1.ren (k f aZ),h2.ren fun g hg=>k g (aJ _ hg)⟩
def du.len: ∀{l:List FX} {m:List Value},du ρ G l m->m.length=l.length
 |[],m,h=>by rw[show m=[] from h];rfl
 |f::t,m,⟨y,n,e,h1,h2⟩=>by subst e;simp[h2.len]
def du.get: ∀{l:List FX} {m:List Value} {i:Nat} {f:FX},du ρ G l m->l[i]? =some f-> ∃y,m[i]? =some y/\b9 ρ G f y
 |[],m,i,f,h,e=>by simp at e
 |x::t,m,0,f,⟨y,n,e1,h1,h2⟩,e=>by subst e1;simp at e;subst e;exact⟨y,J,h1⟩
 |x::t,m,i+1,f,⟨y,n,e1,h1,h2⟩,e=>by subst e1;simp at e;simpa using h2.get e
def du.set: ∀{a:List FX} {m:List Value} (k:Nat) {f:FX} {y:Value},du ρ G a m->b9 ρ G f y->du ρ G (a.set k f) (m.set k y)
 |[],m,k,f,y,h,_=>by rw[show m=[] from h];rfl
 |x::t,m,0,f,y,⟨u,n,e,h1,h2⟩,k=>by subst e;exact⟨y,n,J,k,h2⟩
 |x::t,m,j+1,f,y,⟨u,n,e,h1,h2⟩,k=>by subst e;exact⟨u,n.set j y,J,h1,h2.set j k⟩
end
def ke:FX->Option DV
 | .d x=>some x
 | .ct l=>some (.sl l)
 | .tt=>some (.v (.bool true))
 | .ff=>some (.v (.bool false))
 | .pr p h=>some (.v (.bool (@decide p h)))
 | .nl=>some (.sl [])
 |_=>none
def nq{f:FX}{d:DV}(h:b9 ρ G f y)(e:ke f=some d):Is G d y:=by
 cases f with
 |d x=>cases e;exact h
 |ct l=>cases e;exact h.2
 |tt=>cases e;exact aI.2 h
 |ff=>cases e;exact aI.2 h
 |pr p i=>cases e;exact aI.2 h
 |nl=>cases e;rw[show y= .slice none 0 0 from h];exact gr.2 ⟨0,⟨none,0,0⟩,[],J, .nil G 0, .nil⟩
 |_=>cases e
def jx:List FX->Option (List DV)
 |[]=>some []
 |f::t=>match ke f,jx t with
  |some d,some l=>some (d::l)
  |_,_=>none
def tv{ρ:NE}{G:Gh}: ∀{l:List FX} {ds:List DV} {m:List Value},du ρ G l m->jx l=some ds->IsLs G ds m
 |[],ds,m,h,e=>by cases e;rw[show m=[] from h];exact .nil
 |f::t,ds,m,⟨y,n,e1,h1,h2⟩,e=>by
  subst e1;simp only[jx] at e;split at e
  .rename_i d l hd hl
   cases e
   exact .cons (nq h1 hd) (tv h2 hl)
  .cases e
def FX.okc:FX->Bool
 | .d x=>x.okc
 | .bx false pre _ post=>(DV.ag pre).okc&&(DV.ag post).okc
 | .bx true _ _ _=>false
 | .un=>false
 | .no=>false
 |_=>true
def FX.cells:FX->List FX
 | .d (.ag l)=>l.map .d
 | .bx false pre nm post=>pre.map .d++ .rw nm::post.map .d
 |f=>[f]
def du.app{ρ:NE}{G:Gh}: ∀{a b:List FX} {m n:List Value},du ρ G a m->du ρ G b n->du ρ G (a++b) (m++n)
 |[],b,m,n,h,k=>by rw[show m=[] from h];exact k
 |f::t,b,m,n,⟨y,q,e,h1,h2⟩,k=>by subst e;exact⟨y,q++n,J,h1,h2.app k⟩
def vy{ρ:NE}{G:Gh}: ∀{l:List DV} {m:List Value},IsLs G l m->du ρ G (l.map .d) m
 |[],m,h=>dm.1 h
 |d::t,m,h=>by
  obtain⟨y,n,rfl,h1,h2⟩:=bh.1 h;exact⟨y,n,J,h1,vy h2⟩
def b9.cells{ρ:NE}{G:Gh}{f:FX}{y:Value}(h:b9 ρ G f y)(k:f.okc=true):du ρ G f.cells (aG y)/\ ∀v∈aG y,Go.Sx.flat v=true:=by
 have one: ∀g:FX,b9 ρ G g y->Go.Sx.flat y=true->du ρ G [g] (aG y)/\ ∀v∈aG y,Go.Sx.flat v=true:=fun g hg hf=>by
  rw[A4 hf];exact⟨⟨y,[],J,hg,J⟩,fun v hv=>by rw[aR.1 hv];exact hf⟩
 cases f with
 |d x=>
  cases x with
  |ag l=>
   obtain⟨m,rfl,hm⟩:=eG.1 (show Is G (.ag l) y from h);exact⟨vy hm,hm.flat k⟩
  |_=>exact one _ h (Is.flat (show Is G _ y from h) k)
 |ep l=>obtain⟨b,off,cs,m,rfl,_⟩:=h;exact one (.ep l) ⟨b,off,cs,m,rfl,ome⟩ rfl
 |ip t l=>obtain⟨u,rfl,hu⟩:=h;exact one (.ip t l) ⟨u,rfl,hu⟩ rfl
 |ri nm x=>cases h;exact one (.ri nm x) J J
 |ov nm off=>obtain⟨b,hb,rfl⟩:=h;exact one (.ov nm off) ⟨b,hb,rfl⟩ rfl
 |rw nm=>cases h;exact one (.rw nm) J J
 |be nm s i j=>obtain⟨b,hb,rfl⟩:=h;exact one (.be nm s i j) ⟨b,hb,rfl⟩ rfl
 |rs nm s i j=>obtain⟨b,c,hb,rfl,hc⟩:=h;exact one (.rs nm s i j) ⟨b,c,hb,rfl,hc⟩ rfl
 |ct l=>obtain⟨⟨a,n,rfl⟩,h2⟩:=h;exact one (.ct l) ⟨⟨a,n,rfl⟩,h2⟩ rfl
 |tt=>cases h;exact one .tt J J
 |ff=>cases h;exact one .ff J J
 |pr p i=>cases h;exact one (.pr p i) J J
 |nl=>cases h;exact one .nl J J
 |bx tp pre nm post=>
  cases tp with
  |true=>cases k
  |false=>
   obtain⟨m1,m2,rfl,h1,h2⟩:=h;simp only[FX.okc,bW] at k;refine⟨(vy h1).app ⟨_,m2,J,J,vy h2⟩,fun v hv=>?_⟩;rcases bX.1 (show v∈m1++_::m2 from hv) with hv|hv
   .exact h1.flat k.1 v hv
   .rcases aW.1 hv with rfl|hv
    .rfl
    .exact h2.flat k.2 v hv
 |un=>cases k
 |no=>cases k
inductive Bk where
 |o (ty:TypeId) (cs:List FX) (lo:Bool)
 |b (ty:TypeId) (s:Nat) (ds:List DV) (lo:Bool)
 /-- a row with room for cap elements in all -/
 |c (ty:TypeId) (s:Nat) (ds:List DV) (cap:Nat)
 /-- a row whose slice is known -/
 |p (x:SV) (ty:TypeId) (s:Nat) (ds:List DV)
variable {B':Bk}
def lI(ρ:NE)(G:Gh)(nm:Nat):Bk->List aB->Prop
 | .o ty cs lo,B=> ∃b m,(ρ nm).a=some ⟨b,0,none⟩/\B=[⟨b,m,ty,lo⟩]/\du ρ G cs m
 | .b ty s ds lo,B=> ∃vs,io s ty (ρ nm) vs B/\IsLs G ds vs/\(∀v∈vs,(aG v).length=s)/\(lo=true-> ∀o∈B,o.lo=true)
 | .c ty s ds cap,B=> ∃vs,io s ty (ρ nm) vs B/\IsLs G ds vs/\(∀v∈vs,(aG v).length=s)/\(∀o∈B,o.lo=true)/\cap<=(ρ nm).c
 | .p x ty s ds,B=>ρ nm=x/\ ∃vs,io s ty x vs B/\IsLs G ds vs/\(∀v∈vs,(aG v).length=s)/\(∀o∈B,o.lo=true)
def Bk.men(n:Nat):Bk->Prop
 | .o _ cs _=> ∃f∈cs,f.nm=some n
 | .b .. =>False
 | .c .. =>False
 | .p .. =>False
section
variable {nm:Nat}{B:Bk}
def lI.up{A:Gh}(h:lI ρ A nm B os)(k:bI A G):lI ρ G nm B os:=by
 cases B with
 |o ty cs lo=>obtain⟨b,m,h1,h2,h3⟩:=h;exact⟨b,m,h1,h2,h3.up k⟩
 |b ty s ds lo=>obtain⟨vs,h1,h2,h3,h4⟩:=h;exact⟨vs,h1,h2.up k,h3,h4⟩
 |c ty s ds cap=>obtain⟨vs,h1,h2,h3,h4⟩:=h;exact⟨vs,h1,h2.up k,h3,h4⟩
 |p x ty s ds=>obtain⟨h0,vs,h1,h2,h3,h4⟩:=h;exact⟨h0,vs,h1,h2.up k,h3,h4⟩
def lI.ren{ρ':NE}(h:lI ρ G nm B os)(h0:ρ' nm=ρ nm)(k: ∀n,B.men n->ρ' n=ρ n):lI ρ' G nm B os:=by
 cases B with
 |o ty cs lo=>obtain⟨b,m,h1,h2,h3⟩:=h;exact⟨b,m,by rw[h0];exact h1,h2,h3.ren fun f hf n hn=>k n ⟨f,hf,hn⟩⟩
 |b ty s ds lo=>obtain⟨vs,h1,h2,h3,h4⟩:=h;exact⟨vs,by rw[h0];exact h1,h2,h3,h4⟩
 |c ty s ds cap=>obtain⟨vs,h1,h2,h3,h4,h5⟩:=h;exact⟨vs,by rw[h0];exact h1,h2,h3,h4,by rw[h0];exact h5⟩
 |p x ty s ds=>obtain⟨h1,h2⟩:=h;exact⟨by rw[h0];exact h1,h2⟩
def lI.blk(h:lI ρ G nm B os){o:aB}(ho:o∈os):(ρ nm).a=some ⟨o.b,0,none⟩:=by
 cases B with
 |o ty cs lo=>obtain⟨b,m,h1,rfl,h3⟩:=h;rw[aR.1 ho];exact h1
 |b ty s ds lo=>
  obtain⟨vs,h1,_⟩:=h;rcases h1 with⟨_,_,rfl⟩|⟨b,rest,lo',e,rfl,_⟩
  .cases ho
  .rw[aR.1 ho,e]
 |c ty s ds cap=>
  obtain⟨vs,h1,_⟩:=h;rcases h1 with⟨_,_,rfl⟩|⟨b,rest,lo',e,rfl,_⟩
  .cases ho
  .rw[aR.1 ho,e]
 |p x ty s ds=>
  obtain⟨h0,vs,h1,_⟩:=h;rcases h1 with⟨_,_,rfl⟩|⟨b,rest,lo',e,rfl,_⟩
  .cases ho
  .rw[aR.1 ho,h0,e]
def lI.mem_of(h:lI ρ G nm B os){b:Nat}(hb:(ρ nm).a=some ⟨b,0,none⟩): ∃o∈os,o.b=b:=by
 cases B with
 |o ty cs lo=>obtain⟨b',m,h1,rfl,h3⟩:=h;rw[h1] at hb;cases hb;exact⟨_,aZ,rfl⟩
 |b ty s ds lo=>
  obtain⟨vs,h1,_⟩:=h;rcases h1 with⟨_,e,rfl⟩|⟨b',rest,lo',e,rfl,_⟩
  .rw[e] at hb;cases hb
  .rw[e] at hb;cases hb;exact⟨_,aZ,J⟩
 |c ty s ds cap=>
  obtain⟨vs,h1,_⟩:=h;rcases h1 with⟨_,e,rfl⟩|⟨b',rest,lo',e,rfl,_⟩
  .rw[e] at hb;cases hb
  .rw[e] at hb;cases hb;exact⟨_,aZ,J⟩
 |p x ty s ds=>
  obtain⟨h0,vs,h1,_⟩:=h;rcases h1 with⟨_,e,rfl⟩|⟨b',rest,lo',e,rfl,_⟩
  .rw[h0,e] at hb;cases hb
  .rw[h0,e] at hb;cases hb;exact⟨_,aZ,J⟩
end
abbrev LK:=Nat->Option FX
variable {lk tl:LK}
abbrev BM:=Nat->Option Bk
variable {bk tb:BM}
structure bP (GB:Gh) (C:aF) (n:Nat) (lk:LK) (bk:BM) (ρ:NE) (G:Gh) (ov:List aB) (a:Act) (w:World):Prop where
 gb:bI GB G
 h:bH C ov G w
 sz:a.tmps.size=n
 df:a.defers=C.mks
 fx: ∀k f,lk k=some f-> ∃y,a.tmps[k]? =some y/\b9 ρ G f y
 bx: ∀nm B,bk nm=some B-> ∃os,lI ρ G nm B os/\ ∀o∈os,o∈ov
 dj: ∀nm nm' B B',bk nm=some B->bk nm'=some B'->nm≠nm'-> ∀b,(ρ nm).a=some ⟨b,0,none⟩->(ρ nm').a≠some ⟨b,0,none⟩
 fxd: ∀nm p,n<=nm->2000000<=nm->C.fx nm=some p->(ρ nm).a=some p
structure SX (GB:Gh) (C:aF) (n:Nat) (lk:LK) (bk:BM) (Φ:Act->World->Prop):Prop where
 run: ∀ρ G ov a w,bP GB C n lk bk ρ G ov a w->Φ a w
def km(f g:Nat->Option α):Prop:= ∀k x,f k=some x->g k=some x
def km.refl(f:Nat->Option α):km f f:=fun _ _ h=>h
def eh(lk:LK)(d:Option Nat)(f:FX):LK:=match d with
 |some d=>fun k=>if k=d then some f else lk k
 |none=>lk
def upB:BM->List (Nat×Option Bk)->BM
 |tb,[]=>tb
 |tb,(nm,B)::t=>upB (fun k=>if k=nm then B else tb k) t
def kE(nw:List Nat)(dst:Option Nat)(tl:LK)(tb:BM):Prop:=
 ∀nm∈nw,(∀k f,some k≠dst->tl k=some f->f.nm≠some nm)/\ ∀k B,k≠nm->tb k=some B-> ¬B.men nm
section
variable {ov:List aB}
def bP.mono(h:bP GB C n tl tb ρ G ov a w)(h1:km lk tl)(h2:km bk tb):bP GB C n lk bk ρ G ov a w:=
 ⟨h.gb,h.h,h.sz,h.df,fun k f e=>h.fx k f (h1 _ _ e),fun k B e=>h.bx k B (h2 _ _ e),fun k k' B B' e e'=>h.dj k k' B B' (h2 _ _ e) (h2 _ _ e'),h.fxd⟩
def SX.imp(h:SX GB C n lk bk Φ)(k: ∀a w,Φ a w->Ψ a w):SX GB C n lk bk Ψ:=⟨fun ρ G ov a w r=>k _ _ (h.run ρ G ov a w r)⟩
structure xp (C:aF) (n:Nat) (a:Act) (dst:Option Nat) (y:Value) (a':Act):Prop where
 sz:a'.tmps.size=n
 df:a'.defers=C.mks
 old: ∀k v,a.tmps[k]? =some v->dst≠some k->a'.tmps[k]? =some v
 new: ∀d,dst=some d->a'.tmps[d]? =some y
def xp.fx{f:FX}(p:xp C n a dst y a')(h: ∀k g,some k≠dst->lk k=some g-> ∃u,a.tmps[k]? =some u/\b9 ρ' G' g u)(hy:b9 ρ' G' f y)(k:Nat)(g:FX)(e:eh lk dst f k=some g):
  ∃u,a'.tmps[k]? =some u/\b9 ρ' G' g u:=by
 by_cases hk:some k=dst
 .subst hk
  simp only[eh,if_true] at e;cases e;exact⟨y,p.new _ J,hy⟩
 .have e':lk k=some g:=by
   cases dst with
   |none=>exact e
   |some d=>simpa[eh,show k≠d from fun c=>hk (c▸rfl)] using e
  obtain⟨u,h1,h2⟩:=h k g hk e';exact⟨u,p.old _ _ h1 (Ne.symm hk),h2⟩
theorem ozI{p:Prop}(h:p:=by rw[e]):p:=h
def bP.putA(r:bP GB C n lk bk ρ G ov a w)(y:Value)(hd:cg n dst=true):xp C n a dst y (a.put dst y):=by
 refine⟨by rw[Nu];exact r.sz,by rw[ME];exact r.df,fun k v h hk=>?_,fun d hk=>?_⟩
 .cases dst with
  |none=>exact h
  |some d=>simp only[Act.put,eJ];rw[if_neg (fun e=>hk ozI)];exact h
 .subst hk
  have hdn:d<a.tmps.size:=by rw[r.sz];simpa[cg,lU] using hd
  simp[Act.put,eJ,hdn]
def bP.put(r:bP GB C n lk bk ρ G ov a w){f:FX}(hy:b9 ρ G f y)(hp:xp C n a dst y a'):bP GB C n (eh lk dst f) bk ρ G ov a' w:=
 ⟨r.gb,r.h,hp.sz,hp.df,hp.fx (fun k g _ e=>r.fx k g e) hy,r.bx,r.dj,r.fxd⟩
def cp(a:Act):Fr:=nP 0 a.tmps.toList
def cC(a:Act):l6 (cp a) a:=fun k v h=>by
 obtain⟨j,e,h2⟩:=wD _ _ _ _ h;rw[eM] at e;subst e;simpa using h2
def w5: ∀(vs:List Value) (i j:Nat) (v:Value),vs[j]? =some v->iI (nP i vs) (i+j)=some v
 |[],i,j,v,h=>by simp at h
 |x::t,i,0,v,h=>by simp at h;subst h;simp[nP,iI]
 |x::t,i,j+1,v,h=>by
  simp at h;have:=w5 t (i+1) j v h;rw[show i+(j+1)=i+1+j by omega];simp only[nP,wJ];rw[if_neg we];exact this
def jp(h:gA C n (Sx.put (cp a) dst y) ov' G' a' w'):xp C n a dst y a':=by
 refine⟨h.sz,h.df,fun k v hk hd=>?_,fun d hd=>?_⟩
 .have:=w5 a.tmps.toList 0 k v ozC
  rw[eM] at this
  cases dst with
  |none=>exact h.fr k v this
  |some d=>exact h.fr k v (by simp only[Sx.put,wJ];rw[if_neg (fun e=>hd ozI)];exact this)
 .subst hd;exact h.fr d y (by simp[Sx.put,wJ])
def E3{k:Nat}{v:Value}(h:a.tmps[k]? =some v):iI (cp a) k=some v:=by
 have:=w5 a.tmps.toList 0 k v omE;simpa[cp] using this
def bj(lk:LK):Operand->Option FX
 | .tmp k=>lk k
 | .const (.bool true)=>some .tt
 | .const (.bool false)=>some .ff
 | .const (.slice none 0 0)=>some .nl
 | .const v=>some (.d (.v v))
 | .global g=>some (.d (.v (.pointer (some ⟨g,0,none⟩))))
 | .func f=>some (.d (.v (.func (.func f) #[] #[])))
def bP.ev(r:bP GB C n lk bk ρ G ov a w){x:Operand}{f:FX}(e:bj lk x=some f): ∃y,aD (cp a) x=some y/\b9 ρ G f y:=by
 cases x with
 |tmp k=>obtain⟨y,h1,h2⟩:=r.fx k f e;exact⟨y,E3 h1,h2⟩
 |const v=>
  refine⟨v,J,?_⟩;unfold bj at e;split at e
  all_goals simp only[Operand.const.injEq,reduceCtorEq] at*
  all_goals (cases e;subst_vars;first|exact J|exact(aI (G:=G)).2 J)
 |global g=>cases e;exact⟨_,J,(aI (G:=G)).2 J⟩
 |func g=>cases e;exact⟨_,J,(aI (G:=G)).2 J⟩
def evD(lk:LK)(x:Operand):Option DV:=match bj lk x with
 |some f=>ke f
 |none=>none
def bP.evD(r:bP GB C n lk bk ρ G ov a w){x:Operand}{d:DV}(e:Sx.evD lk x=some d): ∃y,aD (cp a) x=some y/\Is G d y:=by
 unfold Sx.evD at e;split at e
 .rename_i f hf
  obtain⟨y,h1,h2⟩:=r.ev hf;exact⟨y,h1,nq h2 e⟩
 .cases e
def evDs(lk:LK):List Operand->Option (List DV)
 |[]=>some []
 |x::t=>match evD lk x,evDs lk t with
  |some d,some l=>some (d::l)
  |_,_=>none
def bP.evDs(r:bP GB C n lk bk ρ G ov a w): ∀{x:List Operand} {l:List DV},Sx.evDs lk x=some l-> ∃y,fG (cp a) x=some y/\IsLs G l y
 |[],l,e=>by cases e;exact⟨[],J, .nil⟩
 |x::t,l,e=>by
  simp only[Sx.evDs] at e;split at e
  .rename_i d l' hd hl'
   cases e
   obtain⟨y,h1,h2⟩:=r.evD hd;obtain⟨ys,h3,h4⟩:=r.evDs hl';exact⟨y::ys,by simp only[fG,h1,h3], .cons h2 h4⟩
  .cases e
def bP.upB(r:bP GB C n lk bk ρ G ov a w){nm:Nat}{B':Bk}{os:List aB}{ov':List aB}{G':Gh}{w':World}(hg:bI G G')(hh:bH C ov' G' w')(hB:lI ρ G' nm B' os)(hos: ∀o∈os,o∈ov')
  (hk: ∀o∈ov,(ρ nm).a≠some ⟨o.b,0,none⟩->o∈ov')(hn: ∃B,bk nm=some B):bP GB C n lk (upB bk [(nm,some B')]) ρ G' ov' a w':=by
 obtain⟨B0,hB0⟩:=hn;refine⟨r.gb.trans hg,hh,r.sz,r.df,fun k f e=>?_,fun m B e=>?_,fun m m' B B2 e e' hne=>?_,r.fxd⟩
 .obtain⟨y,h1,h2⟩:=r.fx k f e;exact⟨y,h1,h2.up hg⟩
 .simp only[Sx.upB] at e
  by_cases hm:m=nm
  .subst hm;simp only[if_true] at e;cases e;exact⟨os,hB,hos⟩
  .simp only[hm,if_false] at e
   obtain⟨os',h1,h2⟩:=r.bx m B e;refine⟨os',h1.up hg,fun o ho=>hk o (h2 o ho) fun hc=>?_⟩;exact r.dj m nm B B0 e hB0 hm _ (h1.blk ho) hc
 .simp only[Sx.upB] at e e'
  by_cases hm:m=nm<;>by_cases hm':m'=nm
  .exact absurd (hm.trans hm'.symm) hne
  .subst hm;simp only[hm',if_false] at e';exact r.dj m m' B0 B2 hB0 e' hne
  .subst hm';simp only[hm,if_false] at e;exact r.dj m m' B B0 e hB0 hne
  .simp only[hm,hm',if_false] at e e';exact r.dj m m' B B2 e e' hne
def bP.dropB(r:bP GB C n lk bk ρ G ov a w)(nm:Nat):bP GB C n lk (Sx.upB bk [(nm,none)]) ρ G ov a w:=
 r.mono (km.refl _) fun k B e=>by
  simp only[Sx.upB] at e;split at e
  .cases e
  .exact e
def vH{m nm:Nat}(x:SV)(h:m≠nm):(fun k=>if k=nm then x else ρ k) m=ρ m:=if_neg h
theorem ozh{p:Prop}(h:p:=by rw[<-hc];exact hq):p:=h
def bP.new'(r:bP GB C n tl tb ρ G ov a w){nm:Nat}{x:SV}{f:FX}(hf:kE [nm] dst tl tb)(hg:bI G G')(hh:bH C ov' G' w')
  (hB:lI (fun k=>if k=nm then x else ρ k) G' nm B' os)(hos: ∀o∈os,o∈ov')(hov: ∀m B,m≠nm->tb m=some B-> ∀o∈ov,(ρ m).a=some ⟨o.b,0,none⟩->o∈ov'/\x.a≠some ⟨o.b,0,none⟩)
  (hy:b9 (fun k=>if k=nm then x else ρ k) G' f y)(hp:xp C n a dst y a')(hdn:dst=some nm:=by rfl):bP GB C n (eh tl dst f) (Sx.upB tb [(nm,some B')]) (fun k=>if k=nm then x else ρ k) G' ov' a' w':=by
 obtain⟨f1,f2⟩:=hf nm aZ;refine⟨r.gb.trans hg,hh,hp.sz,hp.df,hp.fx (fun k g hk e=>?_) hy,fun m B e=>?_,fun m m' B B2 e e' hne=>?_,fun m p hm hm2 e=>?_⟩
 .obtain⟨u,h1,h2⟩:=r.fx k g e
  exact⟨u,h1,(h2.up hg).ren fun m hm=>vH x fun hc=>f1 k g hk e (by rw[hm,hc])⟩
 .simp only[Sx.upB] at e
  by_cases hm:m=nm
  .subst hm;simp only[if_true] at e;cases e;exact⟨os,hB,hos⟩
  .simp only[hm,if_false] at e
   obtain⟨os',h1,h2⟩:=r.bx m B e;exact⟨os',(h1.up hg).ren (if_neg hm) fun q hq=>vH x fun hc=>f2 m B hm e ozh,fun o ho=>(hov m B hm e o (h2 o ho) (h1.blk ho)).1⟩
 .simp only[Sx.upB] at e e'
  by_cases hm:m=nm<;>by_cases hm':m'=nm
  .exact absurd (hm.trans hm'.symm) hne
  .subst hm;simp only[hm',if_false] at e'
   intro b hb hb';simp only[if_true] at hb;rw[if_neg hm'] at hb';obtain⟨os',h1,h2⟩:=r.bx m' B2 e';obtain⟨o,ho,rfl⟩:=h1.mem_of hb';exact(hov m' B2 hm' e' o (h2 o ho) hb').2 hb
  .subst hm';simp only[hm,if_false] at e
   intro b hb hb';simp only[if_true] at hb';rw[if_neg hm] at hb;obtain⟨os',h1,h2⟩:=r.bx m B e;obtain⟨o,ho,rfl⟩:=h1.mem_of hb;exact(hov m B hm e o (h2 o ho) hb).2 hb'
  .simp only[hm,hm',if_false] at e e'
   intro b hb hb';rw[if_neg hm] at hb;rw[if_neg hm'] at hb';exact r.dj m m' B B2 e e' hne b hb hb'
 .have hlt:nm<n:=by
   obtain⟨h,_⟩:=fV.1 (hp.new nm hdn);rw[hp.sz] at h;exact h
  rw[if_neg we];exact r.fxd m p hm hm2 e
def bP.new(r:bP GB C n tl tb ρ G ov a w){nm:Nat}{x:SV}{f:FX}(hf:kE [nm] dst tl tb)(hg:bI G G')(hh:bH C ov' G' w')
  (hB:lI (fun k=>if k=nm then x else ρ k) G' nm B' os)(hos: ∀o∈os,o∈ov')(hov: ∀o∈ov,o∈ov')(hnew: ∀o∈ov,x.a≠some ⟨o.b,0,none⟩)
  (hy:b9 (fun k=>if k=nm then x else ρ k) G' f y)(hp:xp C n a dst y a')(hdn:dst=some nm:=by rfl):bP GB C n (eh tl dst f) (Sx.upB tb [(nm,some B')]) (fun k=>if k=nm then x else ρ k) G' ov' a' w':=
 r.new' hf hg hh hB hos (fun _ _ _ _ o ho _=>⟨hov o ho,hnew o ho⟩) hy hp hdn
end
def b8(P:Program)(GB:Gh)(C:aF)(n:Nat)(lk:LK)(bk:BM)(o:Oper)(f:FX)(bl:List (Nat×Option Bk))(nw:List Nat):Prop:=
 cg n o.dst=true-> ∀(tl:LK) (tb:BM) (K:Act->World->Prop),km lk tl->km bk tb->kE nw o.dst tl tb->SX GB C n (eh tl o.dst f) (upB tb bl) K->SX GB C n tl tb (fun a w=> ∀Q,o.wp P a w K Q)
section
variable {f:FX}
def b8.yd{o:Oper}(h: ∀ρ G ov a w,bP GB C n lk bk ρ G ov a w-> ∃y,b9 ρ G f y/\Yd P C (cp a) ov G o y):b8 P GB C n lk bk o f [] []:=by
 intro hd tl tb K h1 h2 _ hk;refine⟨fun ρ G ov a w r Q=>?_⟩;obtain⟨y,hy,hY⟩:=h ρ G ov a w (r.mono h1 h2);exact kO (hY a w (cC a) r.h) (hk.run ρ G ov _ w (r.put hy (r.putA y hd)))
end
inductive TK where
 |st (fo:List (Nat×Nat×Nat))
 |sl (e s b:Nat)
 |int (k:IntKind)
 |bl
 |pt
 |fc
 |sc
 |o
structure TI where
 k:TK
 sz:Nat
 z:Option (List FX)
 za:Bool
def Lq:Option Value->Bool
 |some (.agg _)=>true
 |_=>false
def xl:Value->FX
 | .slice none 0 0=> .nl
 | .bool true=> .tt
 | .bool false=> .ff
 |v=> .d (.v v)
def xV(P:Program):List Field->Option (List (Nat×Nat×Nat))
 |[]=>some []
 |f::t=>match P.info? f.type,xV P t with
  |some i,some l=>some ((f.offset,f.type,i.size)::l)
  |_,_=>none
def lh(P:Program)(t:TypeId):TK:=match P.underlying t with
 |some (.struct fs)=>match xV P fs.toList with
  |some l=> .st l
  |none=> .o
 |some (.slice e)=>match P.info? e with
  |some i=> .sl e i.size i.bytes
  |none=> .o
 |some (.int k)=> .int k
 |some .bool=> .bl
 |some (.pointer _)=> .pt
 |some (.interface _)=> .fc
 |some (.array ..)=> .o
 |some .string=> .sc
 |_=> .o
def fw(P:Program)(t:TypeId):Option TI:=match P.info? t with
 |some i=>some ⟨lh P t,i.size,i.zero.map fun v=>(aG v).map xl,Lq i.zero⟩
 |none=>none
abbrev TT:=List (Nat×TI)
def eo:TT->Nat->Option TI
 |[],_=>none
 |(k,v)::t,j=>bif Nat.beq k j then some v else eo t j
def ni(P:Program)(T:TT):Prop:= ∀t i,eo T t=some i->fw P t=some i
def ni.of{P:Program}: ∀{T:TT},T.map (fun e=>some e.2)=T.map (fun e=>fw P e.1)->ni P T
 |[],_,t,i,h=>by cases h
 |(k,v)::T,e,t,i,h=>by
  simp only[bV,List.cons.injEq] at e;simp only[eo] at h
  cases hb:Nat.beq k t with
  |true=>rw[hb] at h;cases h;rw[<-aN hb];exact e.1.symm
  |false=>rw[hb] at h;exact ni.of e.2 t i h
def aHO(ρ:NE)(G:Gh)(v:Value):b9 ρ G (xl v) v:=by
 unfold xl;split
 .exact J
 .exact J
 .exact J
 .exact(aI (G:=G)).2 J
def O4(ρ:NE)(G:Gh): ∀m:List Value,du ρ G (m.map xl) m
 |[]=>rfl
 |v::m=>⟨v,m,J,aHO ρ G v,O4 ρ G m⟩
section
variable {i:TI}
def ru(h:fw P t=some i): ∃j,P.info? t=some j/\i=⟨lh P t,j.size,j.zero.map fun v=>(aG v).map xl,Lq j.zero⟩:=by
 unfold fw at h;split at h
 .rename_i j hj;cases h;exact⟨j,hj,rfl⟩
 .cases h
def rh{d:TypeDesc}(h:P.underlying t=some d)(w:World):(underlying t).run P w= .ok d w:=by
 show(program>>=_).run P w=_;rw[aP (w':=w) (a:=P) J,h];rfl
def aAl(h:P.info? t=some j)(w:World):(typeInfo t).run P w= .ok j w:=by
 show(program>>=_).run P w=_;rw[aP (w':=w) (a:=P) J,h];rfl
def vJ(h:P.info? t=some j)(w:World):(sizeOf t).run P w= .ok j.size w:=by
 show(typeInfo t>>=_).run P w=_;rw[aP (aAl h w)];rfl
def Bc{d:TypeDesc}(h:P.underlying t=some d)(w:World):(isAgg t).run P w= .ok (match d with| .struct _| .array _ _=>true|_=>false) w:=by
 show(underlying t>>=_).run P w=_;rw[aP (rh h w)]
 cases d<;>rfl
def TI.ag(i:TI):Option (Option Nat):=match i.k with
 | .st _=>some (some i.sz)
 | .o=>none
 |_=>bif Nat.beq i.sz 1 then some none else none
theorem yJ{k:Nat}(h:fw P t=some i)(hk:i.ag=some (some k)):ll P t k:=by
 obtain⟨j,h1,rfl⟩:=ru h;unfold TI.ag at hk
 cases e:lh P t with
 |st fo=>
  simp only[e] at hk;cases hk;unfold lh at e;split at e<;>first|(cases e;done)|skip
  .rename_i fs hu;exact⟨fun w=>Bc hu w,fun w=>vJ h1 w⟩
  .split at e<;>cases e
 |o=>simp only[e] at hk;cases hk
 |_=>simp only[e,cond_eq_ite] at hk;split at hk<;>cases hk
theorem xy(h:fw P t=some i)(hk:i.ag=some none):kC P t:=by
 obtain⟨j,h1,rfl⟩:=ru h;unfold TI.ag at hk;have key:j.size=1->(∀w,(isAgg t).run P w= .ok false w)->kC P t:=fun e1 e2=>⟨e2,fun w=>by rw[vJ h1 w,e1]⟩
 cases e:lh P t with
 |st fo=>simp only[e] at hk;cases hk
 |o=>simp only[e] at hk;cases hk
 |_=>
  simp only[e,cond_eq_ite] at hk;split at hk
  .rename_i hb
   refine key (aN hb) fun w=>?_;unfold lh at e;split at e<;>first|(cases e;done)|skip
   all_goals first
    |(rename_i hu;rw[Bc hu w];done)
    |(split at e<;>first|(cases e;done)|(rename_i hu _ _ _;rw[Bc hu w];done))
  .cases hk
def Bo{z:List FX}(h:fw P t=some i)(hz:i.z=some z): ∃v,gv P t v/\ ∀ρ G,du ρ G z (aG v):=by
 obtain⟨j,h1,rfl⟩:=ru h
 cases hv:j.zero with
 |none=>simp only[hv] at hz;cases hz
 |some v=>
  simp only[hv] at hz;cases hz;exact⟨v,⟨by rw[h1];simp[hv]⟩,fun ρ G=>O4 ρ G _⟩
def Hb: ∀{fs:List Field} {l:List (Nat×Nat×Nat)} {k off ft s:Nat},xV P fs=some l->l[k]? =some (off,ft,s)-> ∃f,fs[k]? =some f/\f.offset=off/\f.type=ft/\ ∃j,P.info? ft=some j/\j.size=s
 |[],l,k,off,ft,s,h,e=>by cases h;simp at e
 |f::fs,l,k,off,ft,s,h,e=>by
  simp only[xV] at h;split at h
  .rename_i j l' hj hl
   cases h
   cases k with
   |zero=>simp at e;obtain⟨rfl,rfl,rfl⟩:=e;exact⟨f,rfl,rfl,rfl,j,hj,rfl⟩
   |succ k=>simp at e;obtain⟨g,h1,h2⟩:=Hb hl e;exact⟨g,by simpa using h1,h2⟩
  .cases h
def Ok: ∀{fs:List Field} {l:List (Nat×Nat×Nat)},xV P fs=some l-> ∀w,(fs.mapM (m:=Sem) fun f=>do pure (f.offset,<-sizeOf f.type)).run P w= .ok (l.map fun x=>(x.1,x.2.2)) w
 |[],l,h,w=>by cases h;rfl
 |f::fs,l,h,w=>by
  simp only[xV] at h;split at h
  .rename_i j l' hj hl
   cases h
   rw[rR];have h1:(do pure (f.offset,<-sizeOf f.type):Sem (Nat×Nat)).run P w= .ok (f.offset,j.size) w:=by
    rw[aP (vJ hj w)];rfl
   rw[aP h1,aP (Ok hl w)];rfl
  .cases h
def IS{fo:List (Nat×Nat×Nat)}(h:fw P t=some i)(hk:i.k= .st fo): ∃fs,P.underlying t=some (.struct fs)/\xV P fs.toList=some fo:=by
 obtain⟨j,h1,rfl⟩:=ru h;have e:lh P t= .st fo:=hk;unfold lh at e;split at e<;>first|(cases e;done)|skip
 .rename_i fs hu
  split at e
  .rename_i l hl;cases e;exact⟨fs,hu,hl⟩
  .cases e
 .split at e<;>cases e
theorem WR{fo:List (Nat×Nat×Nat)}{f s:Nat}(h:fw P t=some i)(hk:i.k= .st fo)(hf:fo[f]? =some (off,ft,s)):K5 P t f off ft:=by
 obtain⟨fs,hu,hl⟩:=IS h hk;obtain⟨g,h1,h2,h3,_⟩:=Hb hl hf;exact⟨fs,g,fun w=>rh hu w,by simpa using h1,h2,h3⟩
theorem aLt{fo:List (Nat×Nat×Nat)}{f s:Nat}(h:fw P t=some i)(hk:i.k= .st fo)(hf:fo[f]? =some (off,ft,s+1)):lx P t f off:=by
 obtain⟨fs,hu,hl⟩:=IS h hk;obtain⟨g,h2,h3,h4,j,h5,h6⟩:=Hb hl hf;refine⟨fun b o w=>?_⟩;unfold Instr.fieldAt;rw[aP (rh hu w)];have h2':fs[f]? =some g:=by simpa using h2
 simp only[h2'];have:(fieldPlace ⟨b,o,none⟩ g).run P w= .ok (Addr.add ⟨b,o,none⟩ off) w:=by
  unfold fieldPlace;rw[h4,aP (vJ h5 w),h6,h3];rfl
 show(fieldPlace ⟨b,o,none⟩ g>>=_).run P w=_;rw[aP this];rfl
theorem L'{fo:List (Nat×Nat×Nat)}(h:fw P t=some i)(hk:i.k= .st fo):Ap P t (fo.map fun x=>(x.1,x.2.2)):=by
 obtain⟨fs,hu,hl⟩:=IS h hk;refine⟨fs,fun w=>rh hu w,fun w=>?_⟩;rw[Array.mapM_eq_mapM_toList,map_eq_pure_bind,aP (Ok hl w)];rfl
theorem lf{s b:Nat}(h:fw P t=some i)(hk:i.k= .sl e s b):cD P t e s b:=by
 obtain⟨j,h1,rfl⟩:=ru h;have e':lh P t= .sl e s b:=hk;unfold lh at e';split at e'<;>first|(cases e';done)|skip
 .split at e'<;>cases e'
 .rename_i el hu
  split at e'
  .rename_i q hq;cases e';exact⟨hu,by rw[hq];rfl⟩
  .cases e'
theorem yp{k:IntKind}(h:fw P t=some i)(hk:i.k= .int k):xC P t k:=by
 obtain⟨j,h1,rfl⟩:=ru h;have e:lh P t= .int k:=hk;unfold lh at e;split at e<;>first|(cases e;done)|(split at e<;>cases e;done)|skip
 rename_i k' hu;cases e;exact⟨fun w=>rh hu w⟩
theorem Ys(h:fw P t=some i)(hk:i.k= .bl):JQ P t:=by
 obtain⟨j,h1,rfl⟩:=ru h;have e:lh P t= .bl:=hk;unfold lh at e;split at e<;>first|(cases e;done)|(split at e<;>cases e;done)|skip
 rename_i hu;exact⟨fun w=>rh hu w⟩
theorem RI(h:fw P t=some i)(hk:i.k= .pt):Hp P t:=by
 obtain⟨j,h1,rfl⟩:=ru h;have e:lh P t= .pt:=hk;unfold lh at e;split at e<;>first|(cases e;done)|(split at e<;>cases e;done)|skip
 rename_i el hu;exact⟨el,fun w=>rh hu w⟩
theorem Zu(h:fw P t=some i)(hk:i.k= .fc):KZ P t:=by
 obtain⟨j,h1,rfl⟩:=ru h;have e:lh P t= .fc:=hk;unfold lh at e;split at e<;>first|(cases e;done)|(split at e<;>cases e;done)|skip
 rename_i el hu;exact⟨el,fun w=>rh hu w⟩
end
def mf{α β:Type}:List α->(List α->β)->β
 |[],k=>k []
 |x::t,k=>mf t fun t'=>k (x::t')
def ve{α β:Type}: ∀(l:List α) (k:List α->β),mf l k=k l
 |[],_=>rfl
 |x::t,k=>by rw[mf,ve t]
def takeX:List FX->Nat->Nat->Option (List FX)
 |_,0,0=>some []
 |[],0,_+1=>none
 |v::t,0,k+1=>match takeX t 0 k with|some l=>some (v::l)|none=>none
 |[],_+1,_=>none
 |_::t,off+1,k=>takeX t off k
def xX:List FX->Nat->List FX->List FX
 |[],_,_=>[]
 |c::t,0,vs=>match vs with
  |[]=>c::t
  |v::vs=>v::xX t 0 vs
 |c::t,off+1,vs=>c::xX t off vs
def UX: ∀(n:List Value) (off:Nat),cH [] off n=[]
 |[],_=>rfl
 |_::n,off=>UX n (off+1)
def Hm: ∀(n:List Value) (y:Value) (m:List Value) (off:Nat),cH (y::m) (off+1) n=y::cH m off n
 |[],_,_,_=>rfl
 |v::n,y,m,off=>Hm n y (m.set off v) (off+1)
section
def du.takeX: ∀{ds:List FX} {m:List Value} {off k:Nat} {l:List FX},du ρ G ds m->takeX ds off k=some l-> ∃n,cw m off k=some n/\du ρ G l n
 |[],m,0,0,l,h,e=>by cases e;rw[show m=[] from h];exact⟨[],J,J⟩
 |d::t,m,0,0,l,⟨y,n,e1,h1,h2⟩,e=>by subst e1;cases e;exact⟨[],J,J⟩
 |[],m,0,k+1,l,h,e=>by simp[Sx.takeX] at e
 |d::t,m,0,k+1,l,⟨y,n,e1,h1,h2⟩,e=>by
  subst e1;simp only[Sx.takeX] at e;split at e
  .rename_i l' hl'
   cases e
   obtain⟨q,hq,hl⟩:=h2.takeX hl';exact⟨y::q,by simp only[cw,hq],y,q,J,h1,hl⟩
  .cases e
 |[],m,off+1,k,l,h,e=>by simp[Sx.takeX] at e
 |d::t,m,off+1,k,l,⟨y,n,e1,h1,h2⟩,e=>by subst e1;exact h2.takeX (off:=off) (k:=k) e
def du.ov: ∀{ds:List FX} {m:List Value} {off:Nat} {vs:List FX} {n:List Value},du ρ G ds m->du ρ G vs n->du ρ G (xX ds off vs) (cH m off n)
 |[],m,off,vs,n,h,k=>by rw[show m=[] from h,UX];rfl
 |d::t,m,0,[],n,h,k=>by rw[show n=[] from k];exact h
 |d::t,m,0,v::vs,n,⟨y,m',e,h1,h2⟩,⟨u,n',e',k1,k2⟩=>by
  subst e e';show du ρ G (v::xX t 0 vs) (cH (u::m') 1 n');rw[Hm];exact⟨u,_,J,k1,h2.ov k2⟩
 |d::t,m,off+1,vs,n,⟨y,m',e,h1,h2⟩,k=>by
  subst e;rw[Hm];exact⟨y,_,J,h1,h2.ov k⟩
def Fx:List FX->Option (List DV×Nat×List DV)
 |[]=>none
 |f::t=>match f with
  | .rw nm=>match jx t with
   |some post=>some ([],nm,post)
   |none=>none
  |f=>match ke f,Fx t with
   |some d,some (pre,nm,post)=>some (d::pre,nm,post)
   |_,_=>none
def Rl: ∀{l:List FX} {m:List Value} {pre:List DV} {nm:Nat} {post:List DV},du ρ G l m->Fx l=some (pre,nm,post)-> ∃m1 m2,m=m1++Value.slice (ρ nm).a (ρ nm).n (ρ nm).c::m2/\IsLs G pre m1/\IsLs G post m2
 |[],m,pre,nm,post,h,e=>by cases e
 |f::t,m,pre,nm,post,⟨y,n,e1,h1,h2⟩,e=>by
  subst e1;simp only[Fx] at e;split at e
  .split at e<;>cases e
   rename_i hp
   cases (show y=_ from h1)
   exact⟨[],n,J, .nil,tv h2 hp⟩
  .split at e<;>cases e
   rename_i hd hu;obtain⟨m1,m2,rfl,k1,k2⟩:=Rl h2 hu;exact⟨y::m1,m2,J, .cons (nq h1 hd) k1,k2⟩
def ya(l:List FX):Option FX:=match jx l with
 |some ds=>some (.d (.ag ds))
 |none=>match Fx l with
  |some (pre,nm,post)=>some (.bx false pre nm post)
  |none=>none
def JF{l:List FX}{n:List Value}{f:FX}(h:du ρ G l n)(e:ya l=some f):b9 ρ G f (.agg ⟨n⟩):=by
 unfold ya at e;split at e
 .rename_i hd;cases e;exact eG.2 ⟨n,rfl,tv h hd⟩
 .split at e<;>cases e
  rename_i hu;obtain⟨m1,m2,rfl,k1,k2⟩:=Rl h hu;exact⟨m1,m2,J,k1,k2⟩
def Fh:Nat->List DV->Nat->List DV->Option FX
 |0,[],nm,_=>some (.rw nm)
 |i+1,[],_,post=>match post[i]? with
  |some d=>some (.d d)
  |none=>none
 |0,d::_,_,_=>some (.d d)
 |i+1,_::t,nm,post=>Fh i t nm post
def Nt: ∀{i:Nat} {pre:List DV} {nm:Nat} {post:List DV} {f:FX} {m1 m2:List Value},Fh i pre nm post=some f->IsLs G pre m1->IsLs G post m2-> ∃y,(m1++Value.slice (ρ nm).a (ρ nm).n (ρ nm).c::m2)[i]? =some y/\b9 ρ G f y
 |0,[],nm,post,f,m1,m2,e,h1,h2=>by cases e;rw[dm.1 h1];exact⟨_,J,J⟩
 |i+1,[],nm,post,f,m1,m2,e,h1,h2=>by
  rw[dm.1 h1];simp only[Fh] at e;split at e<;>cases e;rename_i hp;obtain⟨l',h3,h4⟩:=h2.get hp;exact⟨l',by simpa using h3,h4⟩
 |0,d::t,nm,post,f,m1,m2,e,h1,h2=>by
  cases e
  obtain⟨y,n,rfl,k1,k2⟩:=bh.1 h1;exact⟨y,J,k1⟩
 |i+1,d::t,nm,post,f,m1,m2,e,h1,h2=>by
  obtain⟨y,n,rfl,k1,k2⟩:=bh.1 h1;obtain⟨u,h3,h4⟩:=Nt (i:=i) e k2 h2;exact⟨u,by simpa using h3,h4⟩
end
structure CR where
 vc:Option Prop
 f:FX
 bl:List (Nat×Option Bk)
 nw:List Nat
def kq:IntKind->IntKind->Bool
 | .i64, .i64=>true
 | .u64, .u64=>true
 | .u32, .u32=>true
 | .u8, .u8=>true
 | .i32, .i32=>true
 |_,_=>false
def Fl{k j:IntKind}(h:kq k j=true):j=k:=by cases k<;>cases j<;>first|rfl|(simp[kq] at h)
def KU(k:IntKind)(x:Int)(K:Prop->Option α):Option α:=match k with
 | .i64=>K (-9223372036854775808<=x/\x<=9223372036854775807)
 | .u64=>K (0<=x/\x<=18446744073709551615)
 | .u32=>K (0<=x/\x<=4294967295)
 | .u8=>K (0<=x/\x<=255)
 | .i32=>K (-2147483648<=x/\x<=2147483647)
 |_=>none
def Xm{k:IntKind}{x:Int}{K:Prop->Option α}{r:α}(h:KU k x K=some r): ∃p,K p=some r/\(p->k.min<=x/\x<=k.max):=by
 cases k<;>first|(simp[KU] at h;done)|exact⟨_,h,id⟩
def zX(k:IntKind)(x:Int):Option (Option Prop×FX):=KU k x fun p=>some (some p, .d (.v (.int k x)))
def Bt(op:BinOp)(k:IntKind)(p q:Int):Option (Option Prop×FX):=match op with
 | .add=>zX k (p+q)
 | .sub=>zX k (p-q)
 | .mul=>zX k (p*q)
 | .quo=>match k with
  | .u64=>some (some (0<=p/\p<=18446744073709551615/\0<q), .d (.v (.int .u64 (p/q))))
  |k=>some (some (q≠0), .d (.v (.int k (k.wrap (p.tdiv q)))))
 | .rem=>match k with
  | .u64=>some (some (0<=p/\q≠0), .d (.v (.int .u64 (p%q))))
  | .u32=>some (some (0<=p/\q≠0), .d (.v (.int .u32 (p%q))))
  |k=>some (some (q≠0), .d (.v (.int k (p.tmod q))))
 | .shr=>some (some (0<=q), .d (.v (.int k (p.fdiv (2^min q.toNat k.bits)))))
 | .shl=>some (some (0<=q), .d (.v (.int k (k.wrap (p*2^min q.toNat k.bits)))))
 | .or=>match k with
  | .u64=>some (none, .d (.v (.int .u64 ((BitVec.ofInt 64 p ||| BitVec.ofInt 64 q).toNat:Nat))))
  | .u32=>some (none, .d (.v (.int .u32 ((BitVec.ofInt 32 p ||| BitVec.ofInt 32 q).toNat:Nat))))
  |_=>none
 | .and=>match k with
  | .u64=>some (none, .d (.v (.int .u64 ((BitVec.ofInt 64 p &&& BitVec.ofInt 64 q).toNat:Nat))))
  | .u32=>some (none, .d (.v (.int .u32 ((BitVec.ofInt 32 p &&& BitVec.ofInt 32 q).toNat:Nat))))
  |_=>none
 | .lss=>some (none, .pr (p<q) inferInstance)
 | .leq=>some (none, .pr (p<=q) inferInstance)
 | .gtr=>some (none, .pr (q<p) inferInstance)
 | .geq=>some (none, .pr (q<=p) inferInstance)
 | .eql=>some (none, .pr (p=q) inferInstance)
 | .neq=>some (none, .pr (p≠q) inferInstance)
 |_=>none
def uG:FX->Option Bool
 | .tt=>some true
 | .ff=>some false
 | .pr p h=>some (@decide p h)
 | .d (.v (.bool b))=>some b
 |_=>none
def x5{f:FX}{b:Bool}(h:b9 ρ G f y)(e:uG f=some b):y= .bool b:=by
 unfold uG at e;split at e<;>first|(cases e;done)|(cases e;exact h)|(cases e;exact(aI (G:=G)).1 h)
def Kl:FX->Option FX
 | .tt=>some .ff
 | .ff=>some .tt
 | .pr p h=>some (.pr (¬p) (@instDecidableNot p h))
 | .d (.v (.bool b))=>some (.d (.v (.bool (!b))))
 |_=>none
def aHS{f g:FX}(h:b9 ρ G f y)(e:Kl f=some g): ∃b,y= .bool b/\b9 ρ G g (.bool (!b)):=by
 unfold Kl at e;split at e
 .cases e;exact⟨true,h,J⟩
 .cases e;exact⟨false,h,J⟩
 .rename_i p hp
  cases e
  refine⟨@decide p hp,h,?_⟩;show Value.bool _= .bool _;congr 1
  cases hp<;>rfl
 .rename_i b;cases e;exact⟨b,(aI (G:=G)).1 h,(aI (G:=G)).2 rfl⟩
 .cases e
def IU(T:TT)(t:TypeId)(f:FX)(y:Operand):Option Bool:=match eo T t with
 |some ⟨.fc,_,_,_⟩=>match y,f with
  | .const .nilIface, .d (.v .nilIface)=>some true
  | .const .nilIface, .d (.v (.iface _ _))=>some false
  |_,_=>none
 |some ⟨.pt,_,_,_⟩=>match y,f with
  | .const (.pointer none), .d (.v (.pointer none))=>some true
  | .const (.pointer none), .ov _ _=>some false
  | .const (.pointer none), .ep _=>some false
  | .const (.pointer none), .be _ _ _ _=>some false
  | .const (.pointer none), .d (.pt _)=>some false
  |_,_=>none
 |some ⟨.sl _ _ _,_,_,_⟩=>match y,f with
  | .const (.slice none _ _), .nl=>some true
  |_,_=>none
 |_=>none
def NL(T:TT)(op:BinOp)(t:TypeId)(b:Bool):Option (Option Prop×FX):=match eo T t with
 |some ⟨.pt,_,_,_⟩=>match op with
  | .eql=>some (none, .pr (b=false) inferInstance)
  | .neq=>some (none, .pr (b=true) inferInstance)
  |_=>none
 |_=>none
def J6(T:TT)(op:BinOp)(t:TypeId)(f g:FX)(y:Operand):Option (Option Prop×FX):=
 match f,g with
 | .d (.v (.int k p)), .d (.v (.int j q))=>match op with
  | .shr=>Bt .shr k p q
  | .shl=>Bt .shl k p q
  |op=>bif kq k j then Bt op k p q else none
 | .d (.op b _), .d (.v (.pointer none))=>NL T op t b
 |f,g=>match IU T t f y with
  |some b=>match op with
   | .eql=>some (none,bif b then .tt else .ff)
   | .neq=>some (none,bif b then .ff else .tt)
   |_=>none
  |none=>match eo T t,uG f,uG g with
   |some ⟨.bl,_,_,_⟩,some a,some b=>match op with
    | .eql=>some (none, .d (.v (.bool (a==b))))
    | .neq=>some (none, .d (.v (.bool (!(a==b)))))
    |_=>none
   |_,_,_=>none
def Dj(mx:Bool)(f g:FX):Option FX:=match f,g with
 | .d (.v (.int k p)), .d (.v (.int j q))=>bif kq k j then(match mx with
  |true=>some (.d (.v (.int k (if q>p then q else p))))
  |false=>some (.d (.v (.int k (if q<p then q else p))))) else none
 |_,_=>none
def Lv(bk:BM)(i:TI)(f:FX):Option FX:=match i.ag with
 |some (some k)=>match f with
  | .ov nm off=>match bk nm with
   |some (.o _ cs _)=>match takeX cs off k with
    |some l=>ya l
    |none=>none
   |_=>none
  | .ep cs=>match takeD cs 0 k with
   |some l=>some (.d (.ag l))
   |none=>none
  |_=>none
 |some none=>match f with
  | .ov nm off=>match bk nm with
   |some (.o _ cs _)=>cs[off]?
   |_=>none
  | .ep cs=>match cs with
   |d::_=>some (.d d)
   |[]=>none
  |_=>none
 |none=>none
def FX.flat:FX->Bool
 | .d x=>x.flat
 | .bx _ _ _ _=>false
 | .un=>false
 | .no=>false
 |_=>true
def yQ(f:FX)(d:Nat):Bool:=match f.nm with
 |some m=>!Nat.beq m d
 |none=>true
def ES(bk:BM)(i:TI)(fa fv:FX):Option (List (Nat×Option Bk)):=match fa with
 | .ov nm off=>match bk nm with
  |some (.o ty cs lo)=>match i.ag with
   |some (some k)=>bif fv.okc&&(Nat.beq fv.cells.length k&&Nat.ble (off+k) cs.length) then mf (xX cs off fv.cells) fun cs'=>some [(nm,some (.o ty cs' lo))] else none
   |some none=>bif fv.flat&&Nat.blt off cs.length then mf (cs.set off fv) fun cs'=>some [(nm,some (.o ty cs' lo))] else none
   |none=>none
  |_=>none
 |_=>none
def uB(lk:LK)(fo:List (Nat×Nat×Nat)):List FX->List (Nat×Operand)->Option (List FX)
 |cs,[]=>some cs
 |cs,(i,x)::r=>match fo[i]?,bj lk x with
  |some (off,_,k),some d=>bif d.okc&&(Nat.beq d.cells.length k&&Nat.ble (off+k) cs.length) then uB lk fo (xX cs off d.cells) r else none
  |_,_=>none
def Gy(bk:BM)(f:FX):Option FX:=match f with
 | .nl=>some (.d (.v (.int .i64 0)))
 | .d (.sl l)=>some (.d (.v (.int .i64 (l.length:Nat))))
 | .ct l=>some (.d (.v (.int .i64 (l.length:Nat))))
 | .rw nm=>match bk nm with
  |some (.b _ _ ds _)=>some (.d (.v (.int .i64 (ds.length:Nat))))
  |_=>none
 |_=>none
def Jp(fo:List (Nat×Nat×Nat))(i:Nat)(f:FX):Option FX:=match fo[i]? with
 |some (off,_,_+1)=>match f with
  | .ov nm o=>some (.ov nm (o+off))
  | .ep l=>bif Nat.ble off l.length then mf (l.drop off) fun l'=>some (.ep l') else none
  | .be nm s i j=>some (.be nm s i (j+off))
  |_=>none
 |_=>none
def IY(T:TT)(fo:List (Nat×Nat×Nat))(i:Nat)(f:FX):Option FX:=match f with
 | .d (.ag cs)=>match fo[i]? with
  |some (off,ft,_)=>match eo T ft with
   |some j=>match j.ag with
    |some (some k)=>match takeD cs off k with
     |some l=>some (.d (.ag l))
     |none=>none
    |some none=>match cs[off]? with
     |some c=>some (.d c)
     |none=>none
    |none=>none
   |none=>none
  |none=>none
 |_=>none
def KM(T:TT)(t t':TypeId)(f:FX):Option (Option Prop×FX):=match eo T t,eo T t' with
 |some ⟨.int k,_,_,_⟩,some ⟨.int k',_,_,_⟩=>match f with
  | .d (.v (.int j p))=>bif kq k j then(match k' with
   | .u32=>some (none, .d (.v (.int .u32 (p%4294967296))))
   |k'=>zX k' p) else none
  |_=>none
 |_,_=>none
def GP(T:TT)(bk:BM)(t:TypeId)(f g:FX):Option (Option Prop×FX):=match f with
 | .rw nm=>match bk nm with
  |some (.b _ s ds _)=>match eo T t with
   |some ⟨.sl _ s' _,_,_,_⟩=>match g with
    | .d (.v (.int _ i))=>bif Nat.beq s s' then some (some (0<=i/\i<(ds.length:Nat)), .be nm s i.toNat 0) else none
    |_=>none
   |_=>none
  |_=>none
 |_=>none
def qd(r:Option FX):Option CR:=match r with
 |some f=>some ⟨none,f,[],[]⟩
 |none=>none
def wR(r:Option (Option Prop×FX)):Option CR:=match r with
 |some (v,f)=>some ⟨v,f,[],[]⟩
 |none=>none
def wK(lk:LK)(x y:Operand)(K:FX->FX->Option α):Option α:=match bj lk x with
 |some f=>match bj lk y with
  |some g=>K f g
  |none=>none
 |none=>none
def pP(lk:LK)(x:Operand)(K:FX->Option α):Option α:=match bj lk x with
 |some f=>K f
 |none=>none
def BX(T:TT)(t:TypeId)(K:List (Nat×Nat×Nat)->TI->Option α):Option α:=match eo T t with
 |some ⟨.st fo,sz,z,za⟩=>K fo ⟨.st fo,sz,z,za⟩
 |_=>none
def BR(T:TT)(t:TypeId)(K:TI->Option α):Option α:=match eo T t with
 |some i=>K i
 |none=>none
def Kx(i:Nat)(f:FX):Option FX:=match f with
 | .d (.tp ds)=>match ds[i]? with
  |some d=>some (.d d)
  |none=>none
 | .bx true pre nm post=>Fh i pre nm post
 |_=>none
def HK(f:FX):Option (Option Prop×FX):=match f with
 | .ov a b=>some (none, .ov a b)
 | .ep l=>some (none, .ep l)
 | .be a b c d=>some (none, .be a b c d)
 | .d (.pt l)=>some (none, .ep l)
 | .d (.op b l)=>some (some (b=true), .ep l)
 |_=>none
def GC(c f g:FX):Option FX:=match c with
 | .tt=>some f
 | .ff=>some g
 |_=>none
def KS(op:UnOp)(f:FX):Option (Option Prop×FX):=match op with
 | .not=>match Kl f with
  |some g=>some (none,g)
  |none=>none
 | .neg=>match f with
  | .d (.v (.int k p))=>zX k (-p)
  |_=>none
 |_=>none
def Aa(T:TT)(lk:LK)(bk:BM)(dst:Option Nat)(op:Op):Option CR:=match op with
 | .move x=>qd (bj lk x)
 | .assign x=>qd (bj lk x)
 | .pick c x y=>pP lk c fun c=>wK lk x y fun f g=>qd (GC c f g)
 | .alloc t=>match dst with
  |some d=>BR T t fun i=>match i.z with
   |some z=>mf z fun cs=>some ⟨none, .ov d 0,[(d,some (.o t cs true))],[d]⟩
   |none=>none
  |none=>none
 | .box t x=>match dst with
  |some d=>pP lk x fun f=>bif f.okc&&yQ f d then mf f.cells fun cs=>some ⟨none, .ov d 0,[(d,some (.o t cs true))],[d]⟩ else none
  |none=>none
 | .nilCheck x=>pP lk x fun f=>wR (HK f)
 | .fieldAddr t x i=>BX T t fun fo _=>pP lk x fun f=>qd (Jp fo i f)
 | .field t x i=>BX T t fun fo _=>pP lk x fun f=>qd (IY T fo i f)
 | .load t x=>BR T t fun i=>pP lk x fun f=>qd (Lv bk i f)
 | .store t x y=>BR T t fun i=>wK lk x y fun f g=>match ES bk i f g with
  |some bl=>some ⟨none, .un,bl,[]⟩
  |none=>none
 | .extract x i=>pP lk x fun f=>qd (Kx i f)
 | .build t parts=>BX T t fun fo i=>match i.z with
  |some z=>match uB lk fo z parts.toList with
   |some cs=>match ya cs with
    |some f=>some ⟨none,f,[],[]⟩
    |none=>none
   |none=>none
  |none=>none
 | .binOp op t x y _=>wK lk x y fun f g=>wR (J6 T op t f g y)
 | .unOp op _ x=>pP lk x fun f=>wR (KS op f)
 | .convert t t' x=>pP lk x fun f=>wR (KM T t t' f)
 | .indexAddr t x y=>wK lk x y fun f g=>wR (GP T bk t f g)
 | .call ⟨.builtin .len,⟨[x]⟩,⟨[t]⟩⟩=>match eo T t with
  |some ⟨.sl _ _ _,_,_,_⟩=>pP lk x fun f=>qd (Gy bk f)
  |_=>none
 | .call ⟨.builtin .max,⟨[x,y]⟩,⟨[_,_]⟩⟩=>wK lk x y fun f g=>qd (Dj true f g)
 | .call ⟨.builtin .min,⟨[x,y]⟩,⟨[_,_]⟩⟩=>wK lk x y fun f g=>qd (Dj false f g)
 |_=>none
end Go.Sx
end
