import Derived.Test.YtefoocgiaegobaaGreatDoorPe15
set_option linter.all false
set_option maxHeartbeats 4000000
set_option maxRecDepth 100000
section
namespace Go.Sx
open Go Go.Proofs Tryz
variable {GB:Gh}
def qy{α β:Type}(c:β->β->Int)(g:α->β)(l:List α)(k:Nat):List β:=pB c ((l.take k).map g)
section
variable {α β:Type} {c:β->β->Int} {g:α->β} {l:List α} {k:Nat}
def Hk{x:α}(h:l[k]? =some x):qy c g l (k+1)=fe c (g x) (qy c g l k):=by
 unfold qy pB;rw[gK,h,Option.toList_some,fQ,List.foldl_append];rfl
def Xo(h:k=l.length):qy c g l k=pB c (l.map g):=by unfold qy;rw[h,dY]
def Zy:(qy c g l k).length<=k:=by
 have:=Du c ((l.take k).map g) [];have h2:((l.take k).map g).length<=k:=by rw[aJ,bM];omega
 rw[jK] at this;unfold qy pB;omega
def XV{y:β}(h:y∈qy c g l k): ∃x∈l,y=g x:=by
 rcases EA c h with h|h
 ·obtain⟨x,hx,rfl⟩:=bJ.1 h
  exact⟨x,eK hx,J⟩
 ·cases h
end
def NK{α:Type}{f:α->DV}{s:Nat}(ok: ∀l:List α,dB s (l.map f))(xs:List α)(n:Nat):dB s ((xs.map f).take n):=fun d hd=>ok xs d (eK hd)
def F4{α:Type}{f:α->DV}{s:Nat}(ok: ∀l:List α,dB s (l.map f))(xs:List α)(n m:Nat):dB s (((xs.map f).take n).drop m):=fun d hd=>ok xs d (eK (jQ hd))
def KK{α:Type}{f:α->DV}{s:Nat}(ok: ∀l:List α,dB s (l.map f))(xs:List α)(n m:Nat)(x:α):dB s ([f x]++((xs.map f).take n).drop m):=fun d hd=>by
 rcases cX.1 hd with h|h
 ·exact ok [x] d h
 ·exact F4 ok xs n m d h
def DA{α:Type}{f:α->DV}{l:List α}{i:Nat}(h:i<l.length):(l.map f)[(i:Int).toNat]? =some (f l[i]):=by
 rw[aM,fU,aX h];rfl
def Us{ps:List ab}(hb: ∀p∈ps,bg p 1200)(hn:ps.length<=100000):PF GB prog 90 [.sl (ps.map eP)] (.sl ((pB fj ps).map eP)):=by
 have hm':=Ao eP ps;refine fn (fu:=⟨15⟩) func90 J J ntmps90 J J (fun C=>?_);refine aB 8 (.d (vI (ps.length:Nat))) J (by rw[hm'];rfl) ?_;refine gx J<|?_;refine Ya 3 J ?_;refine lp (X:=List ab×Nat) (fun⟨xs,k⟩=>[(9, .d (vI (k:Nat))),(8, .d (vI (ps.length:Nat))),(7, .d (.sl (ps.map eP))),(0, .d (.sl (ps.map eP))),(3, .d (.sl (xs.map eP)))]) (fun⟨xs,k⟩=>[]) (fun⟨xs,k⟩=>xs=qy fj id ps k/\k<=ps.length) (fun⟨xs,k⟩=>ps.length-k) ⟨[],0⟩ J ⟨J,bL _⟩ (fun _=>J) (fun⟨xs,k⟩ hk=>?_)
 try dsimp only at hk⊢
 obtain⟨hS,hkl⟩:=hk;refine br J J J (fun hc10=>?_) (fun hc10=>?_)
 .
  have hk:k<ps.length:=by omega
  obtain⟨m,hm⟩: ∃m,m=ps[k]:=⟨_,rfl⟩;have hz:ps[k]? =some m:=by rw[hm];exact aX hk
  haveI hmb:bg m 1200:=hm▸hb _ (jW hk);have hxl:=Ao eP xs;have hxn:xs.length<=k:=by rw[hS];exact Zy
  have hxb: ∀q∈xs,bg q 1200:=fun q hq=>by rw[hS] at hq;obtain⟨z,hz,he⟩:=XV hq;rw[he];exact hb z hz
  refine ix (fu:=⟨1⟩) _ J (DA hk) J<|?_;refine aB 12 (.d (eP m)) J (by rw[hm];rfl) ?_;refine gx (fu:=⟨10⟩) J<|?_;refine mg (fu:=⟨5⟩) (X:=Unit) (fun _=>[(9, .d (vI (k:Nat))),(8, .d (vI (ps.length:Nat))),(7, .d (.sl (ps.map eP))),(0, .d (.sl (ps.map eP))),(3, .d (.sl (xs.map eP))),(5, .ov 5 0),(6, .d (vI (mn fj m xs:Nat)))]) (fun _=>[(5,some (.o 81 [.d ((.v (.bool (decide (m.x.num<0))))), .d (dN m.x.num.natAbs), .d (dD m.x.den), .d ((.v (.bool (decide (m.y.num<0))))), .d (dN m.y.num.natAbs), .d (dD m.y.den)] true))]) (fun _=>True) [9,8,7,0,3,5,6] [5] rfl ?_ (fun _=>J) (fun _ _=>?_)
  .
   refine gx J<|?_;refine lp (fu:=⟨6⟩) (X:=Nat) (fun n=>[(9, .d (vI (k:Nat))),(8, .d (vI (ps.length:Nat))),(7, .d (.sl (ps.map eP))),(0, .d (.sl (ps.map eP))),(3, .d (.sl (xs.map eP))),(5, .ov 5 0),(6, .d (vI (n:Nat)))]) (fun n=>[(5,some (.o 81 [.d ((.v (.bool (decide (m.x.num<0))))), .d (dN m.x.num.natAbs), .d (dD m.x.den), .d ((.v (.bool (decide (m.y.num<0))))), .d (dN m.y.num.natAbs), .d (dD m.y.den)] true))]) (fun n=>n<=xs.length/\ ∀j (h:j<xs.length),j<n->fj xs[j] m<0) (fun n=>xs.length-n) 0 J ⟨bL _,fun j _ hj=>absurd hj (by omega)⟩ (fun _=>J) (fun n hk=>?_);obtain⟨n1,n2⟩:=hk;refine ud (v2:=fun hg16=>by simp only[ah];kernel_rfl) J J J J (fun hg16=>?_) (fun hg16=>?_)
   .
    refine ix _ J (DA (by omega)) J<|cl J (LT (p:=xs[n]'(by omega)) (q:=m) (hp:=hxb _ (jW (by omega))) (hq:=hmb)) J<|?_;refine br J J J (fun hc25=>?_) (fun hc25=>?_)
    .
     exact at_ (n+1) ⟨⟨by omega,fun j h hj=>by by_cases q:j=n;(subst q;exact hc25);exact n2 j h (by omega)⟩,(by omega)⟩
    .
     have hidx:mn fj m xs=n:=MJ fj n1 n2 (fun h=>hc25);exact at_ () trivial
   .
    have hidx:mn fj m xs=n:=MJ fj n1 n2 (fun h=>absurd h (by omega));exact at_ () trivial
  .
   obtain⟨n,hnx⟩: ∃n,mn fj m xs=n:=⟨_,rfl⟩;rw[hnx];have hnl:n<=xs.length:=by rw[<-hnx];exact SW _ _ _
   refine ud (v1:=fun hg31=>by simp only[ah];kernel_rfl) J J J J (fun hg31=>?_) (fun hg31=>?_)
   .
    have hnew: ∀h:n<xs.length,fj xs[n] m≠0:=fun h=>absurd h (by omega);obtain⟨ys,hys⟩: ∃ys,ys=xs.take n++m::xs.drop n:=⟨_,rfl⟩;have hin:fe fj m xs=ys:=by rw[hys];exact DZ fj hnx hnew
    have hyl:ys.length<=xs.length+1:=by rw[hys];simp;omega
    refine s3 n _ J J J J (pj _) (by rw[hxl];exact hnl) J<|ro J J<|sG n xs.length _ J J (by rw[hxl]) J (pj _) hnl (by omega) J<|?_;refine ap _ J J (F4 pj _ _ _) J<|LE (hv:=by simp only[ah];exact⟨by kernel_rfl,by omega⟩) (ho:=fun _=>⟨NK pj _ _,by simp⟩) (ys.map eP) J (by rw[hys,fQ,bW,nY,List.map_drop,bQ (l:=xs.map eP) (i:=xs.length) (by simp)];rfl) (KK pj _ _ _ _) J<|?_;exact at_ ⟨ys,k+1⟩ (by dsimp only;exact⟨⟨by rw[Hk hz,<-hS];exact hin.symm,by omega⟩,(by omega)⟩)
   .
    refine ix _ J (DA (by omega)) J<|cl J (LT (p:=xs[n]'(by omega)) (q:=m) (hp:=hxb _ (jW (by omega))) (hq:=hmb)) J<|?_;refine br J J J (fun hc40=>?_) (fun hc40=>?_)
    .
     have hnew: ∀h:n<xs.length,fj xs[n] m≠0:=fun h=>hc40;obtain⟨ys,hys⟩: ∃ys,ys=xs.take n++m::xs.drop n:=⟨_,rfl⟩;have hin:fe fj m xs=ys:=by rw[hys];exact DZ fj hnx hnew
     have hyl:ys.length<=xs.length+1:=by rw[hys];simp;omega
     refine s3 n _ J J J J (pj _) (by rw[hxl];exact hnl) J<|ro J J<|sG n xs.length _ J J (by rw[hxl]) J (pj _) hnl (by omega) J<|?_;refine ap _ J J (F4 pj _ _ _) J<|LE (hv:=by simp only[ah];exact⟨by kernel_rfl,by omega⟩) (ho:=fun _=>⟨NK pj _ _,by simp⟩) (ys.map eP) J (by rw[hys,fQ,bW,nY,List.map_drop,bQ (l:=xs.map eP) (i:=xs.length) (by simp)];rfl) (KK pj _ _ _ _) J<|?_;exact at_ ⟨ys,k+1⟩ (by dsimp only;exact⟨⟨by rw[Hk hz,<-hS];exact hin.symm,by omega⟩,(by omega)⟩)
    .
     have hin:fe fj m xs=xs:=L0 fj hnx (by omega) (Decidable.not_not.1 hc40);exact at_ ⟨xs,k+1⟩ (by dsimp only;exact⟨⟨by rw[Hk hz,<-hS];exact hin.symm,by omega⟩,(by omega)⟩)
 .
  have hfin:pB fj ps=xs:=by rw[hS,Xo (by omega),List.map_id]
  exact rz J (by rw[hfin];rfl)
def jg(ls:List aa):List aa:=pB c9 (ls.map aa.canon)
def Fi{ls:List aa}{y:aa}(h:y∈jg ls): ∃x∈ls,y=x.canon:=by
 rcases EA c9 h with h|h
 ·obtain⟨x,hx,rfl⟩:=bJ.1 h;exact⟨x,hx,rfl⟩
 ·cases h
def BF{α:Type}{c:α->α->Int}(hc: ∀u x,c u x=0->u=x){x y:α}: ∀{xs:List α},y=x\/y∈xs->y∈fe c x xs
 |[],h=>by
  rcases h with rfl|h
  ·rw[fe];exact aU.2 J
  ·cases h
 |u::t,h=>by
  rw[fe];split
  ·rcases h with rfl|h
   ·exact aZ _ (BF hc (.inl J))
   ·rcases aW.1 h with rfl|h
    ·exact aQ
    ·exact aZ _ (BF hc (.inr h))
  ·split
   ·rename_i h0
    rcases h with rfl|h
    ·rw[<-hc _ _ h0];exact aQ
    ·exact h
   ·rcases h with rfl|h
    ·exact aQ
    ·exact aZ _ h
def Ok{α:Type}{c:α->α->Int}(hc: ∀u x,c u x=0->u=x){y:α}: ∀{l o:List α},y∈l\/y∈o->y∈l.foldl (fun out x=>fe c x out) o
 |[],o,h=>h.elim (fun h=>by cases h) id
 |x::t,o,h=>by
  refine Ok hc (l:=t) ?_;rcases h with h|h
  ·rcases aW.1 h with rfl|h
   ·exact .inr (BF hc (.inl J))
   ·exact .inl h
  ·exact .inr (BF hc (.inr h))
def Pm{ls:List aa}{x:aa}(h:x∈ls):x.canon∈jg ls:=
 Ok (fun u x e=>(DN u x).1 e) (.inl (fM h))
def H4(a b:Tr):List ab:=Ph (jg (a.lns++b.lns))
def eqR(a b:Tr):Bool:=(H4 a b).all fun p=>tq a p==tq b p
def aF7(f:Bool->Bool->Bool)(a b:Tr):Bool:=(H4 a b).any fun p=>f (tq a p) (tq b p)
def aFK(v:Bool)(t:Tr):Bool:=decide ((t.restrict []).isLeaf=true/\(t.restrict []).code=v)
def NY{α:Type}{c:α->α->Int}(hT: ∀u v w,c u v<0->c v w<0->c u w<0)(hA: ∀u v,¬c u v<0->c u v≠0->c v u<0){x:α}: ∀{xs:List α},xs.Pairwise (fun a b=>c a b<0)->(fe c x xs).Pairwise (fun a b=>c a b<0)
 |[],_=>by rw[fe];exact List.pairwise_singleton _ _
 |u::t,h=>by
  obtain⟨h1,h2⟩:=bX.1 h;rw[fe];split
  ·rename_i hu
   refine bX.2 ⟨fun y hy=>?_,NY hT hA h2⟩;rcases HJ c hy with rfl|hy
   ·exact hu
   ·exact h1 y hy
  ·rename_i hu
   split
   ·exact h
   ·rename_i hz
    have hx:=hA u x hu hz;refine bX.2 ⟨fun y hy=>?_,h⟩;rcases aW.1 hy with rfl|hy
    ·exact hx
    ·exact hT _ _ _ hx (h1 y hy)
def LM{α:Type}{c:α->α->Int}(hT: ∀u v w,c u v<0->c v w<0->c u w<0)(hA: ∀u v,¬c u v<0->c u v≠0->c v u<0): ∀{l o:List α},o.Pairwise (fun a b=>c a b<0)->(l.foldl (fun out x=>fe c x out) o).Pairwise (fun a b=>c a b<0)
 |[],o,h=>h
 |x::l,o,h=>LM (l:=l) (o:=fe c x o) hT hA (NY hT hA h)
def qH(l m:aa):c9 l m<0↔l.a<m.a\/(l.a=m.a/\(l.b<m.b\/(l.b=m.b/\l.c<m.c))):=by
 unfold c9;split
 ·rename_i h;rw[yy];rw[ne_eq,nk] at h;omega
 ·rename_i h;rw[ne_eq,Decidable.not_not,nk] at h
  split
  ·rename_i k;rw[yy];rw[ne_eq,nk] at k;omega
  ·rename_i k;rw[ne_eq,Decidable.not_not,nk] at k;rw[yy];omega
def Ej(l m:aa):c9 l m=0↔l.a=m.a/\l.b=m.b/\l.c=m.c:=by
 unfold c9;split
 ·rename_i h;rw[nk];rw[ne_eq,nk] at h;omega
 ·rename_i h;rw[ne_eq,Decidable.not_not,nk] at h
  split
  ·rename_i k;rw[nk];rw[ne_eq,nk] at k;omega
  ·rename_i k;rw[ne_eq,Decidable.not_not,nk] at k;rw[nk];omega
def Y2(ls:List aa):(jg ls).Pairwise (fun a b=>c9 a b<0):=
 LM (fun u v w h k=>by rw[qH] at*;omega) (fun u v h k=>by rw[qH] at*;rw[ne_eq,Ej] at k;omega) List.Pairwise.nil
def VE(L:List aa)(p:ab):List ab:=L.flatMap fun l=>if Int.sign (l.value p).num=0 then [l.dir,oc l.dir] else []
def El(S:List ab)(x:ab):Nat->Nat
 |0=>0
 |k+1=>if 0<kG (S.getD k ⟨0,0⟩) x then El S x k else k+1
def To(S:List ab)(x:ab):List ab:=S.take (El S x S.length)++x::S.drop (El S x S.length)
def Qc(ds:List ab):List ab:=ds.foldl To []
structure aGy (L:List aa):Prop where
 ok: ∀l∈L,l.ok
 cn: ∀l∈L,xz l=false
 nd:L.Pairwise (fun a b=>a≠b)
def OG(v:ab):Nat:=Nat.gcd (v.x.num.natAbs*v.y.den) (v.y.num.natAbs*v.x.den)
def Ie(n:Int)(d g:Nat):Int:=if n<0 then-((n.natAbs*d/g:Nat):Int) else((n.natAbs*d/g:Nat):Int)
def NS(v:ab):ab:=if v.half=0 then⟨0,0⟩ else⟨(Ie v.x.num v.y.den (OG v):Int),(Ie v.y.num v.x.den (OG v):Int)⟩
def V5(ds:List ab)(i:Nat):List ab:=
 if kG (ds.getD i ⟨0,0⟩) (ds.getD ((i+1)%ds.length) ⟨0,0⟩)=0/\2<ds.length then []
 else if Int.sign ((ds.getD i ⟨0,0⟩).cross (ds.getD ((i+1)%ds.length) ⟨0,0⟩)).num=0 then [qd (ds.getD i ⟨0,0⟩)]
 else [dG (NS (ds.getD i ⟨0,0⟩)) (NS (ds.getD ((i+1)%ds.length) ⟨0,0⟩)) 1]
def UY(ds:List ab):List ab:=if ds.length=0 then [⟨1,0⟩] else(List.range ds.length).flatMap (V5 ds)
def JL(L:List aa)(p:ab):List ab:=UY (Qc (VE L p))
def UE(t:Tr)(p:ab):Bool:=(JL (jg t.lns) p).any fun v=>(qB t p v).1
def Zf(t:Tr)(p:ab):Bool:=(JL (jg t.lns) p).all fun v=>(qB t p v).1
def Nl{z:Rat}(h:z<0):Int.sign z.num= -1:=by
 have:=(oO _).2 h;rcases nX z.num 0 with q|q|q
 ·exact eY q
 ·rw[q] at this;simp at this
 ·rw[fL q] at this;simp at this
def A9:Tr->ab->List aa
 | .leaf _,_=>[]
 | .node l x y,p=>(if Int.sign (l.value p).num=0 then [l] else [])++((if 0<=Int.sign (l.value p).num then A9 x p else [])++(if Int.sign (l.value p).num<=0 then A9 y p else []))
def aGJ(t:Tr)(p:ab)(b:Bool):Prop:= ∃v,Gn (A9 t p) p v/\(qB t p v).1=b
def XO(ds:List ab)(i:Nat):ab:=
 if 0<Int.sign ((ds.getD i ⟨0,0⟩).cross (ds.getD ((i+1)%ds.length) ⟨0,0⟩)).num then(ds.getD i ⟨0,0⟩).add (ds.getD ((i+1)%ds.length) ⟨0,0⟩) else qd (ds.getD i ⟨0,0⟩)
def xt(ds:List ab):List ab:=if ds.length=0 then [⟨1,0⟩] else(List.range ds.length).map (XO ds)
def zy(v:ab):ab:=v.scale (rgcd v.x v.y)⁻¹
def JE(t:Tr)(p:ab):List ab:=(A9 t p).flatMap fun l=>[zy l.dir,oc (zy l.dir)]
def FZ(ds:List ab):List ab:=pB kG ds
section
variable {α:Type} (c:α->α->Int)
end
def J8(t:Tr)(p:ab):Bool:=(xt (FZ (JE t p))).any fun v=>(qB t p v).1
def Z0(t:Tr)(p:ab):Bool:=(xt (FZ (JE t p))).all fun v=>(qB t p v).1
def aEA(t:Tr)(p:ab):Int:=if J8 t p&&Z0 t p then 2 else if J8 t p then 1 else 0
structure IvB (v:ao):Prop where
 lo:BQ v.lo 1200
 hi:BQ v.hi 1200
def aFt(l:List ao)(k:Nat):List Rat:=fP (l.take k)
def aGT(o:List Rat)(v:ao)(j:Nat):List Rat:=if j=0 then o else if j=1 then(if v.nl then o else eo v.lo o) else gv o v
def aGp(v:ao)(j:Nat):Rat:=if j=0 then v.lo else v.hi
def aF9(v:ao)(j:Nat):Bool:=if j=0 then v.nl else v.nh
def aFE(l m:aa)(side:Int):DV:= .tp [.sl ((tj l m side).map eV),vB (tv l m)]
def eFF(f:aO):DV:= .ag [.v (.bool (decide (f.l.a<0))),dN f.l.a.natAbs, .v (.bool (decide (f.l.b<0))),dN f.l.b.natAbs, .v (.bool (decide (f.l.c<0))),dN f.l.c.natAbs, .v (.bool (decide (f.v.lo.num<0))),dN f.v.lo.num.natAbs,dD f.v.lo.den, .v (.bool (decide (f.v.hi.num<0))),dN f.v.hi.num.natAbs,dD f.v.hi.den, .v (.bool f.v.nl), .v (.bool f.v.nh)]
theorem W9{p:ZP}(h:ZP.le 100 p):bg p.q 12:=by
 haveI:BI p.1 11:=jo (by have:=h.1;omega) (by decide);haveI:BI p.2 11:=jo (by have:=h.2;omega) (by decide);exact(inferInstance:bg (iP p.1 p.2) 12)
def aFm(v w:ao):ao:=⟨v.lo,w.hi,v.nl,v.nh⟩

section
variable {GB:Gh} {C:aD} {n:Nat} {Q0:Exit->Act->World->Prop} {fr fr':aw} {own own':aH} {cf cf':Cf} {vc:List Prop}
def Rw{lk:LK}{bk:BM}{dst:Option Nat}{t ty':TypeId}{pos:String}{af:Array Edge}{gd:Option (Nat×Bool)}{x y:Operand}{e len s nm off:Nat}{k:IntKind}{i:Nat}(hu:prog.underlying t=some (.array len e))(hs:(prog.info? e).map (·.size)=some s)
  (e1:aI lk x=some (.ov nm off))(e2:aI lk y=some (.d (.v (.int k (i:Nat)))))(hi:i<len):bH prog GB C n lk bk ⟨dst, .indexAddr t x y,ty',pos,af,gd⟩ (.ov nm (off+i*s)) [] []:= .yd fun ρ G ov a w r=>by
 obtain⟨p,h1,h2⟩:=r.ev e1;obtain⟨q,h3,h4⟩:=r.ev e2;rw[cH] at h4;subst h4;obtain⟨b,hb,rfl⟩:=h2;refine⟨_,⟨b,hb,J⟩,?_⟩;obtain⟨j,hj,hjs⟩: ∃j,prog.info? e=some j/\j.size=s:=by
  cases h:prog.info? e with
  |none=>rw[h] at hs;cases hs
  |some j=>rw[h] at hs;exact⟨j,J,by simpa using hs⟩
 intro a' w' hf hh;simp only[execOp,bh hf h1,bh hf h3];have:(Instr.indexAt t (.pointer (some ⟨b,off,none⟩)) (.int k (i:Nat))).run prog w'= .ok (.pointer (some ⟨b,off+i*s,none⟩)) w':=by
  unfold Instr.indexAt;show(underlying t>>=_).run prog w'=_;rw[aP (ph hu w')];show(underlying t>>=_).run prog w'=_;rw[aP (ph hu w')];have h0:0<=((i:Nat):Int):=Int.natCast_nonneg i;have h1:((i:Nat):Int)<((len:Nat):Int):=by omega
  simp only[h0,h1,and_self,if_true];show(sizeOf e>>=_).run prog w'=_;rw[aP (sA hj w'),nj,hjs,aM];rfl
 exact cx this
def No(fr:aw)(cf:Cf):Option (TypeId×Nat×Nat×Int):=match b8 fr cf with
 |some ⟨_, .indexAddr t x y,_,_,_,_⟩=>match aI (bw fr cf) x with
  |some (.ov nm off)=>match aI (bw fr cf) y with
   |some (.d (.v (.int _ i)))=>some (t,nm,off,i)
   |_=>none
  |_=>none
 |_=>none
def A3[fu:Fu](i:Nat){t nm off e len s:Nat}(h:No fr cf=some (t,nm,off,((i:Nat):Int)))(hu:prog.underlying t=some (.array len e))(hs:(prog.info? e).map (·.size)=some s)(hi:i<len)
  (hgo:cB tt n fu.n fr own cf (.ov nm (off+i*s)) [] []=⟨vc,fr',own',cf'⟩)(k:ak prog GB C n Q0 fr' own' cf')
  (hv:ah vc:=by first|exact trivial|(simp only[ah];kernel_rfl)|(simp only[ah];omega)):ak prog GB C n Q0 fr own cf:=by
 unfold No at h;split at h<;>try (cases h;done)
 rename_i hh;split at h<;>try (cases h;done)
 rename_i hx;split at h<;>cases h;rename_i hy;exact us hh (Rw hu hs hx hy hi) hgo hv k
def aGd(fr:aw)(cf:Cf):Option (Nat×List FX):=match b8 fr cf with
 |some ⟨some d, .build t ⟨ps⟩,_,_,_,_⟩=>match cO tt t with
  |some ⟨.st fo,_,some zx,_⟩=>match sI (bw fr cf) fo zx ps with
   |some l=>some (d,l)
   |none=>none
  |_=>none
 |_=>none
end
def sp1(f:aO)(m:aa)(k:Nat):List aO:=if k=0 then [] else i4 f m 1
def sp2(f:aO)(m:aa)(k:Nat):List aO:=if k<=1 then [] else i4 f m (-1)
def jz(p:ZP):DV:=eP p.q
def oe(r:List ZP):DV:= .sl (r.map jz)
def D6(l:List ZP):dB 6 (l.map jz):=fun d hd=>by
 obtain⟨u,_,rfl⟩:=bJ.1 hd;exact⟨rfl,rfl⟩
def Vy(l:List (List ZP)):dB 1 (l.map oe):=fun d hd=>by
 obtain⟨u,_,rfl⟩:=bJ.1 hd;exact⟨rfl,rfl⟩
def ol(rs:List (List ZP)):List aa:=(co rs).map aO.l
def eRR(rs:List (List ZP))(fill:Int):DV:= .ag [.sl (rs.map oe), .v (.int .i64 fill), .sl ((jg (ol rs)).map eL)]
def lw(r:List ZP):DV:= .sl ((r.map ZP.q).map pb)
def Qv(l:List (List ZP)):dB 1 (l.map lw):=fun d hd=>by
 obtain⟨u,_,rfl⟩:=bJ.1 hd;exact⟨rfl,rfl⟩
theorem Ke{r:List ZP}(h: ∀p∈r,ZP.le 100 p): ∀p∈r.map ZP.q,bg p 1200:=fun p hp=>by
 obtain⟨z,hz,rfl⟩:=bJ.1 hp;have:=W9 (h z hz);exact⟨BQ.mono this.x (by decide),BQ.mono this.y (by decide)⟩
def Ua(r:List ZP):DV.sl ((r.map ZP.q).map eP)=oe r:=by unfold oe;rw[List.map_map];rfl
def QA{rs:List (List ZP)}{k:Nat}{r:List ZP}(h:rs[k]? =some r):co (rs.take (k+1))=co (rs.take k)++gi r:=by
 unfold co;rw[gK,h,List.flatMap_append];simp
def xe{rs:List (List ZP)}(h: ∀r∈rs,dC r)(k:Nat):(co (rs.take k)).length<=6*k:=by
 have:=(n9 (rs:=rs.take k) (fun r hr=>h r (eK hr))).1;have h2:(rs.take k).length<=k:=by rw[bM];omega
 omega
def ZB{rs:List (List ZP)}(h: ∀r∈rs,dC r)(hn:rs.length<=100):PF GB prog 16 [.sl (rs.map oe)] (.sl (rs.map lw)):=by
 have hm:=Ao oe rs;refine fn (fu:=⟨15⟩) func16 J J ntmps16 J J (fun C=>?_);refine aB 7 (.d (vI (rs.length:Nat))) J (by rw[hm]<;>rfl) ?_;refine gx J<|?_;refine nr 3 3 48 1 J J J ?_;refine lp (X:=Nat) (fun k=>[(8, .d (vI (k:Nat))),(3, .rw 3)]) (fun k=>[(3,some (.b 48 1 ((rs.take k).map lw) true))]) (fun k=>k<=rs.length) (fun k=>rs.length-k) 0 J (bL _) (fun _=>J) (fun k hk=>?_);have hml:((rs.take k).map lw).length<=k:=by rw[aJ,bM];omega
 refine br J J J (fun hc9=>?_) (fun hc9=>?_)
 .
  obtain⟨r,hz⟩: ∃s,rs[k]? =some s:=⟨_,aX (by omega)⟩;have hr:=h r (bZ hz);refine ix (fu:=⟨1⟩) _ J (eH hz) J<|?_;refine aB 11 (.d (.sl ((r.map ZP.q).map eP))) J (by rw[Ua]) ?_;refine gx J<|cl J (Lf (ps:=r.map ZP.q) (Ke hr.le) (by rw[aJ];have:=hr.n6;omega)) J<|rf J J<|ap ((rs.take (k+1)).map lw) J (NV hz) (Qv [r]) J<|?_;refine kr 16 3 J ?_;exact at_ (k+1) ⟨(by omega),(by omega)⟩
 .
  obtain rfl:k=rs.length:=by omega
  refine nv 3 J ?_;exact rz J (by rw[dY];rfl)

def p7:ab:=⟨mkRat 1 7,mkRat 1 5⟩
structure LP (l:aa):Prop where
 s:LS l
 p:0<l.value p7
def HY(es:List Int):Nat->Nat->List aa×Nat
 |0,a=>([],a)
 |i+1,a=>((lF es a).1::(HY es i (lF es a).2).1,(HY es i (lF es a).2).2)
def N0(es:List Int)(most a:Nat):List aa×Nat:=HY es (aA es ((most:Int)+1) a).1 (aA es ((most:Int)+1) a).2
def I1(l:aa):aa:=if(l.value p7).num.sign<0 then l.rev else l
def aE0(xs:List aa)(i:Nat):List aa:=(xs.take i).map I1++xs.drop i
def aE5(es:List Int)(a:Nat):List aa×Nat:=((N0 es 3 a).1.map I1,(N0 es 3 a).2)

def Qr(ds:List Int):dB 1 (ds.map vI):=fun d hd=>by
 obtain⟨n,_,rfl⟩:=bJ.1 hd;exact⟨rfl,rfl⟩
def UH(es:List Int):(es.map vI).take (min es.length 400)=(es.take 400).map vI:=by
 rw[nY];rcases Nat.le_total es.length 400 with h|h
 ·rw[fN h,bQ (by simp),bQ (by simpa using h)]
 ·rw[Nat.min_eq_right h]
def XE{es:List Int}(hb:es.length<=1125899906842624):PN GB prog 15 [.sl (es.map vI)] 126 Unit (fun _=>[.sl ((es.take 400).map vI), .v (.int .i64 (0:Nat))]):=by
 have hel:(es.map vI).length=es.length:=by simp
 refine Sp func15 J J ntmps15 J J (fun C hmb=>?_);refine sG 0 (min es.length 400) ((es.take 400).map vI) J J (by rw[hel];show(if _ then _ else _:Int)=_;split<;>omega) (UH es) (Qr _) (by omega) (by omega) J<|?_;exact Vs () J J J J J


def Tp(p r:ZP):(fj p.q r.q<0↔jH p r<0)/\(fj p.q r.q=0↔jH p r=0):=by
 have e1: ∀a b:Int,b9 (a:Rat) (b:Rat)<0↔a<b:=fun a b=>by rw[Bw,lL]
 have e2: ∀a b:Int,b9 (a:Rat) (b:Rat)=0↔a=b:=fun a b=>by rw[tA,mM]
 have f1:=e1 p.1 r.1;have f2:=e2 p.1 r.1;have f3:=e1 p.2 r.2;have f4:=e2 p.2 r.2;show(fj ⟨(p.1:Rat),(p.2:Rat)⟩ ⟨(r.1:Rat),(r.2:Rat)⟩<0↔_)/\(fj ⟨(p.1:Rat),(p.2:Rat)⟩ ⟨(r.1:Rat),(r.2:Rat)⟩=0↔_);unfold fj jH;dsimp only;generalize b9 (p.1:Rat) (r.1:Rat)=u at*;generalize b9 (p.2:Rat) (r.2:Rat)=v at*;by_cases h:p.1<r.1
 ·rw[if_pos (by omega),if_pos h];omega
 ·by_cases h2:r.1<p.1
  ·rw[if_pos (by omega),if_neg h,if_pos h2];omega
  ·rw[if_neg (by omega),if_neg h,if_neg h2]
   by_cases h3:p.2<r.2
   ·rw[if_pos h3];omega
   ·rw[if_neg h3]
    split<;>omega
def Ob(x:ZP): ∀l:List ZP,fe fj x.q (l.map ZP.q)=(jp x l).map ZP.q
 |[]=>rfl
 |u::t=>by
  obtain⟨h1,h2⟩:=Tp u x;rw[bW,fe,jp,Ob x t];by_cases k1:jH u x<0
  ·rw[if_pos (h1.2 k1),if_pos k1];rfl
  ·rw[if_neg (fun e=>k1 (h1.1 e)),if_neg k1]
   by_cases k2:jH u x=0
   ·rw[if_pos (h2.2 k2),if_pos k2];rfl
   ·rw[if_neg (fun e=>k2 (h2.1 e)),if_neg k2];rfl
def Y7(l:List ZP):pB fj (l.map ZP.q)=(mH l).map ZP.q:=by
 have key: ∀(l o:List ZP),(l.map ZP.q).foldl (fun out x=>fe fj x out) (o.map ZP.q)=(l.foldl (fun out x=>jp x out) o).map ZP.q:=by
  intro l
  induction l with
  |nil=>intro o;rfl
  |cons x t ih=>intro o;rw[bW,dS,dS,Ob,ih]
 exact key l []
def K5(l:List ZP):(l.map ZP.q).map eP=l.map jz:=by rw[List.map_map];rfl
def J0{l:List ZP}(h: ∀p∈l,ZP.le 100 p)(hn:l.length<=100000):PF GB prog 90 [.sl (l.map jz)] (.sl ((mH l).map jz)):=by
 have:=Us (GB:=GB) (ps:=l.map ZP.q) (Ke h) (by rw[aJ];exact hn);rw[Y7,K5,K5] at this;exact this
def WD(u v:ZP):(ab.cross (iP u.1 u.2) (iP v.1 v.2))=((p9 u v:Int):Rat):=by
 unfold ab.cross iP p9;push_cast;rfl
def E8(u v:ZP):(ab.cross (iP u.1 u.2) (iP v.1 v.2)).num.sign≠0↔p9 u v≠0:=by
 rw[WD,qJ];exact not_congr jX
def Wa{α β:Type}(f:α->β)(l:List α):((l.map f).take (l.length-1)).drop 0=l.dropLast.map f:=by
 rw[iM,<-nY,List.dropLast_eq_take]
def Lq{l:List ZP}(h:0<l.length): ∃u,l.getLast? =some u/\l[l.length-1]? =some u/\l.getD (l.length-1) (0,0)=u:=by
 refine⟨l[l.length-1],?_,aX (by omega),?_⟩
 ·rw[mR];exact aX (by omega)
 ·rw[aK,aX (by omega)];rfl
def Xa{l:List ZP}(h:0<l.length): ∃u,l[0]? =some u/\l.getD 0 (0,0)=u:=by
 refine⟨l[0],aX (by omega),?_⟩;rw[aK,aX (by omega)];rfl
def CS{u p:ZP}:(u.1=p.1/\u.2=p.2)↔u=p:=⟨fun h=>Prod.ext h.1 h.2,fun h=>by rw[h];exact⟨J,J⟩⟩
def Sh{b:Nat}{es:List Int}(hes:es.length<=400){a:Nat}(ha:a<=es.length):PM GB prog 33 (ir [none] b) b 126 [.sl (es.map vI), .v (.int .i64 (a:Nat))] (oe (gr es a).1) [.sl (es.map vI), .v (.int .i64 ((gr es a).2:Nat))]:=by
 have hk0:=i8 (n:=4) ha;refine tF (fu:=⟨6⟩) func33 J J ntmps33 J J (fun C b m lo hmb=>?_);refine mg (X:=Nat) (fun a2=>[]) (fun a2=>[(1000000,some (.o 126 [.d (.sl (es.map vI)), .d (.v (.int .i64 (a2:Nat)))] false))]) (fun a2=>gr es a=nD es a2/\a2<=es.length) [] [1000000] rfl ?_ (fun _=>J) (fun a2 ⟨hR,ha2⟩=>?_)
 .
  refine gx J<|cm J (fun b=>(pD (n:=4) hes ha (by decide) (by decide))) J<|?_;refine br J J J (fun hc15=>?_) (fun hc15=>?_)
  .
   have hx1:=i8 (n:=5) hk0;have hy1:=i8 (n:=5) hx1;have hz1:=i8 (n:=4) hy1;have hw1:=i8 (n:=4) hz1;have hl0:=j' (es:=es) (n:=5) (a:=(aA es 4 a).2) (by decide);have hl1:=j' (es:=es) (n:=5) (a:=(aA es 5 (aA es 4 a).2).2) (by decide);have hl2:=j' (es:=es) (n:=4) (a:=(aA es 5 (aA es 5 (aA es 4 a).2).2).2) (by decide);have hl3:=j' (es:=es) (n:=4) (a:=(aA es 4 (aA es 5 (aA es 5 (aA es 4 a).2).2).2).2) (by decide);refine cm J (fun b=>(pD (n:=5) hes hk0 (by decide) (by decide))) J<|cm J (fun b=>(pD (n:=5) hes hx1 (by decide) (by decide))) J<|?_;refine cm J (fun b=>(pD (n:=4) hes hy1 (by decide) (by decide))) J<|cm J (fun b=>(pD (n:=4) hes hz1 (by decide) (by decide))) J<|?_;refine cl J (kH (m:=(((aA es 5 (aA es 4 a).2).1:Int)-4)) (n:=(((aA es 5 (aA es 5 (aA es 4 a).2).2).1:Int)-4)) (by omega) (by omega)) J<|?_;refine cl J (kH (m:=(((aA es 5 (aA es 4 a).2).1:Int)-4+1+((aA es 4 (aA es 5 (aA es 5 (aA es 4 a).2).2).2).1:Int))) (n:=(((aA es 5 (aA es 5 (aA es 4 a).2).2).1:Int)-4)) (by omega) (by omega)) J<|?_;refine cl J (kH (m:=(((aA es 5 (aA es 4 a).2).1:Int)-4+1+((aA es 4 (aA es 5 (aA es 5 (aA es 4 a).2).2).2).1:Int))) (n:=(((aA es 5 (aA es 5 (aA es 4 a).2).2).1:Int)-4+1+((aA es 4 (aA es 4 (aA es 5 (aA es 5 (aA es 4 a).2).2).2).2).1:Int))) (by omega) (by omega)) J<|?_;refine cl J (kH (m:=(((aA es 5 (aA es 4 a).2).1:Int)-4)) (n:=(((aA es 5 (aA es 5 (aA es 4 a).2).2).1:Int)-4+1+((aA es 4 (aA es 4 (aA es 5 (aA es 5 (aA es 4 a).2).2).2).2).1:Int))) (by omega) (by omega)) J<|?_;refine rf J J<|?_
   exact lj hmb J J (by rw[show gr es a=_ from if_pos hc15];rfl) (by rw[show gr es a=_ from if_pos hc15];rfl)
  .
   refine br J J J (fun hc46=>?_) (fun hc46=>?_)
   .
    obtain⟨hp1,hp2,hp3⟩:=tI hk0;obtain⟨hu1,hu2,hu3,hu4⟩:=vN hp3;obtain⟨hv1,hv2,hv3,hv4⟩:=vN hu4;haveI:=jo (k:=10) (m:=(vF es (pF es (aA es 4 a).2).2).1.1) (by omega) (by decide);haveI:=jo (k:=10) (m:=(vF es (pF es (aA es 4 a).2).2).1.2) (by omega) (by decide);haveI:=jo (k:=10) (m:=(vF es (vF es (pF es (aA es 4 a).2).2).2).1.1) (by omega) (by decide);haveI:=jo (k:=10) (m:=(vF es (vF es (pF es (aA es 4 a).2).2).2).1.2) (by omega) (by decide);refine cm J (fun b=>(GD hes hk0)) J<|cm J (fun b=>(OR hes hp3)) J<|cm J (fun b=>(OR hes hu4)) J<|cl J (Sf (p:=iP (vF es (pF es (aA es 4 a).2).2).1.1 (vF es (pF es (aA es 4 a).2).2).1.2) (q:=iP (vF es (vF es (pF es (aA es 4 a).2).2).2).1.1 (vF es (vF es (pF es (aA es 4 a).2).2).2).1.2)) J<|?_;refine cl J (OX (q:=ab.cross (iP (vF es (pF es (aA es 4 a).2).2).1.1 (vF es (pF es (aA es 4 a).2).2).1.2) (iP (vF es (vF es (pF es (aA es 4 a).2).2).2).1.1 (vF es (vF es (pF es (aA es 4 a).2).2).2).1.2))) J<|?_;refine br J J J (fun hc58=>?_) (fun hc58=>?_)
    .
     refine cl J (A1 (n:=1) (by decide) (by decide)) J<|cl J (Lp (m:=(pF es (aA es 4 a).2).1.1) (n:=(pF es (aA es 4 a).2).1.2) (m':=(vF es (pF es (aA es 4 a).2).2).1.1) (n':=(vF es (pF es (aA es 4 a).2).2).1.2) (k:=1) (by omega) (by omega) (by omega) (by omega) (by decide)) J<|?_;refine cl J (A1 (n:=1) (by decide) (by decide)) J<|cl J (Lp (m:=(pF es (aA es 4 a).2).1.1) (n:=(pF es (aA es 4 a).2).1.2) (m':=(vF es (vF es (pF es (aA es 4 a).2).2).2).1.1) (n':=(vF es (vF es (pF es (aA es 4 a).2).2).2).1.2) (k:=1) (by omega) (by omega) (by omega) (by omega) (by decide)) J<|?_;refine rf J J<|?_;exact lj hmb J J (by rw[show gr es a=_ from(if_neg hc15).trans ((if_pos hc46).trans (if_pos ((E8 _ _).1 hc58)))];rfl) (by rw[show gr es a=_ from(if_neg hc15).trans ((if_pos hc46).trans (if_pos ((E8 _ _).1 hc58)))])
    .
     exact at_ (vF es (vF es (pF es (aA es 4 a).2).2).2).2 ⟨(if_neg hc15).trans ((if_pos hc46).trans (if_neg (fun e=>hc58 ((E8 _ _).2 e)))),hv4⟩
   .
    exact at_ (aA es 4 a).2 ⟨(if_neg hc15).trans (if_neg hc46),hk0⟩
 .
  have hj1:=j' (es:=es) (n:=4) (a:=a2) (by decide);have hj2:=i8 (n:=4) ha2;refine cm J (fun b=>(pD (n:=4) hes ha2 (by decide) (by decide))) J<|?_;refine nr 10 10 81 6 J J J ?_;refine lp (X:=List ZP×Nat×Nat) (fun⟨r,i,a3⟩=>[(11, .d (vI (i:Nat))),(10, .rw 10)]) (fun⟨r,i,a3⟩=>[(1000000,some (.o 126 [.d (.sl (es.map vI)), .d (.v (.int .i64 (a3:Nat)))] false)),(10,some (.b 81 6 (r.map jz) true))]) (fun⟨r,i,a3⟩=>ma es i a3 r=ma es (3+(aA es 4 a2).1) (aA es 4 a2).2 []/\a3<=es.length/\jB r/\r.length+i<=6) (fun⟨r,i,a3⟩=>i) ⟨[],3+(aA es 4 a2).1,(aA es 4 a2).2⟩ J ⟨J,hj2,jB.nil,by simp;omega⟩ (fun _=>J) (fun⟨r,i,a3⟩ hk=>?_)
  try dsimp only at hk⊢
  obtain⟨h1,h2,h3,h4⟩:=hk;have hrl:(r.map jz).length=r.length:=by simp
  refine br (fu2:=⟨0⟩) J J J (fun hc73=>?_) (fun hc73=>?_)
  .
   obtain⟨j,rfl⟩: ∃j,i=j+1:=⟨i-1,by omega⟩;obtain⟨hq1,hq2,hq3⟩:=tI h2;refine cm (fu:=⟨8⟩) J (fun b=>(GD hes h2)) J<|?_;refine ud (v1:=fun hg80=>by simp only[ah];kernel_rfl) J J J J (fun hg80=>?_) (fun hg80=>?_)
   .
    have hlast: ¬r.getLast? =some (pF es a3).1:=by rw[bU (l:=r) (by omega)];simp
    refine rf J J<|ap ((r++[(pF es a3).1]).map jz) J (by rw[fQ];rfl) (D6 [_]) J<|?_;refine kr 95 10 J ?_;exact at_ ⟨r++[(pF es a3).1],j,(pF es a3).2⟩ (by dsimp only;exact⟨⟨by rw[<-h1,ma,if_neg hlast],hq3,h3.snoc ⟨by omega,by omega⟩ hlast,by simp;omega⟩,(by omega)⟩)
   .
    obtain⟨q,hq,hqi,hqd⟩:=Lq (l:=r) (by omega);have hqm:=h3.le q (pQ hq);unfold ZP.le at hqm;refine lb (jz q) J (by rw[show(((r.map jz).length:Nat):Int)-1=((r.length-1:Nat):Int) by omega];exact eH hqi) J<|cl J (Fl (m:=q.1) (n:=q.2) (m':=(pF es a3).1.1) (n':=(pF es a3).1.2) (by omega) (by omega) (by omega) (by omega)) J<|?_;refine bb J J J (fun hc91=>?_) (fun hc91=>?_)
    .
     have hlast: ¬r.getLast? =some (pF es a3).1:=by rw[hq];intro e;have:=CS.2 (Option.some.inj e);simp[this] at hc91
     refine rf J J<|ap ((r++[(pF es a3).1]).map jz) J (by rw[fQ];rfl) (D6 [_]) J<|?_;refine kr 95 10 J ?_;exact at_ ⟨r++[(pF es a3).1],j,(pF es a3).2⟩ (by dsimp only;exact⟨⟨by rw[<-h1,ma,if_neg hlast],hq3,h3.snoc ⟨by omega,by omega⟩ hlast,by simp;omega⟩,(by omega)⟩)
    .
     have hlast:r.getLast? =some (pF es a3).1:=by rw[hq];congr 1;exact CS.1 (by simpa using hc91)
     exact at_ ⟨r,j,(pF es a3).2⟩ (by dsimp only;exact⟨⟨by rw[<-h1,ma,if_pos hlast],hq3,h3,by omega⟩,(by omega)⟩)
  .
   obtain rfl:i=0:=by omega
   have hg:=h1;rw[ma] at hg;refine uS 10 J ?_;refine gx J<|?_;refine lp (fu:=⟨5⟩) (X:=List ZP×Nat) (fun⟨l,m⟩=>[(10, .d (.sl (l.map jz)))]) (fun⟨l,m⟩=>[]) (fun⟨l,m⟩=>jn m l=jn 6 r/\l.length<=m+1/\jB l/\l.length<=6) (fun⟨l,m⟩=>m) ⟨r,6⟩ J ⟨J,by omega,h3,by omega⟩ (fun _=>J) (fun⟨l,m⟩ hk=>?_)
   try dsimp only at hk⊢
   obtain⟨t1,t2,t3,t4⟩:=hk;have hll:(l.map jz).length=l.length:=by simp
   refine ud (v2:=fun hg98=>by simp only[ah];kernel_rfl) J J J J (fun hg98=>?_) (fun hg98=>?_)
   .
    obtain⟨q,hqi,hqd⟩:=Xa (l:=l) (by omega);obtain⟨q2,hq0,hqi2,hqd2⟩:=Lq (l:=l) (by omega);have hqm:=t3.le q (bZ hqi);have hqm2:=t3.le q2 (bZ hqi2);unfold ZP.le at hqm hqm2;refine ix _ J (eH (i:=0) hqi) J<|ix (jz q2) J (by rw[show(((l.map jz).length:Nat):Int)-1=((l.length-1:Nat):Int) by omega];exact eH hqi2) J<|?_;refine cl J (Fl (m:=q.1) (n:=q.2) (m':=q2.1) (n':=q2.2) (by omega) (by omega) (by omega) (by omega)) J<|?_;refine bd J J J (fun hc110=>?_) (fun hc110=>?_)
    .
     have hcond:1<l.length/\l.getD 0 (0,0)=l.getD (l.length-1) (0,0):=⟨by omega,by rw[hqd,hqd2];exact CS.1 hc110⟩;refine sG 0 (l.length-1) (l.dropLast.map jz) J J (by omega) (Wa jz l) (D6 l) (bL _) (by omega) J<|?_;exact at_ ⟨l.dropLast,m-1⟩ (by dsimp only;exact⟨⟨by rw[<-t1];obtain⟨m,rfl⟩: ∃q,m=q+1:=⟨m-1,by omega⟩;rw[jn,if_pos hcond];rfl,by rw[nV];omega,t3.drop,by rw[nV];omega⟩,(by omega)⟩)
    .
     have hcond: ¬(1<l.length/\l.getD 0 (0,0)=l.getD (l.length-1) (0,0)):=fun e=>hc110 (CS.2 (by rw[<-hqd,<-hqd2];exact e.2));refine cl (fu:=⟨1⟩) J (J0 (l:=l) t3.le (by omega)) J<|?_;have hgen:jn 6 r=l:=by rw[<-t1];cases m with|zero=>rfl|succ m=>rw[jn,if_neg hcond]
     refine aB 118 (.d (vI ((mH l).length:Nat))) J (by rw[aJ];rfl) ?_;refine gx J<|?_;refine br J J J (fun hc119=>?_) (fun hc119=>?_)
     .
      have hfin:gr es a=(u9,a3):=by rw[hR,nD,<-hg,hgen,if_pos (by omega)]
      refine cl J (kH (m:=0) (n:=0) (by decide) (by decide)) J<|cl J (kH (m:=2) (n:=0) (by decide) (by decide)) J<|cl J (kH (m:=0) (n:=2) (by decide) (by decide)) J<|?_;refine rf J J<|?_;exact lj hmb J J (by rw[hfin];rfl) (by rw[hfin])
     .
      have hfin:gr es a=(l,a3):=by rw[hR,nD,<-hg,hgen,if_neg (by omega)]
      exact lj hmb J J (by rw[hfin];rfl) (by rw[hfin])
   .
    have hcond: ¬(1<l.length/\l.getD 0 (0,0)=l.getD (l.length-1) (0,0)):=fun e=>by omega
    refine cl (fu:=⟨1⟩) J (J0 (l:=l) t3.le (by omega)) J<|?_;have hgen:jn 6 r=l:=by rw[<-t1];cases m with|zero=>rfl|succ m=>rw[jn,if_neg hcond]
    refine aB 118 (.d (vI ((mH l).length:Nat))) J (by rw[aJ];rfl) ?_;refine gx J<|?_;refine br J J J (fun hc119=>?_) (fun hc119=>?_)
    .
     have hfin:gr es a=(u9,a3):=by rw[hR,nD,<-hg,hgen,if_pos (by omega)]
     refine cl J (kH (m:=0) (n:=0) (by decide) (by decide)) J<|cl J (kH (m:=2) (n:=0) (by decide) (by decide)) J<|cl J (kH (m:=0) (n:=2) (by decide) (by decide)) J<|?_;refine rf J J<|?_;exact lj hmb J J (by rw[hfin];rfl) (by rw[hfin])
    .
     have hfin:gr es a=(l,a3):=by rw[hR,nD,<-hg,hgen,if_neg (by omega)]
     exact lj hmb J J (by rw[hfin];rfl) (by rw[hfin])
def Gj:DV:= .v (.pointer none)
def SI(l:aa)(p q:DV):List DV:=[.v (.bool false), .v (.bool false), .v (.bool (decide (l.a<0))),dN l.a.natAbs, .v (.bool (decide (l.b<0))),dN l.b.natAbs, .v (.bool (decide (l.c<0))),dN l.c.natAbs,p,q]
inductive RF (ns:List RN):Int->(Nat->Bool)->DV->Bool->(Nat->Bool)->Prop where
 |leaf (b:Bool) (f:Nat->Bool):RF ns (qi b) f (eT (.leaf b)) true f
 |bad (rt:Int) (f:Nat->Bool) (h1:rt≠ -1) (h2:rt≠ -2) (h:rt<0\/(ns.length:Int)<=rt\/(∃k:Nat,rt=k/\k<ns.length/\f k=true)):RF ns rt f Gj false f
 |line (k:Nat) (n:RN) (f:Nat->Bool) (h:ns[k]? =some n) (hf:f k=false) (hl:n.g.ln=none):RF ns (k:Int) f Gj false (kb f k)
 |left (k:Nat) (n:RN) (l:aa) (f f2:Nat->Bool) (p:DV) (h:ns[k]? =some n) (hf:f k=false) (hl:n.g.ln=some l) (h1:RF ns n.l (kb f k) p false f2):RF ns (k:Int) f Gj false f2
 |node (k:Nat) (n:RN) (l:aa) (f f2 f3:Nat->Bool) (p q:DV) (ok:Bool) (h:ns[k]? =some n) (hf:f k=false) (hl:n.g.ln=some l) (h1:RF ns n.l (kb f k) p true f2) (h2:RF ns n.r f2 q ok f3):RF ns (k:Int) f (.pt (SI l p q)) ok f3
def aGC(n:Nat)(f:Nat->Bool):Bool:=(List.range n).all f
def RN.of(n:NQ):RN:=⟨⟨decide (n.l.a<0),dg n.l.a.natAbs,decide (n.l.b<0),dg n.l.b.natAbs,decide (n.l.c<0),dg n.l.c.natAbs⟩,n.a,n.b⟩
def aCb(ns:List NQ):ns.map eN=(ns.map RN.of).map RN.d:=by
 rw[List.map_map];rfl
def Wm(t:Tr):eA t=qu (t.num 0) ((t.wr 0).map RN.of):=by
 unfold eA qu;rw[aCb];rfl
def Xe(a:Int):pn (decide (a<0)) (dg a.natAbs)=a:=by
 unfold pn;rw[(d4 _).1];split
 ·rename_i h;have:=of_decide_eq_true h;omega
 ·rename_i h;have: ¬a<0:=fun e=>h (decide_eq_true e);omega
def E5(a:Int):km (decide (a<0)) (dg a.natAbs):=⟨(d4 _).2.2,fun h=>vE.2 (by have:=of_decide_eq_true h;omega)⟩
def RN.of_l(n:NQ):(RN.of n).g.l=n.l:=by
 unfold RN.of RL.l;simp only[Xe]
def RN.of_ln{n:NQ}(h:n.l.ok):(RN.of n).g.ln=some n.l:=by
 unfold RL.ln;rw[if_pos ⟨⟨E5 _,E5 _,E5 _⟩,by rw[RN.of_l];exact h⟩,RN.of_l]
def RN.of_sm{n:NQ}(h:LB n.l):(RN.of n).g.sm:=by
 have key: ∀a:Int,a.natAbs<2^96->bu (dg a.natAbs)/\(dg a.natAbs).length<=3:=fun a ha=>⟨(d4 _).2.1,by have:=lD ha;omega⟩;exact⟨key _ h.bl.a,key _ h.bl.b,key _ h.bl.c⟩
def AU(b:Bool)(k:Nat):qi b≠(k:Int):=by cases b<;>(unfold qi;simp)
def RR.det{ns:List RN}{rt:Int}{s s1:RS}{t1:Tr}(h:RR ns rt s t1 s1): ∀{s2:RS} {t2:Tr},RR ns rt s t2 s2->t1=t2/\s1=s2:=by
 induction h with
 |leaf b s=>
  intro s2 t2 h;generalize hr:qi b=r at h
  cases h with
  |leaf b' s=>
   have:b=b':=by cases b<;>cases b'<;>first|rfl|(simp[qi] at hr)
   subst this;exact⟨J,J⟩
  |bad rt s h1 h2 h=>cases b<;>simp[qi] at hr<;>omega
  |line k=>exact absurd hr (AU _ _)
  |node k=>exact absurd hr (AU _ _)
 |bad rt s h1 h2 h=>
  intro s2 t2 h'
  cases h' with
  |leaf b s=>cases b<;>simp[qi] at h1 h2
  |bad=>exact⟨J,J⟩
  |line k n s hn hf=>
   have:=(aS.1 hn).1;rcases h with h|h|⟨j,e,_,hj⟩
   ·omega
   ·omega
   ·have:j=k:=by omega
    subst this;rw[hf] at hj;cases hj
  |node k n l s s2 s3 x y hn hf=>
   have:=(aS.1 hn).1;rcases h with h|h|⟨j,e,_,hj⟩
   ·omega
   ·omega
   ·have:j=k:=by omega
    subst this;rw[hf] at hj;cases hj
 |line k n s hn hf hl=>
  intro s2 t2 h';generalize hr:(k:Int)=r at h'
  cases h' with
  |leaf b s=>exact absurd hr.symm (AU _ _)
  |bad rt s h1 h2 h=>
   have:=(aS.1 hn).1;rcases h with h|h|⟨j,e,_,hj⟩
   ·omega
   ·omega
   ·have:j=k:=by omega
    subst this;rw[hf] at hj;cases hj
  |line k' n' s hn' hf' hl'=>
   have:k=k':=by omega
   subst this;exact⟨J,J⟩
  |node k' n' l s s2 s3 x y hn' hf' hl'=>
   have:k=k':=by omega
   subst this;rw[hn] at hn';cases hn';rw[hl] at hl';cases hl'
 |node k n l s s2 s3 x y hn hf hl h1 h2 i1 i2=>
  intro s4 t4 h';generalize hr:(k:Int)=r at h'
  cases h' with
  |leaf b s=>exact absurd hr.symm (AU _ _)
  |bad rt s h1 h2 h=>
   have:=(aS.1 hn).1;rcases h with h|h|⟨j,e,_,hj⟩
   ·omega
   ·omega
   ·have:j=k:=by omega
    subst this;rw[hf] at hj;cases hj
  |line k' n' s hn' hf' hl'=>
   have:k=k':=by omega
   subst this;rw[hn] at hn';cases hn';rw[hl] at hl';cases hl'
  |node k' n' l' s s2' s3' x' y' hn' hf' hl' h1' h2'=>
   have:k=k':=by omega
   subst this;rw[hn] at hn';cases hn';rw[hl] at hl';cases hl';obtain⟨rfl,rfl⟩:=i1 h1';obtain⟨rfl,rfl⟩:=i2 h2';exact⟨J,J⟩
def ng(ns:List NQ):Tr->Int->List Nat->Prop
 | .leaf b,rt,L=>rt=qi b/\L=[]
 | .node l x y,rt,L=> ∃(k:Nat) (a b:Int) (L1 L2:List Nat),rt=(k:Int)/\ns[k]? =some ⟨l,a,b⟩/\ng ns x a L1/\ng ns y b L2/\L=k::(L1++L2)
def ng.rr{ns:List NQ}: ∀{t:Tr} {rt:Int} {L:List Nat} {s:RS},ng ns t rt L->t.all aa.ok->L.Nodup->(∀j∈L,s.f j=false)-> ∃f,RR (ns.map RN.of) rt s t ⟨f,s.c+t.size,s.b⟩/\ ∀j,j∉L->f j=s.f j
 | .leaf b,rt,L,s,⟨e,e2⟩,_,_,_=>by
  subst e e2;exact⟨s.f, .leaf b s,fun _ _=>J⟩
 | .node l x y,rt,L,s,⟨k,a,b,L1,L2,e,hk,hx,hy,e2⟩,⟨h0,h1,h2⟩,hnd,hf=>by
  subst e e2;obtain⟨hkn,hnd⟩:=List.nodup_cons.1 hnd;obtain⟨hd1,hd2,hdis⟩:=List.nodup_append.1 hnd;have hfk:=hf k aQ;have hn1: ∀j∈L1,j≠k:=fun j hj e=>hkn (e▸cZ _ hj);have hn2: ∀j∈L2,j≠k:=fun j hj e=>hkn (e▸cW _ hj);obtain⟨f1,r1,g1⟩:=ng.rr (s:=⟨kb s.f k,s.c+1,s.b⟩) hx h1 hd1 (fun j hj=>by simp only;rw[Aw (hn1 j hj)];exact hf j (aZ _ (cZ _ hj)));simp only at r1 g1;obtain⟨f2,r2,g2⟩:=ng.rr (s:=⟨f1,s.c+1+x.size,s.b⟩) hy h2 hd2 (fun j hj=>by
   simp only;rw[g1 j (fun h=>hdis _ h _ hj J),Aw (hn2 j hj)];exact hf j (aZ _ (cW _ hj)))
  simp only at r2 g2;have hc:s.c+(Tr.node l x y).size=s.c+1+x.size+y.size:=by simp only[Tr.size];omega
  rw[hc];refine⟨f2, .node k (RN.of ⟨l,a,b⟩) l s _ _ x y (by rw[fU,hk];rfl) hfk (RN.of_ln h0) r1 r2,fun j hj=>?_⟩;simp only[aW,cX,not_or] at hj;rw[g2 j hj.2.2,g1 j hj.2.1,Aw hj.1]
def ng.len{ns:List NQ}: ∀{t:Tr} {rt:Int} {L:List Nat},ng ns t rt L->L.length=t.size
 | .leaf _,_,_,⟨_,h⟩=>by rw[h];rfl
 | .node l x y,_,_,⟨k,a,b,L1,L2,_,_,h1,h2,h⟩=>by
  rw[h,bT,aR,ng.len h1,ng.len h2];simp only[Tr.size];omega
def Tm(ns:List NQ)(t:Tr)(rt:Int):Prop:= ∃L,ng ns t rt L/\L.Nodup/\L.length=ns.length
def T7{ns:List NQ}{t:Tr}{rt:Int}(h:Tm ns t rt)(ho:t.all aa.ok):lI (ns.map RN.of) rt=some t:=by
 obtain⟨L,h1,h2,h3⟩:=h;obtain⟨f,r,_⟩:=h1.rr (s:=me) ho h2 (fun _ _=>rfl);have hr:=x5 (ns:=ns.map RN.of) (m:=(ns.map RN.of).length+1) (rt:=rt) (s:=me) (by have:=Dg (ns.map RN.of).length me.f;omega);obtain⟨e1,e2⟩:=hr.1.det r;unfold lI;simp only;rw[e2,e1,if_pos ⟨J,by show me.c+t.size=_;rw[aJ,<-h3,h1.len];show 0+_=_;omega⟩]
def HH{ns:List NQ}: ∀{t:Tr} {n:Nat},(∀i,i<t.size->ns[n+i]? =(t.wr n)[i]?)->ng ns t (t.num n) (List.range' n t.size)
 | .leaf b,n,_=>⟨J,J⟩
 | .node l x y,n,h=>by
  have hsz:(Tr.node l x y).size=1+x.size+y.size:=J;have hw:(Tr.node l x y).wr n=⟨l,x.num (n+1),y.num (n+1+x.size)⟩::(x.wr (n+1)++y.wr (n+1+x.size)):=by simp[Tr.wr]
  have hx:=x.wr_len (n+1);have hy:=y.wr_len (n+1+x.size);refine⟨n,x.num (n+1),y.num (n+1+x.size),List.range' (n+1) x.size,List.range' (n+1+x.size) y.size,J,?_,HH fun i hi=>?_,HH fun i hi=>?_,?_⟩
  ·have:=h 0 (by omega)
   rw[hw,eJ] at this;rw[this];rfl
  ·have:=h (1+i) (by omega)
   rw[hw,kR 1 i,List.getElem?_cons_succ,cS (by omega)] at this;rw[show n+1+i=n+(i+1) by omega];exact this
  ·have:=h (1+x.size+i) (by omega)
   rw[hw,show 1+x.size+i=(x.size+i)+1 by omega,List.getElem?_cons_succ,fV (by omega),hx,Nat.add_sub_cancel_left] at this;rw[show n+1+x.size+i=n+(x.size+i+1) by omega];exact this
  ·rw[hsz,show 1+x.size+y.size=(x.size+y.size)+1 by omega,List.range'_succ,List.range'_append_1]
def ZH{t:Tr}(ho:t.all aa.ok):lI ((t.wr 0).map RN.of) (t.num 0)=some t:=
 T7 ⟨_,HH (n:=0) (fun i _=>by rw[dK]),List.nodup_range',by rw[List.length_range',t.wr_len]⟩ ho
def YZ{t:Tr}(hb:t.all LB): ∀n∈(t.wr 0).map RN.of,n.g.sm:=fun n hn=>by
 obtain⟨m,hm,rfl⟩:=bJ.1 hn;exact RN.of_sm (Tr.all_wr 0 hb m hm)
def Yr:aa:=⟨0,1,0⟩
def t00:Tr:= .node Yr (.leaf true) (.leaf false)
def mG.red_size{k:Nat}{t:Tr}(h:mG k t)(hr:t.Red []):t.size<=k*(1+k):=by
 obtain⟨K,h1,h2,h3⟩:=h.am;exact dW (Tr.size_le h2 hr h.gd.ok dw.nil h3) (kQ h1 (by omega))
structure oh (k:Nat) (t:Tr):Prop where
 o:mG k t
 s:t.size<=3000
def oh.gd{k:Nat}{t:Tr}(h:oh k t):t.gd:=h.o.gd
def oh.lb{k:Nat}{t:Tr}(h:oh k t):t.all LB:=h.o.gd.lb
def oh.ok{k:Nat}{t:Tr}(h:oh k t):t.all aa.ok:=h.o.gd.ok
def oh.dp{k:Nat}{t:Tr}(h:oh k t):t.depth<=k:=h.o.dp
def mG.x{k:Nat}{t:Tr}(h:mG k t)(hr:t.Red [])(hk:k<=54):oh k t:=
 ⟨h,dW (h.red_size hr) (dW (kQ hk (show 1+k<=55 by omega)) (by decide))⟩
def Ak(rs:List (List ZP))(fill:Int):(ie rs fill).Red []:=Tr.restrict_red _ _
def aEZ(es:List Int)(a:Nat):(Tr×Tr)×Nat:=
 let x:=rj es 0 a
 let y:=rj es 0 x.2
 let k:=aA es 3 y.2
 let u:=if(k.1:Int)=0 then lm es 3 k.2 else(x.1,k.2)
 let j:=aA es 3 u.2
 let v:=if(j.1:Int)=0 then lm es 3 j.2 else(y.1,j.2)
 ((u.1,v.1),v.2)
def aE4(es:List Int)(a:Nat):(Tr×Tr)×Nat:=
 let x:=rj es 0 a
 let y:=rj es 0 x.2
 let k:=aA es 6 y.2
 if(k.1:Int)=0 then((x.1, .node (lF es k.2).1 x.1 x.1),(lF es k.2).2)
 else if(k.1:Int)=1 then((x.1,y.1.mergeQ 1 x.1 []),k.2)
 else if(k.1:Int)=2 then((x.1,y.1.mergeQ 3 x.1 []),k.2)
 else if(k.1:Int)=3 then((x.1,(lm es 3 k.2).1),(lm es 3 k.2).2)
 else((x.1,y.1),k.2)
def N9(es:List Int):Nat->Nat->List Tr×Nat
 |0,a=>([],a)
 |n+1,a=>((rj es 0 a).1::(N9 es n (rj es 0 a).2).1,(N9 es n (rj es 0 a).2).2)
def S9(r:List ZP)(i k:Nat):Bool:=decide (k=i)||decide (k=(i+1)%r.length)||decide (0<rA (r.getD i (0,0)).q (ek r i).q (r.getD k (0,0)).q)
def aCE(r:List ZP):Bool:=(List.range r.length).all fun i=>(List.range r.length).all fun k=>S9 r i k
section
variable {GB:Gh} {C:aD} {n:Nat} {Q0:Exit->Act->World->Prop} {fr fr' fr1 fr2:aw} {own own' own1 own2:aH} {cf cf' cf1 cf2:Cf} {vc vc1 vc2:List Prop}
def aGi(fr:aw)(cf:Cf):Option Int:=match b8 fr cf with
 |some ⟨_, .binOp .and _ x (.const (.int .i64 3)) _,_,_,_,_⟩=>match aI (bw fr cf) x with
  |some (.d (.v (.int .i64 p)))=>some p
  |_=>none
 |_=>none
end
def YT{es0 es:List Int}(hb:es0.length<=1125899906842624)(he:es=es0.take 400):PN GB prog 15 [.sl (es0.map vI)] 126 Unit (fun _=>[.sl (es.map vI), .v (.int .i64 (0:Nat))]):=by
 subst he;exact XE hb
def aGt(cs:List RL):Option (List aa):=if cs.all (fun r=>r.ln.isSome) then some (cs.filterMap RL.ln) else none
def aGN:Option (List aa)->DV
 |some ls=> .tp [.sl (ls.map cb),vB true]
 |none=> .tp [.sl [],vB false]
def YH(ls:List aa):dB 9 (ls.map cb):=fun d hd=>by
 obtain⟨u,_,rfl⟩:=bJ.1 hd;exact⟨rfl,rfl⟩
def aF4:Option aF->DV
 |some c=> .tp [.sl (c.map bi),vB true]
 |none=> .tp [.sl [],vB false]
def AX(ai al:Addr)(more:Nat):Option Tr->DV
 |none=> .tp [.v (.pointer none),yi ai]
 |some t=>if 1024<t.depth+more then .tp [.v (.pointer none),yi al] else .tp [eU t, .v .nilIface]
def YU{t:Tr}(h:t.gd/\t.size<=65536):t.depth<=65536:=by have:=t.depth_size;omega
def VP{ai al ae:Addr}(hE:EG GB ai al ae){ns:List RN}{rt:Int}(hs: ∀n∈ns,n.g.sm)(hn:ns.length<=65536){more:Nat}(hmo:more<=1000):PF GB prog 141 [qu rt ns,vI (more:Nat)] (AX ai al more (lI ns rt)):=by
 refine fn func141 J J ntmps141 J J (fun C=>?_);rcases h:lI ns rt with _|t
 .
  refine cl (fu:=⟨3⟩) J (XW hs hn h) J<|?_;refine sL 12 J ?_;refine gx J<|gl J hE.ErrInvalid J<|?_;exact rz J J
 .
  have g:=Xw hs hn h;have hd:=YU g;refine cl (fu:=⟨3⟩) J (R3 hs hn h) J<|?_;refine kd 12 J ?_;refine gx J<|cl J (Gd (by omega)) J<|?_;refine br J J J (fun hc17=>?_) (fun hc17=>?_)
  .
   refine gl J hE.ErrLimit J<|?_;exact rz J (by rw[AX,if_pos (by omega)];rfl)
  .
   exact rz J (by rw[AX,if_neg (by omega)];rfl)
def S0{ai al ae:Addr}(hE:EG GB ai al ae){ns:List RN}{rt:Int}(hs: ∀n∈ns,n.g.sm)(hn:ns.length<=65536){more:Nat}(hmo:more<=1000){t:Tr}(h:lI ns rt=some t)(hd:t.depth+more<=1024):PF GB prog 141 [qu rt ns,vI (more:Nat)] (.tp [eU t, .v .nilIface]):=by
 have:=VP hE (rt:=rt) hs hn hmo;rw[h,AX,if_neg (by omega)] at this;exact this
def aF1(ai:Addr)(f:Tr->Tr):Option Tr->Tr ⊕ Addr
 |some t=> .inl (f t)
 |none=> .inr ai
def aFR(ai ae:Addr):Option Tr->Option (List aa)->Tr ⊕ Addr
 |some t,some ls=>(match oI ls [] with
  |some c=> .inl (t.restrict c)
  |none=> .inr ae)
 |_,_=> .inr ai
def aGg(ai:Addr):Option aa->Option Tr->DV
 |some m,some t=> .tp [eA (t.restrict (bF [] m)),eA (t.restrict (bF [] m.rev)), .v .nilIface]
 |_,_=> .tp [FF,FF,yi ai]
def QS{b:Bool}:PF GB prog 142 [eU (.leaf b),eU (.leaf b)] (vB true):=by
 refine fn func142 J J ntmps142 J J (fun C=>?_);refine cl (fu:=⟨0⟩) J rp J<|?_;refine kd 7 J ?_;refine gx J<|cl (fu:=⟨0⟩) J rp J<|?_;refine kd 9 J ?_;refine gx (fu:=⟨0⟩) J<|ee J J J<|cl (fu:=⟨0⟩) J rp J<|?_;refine kd 13 J ?_;refine gx J<|?_;exact rz J (by show vB (b==b)=vB true;simp)
def Sl{l:aa}{x y:Tr}(hl:LB l)(ihx:PF GB prog 142 [eU x,eU x] (vB true))(ihy:PF GB prog 142 [eU y,eU y] (vB true)):PF GB prog 142 [eU (.node l x y),eU (.node l x y)] (vB true):=by
 refine fn func142 J J ntmps142 J J (fun C=>?_);refine cl (fu:=⟨0⟩) J sv J<|?_;refine sL 7 J ?_;refine gx J<|cl (fu:=⟨0⟩) J sv J<|?_;refine sL 9 J ?_;refine gx (fu:=⟨0⟩) J<|ee J J J<|cl (fu:=⟨0⟩) J sv J<|?_;refine sL 13 J ?_;refine gx J<|cl (fu:=⟨0⟩) J (Cx (l:=l) (m:=l)) J<|gu J (by show some (decide (l=l))=some true;simp) J<|cl (fu:=⟨1⟩) J ihx J<|gu J J J<|?_;refine cl J ihy J<|?_;exact rz J J
def Ec: ∀{t:Tr},t.all LB->PF GB prog 142 [eU t,eU t] (vB true)
 | .leaf _,_=>QS
 | .node _ _ _,h=>Sl h.1 (Ec h.2.1) (Ec h.2.2)
def Ww{ai al ae:Addr}(hE:EG GB ai al ae){t:Tr}(h:t.gd)(hs:t.size<=65536)(hd:t.depth<=1024):PF GB prog 141 [eA t,vI 0] (.tp [eU t, .v .nilIface]):=by
 have:=S0 hE (rt:=t.num 0) (YZ h.lb) (by rw[aJ,t.wr_len];exact hs) (more:=0) (by decide) (ZH h.ok) (by omega);rw[<-Wm] at this;exact this
def Qp{ai al ae:Addr}(hE:EG GB ai al ae){t:Tr}(h:t.gd)(hs:t.size<=65536)(hd:t.depth<=1024)(hr:t.restrict []=t):PF GB prog 57 [eA t] (.tp [vB true, .v .nilIface]):=by
 refine fn func57 J J ntmps57 J J (fun C=>?_);refine cl J (Ww hE h hs hd) J<|cl (fu:=⟨0⟩) J (Kv (t:=t) h.lb h.ok (by omega)) J<|?_;refine aB 16 (.d (eU t)) J (by rw[hr]) ?_;refine gx J<|cl J (Ec (t:=t) h.lb) J<|?_;exact rz J J
def ePr(a b:Tr):DV:= .ag [eU a,eU b]
def prZ:DV:= .ag [.v (.pointer none), .v (.pointer none)]
def mtQ(a:aa)(t:List aa):List Rat:=t.filterMap fun b=>if crossI a b=0 then none else some (gO a b).x
def aGB(l:List aa)(x:Rat):List ab:=(fI (D2 (OF l x))).map fun y=>⟨x,y⟩
def Lg:Tr->ab->Bool
 | .leaf _,_=>true
 | .node l x y,p=>if(l.value p).num.sign=1 then Lg x p else if(l.value p).num.sign= -1 then Lg y p else false
def XH(ls:List aa):(jg ls).length<=ls.length:=by
 have:=Du c9 (ls.map aa.canon) [];unfold jg pB;rw[aJ,jK] at this;omega
structure Two (a b:Tr):Prop where
 ga:a.gd
 gb:b.gd
 sa:a.size<=3000
 sb:b.size<=3000
def f1R(x y:Bool):Bool:=x&&!y
def f2R(x y:Bool):Bool:=y&&!x
def f3R(x y:Bool):Bool:=x&&y
def f4R(x y:Bool):Bool:=!x&&!y
def anK(f:Bool->Bool->Bool)(a b:Tr)(k:Nat):Bool:=((H4 a b).take k).any fun p=>f (tq a p) (tq b p)
def Jy:Tr->List aa->List (List aa×Bool)
 | .leaf b,c=>if Jh c then [(rh c,b)] else []
 | .node l x y,c=>if Jh c then Jy x (rh c++[l])++Jy y (rh c++[l.rev]) else []
def X0(c:List aa)(p:ab):Bool:=c.all fun l=>decide (0<Int.sign (l.value p).num)
def aGF(c:List aa):Option ab:=(Ph (jg c)).find? (X0 c)
def aFX(c:aF):Prop:=(c.map fun s=>s.l.dir).Pairwise ut
def aGf(c:List aa):Prop:=(c.map aa.dir).Pairwise ut
def YV(c:aF):Bool:=!c.isEmpty&&c.all fun s=>!s.v.nl&&!s.v.nh
def UF(c:List aa)(v:ab):Bool:=c.all fun l=>decide (0<=Int.sign (l.dir.cross v).num)
def aGI(c:List aa):Bool:=!c.isEmpty&&(c.flatMap fun l=>[l.dir,oc l.dir]).all fun v=>!UF c v
def Ce:aa:=⟨1,0,0⟩
def Ye(c:List aa)(i:Nat):List ab:=
 if 0<Int.sign ((c.getD i Ce).dir.cross (c.getD ((i+1)%c.length) Ce).dir).num then [gO (c.getD i Ce) (c.getD ((i+1)%c.length) Ce)] else []
def CT(c:List aa):List ab:=(List.range c.length).flatMap (Ye c)
def Wj(v:List ab)(i:Nat):List ab:=[v.getD 0 ⟨0,0⟩,v.getD (i+1) ⟨0,0⟩,v.getD (i+2) ⟨0,0⟩]
def Ls(v:List ab):List (List ab):=(List.range (v.length-2)).map (Wj v)
def aES(cs:List (List aa)):List (List ab):=cs.flatMap fun c=>Ls (CT c)
end Go.Sx
end
