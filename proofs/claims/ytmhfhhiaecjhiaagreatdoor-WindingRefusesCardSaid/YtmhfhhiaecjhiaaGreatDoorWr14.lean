import Derived.Test.YtmhfhhiaecjhiaaGreatDoorWr13
set_option linter.all false
set_option maxHeartbeats 2000000
set_option maxRecDepth 100000
section
namespace Go.Sx
open Go Go.Proofs Tryz
variable {GB:Gh}
def v6{r:List ZP}{k:Nat}{p:aa}(h:(r.map ZP.q)[k]? =some p):k<r.length/\p=(r.getD k (0,0)).q:=by
 rw[fK] at h
 cases e:r[k]? with
 |none=>rw[e] at h;cases h
 |some z=>
  rw[e] at h;cases h;exact⟨(aT.1 e).1,by rw[aJ,e];rfl⟩
def wx(r:List ZP): ∀n,(kj r n).length=n
 |0=>rfl
 |n+1=>by rw[kj,aN,wx r n];rfl
def Ij{r:List ZP}{k:Nat}: ∀{n:Nat},k<n->(kj r n)[k]? =some (lw (r.getD k (0,0)) (d5 r k))
 |0,h=>by omega
 |n+1,h=>by
  rw[kj];by_cases e:k=n
  .subst e
   rw[dS (by rw[wx];omega),wx,rZ];rfl
  .rw[cZ (by rw[wx];omega)]
   exact Ij (by omega)
def vE(l:List aE):dl 17 (l.map bF):=fun d hd=>by
 obtain⟨x,_,rfl⟩:=bV.1 hd;exact⟨J,J⟩
def HU{L:List aE}{k:Nat}{l:aE}(h:L[k]? =some l):((L.take k).map bF)++[bF l]=(L.take (k+1)).map bF:=by
 rw[cX,h,cK];rfl
def Uo{r:List ZP}(h:en r):PF GB prog 30 [.sl ((r.map ZP.q).map eZ)] (.sl ((iO r).map bF)):=by
 have hn:=h.n6;obtain⟨v,hv⟩: ∃v,v=r.map ZP.q:=⟨_,rfl⟩;have hvl:v.length=r.length:=by rw[hv,aZ]
 rw[<-hv];have hel:(iO r).length=r.length:=(A4 h).1;have hrl:(gj v).length=r.length:=by unfold gj;rw[aZ,kX,hvl]
 refine wk func30 J J ntmps30 J J (fun C h0=>?_);refine ux J J J uT (fun _=>J) (fun GB1 pv hg1 hpv=>?_);refine KM 3 0 50 139 17 J J J J J<|pc 3 2000003 h0.fx J ?_;refine ul (σ:=Empty) (fun k=>[(2000003,some (.o 91 [.rw 50] true)),(50,some (.b 139 17 (((iO r).take k).map bF) true))]) (fun _=>True) (fun _=>[]) (fun _=>False) [(3, .ov 2000003 0)]
  h0 J (vz) (.cons hpv .nil) ⟨J,trivial⟩ J ⟨J,J,trivial⟩ trivial tZ J J (fun k e GB' hE hg hp=>?_) (fun D hD hx hp=>?_) (fun D s hD hx hq=>hq.elim)
 .obtain⟨p,q,hpx,hqx,rfl⟩:=ve hE
  rw[hvl] at hqx;rw[hv] at hpx hqx;obtain⟨hk,rfl⟩:=v6 hpx;obtain⟨hk2,rfl⟩:=v6 hqx;have hx:(iO r)[k]? =some (lw (r.getD k (0,0)) (d5 r k)):=Ij hk;have hml:(((iO r).take k).map bF).length=k:=by rw[aZ,aS];omega
  refine⟨?_,?_,fun C2=>?_,fun C2=>?_⟩
  rotate_left 2
  .refine gx J<|tK J J J ⟨J,J,J⟩ J ?_
   exact atR
  .refine gx J<|l7 0 (e:=102) (len:=2) (s:=6) J (by kernel_rfl) (by kernel_rfl) (by decide) J<|l7 1 (e:=102) (len:=2) (s:=6) J (by kernel_rfl) (by kernel_rfl) (by decide) J<|cl J (VS (h.le _ (uZ hk)) (h.le _ (yr hk)) (h.ne k hk)) J<|rf J J<|ap (((iO r).take (k+1)).map bF) J (HU hx) (vE [lw (r.getD k (0,0)) (d5 r k)]) J<|d4 23 50 J ?_
   exact rq trivial ⟨J,J,trivial⟩
 .rw[hrl,<-hel,bT]
  refine gx J<|gO 50 J ?_;exact vY hD hx J J
def ZZ(x:Rat):Rat:=if 0<x then x else 0
def aD4(w1 w2 w3 w4:Rat)(p1 p2 p3 p4:aa):aa:=⟨(w1*p1.x+w2*p2.x+w3*p3.x+w4*p4.x)*(w1+w2+w3+w4)⁻¹,(w1*p1.y+w2*p2.y+w3*p3.y+w4*p4.y)*(w1+w2+w3+w4)⁻¹⟩
def r9(a:Rat):a*(a.den:Rat)=(a.num:Rat):=by
 have h:(a.num:Rat)/((a.den:Nat):Rat)=a:=by rw[<-kM];exact nK a
 have h0:((a.den:Nat):Rat)≠0:=by
  intro k;have:a.den=0:=by exact_mod_cast k
  exact a.den_nz this
 generalize (a.num:Rat)=n at*;generalize ((a.den:Nat):Rat)=d at*;rw[<-h];grind
def II{a:Rat}{x:Int}{D:Nat}(hD:0<D)(h:a*((D:Int):Rat)=(x:Rat)):a.num*(D:Int)=x*(a.den:Int):=by
 have e:((a.den:Int):Rat)*a=(a.num:Rat):=by
  have:=r9 a;rw[Rat.mul_comm];exact this
 have k:(a.num:Rat)*((D:Int):Rat)=(x:Rat)*((a.den:Int):Rat):=by rw[<-e,<-h];grind
 exact_mod_cast k
def yg{a b:Rat}{x y:Int}{D:Nat}(hD:0<D)(ha:a*((D:Int):Rat)=(x:Rat))(hb:b*((D:Int):Rat)=(y:Rat)):rgcd a b*((D:Int):Rat)=(((Nat.gcd x.natAbs y.natAbs:Nat):Int):Rat):=by
 have h1:=II hD ha;have h2:=II hD hb;have n1:a.num.natAbs*D=x.natAbs*a.den:=by
  have:=congrArg Int.natAbs h1;rwa [dV,dV,dQ,dQ] at this
 have n2:b.num.natAbs*D=y.natAbs*b.den:=by
  have:=congrArg Int.natAbs h2;rwa [dV,dV,dQ,dQ] at this
 have hg:Nat.gcd (a.num.natAbs*b.den) (b.num.natAbs*a.den)*D=Nat.gcd x.natAbs y.natAbs*(a.den*b.den):=by
  rw[<-Nat.gcd_mul_right,<-Nat.gcd_mul_right];congr 1
  .rw[lQ,n1,bU]
  .rw[lQ,n2,bU,bW b.den a.den]
 unfold rgcd;generalize Nat.gcd (a.num.natAbs*b.den) (b.num.natAbs*a.den)=G at*;generalize Nat.gcd x.natAbs y.natAbs=g at*;have hpos:0<a.den*b.den:=fX a.den_pos b.den_pos;have hq:((G:Int):Rat)*((D:Int):Rat)=((g:Int):Rat)*(((a.den*b.den:Nat):Int):Rat):=by exact_mod_cast hg
 generalize a.den*b.den=E at*;have h0:((E:Int):Rat)≠0:=fun k=>by
  have:(E:Int)=0:=by exact_mod_cast k
  omega
 have hm:mkRat ((G:Nat):Int) E*((E:Int):Rat)=((G:Int):Rat):=by
  have hz:((E:Nat):Rat)≠0:=h0;show mkRat ((G:Nat):Int) E*((E:Nat):Rat)=_;rw[kM];generalize ((E:Nat):Rat)=z at*;generalize ((G:Int):Rat)=y at*;grind
 generalize mkRat ((G:Nat):Int) E=r at*;rw[<-hm] at hq;generalize ((E:Int):Rat)=e at*;generalize ((D:Int):Rat)=d at*;have:e*(r*d-((g:Int):Rat))=0:=by grind
 have:=(Rat.mul_eq_zero.1 this).resolve_left h0;grind
def o6(a b c:Rat):Nat:=a.den*(b.den*c.den)
def d8(a b c:Rat):ab:=eO (a.num*(b.den*c.den:Nat)) (b.num*(a.den*c.den:Nat)) (c.num*(a.den*b.den:Nat))
def Uz(a b c:Rat):0<o6 a b c:=fX a.den_pos (fX b.den_pos c.den_pos)
def AX(a:Rat)(k:Nat):a*(((a.den*k:Nat):Int):Rat)=((a.num*(k:Nat):Int):Rat):=by
 have e:=r9 a;have:(((a.den*k:Nat):Int):Rat)=(a.den:Rat)*((k:Int):Rat):=by push_cast;rfl
 rw[this,dT,<-Rat.mul_assoc,e]
def U9(a b c:Rat):a*((o6 a b c:Int):Rat)=((a.num*(b.den*c.den:Nat):Int):Rat)/\b*((o6 a b c:Int):Rat)=((b.num*(a.den*c.den:Nat):Int):Rat)/\c*((o6 a b c:Int):Rat)=((c.num*(a.den*b.den:Nat):Int):Rat):=by
 refine⟨AX a _,?_,?_⟩
 .rw[show o6 a b c=b.den*(a.den*c.den) by unfold o6;rw[kZ]];exact AX b _
 .rw[show o6 a b c=c.den*(a.den*b.den) by unfold o6;rw[<-bU,bW]];exact AX c _
def Hl{a b c:Rat}(h: ¬(a=0/\b=0)): ¬(a.num*(b.den*c.den:Nat)=0/\b.num*(a.den*c.den:Nat)=0):=fun⟨h1,h2⟩=>by
 refine h ⟨?_,?_⟩
 .rcases oW.1 h1 with k|k
  .exact iW.1 k
  .have:=fX b.den_pos c.den_pos;omega
 .rcases oW.1 h2 with k|k
  .exact iW.1 k
  .have:=fX a.den_pos c.den_pos;omega
def OS{a b c:Rat}(h: ¬(a=0/\b=0)):(d8 a b c).ok:=Gi (Hl h)
def aa.subQ(p q:aa):aa:=⟨p.x-q.x,p.y-q.y⟩
def pI(f:aa×aa):aa:=⟨-(f.2.y-f.1.y),f.2.x-f.1.x⟩
structure Si (V:List aa) (E:List (aa×aa)):Prop where
 ends: ∀f∈E,f.1∈V/\f.2∈V
 cvx: ∀f∈E,∀v∈V,0<=jp f.1 f.2 v
 cen: ∃u,∀f∈E,0<jp f.1 f.2 u
 hull: ∀n u:aa,(∀f∈E,0<=jp f.1 f.2 u)-> ∃v∈V,n.dot v<=n.dot u
def aEP(f:aa×aa)(p:aa):ab:=d8 (-(pI f).x) (-(pI f).y) ((pI f).dot p-(pI f).dot f.1)
def Gx(n:aa):List aa->Rat
 |[]=>0
 |p::t=>t.foldl (fun b q=>if n.dot q<b then n.dot q else b) (n.dot p)
def PK(n:aa)(s:aE):Bool:=(s.v.nh&&decide (s.l.dir.dot n<0))||(s.v.nl&&decide (0<s.l.dir.dot n))
def P7(n:aa):bD->Bool
 |[s]=>decide (s.l.nor.dot n<0)
 |_=>false
def SB(c:bD):List aa:=(c.map fun s=>s.l.at s.v.sample)++qf (c.map (·.l))
def We(c:bD)(n:aa):Option Rat:=if c.isEmpty||P7 n c then none else if c.any (PK n) then none else some (Gx n (SB c))
def jB(p q:aa):ab:=d8 (p.y-q.y) (q.x-p.x) (-((p.y-q.y)*p.x+(q.x-p.x)*p.y))
def ym(n:aa):List aa->aa
 |[]=>⟨0,0⟩
 |p::t=>t.foldl (fun b q=>if n.dot q<n.dot b then q else b) p
def Tp(l:ab)(V:List aa):ab:=jB (l.base.add (ym l.nor V)) ((l.base.add (ym l.nor V)).add l.dir)
def AE(l:ab)(V:List aa):ab:=d8 l.a l.b (l.c-Gx l.nor V)
def Ob(l:ab)(c:List ab):List aa:=(c.flatMap fun s=>[s.dir,dn s.dir])++[⟨l.dir.y, -l.dir.x⟩]
def Pt(l:ab)(c:List ab):Bool:=!c.isEmpty&&(Ob l c).all fun v=>!(K2 c v&&decide (Int.sign (l.dir.cross v).num<0))
def Hh(c:List ab):List aa:=if(qf c).isEmpty then c.map ab.base else qf c
def N8(l:ab)(p:aa)(c:List ab):ab:=jB (p.add (ym l.nor (Hh c))) ((p.add (ym l.nor (Hh c))).add l.dir)
def Ha(c:bD)(f:aa×aa):Option ab:=(We c (pI f)).map fun m=>d8 (pI f).x (pI f).y (-(m+(pI f).dot f.1))
def Wt(c:List ab)(f:aa×aa):Option ab:=if Pt (jB f.1 f.2) c then some (N8 (jB f.1 f.2) f.1 c) else none
def Xh(c:bD)(V:List aa)(E:List (aa×aa)):List ab:=(c.map fun s=>AE s.l V)++E.filterMap (Ha c)
def XX(c:List ab)(V:List aa)(E:List (aa×aa)):List ab:=(c.map fun l=>Tp l V)++E.filterMap (Wt c)
def En:List ab->Tr
 |[]=> .leaf true
 |l::t=> .node l (En t) (.leaf false)
def aGE(L:List ab)(p:aa):Int:=if L.any (fun l=>decide (l.value p<0)) then 0 else if L.any (fun l=>decide (l.value p=0)) then 1 else 2
def z7(V:List aa)(E:List (aa×aa))(c:bD):Tr:=En (mF (Xh c V E))
def YF(f:aa×aa):aa×aa:=(dn f.1,dn f.2)
def Uu(V:List aa)(E:List (aa×aa))(cs:List bD)(t:Tr):Tr:=cs.foldl (fun t c=>t.mergeQ 1 (z7 V E c) []) t
def xj(V:List aa)(E:List (aa×aa))(t:Tr):Tr:=Uu V E (r4 (t.restrict [])) (.leaf false)
def aGa(V:List aa)(E:List (aa×aa))(t:Tr):List ab:=(r4 (t.restrict [])).flatMap fun c=>(z7 V E c).lns
def ZD(l:ab)(v:aa):ab:=d8 l.a l.b (l.c-l.nor.dot v)
def XM(lo hi:Rat):bm:=⟨lo,hi,false,false⟩
def Ae(f:aE)(m:ab):List aE:=if f.l.cutB f.v m then [⟨f.l,f.l.cutV f.v m⟩] else []
structure Mr (f:aE):Prop where
 ok:f.l.ok
 nl:f.v.nl=false
 nh:f.v.nh=false
 lt:f.v.lo<f.v.hi
def BS(acc:aa->Bool):Nat->List aE->bD->Tr
 |_,[],c=> .leaf (acc (Na c))
 |0,_::_,_=> .leaf false
 |n+1,f::t,c=> .node f.l (BS acc n ((f::t).flatMap fun g=>Ae g f.l) (fq c f.l)) (BS acc n ((f::t).flatMap fun g=>Ae g f.l.rev) (fq c f.l.rev))
def Tr.like:Tr->Tr->Prop
 | .leaf _, .leaf _=>True
 | .node l x y, .node m u v=>l=m/\x.like u/\y.like v
 |_,_=>False
def Tr.Prp:Tr->bD->Prop
 | .leaf _,_=>True
 | .node l x y,c=>eu c l=true/\eu c l.rev=true/\x.Prp (fq c l)/\y.Prp (fq c l.rev)
def Zv(l:List aE)(c:bD):Prop:= ∀f∈l,∀t,f.v.ins t->mj c (f.l.at t)
def aGw(E:List aE)(c:bD)(l:List aE):Prop:= ∀e∈E,∀t,e.v.ins t->mj c (e.l.at t)-> ∃f∈l,f.l=e.l/\f.v.ins t
structure FS (f:aE):Prop where
 fo:jI f
 sg:Mr f
def Z4(rs:List (List ZP))(fill:Int):Tr:=BS (ub rs fill) (dB rs).length (dB rs) []
def mB(c:bD)(m:ab):Bool:=eu c m&&eu c m.rev
def xB(c:bD)(m n:ab):Bool:=decide (¬m.same n)&&(decide (n.value (HY m n)=0)&&TO c (HY m n))
def vT(f:ab->Nat):List ab->Nat
 |[]=>0
 |m::K=>f m+vT f K
def bN(b:Bool):Nat:=if b then 1 else 0
def XO(K:List ab)(c:bD):Nat:=vT (fun m=>bN (mB c m)) K
def Qf(K:List ab)(c:bD)(m:ab):Nat:=vT (fun n=>bN (xB c m n)) K
def Zd(K:List ab)(c:bD):Nat:=vT (Qf K c) K
structure aFA (K:List ab) (t:Tr):Prop where
 ok:t.all ab.ok
 am:CT K t
 rd:t.Red []
def Yn(V:List aa)(E:List (aa×aa))(K:List ab)(cs:List bD):List ab:=(K.flatMap fun l=>[AE l V,AE l.rev V])++cs.flatMap fun c=>E.filterMap (Ha c)
def ZB(p:aa):Prop:= ∃m n:Int,p=iP m n/\m.natAbs<=8/\n.natAbs<=8
def QD(k:Nat)(q:aa):Prop:= ∃(D:Nat) (X Y:Int),0<D/\D<=2^k/\X.natAbs<=2^k/\Y.natAbs<=2^k/\q.x*((D:Int):Rat)=(X:Rat)/\q.y*((D:Int):Rat)=(Y:Rat)
structure YR (r:List ZP):Prop where
 ok:en r
 cen: ∃c:aa,∀f∈pn r,0<jp f.1 f.2 c
 one: ∀p,(∀f∈pn r,0<jp f.1 f.2 p)->xk r p=1
 zer: ∀p,(∃f∈pn r,jp f.1 f.2 p<0)->xk r p=0
 cvx: ∀f∈pn r,∀g∈pn r,0<=jp f.1 f.2 g.1/\0<=jp f.1 f.2 g.2
 onE: ∀p,(∀f∈pn r,0<=jp f.1 f.2 p)-> ∀f∈pn r,jp f.1 f.2 p=0->HC f.1 f.2 p
section
variable {r:List ZP} {p:aa}
end
def wS(x y O:Rat):Int:=(if x<=0/\ ¬y<=0/\0<O then 1 else 0)-(if¬x<=0/\y<=0/\O<0 then 1 else 0)
def wR(p:Nat->Bool):Nat->Nat->Nat->Nat
 |0,i,_=>i
 |d+1,i,j=>if i<j then(if p ((i+j)/2) then wR p d ((i+j)/2+1) j else wR p d i ((i+j)/2)) else i
def Sp(c:bD)(l:ab)(v:bm):bD:=c.take (wR (vD c l) c.length 0 c.length)++⟨l,v⟩::c.drop (wR (vD c l) c.length 0 c.length)
def yQ(c:bD)(l:ab):bD:=match wc c l with
 |some v=>Sp (yj l c) l v
 |none=>c
def Tr.restrictF:Tr->bD->Tr
 | .leaf b,_=> .leaf b
 | .node l x y,c=>if !eu c l.rev then x.restrictF c else if !eu c l then y.restrictF c else joinQ l (x.restrictF (yQ c l)) (y.restrictF (yQ c l.rev))
def OF:List ZP:=[(0,0),(3,0),(3,1),(1,1),(1,3),(0,3)]
def RD(v:List aa)(k i:Nat):Bool:=decide (i=k)||(decide (i=(k+1)%v.length)||decide (0<jp (v.getD k ⟨0,0⟩) (v.getD ((k+1)%v.length) ⟨0,0⟩) (v.getD i ⟨0,0⟩)))
def aGy(v:List aa):Bool:=(List.range v.length).all fun k=>(List.range v.length).all fun i=>RD v k i
structure Z0 (V:List aa):Prop where
 br:Si V (rH V)
 zb: ∀v∈V,ZB v
 le:V.length<=4
def XR(es:List Int)(a:Nat):Tr×Nat:=
 let k:=au es 4 a
 if(k.1:Int)=0 then(xf (lF es k.2).1,(lF es k.2).2)
 else if(k.1:Int)=1 then(rN [(sO es k.2).1] 2,(sO es k.2).2)
 else if(k.1:Int)=2 then((rN [(sO es k.2).1] 2).compl,(sO es k.2).2)
 else(rN [OF] 2,k.2)
structure Zx (t:Tr):Prop where
 x:B7 18 t
 rd:t.Red []
 bl:t.all fun l=>BL l 8
 dp:t.depth<=6
 k: ∃K:List ab,K.length*2+4*(t.size+1)<=52/\K.length<=6/\(∀l∈K,l.ok)/\CT K t
def Tr.partsF:Tr->bD->List (Bool×bD)
 | .leaf b,c=>[(b,c)]
 | .node l x y,c=>(if eu c l then x.partsF (yQ c l) else [])++(if eu c l.rev then y.partsF (yQ c l.rev) else [])
def sqV:List aa:=(kC 0 0 1 1).map ZP.q
def ZN:List bD:=((((((Jk [kC 0 0 1 1] 2).restrictF []).restrictF []).partsF []).filter (·.1)).map (·.2))
def Lk:Tr->Tr->Bool
 | .leaf a, .leaf b=>a==b
 | .node l x y, .node m u v=>decide (l=m)&&(Lk x u&&Lk y v)
 |_,_=>false
structure aFT (V:List aa) (u:Tr):Prop where
 al:CJ 1 (Tr.leaf false) ((r4 (u.restrict [])).map (z7 V (rH V)))=some (xj V (rH V) u)
 gd:(xj V (rH V) u).gd
 dp:(xj V (rH V) u).depth<=340
 s:(xj V (rH V) u).size<=60000
def js(v w:aa):Prop:= ¬(v.x=w.x/\v.y=w.y)
def Cu{a:Int}{g:Nat}(hg:0<g)(hd:g∣a.natAbs):(a:Rat)*(((g:Nat):Int):Rat)⁻¹=((zv (decide (a<0)) (a.natAbs/g):Int):Rat):=by
 obtain⟨q,hq⟩:=hd;have e:zv (decide (a<0)) (a.natAbs/g)*(g:Int)=a:=by
  rw[hq,oL q hg];unfold zv;have hc:((g*q:Nat):Int)=(g:Int)*(q:Int):=by simp
  have hm:=rQ (g:Int) (q:Int);split
  .rename_i h
   have h:=of_decide_eq_true h;rw[Int.neg_mul];omega
  .rename_i h
   have h: ¬a<0:=fun k=>h (decide_eq_true k);omega
 generalize zv (decide (a<0)) (a.natAbs/g)=z at*;have h0:((g:Int):Rat)≠0:=by
  intro k;have:(g:Int)=0:=by exact_mod_cast k
  omega
 rw[<-e,dT];generalize ((g:Int):Rat)=r at*;grind
def xW{a R D g x:Rat}(hg:g≠0)(hR:R*D=g)(ha:a*D=x):a*R⁻¹=x*g⁻¹:=by
 have h1:g*g⁻¹=1:=Rat.mul_inv_cancel g hg;have hR0:R≠0:=fun e=>hg (by rw[<-hR,e];grind);have h2:R*R⁻¹=1:=Rat.mul_inv_cancel R hR0;generalize R⁻¹=r at*;generalize g⁻¹=s at*;have:r=D*s:=by
  have h3:R*(r-D*s)=0:=by grind
  have:=(Rat.mul_eq_zero.1 h3).resolve_left hR0;grind
 grind
def Il{a b c:Rat}(h0: ¬(a=0/\b=0)):a*(rgcd (rgcd a b) c)⁻¹=((d8 a b c).a:Rat)/\b*(rgcd (rgcd a b) c)⁻¹=((d8 a b c).b:Rat)/\c*(rgcd (rgcd a b) c)⁻¹=((d8 a b c).c:Rat):=by
 obtain⟨k1,k2,k3⟩:=U9 a b c;have hn:=Hl (c:=c) h0;have hD:=Uz a b c;have hr:=yg hD (yg hD k1 k2) k3;unfold d8;generalize a.num*(b.den*c.den:Nat)=x at*;generalize b.num*(a.den*c.den:Nat)=y at*;generalize c.num*(a.den*b.den:Nat)=z at*;rw[dQ] at hr;have hgn:Nat.gcd x.natAbs y.natAbs≠0:=fun h=>hn ⟨iU.1 (jW h),iU.1 (jJ h)⟩;have hgp:0<Nat.gcd (Nat.gcd x.natAbs y.natAbs) z.natAbs:=iN _ (dM hgn);have hg:(((Nat.gcd (Nat.gcd x.natAbs y.natAbs) z.natAbs:Nat):Int):Rat)≠0:=fun e=>by
  have:((Nat.gcd (Nat.gcd x.natAbs y.natAbs) z.natAbs:Nat):Int)=0:=by exact_mod_cast e
  omega
 refine⟨?_,?_,?_⟩
 .rw[xW hg hr k1];exact Cu hgp (oJ (iJ _ _) (iJ _ _))
 .rw[xW hg hr k2];exact Cu hgp (oJ (iJ _ _) (jX _ _))
 .rw[xW hg hr k3];exact Cu hgp (jX _ _)
def Vp{a b c:Rat}(h0: ¬(a=0/\b=0)){x y z:Int}{D:Nat}(hD:0<D)(ha:a*((D:Int):Rat)=(x:Rat))(hb:b*((D:Int):Rat)=(y:Rat))(hc:c*((D:Int):Rat)=(z:Rat)):
  (d8 a b c).a.natAbs<=x.natAbs/\(d8 a b c).b.natAbs<=y.natAbs/\(d8 a b c).c.natAbs<=z.natAbs:=by
 obtain⟨e1,e2,e3⟩:=Il (c:=c) h0;have hr:=yg hD (yg hD ha hb) hc;rw[dQ] at hr;have hz: ∀{u:Rat} {v:Int},u*((D:Int):Rat)=(v:Rat)->v=0->u=0:=fun{u v} h k=>by
  rw[k] at h;exact(Rat.mul_eq_zero.1 h).resolve_right (fun e=>absurd (show(D:Int)=0 by exact_mod_cast e) (by omega))
 have hgn:Nat.gcd x.natAbs y.natAbs≠0:=fun h=>h0 ⟨hz ha (iU.1 (jW h)),hz hb (iU.1 (jJ h))⟩;have hgp:0<Nat.gcd (Nat.gcd x.natAbs y.natAbs) z.natAbs:=iN _ (dM hgn);generalize Nat.gcd (Nat.gcd x.natAbs y.natAbs) z.natAbs=g at*;have hg:((g:Int):Rat)≠0:=fun e=>by
  have:(g:Int)=0:=by exact_mod_cast e
  omega
 have key: ∀{u:Rat} {v w:Int},u*((D:Int):Rat)=(v:Rat)->u*(rgcd (rgcd a b) c)⁻¹=(w:Rat)->w.natAbs<=v.natAbs:=fun{u v w} h k=>by
  have h1:=xW hg hr h;have h2:((g:Int):Rat)*((g:Int):Rat)⁻¹=1:=Rat.mul_inv_cancel _ hg;have h3:(w:Rat)*((g:Int):Rat)=(v:Rat):=by
   rw[<-k,h1];generalize ((g:Int):Rat)⁻¹=s at*;generalize ((g:Int):Rat)=r at*;grind
  have h4:w*(g:Int)=v:=by exact_mod_cast h3
  rw[<-h4,dV,dQ];exact oR _ hgp
 exact⟨key ha e1,key hb e2,key hc e3⟩
def AA{p q:aa}(h:js p q): ¬(p.y-q.y=0/\q.x-p.x=0):=fun⟨h1,h2⟩=>h ⟨by grind,by grind⟩
def NL{p q:aa}(h:js p q):(jB p q).ok:=OS (AA h)
def L7{a b c d k:Nat}(ha:a<2^k)(hb:b<2^k)(hc:c<2^k)(hd:d<2^k):a*b*(c*d)<2^(4*k):=by
 have:=xZ (xZ ha hb) (xZ hc hd);rwa [show k+k+(k+k)=4*k by omega] at this
def zY{a b:Int}{k:Nat}(ha:a.natAbs<2^k)(hb:b.natAbs<2^k):(a-b).natAbs<2^(k+1):=by
 have:=Int.natAbs_sub_le a b;rw[gJ];omega
theorem Ny{p q:aa}(hp:aq p 22)(hq:aq q 22)(h:js p q):LB (jB p q):=by
 obtain⟨⟨a1,a2⟩,⟨b1,b2⟩⟩:=hp;obtain⟨⟨c1,c2⟩,⟨d1,d2⟩⟩:=hq;generalize hK:6*22=K at*;have hpx:=r9 p.x;have hpy:=r9 p.y;have hqx:=r9 q.x;have hqy:=r9 q.y;have hD:0<p.x.den*p.y.den*(q.x.den*q.y.den):=fX (fX p.x.den_pos p.y.den_pos) (fX q.x.den_pos q.y.den_pos);have h0:=AA h;have k:=Vp (c:= -((p.y-q.y)*p.x+(q.x-p.x)*p.y)) (x:=p.y.num*q.y.den*(p.x.den*q.x.den)-q.y.num*p.y.den*(p.x.den*q.x.den)) (y:=q.x.num*p.x.den*(p.y.den*q.y.den)-p.x.num*q.x.den*(p.y.den*q.y.den)) (z:=q.y.num*p.x.num*(p.y.den*q.x.den)-q.x.num*p.y.num*(p.x.den*q.y.den)) h0 hD (by push_cast;grind) (by push_cast;grind) (by push_cast;grind);have key: ∀{a b:Int} {c d:Nat},a.natAbs<2^K->b.natAbs<2^K->c<2^K->d<2^K->(a*b*((c:Int)*(d:Int))).natAbs<2^(4*K):=fun{a b c d} ha hb hc hd=>by
  rw[dV,dV,dV,dQ,dQ];exact L7 ha hb hc hd
 have hn: ∀{n:Nat} {m:Nat},n<2^m->((n:Int)).natAbs<2^m:=fun h=>by rw[dQ];exact h
 have up: ∀{n m:Nat},n<=m->m<2^(4*K+1)->n<2^576:=fun h1 h2=>fV h1 (FL (m:=4*K+1) (k:=576) h2 (by omega));obtain⟨k1,k2,k3⟩:=k;exact⟨⟨up k1 (zY (key b1 (hn d2) a2 c2) (key d1 (hn b2) a2 c2)),up k2 (zY (key c1 (hn a2) b2 d2) (key a1 (hn c2) b2 d2)),up k3 (zY (key d1 a1 b2 c2) (key c1 b1 a2 d2))⟩⟩
abbrev PZ:aa:=⟨0,0⟩
def fB(r:List aa)(i:Nat):aa:=r.getD ((i+1)%r.length) PZ
def qk(v w:aa):aE:=⟨jB v w,⟨du (jB v w) v,du (jB v w) w,false,false⟩⟩
def oC(r:List aa):Nat->List aE
 |0=>[]
 |k+1=>oC r k++[qk (r.getD k PZ) (fB r k)]
def iw(r:List aa):List aE:=oC r r.length
structure RgV (r:List aa):Prop where
 n3:3<=r.length
 n6:r.length<=6
 bd: ∀p∈r,aq p 7
 ne: ∀i<r.length,js (r.getD i PZ) (fB r i)
def Cw{r:List aa}{i:Nat}(h:i<r.length):r.getD i PZ∈r:=by
 rw[aJ,aQ h];exact iL h
def JC{r:List aa}{i:Nat}(h:i<r.length):fB r i∈r:=Cw (cJ _ (by omega))
def FH(rs:List (List aa)):List aE:=rs.flatMap iw
def Ka(r:List aa)(p:aa):Nat->Int
 |0=>0
 |k+1=>Ka r p k+HR (r.getD k PZ) (fB r k) p
def OJ(r:List aa)(p:aa):Int:=Ka r p r.length
def OX(rs:List (List aa))(fill:Int)(p:aa):Bool:=lm fill (rs.foldl (fun n r=>n+OJ r p) 0)
def NK(rs:List (List aa))(fill:Int):Tr:=yJ (OX rs fill) (FH rs).length (FH rs) []
def X4(rs:List (List aa))(fill:Int):Tr:=(NK rs fill).restrict []
def aDo(r:List aa)(q p:aa):Prop:= ∀k,k<r.length->Jj (r.getD k PZ) (fB r k) q p
def VC{a b c:Rat}{i:Nat}[ha:BQ a i][hb:BQ b i][hc:BQ c i](h0: ¬(a=0/\b=0))(hi:i<=4000:=by decide):PF GB prog 184 [eF a,eF b,eF c] (.tp [cA (d8 a b c),vB true]):=by
 obtain⟨e1,e2,e3⟩:=Il (c:=c) h0;haveI:BQ a 4000:=ha.mono hi;haveI:BQ b 4000:=hb.mono hi;haveI:BQ c 4000:=hc.mono hi;haveI:BQ (rgcd a b) 16000:=BQ.mono (inferInstance:BQ (rgcd a b) _);haveI:BQ (rgcd (rgcd a b) c) 40000:=BQ.mono (inferInstance:BQ (rgcd (rgcd a b) c) _);haveI:BQ (rgcd (rgcd a b) c)⁻¹ 40000:=BQ.mono (inferInstance:BQ (rgcd (rgcd a b) c)⁻¹ _);have hl4:([((d8 a b c).a:Rat),((d8 a b c).b:Rat),((d8 a b c).c:Rat)].map eF).length=3:=J;have hl3:[((d8 a b c).a:Rat),((d8 a b c).b:Rat),((d8 a b c).c:Rat)].length=3:=J;refine fn func184 J J ntmps184 J J (fun C=>?_);refine cl J (sr (q:=a)) J<|csd 11 J J J (fun hg11=>?_) (fun hg11=>?_)
 .
  refine cl J (sr (q:=b)) J<|bd J J J (fun hc14=>?_) (fun hc14=>?_)
  .
   exact absurd ⟨hg11,hc14⟩ h0
  .
   refine cl rfl (nj (p:=a) (q:=b) (i:=4000) (j:=4000)) rfl<|cl rfl (nj (p:=rgcd a b) (q:=c) (i:=16000) (j:=4000)) rfl<|cl rfl (r6 (q:=rgcd (rgcd a b) c) (i:=40000)) rfl<|ro (fu:=⟨0⟩) J J<|cq (hv:=by simp only[aj];exact⟨by kernel_rfl,by omega⟩) ([((d8 a b c).a:Rat),((d8 a b c).b:Rat),((d8 a b c).c:Rat)].map eF) rfl (yZ (L:=[a,b,c]) (k:=(rgcd (rgcd a b) c)⁻¹) (i:=40000) (by intro q hq;simp only[aR,jU,or_false] at hq;rcases hq with rfl|rfl|rfl;exact ha.mono (by omega);exact hb.mono (by omega);exact hc.mono (by omega)) (nb rfl)) (by simp only[bL,iQ,e1,e2,e3]) rfl<|lb _ J J J<|lb _ J J J<|lb _ J J J<|rz J J
 .
  refine cl rfl (nj (p:=a) (q:=b) (i:=4000) (j:=4000)) rfl<|cl rfl (nj (p:=rgcd a b) (q:=c) (i:=16000) (j:=4000)) rfl<|cl rfl (r6 (q:=rgcd (rgcd a b) c) (i:=40000)) rfl<|ro (fu:=⟨0⟩) J J<|cq (hv:=by simp only[aj];exact⟨by kernel_rfl,by omega⟩) ([((d8 a b c).a:Rat),((d8 a b c).b:Rat),((d8 a b c).c:Rat)].map eF) rfl (yZ (L:=[a,b,c]) (k:=(rgcd (rgcd a b) c)⁻¹) (i:=40000) (by intro q hq;simp only[aR,jU,or_false] at hq;rcases hq with rfl|rfl|rfl;exact ha.mono (by omega);exact hb.mono (by omega);exact hc.mono (by omega)) (nb rfl)) (by simp only[bL,iQ,e1,e2,e3]) rfl<|lb _ J J J<|lb _ J J J<|lb _ J J J<|rz J J
def Mq(p q:aa):jF ⟨q.x-p.x,q.y-p.y⟩=⟨p.y-q.y,q.x-p.x⟩:=by
 unfold jF;simp only[aa.mk.injEq,and_true];grind
def Ms{p q:aa}[hp:aq p 30][hq:aq q 30](h:js p q):PF GB prog 118 [eZ p,eZ q] (.tp [cA (jB p q),vB true]):=by
 haveI:aq (⟨p.y-q.y,q.x-p.x⟩:aa) 61:=⟨inferInstanceAs (BQ (p.y-q.y) _),inferInstanceAs (BQ (q.x-p.x) _)⟩;haveI:BQ (p.y-q.y) 400:=BQ.mono (inferInstance:BQ (p.y-q.y) _);haveI:BQ (q.x-p.x) 400:=BQ.mono (inferInstance:BQ (q.x-p.x) _);haveI:BQ ((⟨p.y-q.y,q.x-p.x⟩:aa).dot p) 400:=BQ.mono (inferInstance:BQ ((⟨p.y-q.y,q.x-p.x⟩:aa).dot p) _);haveI:BQ (-((⟨p.y-q.y,q.x-p.x⟩:aa).dot p)) 400:=inferInstance;refine fn func118 J J ntmps118 J J (fun C=>?_);refine cl J (xG (p:=q) (q:=p) (i:=30) (j:=30)) J<|cl (fu:=⟨0⟩) J (Di (p:=⟨q.x-p.x,q.y-p.y⟩) (i:=61) (h:=qA q p)) J<|ah 12 (.d (eZ ⟨p.y-q.y,q.x-p.x⟩)) J (by rw[Mq])<|gx J<|cl J (ld (p:=⟨p.y-q.y,q.x-p.x⟩) (q:=p) (i:=61) (j:=30)) J<|cl J (kA (q:=(⟨p.y-q.y,q.x-p.x⟩:aa).dot p) (i:=400)) J<|cl J (VC (a:=p.y-q.y) (b:=q.x-p.x) (c:= -((⟨p.y-q.y,q.x-p.x⟩:aa).dot p)) (AA h)) J<|rz J J
theorem Gv{l:ab}{p:aa}(hl:LB l)(hp:aq p 22):BQ (du l p) 1200:=by
 unfold du aa.dot ab.dir;exact BQ.mono (inferInstance:BQ ((p.x*(l.b:Rat)+p.y*((-l.a:Int):Rat))/((l.b:Rat)*(l.b:Rat)+((-l.a:Int):Rat)*((-l.a:Int):Rat))) _)
def Dy{v w:aa}(hv:aq v 22)(hw:aq w 22)(h:js v w):jI (qk v w):=by
 have h1:=Ny hv hw h;exact⟨h1,NL h,⟨fun e=>(by cases e),fun e=>(by cases e)⟩,Gv h1 hv,Gv h1 hw⟩
theorem aq.mono'{p:aa}{i j:Nat}(h:aq p i)(k:i<=j):aq p j:=⟨h.x.mono k,h.y.mono k⟩
def LR{v w:aa}[hv:aq v 22][hw:aq w 22](h:js v w):PF GB prog 69 [eZ v,eZ w] (.tp [bF (qk v w),vB true]):=by
 have hf:=Dy hv hw h;haveI:LB (jB v w):=hf.lb;refine fn func69 J J ntmps69 J J (fun C=>?_);refine cl (fu:=⟨12⟩) J (Ms (hp:=hv.mono' (by decide)) (hq:=hw.mono' (by decide)) h) J<|fy 14 J<|gx J<|cl J (qI (l:=jB v w) (p:=v) (i:=22)) J<|cl J (qI (l:=jB v w) (p:=w) (i:=22)) J<|rz J J
structure Ca (r:List aa):Prop where
 n1:0<r.length
 n9:r.length<=9
 bd: ∀p∈r,aq p 22
 ne: ∀i<r.length,js (r.getD i PZ) (fB r i)
def oP(r:List aa): ∀n,(oC r n).length=n
 |0=>rfl
 |n+1=>by rw[oC,aN,oP r n];rfl
def Ea{r:List aa}{k:Nat}: ∀{n:Nat},k<n->(oC r n)[k]? =some (qk (r.getD k PZ) (fB r k))
 |0,h=>by omega
 |n+1,h=>by
  rw[oC];by_cases e:k=n
  .subst e
   rw[dS (by rw[oP];omega),oP,rZ];rfl
  .rw[cZ (by rw[oP];omega)]
   exact Ea (by omega)
def Ec{r:List aa}: ∀{n:Nat} {f:aE},f∈oC r n-> ∃k,k<n/\f=qk (r.getD k PZ) (fB r k)
 |0,f,h=>by cases h
 |n+1,f,h=>by
  rw[oC] at h;rcases cM.1 h with h|h
  .obtain⟨k,k1,k2⟩:=Ec h
   exact⟨k,by omega,k2⟩
  .exact⟨n,by omega,aL.1 h⟩
def LM{r:List aa}(h:Ca r):(iw r).length=r.length/\ ∀f∈iw r,jI f:=by
 refine⟨oP r _,fun f hf=>?_⟩;obtain⟨k,hk,rfl⟩:=Ec hf;exact Dy (h.bd _ (Cw hk)) (h.bd _ (JC hk)) (h.ne k hk)
def CM{v:List aa}{k:Nat}{p:aa}(h:v[k]? =some p):k<v.length/\p=v.getD k PZ:=
 ⟨(aT.1 h).1,by rw[aJ,h];rfl⟩
def I6{v:List aa}{k:Nat}{p:aa}(h:v[(k+1)%v.length]? =some p):p=fB v k:=(CM h).2
def SO{v:List aa}(h:Ca v):PF GB prog 30 [.sl (v.map eZ)] (.sl ((iw v).map bF)):=by
 have hn:=h.n9;have hel:(iw v).length=v.length:=oP v _;have hrl:(gj v).length=v.length:=by unfold gj;rw[aZ,kX]
 refine wk func30 J J ntmps30 J J (fun C h0=>?_);refine ux J J J uT (fun _=>J) (fun GB1 pv hg1 hpv=>?_);refine KM 3 0 50 139 17 J J J J J<|pc 3 2000003 h0.fx J ?_;refine ul (σ:=Empty) (fun k=>[(2000003,some (.o 91 [.rw 50] true)),(50,some (.b 139 17 (((iw v).take k).map bF) true))]) (fun _=>True) (fun _=>[]) (fun _=>False) [(3, .ov 2000003 0)]
  h0 J (vz) (.cons hpv .nil) ⟨J,trivial⟩ J ⟨J,J,trivial⟩ trivial tZ J J (fun k e GB' hE hg hp=>?_) (fun D hD hx hp=>?_) (fun D s hD hx hq=>hq.elim)
 .obtain⟨p,q,hpx,hqx,rfl⟩:=ve hE
  obtain⟨hk,rfl⟩:=CM hpx;obtain rfl:=I6 hqx;haveI:=h.bd _ (Cw hk);haveI:=h.bd _ (JC hk);have hx:(iw v)[k]? =some (qk (v.getD k PZ) (fB v k)):=Ea hk;have hml:(((iw v).take k).map bF).length=k:=by rw[aZ,aS];omega
  refine⟨?_,?_,fun C2=>?_,fun C2=>?_⟩
  rotate_left 2
  .refine gx J<|tK J J J ⟨J,J,J⟩ J ?_
   exact atR
  .refine gx J<|l7 0 (e:=102) (len:=2) (s:=6) J (by kernel_rfl) (by kernel_rfl) (by decide) J<|l7 1 (e:=102) (len:=2) (s:=6) J (by kernel_rfl) (by kernel_rfl) (by decide) J<|cl J (LR (v:=v.getD k PZ) (w:=fB v k) (h.ne k hk)) J<|rf J J<|ap (((iw v).take (k+1)).map bF) J (HU hx) (vE [qk (v.getD k PZ) (fB v k)]) J<|d4 23 50 J ?_
   exact rq trivial ⟨J,J,trivial⟩
 .rw[hrl,<-hel,bT]
  refine gx J<|gO 50 J ?_;exact vY hD hx J J
def RU{a i:Nat}[h:BN a i](hi:i<=1000000000:=by decide):PF GB prog 194 [dN a] (.v (.bool true)):=
 (xt (ds:=dg a) (dE _).2.1 (by have:=eH (a:=a) hi;omega)).to (by unfold vB;rw[decide_eq_true (dE a).2.2])
def Fe{q:Rat}{i:Nat}[hq:BQ q i](hi:i<=1000000:=by decide):PF GB prog 180 [eR q] (.v (.bool true)):=by
 have hd:=q.den_pos;have hdl:0<(dg q.den).length:=dM fun e=>by have:=lf.1 e;omega
 have hml:((dg q.den).map dU).length=(dg q.den).length:=aZ ..;have hco:Nat.gcd q.num.natAbs q.den=1:=q.reduced;refine fn func180 J J ntmps180 J J (fun C=>?_);refine cl (fu:=⟨0⟩) J (Vt (m:=q.num) (i:=i) (h:=⟨hq.hn⟩) (by omega)) J<|fy 5 J<|gx J<|cl (fu:=⟨0⟩) J (RU (a:=q.den) (i:=i) (h:=⟨hq.hd⟩) (by omega)) J<|fy 10 J<|gx (fu:=⟨6⟩) J<|dq J (by show some (decide _)=some false;rw[decide_eq_false (by omega)]) J<|cl (fu:=⟨0⟩) J (xC (a:=q.num.natAbs) (b:=q.den) (i:=i) (j:=i) (h:=⟨hq.hn⟩) (k:=⟨hq.hd⟩) (by omega) (by omega)) J<|ah 24 (.d (dN 1)) J (by rw[hco])<|gx J<|cl J (oe (a:=1) (i:=1) (h:=⟨by decide⟩)) J<|rz J J
def wT{p:aa}{i:Nat}[hp:aq p i](hi:i<=1000000:=by decide):PF GB prog 113 [dy p] (.v (.bool true)):=by
 refine fn func113 J J ntmps113 J J (fun C=>?_);refine cl (fu:=⟨0⟩) J (Fe (q:=p.x) (i:=i) (by omega)) J<|fy 5 J<|gx J<|cl J (Fe (q:=p.y) (i:=i) (by omega)) J<|rz J J
def DK{m n:Int}(hm:m.natAbs<=1000000:=by decide)(hn:n.natAbs<=1000000:=by decide):PF GB prog 47 [vI m,vI n] (dy (iP m n)):=by
 haveI:=e8 hm;haveI:=e8 hn;haveI:aq (iP m n) 22:=⟨e8 hm,e8 hn⟩;refine fn func47 J J ntmps47 J J (fun C=>?_);refine cl J (vx (m:=m)) J<|cl J (vx (m:=n)) J<|cl J (UW (p:=iP m n) (i:=22)) J<|rz J J
def gt(l:List aa)(p:aa):Int:=match l.findIdx? (fun q=>decide (q.x=p.x/\q.y=p.y)) with
 |some i=>(i:Nat)
 |none=> -1
def wq{l:List aa}{p q:aa}{k:Nat}(hx:l[k]? =some q)(h:(l.take k).all (fun q=>!decide (q.x=p.x/\q.y=p.y))=true)(hq:q.x=p.x/\q.y=p.y):gt l p=(k:Nat):=by
 have hk:=(aT.1 hx).1;have e:l.findIdx? (fun q=>decide (q.x=p.x/\q.y=p.y))=some k:=by
  rw[List.findIdx?_eq_some_iff_getElem];refine⟨hk,?_,fun j hj=>?_⟩
  .rw[(aT.1 hx).2];exact decide_eq_true hq
  .have:=dJ.1 h l[j] (by rw[List.mem_take_iff_getElem];exact⟨j,by omega,J⟩)
   simp at this⊢;intro a b;rcases this with k|k
   .exact k a
   .exact k b
 unfold gt;rw[e]
def U3{l:List aa}{p:aa}(h:l.all (fun q=>!decide (q.x=p.x/\q.y=p.y))=true):gt l p= -1:=by
 have e:l.findIdx? (fun q=>decide (q.x=p.x/\q.y=p.y))=none:=by
  rw[List.findIdx?_eq_none_iff];intro x hx;have:=dJ.1 h x hx;simp at this⊢;intro a b;rcases this with k|k
  .exact k a
  .exact k b
 unfold gt;rw[e]
def VP{l:List aa}{k:Nat}{q:aa}{g:aa->Bool}(hx:l[k]? =some q)(h:(l.take k).all g=true)(hq:g q=true):(l.take (k+1)).all g=true:=by
 rw[cX,hx,List.all_append,h];simp[hq]
def xU{l:List aa}{p:aa}{i:Nat}[hp:aq p i](hl: ∀q∈l,aq q i)(hn:l.length<=100000)(hi:i<=1000000:=by decide):PF GB prog 115 [.sl (l.map eZ),eZ p] (vI (gt l p)):=by
 have hml:(l.map eZ).length=l.length:=aZ ..;refine fn (fu:=⟨11⟩) func115 J J ntmps115 J J (fun C=>?_);refine ah 8 (.d (vI (l.length:Nat))) J (by rw[hml]<;>rfl)<|gx J<|lp (X:=Nat) (fun k=>[(9, .d (vI (k:Nat)))]) (fun k=>[]) (fun k=>k<=l.length/\(l.take k).all (fun q=>!decide (q.x=p.x/\q.y=p.y))=true) (fun k=>l.length-k) 0 J ⟨bJ _,J⟩ (fun _=>J) (fun k hk=>?_);obtain⟨hk,hall⟩:=hk;refine br J J J (fun hc10=>?_) (fun hc10=>?_)
 .
  obtain⟨q,hx⟩: ∃u,l[k]? =some u:=⟨_,aQ (by omega)⟩;haveI:=hl q (aW hx);refine ix _ J (b8 hx) J<|cl J (xV (p:=q) (q:=p) (i:=i) hi) J<|bd J J J (fun hc16=>?_) (fun hc16=>?_)
  .
   exact rz J (by rw[wq hx hall hc16];rfl)
  .
   exact at_ (k+1) ⟨⟨by omega,VP hx hall (by rw[decide_eq_false hc16];rfl)⟩,(by omega)⟩
 .
  obtain rfl:k=l.length:=by omega
  rw[bT] at hall;exact rz J (by rw[U3 hall];rfl)
def cB(l:List aa):Nat->Nat
 |0=>0
 |k+1=>cB l k+if gt l (l.getD k ⟨0,0⟩)=(k:Nat) then 1 else 0
def dF(l:List aa)(k:Nat):Nat:=if 3<=cB l k then 3 else cB l k
def xp{l:List aa}{k:Nat}(h:dF l k<3)(e:cB l (k+1)=cB l k+1):((dF l k:Nat):Int)+1=((dF l (k+1):Nat):Int):=by
 have a:dF l k=if 3<=cB l k then 3 else cB l k:=J
 have b:dF l (k+1)=if 3<=cB l (k+1) then 3 else cB l (k+1):=J
 split at a<;>split at b<;>omega
def ow{l:List aa}{k:Nat}(h: ¬dF l k<3\/cB l (k+1)=cB l k)(m:cB l k<=cB l (k+1)):((dF l k:Nat):Int)=((dF l (k+1):Nat):Int):=by
 have a:dF l k=if 3<=cB l k then 3 else cB l k:=J
 have b:dF l (k+1)=if 3<=cB l (k+1) then 3 else cB l (k+1):=J
 split at a<;>split at b<;>omega
def wD(l:List aa)(k:Nat):dF l k<=3:=by unfold dF;split<;>omega
def Bq{l:List aa}{k:Nat}(h:3<=cB l k):dF l k=3:=by unfold dF;rw[if_pos h]
def JU(l:List aa): ∀k,cB l k<=k
 |0=>aM _
 |k+1=>by
  have:=JU l k;rw[cB];split<;>omega
def rk{l:List aa}{k:Nat}{p:aa}(hx:l[k]? =some p)(h:gt l p=(k:Nat):=by omega):cB l (k+1)=cB l k+1:=by
 rw[cB,aJ,hx,gN,if_pos h]
def wN{l:List aa}{k:Nat}{p:aa}(hx:l[k]? =some p)(h: ¬gt l p=(k:Nat):=by omega):cB l (k+1)=cB l k:=by
 rw[cB,aJ,hx,gN,if_neg h];rfl
def u7{l:List aa}{k:Nat}:cB l k<=cB l (k+1):=by rw[cB];split<;>omega
def uS{v:List aa}{k:Nat}{p:aa}(h:v[k]? =some p):((v.take k).map eZ)++[eZ p]=(v.take (k+1)).map eZ:=by
 rw[cX,h,cK];rfl
def Hk{r:List ZP}(h:en r){k:Nat}(hk:k<r.length):decide ((r.getD k (0,0)).q.x=(d5 r k).q.x/\(r.getD k (0,0)).q.y=(d5 r k).q.y)=false:=decide_eq_false fun e=>h.ne k hk (vu (by
 obtain⟨e1,e2⟩:=e;generalize (r.getD k (0,0)).q=a at*;generalize (d5 r k).q=b at*
 cases a;cases b
 simp only[aa.mk.injEq];exact⟨e1,e2⟩))
def UB{r:List ZP}(h:en r)(h3:3<=cB (r.map ZP.q) (r.map ZP.q).length):PF GB prog 67 [iu r] (.tp [.sl ((r.map ZP.q).map eZ), .v .nilIface]):=by
 have hn:=h.n6;obtain⟨v,hv⟩: ∃v,v=r.map ZP.q:=⟨_,rfl⟩;have hvl:v.length=r.length:=by rw[hv,aZ]
 have hb: ∀p∈v,aq p 22:=fun p hp=>by rw[hv] at hp;obtain⟨z,hz,rfl⟩:=bV.1 hp;exact qq (h.le z hz)
 unfold iu;rw[<-hv] at h3⊢;have hm1:(v.map dy).length=v.length:=aZ ..;have hm2:(v.map eZ).length=v.length:=aZ ..;have hrl:(gj v).length=v.length:=by unfold gj;rw[aZ,kX]
 refine wk (fu:=⟨11⟩) func67 J J ntmps67 J J (fun C h0=>?_);refine ah 13 (.d (vI (v.length:Nat))) J (by rw[hm1]<;>rfl)<|gx (fu:=⟨0⟩) J<|dq (fu:=⟨15⟩) J (by show some (decide _)=some false;rw[decide_eq_false (by omega)]) J<|ah 20 (.d (vI (v.length:Nat))) J (by rw[hm1]<;>rfl)<|gx J<|nr 4 4 102 6 J J J<|lp (X:=Nat) (fun k=>[(21, .d (vI (k:Nat))),(4, .rw 4)]) (fun k=>[(4,some (.b 102 6 ((v.take k).map eZ) true))]) (fun k=>k<=v.length) (fun k=>v.length-k) 0 J (bJ _) (fun _=>J) (fun k hk=>?_);have hm3:((v.take k).map eZ).length<=k:=by rw[aZ,aS];omega
 refine br (fu2:=⟨0⟩) J J J (fun hc22=>?_) (fun hc22=>?_)
 .
  obtain⟨p,hx⟩: ∃u,v[k]? =some u:=⟨_,aQ (by omega)⟩;haveI:=hb p (aW hx);refine ix _ J (b8 hx) J<|cl (fu:=⟨0⟩) J (wT (p:=p) (i:=22)) J<|fy 27 J<|gx J<|cl J (nG (p:=p) (i:=22)) J<|rf J J<|ap ((v.take (k+1)).map eZ) J (uS hx) (lj [p]) J<|d4 41 4 J<|at_ (k+1) ⟨(by omega),(by omega)⟩
 .
  obtain rfl:k=v.length:=by omega
  rw[bT];refine px 4 J<|gx (fu:=⟨15⟩) J<|ah 44 (.d (vI (v.length:Nat))) J (by rw[hm2]<;>rfl)<|gx J<|lp (X:=Nat) (fun k=>[(45, .d (vI (k:Nat))),(7, .d (vI ((dF v k):Nat)))]) (fun k=>[]) (fun k=>k<=v.length) (fun k=>v.length-k) 0 J (bJ _) (fun _=>J) (fun k hk=>?_);have hdm:=wD v k;refine br (fu2:=⟨9⟩) J J J (fun hc46=>?_) (fun hc46=>?_)
  .
   obtain⟨p,hx⟩: ∃u,v[k]? =some u:=⟨_,aQ (by omega)⟩;haveI:=hb p (aW hx);have hcm:=u7 (l:=v) (k:=k);refine ix _ J (b8 hx) J<|cs 52 J J J (fun hg52=>?_) (fun hg52=>?_)
   .
    refine cl J (xU (l:=v) (p:=p) (i:=22) hb (by omega)) J<|br J J J (fun hc58=>?_) (fun hc58=>?_)
    .
     have he7:=xp (by omega) (rk hx);refine ah 7 (.d (vI (dF v (k+1):Nat))) J (by rw[he7]<;>rfl)<|at_ (k+1) ⟨(by omega),(by omega)⟩
    .
     have he7:=ow (.inr (wN hx)) hcm;refine ah 7 (.d (vI (dF v (k+1):Nat))) J (by rw[he7]<;>rfl)<|at_ (k+1) ⟨(by omega),(by omega)⟩
   .
    have he7:=ow (l:=v) (k:=k) (.inl (by omega)) hcm;refine ah 7 (.d (vI (dF v (k+1):Nat))) J (by rw[he7]<;>rfl)<|at_ (k+1) ⟨(by omega),(by omega)⟩
  .
   obtain rfl:k=v.length:=by omega
   have hd3:=Bq h3;refine dq (fu:=⟨9⟩) J (by show some (decide _)=some false;rw[decide_eq_false (by omega)]) J<|ux J J J uT (fun _=>J) (fun GB1 pv hg1 hpv=>?_);refine pc 2 2000002 h0.fx J<|pc 3 2000003 h0.fx J ?_;refine ul (σ:=Empty) (fun _=>[(2000002,some (.o 93 [.nl] true)),(2000003,some (.o 41 [.d (.v .nilIface)] true))]) (fun _=>True) (fun _=>[]) (fun _=>False) [(2, .ov 2000002 0),(3, .ov 2000003 0),(4, .d (.sl (v.map eZ)))] h0 J (vz) (.cons hpv .nil) ⟨J,J,J,trivial⟩ J ⟨J,J,trivial⟩ trivial tZ J J (fun k e GB' hE hg hp=>?_) (fun D hD hx hp=>?_) (fun D s hD hx hq=>hq.elim)
   .obtain⟨p,q,hpx,hqx,rfl⟩:=ve hE
    rw[hvl] at hqx;rw[hv] at hpx hqx;obtain⟨hk,rfl⟩:=v6 hpx;obtain⟨hk2,rfl⟩:=v6 hqx;haveI:=qq (h.le _ (uZ hk));haveI:=qq (h.le _ (yr hk));have hne:=Hk h hk;refine⟨?_,?_,fun C2=>?_,fun C2=>?_⟩
    rotate_left 2
    .refine gx J<|tK J J J ⟨J,J,J⟩ J ?_
     exact atR
    .refine gx J<|l7 0 (e:=102) (len:=2) (s:=6) J (by kernel_rfl) (by kernel_rfl) (by decide) J<|l7 1 (e:=102) (len:=2) (s:=6) J (by kernel_rfl) (by kernel_rfl) (by decide) J<|cl J (xV (p:=(r.getD k (0,0)).q) (q:=(d5 r k).q) (i:=22)) J<|bd J J J (fun hc=>absurd (decide_eq_true hc) (by rw[hne];decide)) (fun hc=>?_)
     exact rq trivial ⟨J,J,trivial⟩
   .refine gx J<|?_
    exact vY hD hx J J
structure WQ where
 n:Bool
 d:List Nat
 e:List Nat
def WQ.D(r:WQ):List DV:=[.v (.bool r.n),bg r.d,bg r.e]
structure WQ.sm (r:WQ):Prop where
 d:aO r.d/\r.d.length<=4
 e:aO r.e/\r.e.length<=4
def WQ.nm(r:WQ):Prop:=jE r.n r.d/\c6 r.e/\0<r.e.length/\Nat.gcd (dv r.d) (dv r.e)=1
instance (r:WQ):Decidable r.nm:=inferInstanceAs (Decidable (_/\_/\_/\_))
def WQ.q(r:WQ):Rat:=mkRat (zv r.n (dv r.d)) (dv r.e)
def xN{ds:List Nat}(h:aO ds)(hn:c6 ds)(hl:0<ds.length):0<dv ds:=by
 refine dM fun e=>?_;have:=pD h hn;rw[e,n8] at this;rw[<-this] at hl;exact absurd hl (Nat.lt_irrefl 0)
def mh{ds:List Nat}(h:aO ds/\ds.length<=4):dv ds<2^(6*22):=by
 refine bS (i8 h.1) ?_;refine fJ (bY (by decide) h.2) ?_;decide+kernel
def WQ.nd{r:WQ}(s:r.sm)(h:r.nm):r.q.num=zv r.n (dv r.d)/\r.q.den=dv r.e:=by
 have hp:=xN s.e.1 h.2.1 h.2.2.1;obtain⟨h1,h2⟩:=Bl (n:=r.n) (a:=dv r.d) hp;rw[h.2.2.2,qX] at h1 h2;exact⟨h1,h2⟩
def J7{n:Bool}{a:Nat}(h:n=true->0<a):decide (zv n a<0)=n:=by
 cases n with
 |false=>unfold zv;simp
 |true=>unfold zv;have:=h J;simp;omega
def WQ.eq{r:WQ}(s:r.sm)(h:r.nm):r.D=[.v (.bool (decide (r.q.num<0))),dN r.q.num.natAbs,dN r.q.den]:=by
 obtain⟨h1,h2⟩:=WQ.nd s h;have hz:decide (zv r.n (dv r.d)<0)=r.n:=J7 fun k=>xN s.d.1 h.1.1 (h.1.2 k);rw[h1,h2,i9,hz];unfold WQ.D dN;rw[pD s.d.1 h.1.1,pD s.e.1 h.2.1];rfl
theorem WQ.bq{r:WQ}(s:r.sm)(h:r.nm):BQ r.q 22:=by
 obtain⟨h1,h2⟩:=WQ.nd s h;exact⟨by rw[h1,i9];exact mh s.d,by rw[h2];exact mh s.e⟩
def zW{n:Bool}{ds:List Nat}(h:aO ds/\ds.length<=4)(k:jE n ds):PF GB prog 130 [.ag [.v (.bool n),bg ds]] (.v (.bool true)):=(H' (neg:=n) ⟨h.1,by have:=h.2;omega⟩).to (by unfold vB;rw[decide_eq_true k])
def Xs{n:Bool}{ds:List Nat}(h:aO ds/\ds.length<=4)(k: ¬jE n ds):PF GB prog 130 [.ag [.v (.bool n),bg ds]] (.v (.bool false)):=(H' (neg:=n) ⟨h.1,by have:=h.2;omega⟩).to (by unfold vB;rw[decide_eq_false k])
def Hi{ds:List Nat}(h:aO ds/\ds.length<=4)(k:c6 ds):PF GB prog 194 [bg ds] (.v (.bool true)):=(xt h.1 (by have:=h.2;omega)).to (by unfold vB;rw[decide_eq_true k])
def ON{ds:List Nat}(h:aO ds/\ds.length<=4)(k: ¬c6 ds):PF GB prog 194 [bg ds] (.v (.bool false)):=(xt h.1 (by have:=h.2;omega)).to (by unfold vB;rw[decide_eq_false k])
def Pp{a b:List Nat}(ha:aO a/\a.length<=4)(hb:aO b/\b.length<=4)(na:c6 a)(nb:c6 b):PF GB prog 199 [bg a,bg b] (dN (Nat.gcd (dv a) (dv b))):=by
 haveI:BN (dv a) 22:=⟨mh ha⟩;haveI:BN (dv b) 22:=⟨mh hb⟩;have:=xC (GB:=GB) (a:=dv a) (b:=dv b) (i:=22) (j:=22);unfold dN at this⊢;rw[pD ha.1 na,pD hb.1 nb] at this;exact this
def TP{r:WQ}(s:r.sm)(h: ¬jE r.n r.d):PF GB prog 180 [.ag [.v (.bool r.n),bg r.d,bg r.e]] (.v (.bool false)):=by
 refine fn func180 J J ntmps180 J J (fun C=>?_);refine cl (fu:=⟨0⟩) J (Xs s.d h) J<|oF 5 J<|gx J<|rz J J
def Mk{r:WQ}(s:r.sm)(h1:jE r.n r.d)(h: ¬c6 r.e):PF GB prog 180 [.ag [.v (.bool r.n),bg r.d,bg r.e]] (.v (.bool false)):=by
 refine fn func180 J J ntmps180 J J (fun C=>?_);refine cl (fu:=⟨0⟩) J (zW s.d h1) J<|fy 5 J<|gx J<|cl (fu:=⟨0⟩) J (ON s.e h) J<|oF 10 J<|gx J<|rz J J
def VB{r:WQ}(s:r.sm)(h1:jE r.n r.d)(h2:c6 r.e)(h:r.e.length=0):PF GB prog 180 [.ag [.v (.bool r.n),bg r.d,bg r.e]] (.v (.bool false)):=by
 have hml:(r.e.map dU).length=r.e.length:=aZ ..;refine fn func180 J J ntmps180 J J (fun C=>?_);refine cl (fu:=⟨0⟩) J (zW s.d h1) J<|fy 5 J<|gx J<|cl (fu:=⟨0⟩) J (Hi s.e h2) J<|fy 10 J<|gx (fu:=⟨6⟩) J<|ic J (by show some (decide _)=some true;rw[decide_eq_true (by omega)]) J<|rz J J
def Pk{r:WQ}(s:r.sm)(h1:jE r.n r.d)(h2:c6 r.e)(h3:0<r.e.length):PF GB prog 180 [.ag [.v (.bool r.n),bg r.d,bg r.e]] (vB (decide (((bl (Nat.gcd (dv r.d) (dv r.e)):Nat):Int)=1))):=by
 have hml:(r.e.map dU).length=r.e.length:=aZ ..;haveI:BN (Nat.gcd (dv r.d) (dv r.e)) 50:=BN.mono (show BN (Nat.gcd (dv r.d) (dv r.e)) (22+22) from(haveI:BN (dv r.d) 22:=⟨mh s.d⟩;haveI:BN (dv r.e) 22:=⟨mh s.e⟩;inferInstance)) (by decide);refine fn func180 J J ntmps180 J J (fun C=>?_);refine cl (fu:=⟨0⟩) J (zW s.d h1) J<|fy 5 J<|gx J<|cl (fu:=⟨0⟩) J (Hi s.e h2) J<|fy 10 J<|gx (fu:=⟨6⟩) J<|dq J (by show some (decide _)=some false;rw[decide_eq_false (by omega)]) J<|cl J (Pp s.d s.e h1.1 h2) J<|cl J (oe (a:=Nat.gcd (dv r.d) (dv r.e)) (i:=50)) J<|rz J J
def MS{a:Nat}(h:0<a):(((bl a:Nat):Int)=1)↔a=1:=by
 have h1:bl a<=1↔a<2^1:=iE;have h2:bl a<=0↔a<2^0:=iE;omega
def J1{r:WQ}(s:r.sm):PF GB prog 180 [.ag [.v (.bool r.n),bg r.d,bg r.e]] (vB (decide r.nm)):=by
 have no: ¬r.nm->vB (decide r.nm)= .v (.bool false):=fun h=>by unfold vB;rw[decide_eq_false h]
 by_cases h1:jE r.n r.d
 .by_cases h2:c6 r.e
  .by_cases h3:r.e.length=0
   .rw[no fun h=>by have:=h.2.2.1;omega];exact VB s h1 h2 h3
   .have hp:=xN s.e.1 h2 (by omega)
    have e:decide (((bl (Nat.gcd (dv r.d) (dv r.e)):Nat):Int)=1)=decide r.nm:=decide_eq_decide.2 ((MS (jM _ hp)).trans ⟨fun k=>⟨h1,h2,by omega,k⟩,fun k=>k.2.2.2⟩);rw[<-e];exact Pk s h1 h2 (by omega)
  .rw[no fun h=>h2 h.2.1];exact Mk s h1 h2
 .rw[no fun h=>h1 h.1];exact TP s h1
structure WP where
 x:WQ
 y:WQ
def WP.D(r:WP):DV:= .ag [.v (.bool r.x.n),bg r.x.d,bg r.x.e, .v (.bool r.y.n),bg r.y.d,bg r.y.e]
structure WP.sm (r:WP):Prop where
 x:r.x.sm
 y:r.y.sm
def WP.nm(r:WP):Prop:=r.x.nm/\r.y.nm
instance (r:WP):Decidable r.nm:=inferInstanceAs (Decidable (_/\_))
def WP.p(r:WP):aa:=⟨r.x.q,r.y.q⟩
def WP.eq{r:WP}(s:r.sm)(h:r.nm):r.D=dy r.p:=by
 have h1:=WQ.eq s.x h.1;have h2:=WQ.eq s.y h.2;unfold WQ.D at h1 h2;unfold WP.D dy WP.p;simp only[List.cons.injEq,and_true] at h1 h2;obtain⟨a1,a2,a3⟩:=h1;obtain⟨b1,b2,b3⟩:=h2;rw[a1,a2,a3,b1,b2,b3]
theorem WP.bpt{r:WP}(s:r.sm)(h:r.nm):aq r.p 22:=⟨WQ.bq s.x h.1,WQ.bq s.y h.2⟩
def Oo{r:WP}(s:r.sm):PF GB prog 113 [r.D] (vB (decide r.nm)):=by
 refine fn func113 J J ntmps113 J J (fun C=>?_);refine cl J (J1 (r:=r.x) s.x) J<|csd 6 J J J (fun hg6=>?_) (fun hg6=>?_)
 .
  refine cl J (J1 (r:=r.y) s.y) J<|rz J (by show DV.v (.bool _)= .v (.bool _);unfold WP.nm;simp_all)
 .
  exact rz J (by show DV.v (.bool _)= .v (.bool _);unfold WP.nm;simp_all)
def Q7{r:WP}(s:r.sm)(h:r.nm):PF GB prog 50 [r.D] (eZ r.p):=by
 haveI:=WP.bpt s h;rw[WP.eq s h];exact nG (i:=22)
end Go.Sx
end
section
namespace Go.Sx
open Go Go.Proofs Go.RowKit Go.Extern.Stop Go.Stop Go.Extern
def P9(v:Value)(xT:TypeId)(w:World):(Instr.typeAssert (.iface 156 v) xT 188 true).run Tryz.prog w= .ok (.tuple #[.nilIface, .bool false]) w:=run_typeAssert_lacksB Tryz.underlying188 (by kernel_rfl) (by kernel_rfl) v xT w
def To(v:Value)(xT:TypeId)(w:World):(Instr.typeAssert (.iface 156 v) xT 191 true).run Tryz.prog w= .ok (.tuple #[.iface 156 v, .bool true]) w:=run_typeAssert_hasB Tryz.underlying191 (by kernel_rfl) v xT w
def Ta(n:Nat)(v:Value)(w:World):(Go.method (n+1) 156 v "Unwrap").run Tryz.prog w= .ok (307,v) w:=by kernel_rfl
def Tq(b po:Nat)(a:Addr)(w:World)(h1:w.cell? ⟨b,po,none⟩=some (.iface 364 (.pointer (some a)))):Calls Tryz.prog 13 #[.iface 156 (.pointer (some ⟨b,po,none⟩)), .iface 364 (.pointer (some a))] w fun e w'=>e= .returned (.bool true)/\w'=w:=by
 obtain⟨i,hi,hcmp⟩:=kY.1 Ib;obtain⟨j,hj,hjs⟩:=kY.1 Fq;have h8:= @run_callFunc_extern Tryz.prog 40 _ Extern.ReflectliteType.typeOf Tryz.func40 (by kernel_rfl) (by kernel_rfl) (by kernel_rfl) (by kernel_rfl);have h32:= @run_callFunc_extern Tryz.prog 311 _ (Extern.ReflectliteType.method A7) Tryz.func311 (by kernel_rfl) (by kernel_rfl) (by kernel_rfl) (by kernel_rfl);have tT:=Ke;have cT:=Jl;obtain⟨g,hg⟩: ∃g,g=Tryz.prog.globals.size:=⟨_,rfl⟩;simp only[<-hg] at tT cT;clear hg;have mR:=DS;have nW:=P9;have uW:=To;have mU:=Ta;have heq:=run_eql_iface_ptr_same (P:=Tryz.prog) w a Tryz.underlying41 Tryz.underlying364 hi hcmp hj;have hty:=run_eql_iface_types (P:=Tryz.prog) 156 364 (.pointer (some ⟨b,po,none⟩)) (.pointer (some a)) Tryz.underlying41 (by decide) w
 go_enter Tryz.func13,Tryz.ntmps13
 go_wp2
 refine wp_loop_rounds 2 ?_;rw[rounds_succ]
 go_wp2
 rw[rounds_succ]
 go_wp2
 go_ret
 exact⟨J,J⟩
end Go.Sx
end
section
namespace Go.Sx
open Go Go.Proofs Tryz
variable {GB:Gh}
def PE(GB:Gh)(P:Program)(f:FuncId)(ds:List DV)(d:DV)(rv:Value->DV):Prop:=
 ∀G vs,ba GB G->IsLs G ds vs->Fn P f vs G (fun v G'=> ∃u,Is G' d u/\Is G' (rv u) v)
section
variable {GB:Gh} {C:az} {n:Nat} {Q0:Exit->Act->World->Prop} {fr fr':ao} {own own':aA} {cf cf':Cf} {vc:List Prop} {ops:Array Oper} {r:List Oper} {K:List Kt} {dst:Option Nat} {ty:TypeId} {pos:String} {af:Array Edge}
def Nn{P:Program}{lk:LK}{bk:BM}{fo:Operand}{args:Array Operand}{tys:Array TypeId}{f:FuncId}{ds:List DV}{d:DV}{rv:Value->DV}(ha:ke lk fo args=some (f,ds))(hF:PE GB P f ds d rv)(hd:cC n dst=true)
  {Q:Exit->Act->World->Prop}{ops:Array Oper}(hk: ∀GB' u,ba GB GB'->Is GB' d u->SX GB' C n (c7 lk dst (.d (rv u))) bk (wpListIn (FW C.rd) 0 P ops Q r)):SX GB C n lk bk (wpListIn (FW C.rd) 0 P ops Q (⟨dst, .call ⟨.value fo,args,tys⟩,ty,pos,af,none⟩::r)):=by
 refine⟨fun ρ G ov a w rl0=>?_⟩;obtain⟨h1,h2⟩:=s6 ha;obtain⟨y,hy,hy'⟩:=rl0.ev h1;rw[(aH (G:=G)).1 hy'] at hy;obtain⟨vs,h3,h4⟩:=rl0.evDs h2;have hch:=zC (n:=n) (dst:=dst) (tys:=tys) (ty':=ty) (pos:=pos) (af:=af) (gd:=none) (Φ:=fun a w=>a.defers=C.mks/\wpListIn (FW C.rd) 0 P ops Q r a w) hy h3 (hF G vs rl0.gb h4) hd (fun v G' hG hK a' w' rl=>by
  obtain⟨x,hu,hx⟩:=hK;exact⟨rl.df,(hk G' x (rl0.gb.trans hG.le) hu).run ρ G' ov a' w' ⟨ba.refl _,rl.h,rl.sz,rl.df,(i7 rl).fx (fun k g _ e=>by obtain⟨u,h5,h6⟩:=rl0.fx k g e;exact⟨u,h5,h6.up hG.le⟩) hx,
   fun nm B e=>by obtain⟨os,h5,h6⟩:=rl0.bx nm B e;exact⟨os,h5.up hG.le,h6⟩,rl0.dj,rl0.fxd⟩⟩)
 have:=fun Q=>hch a w Q ⟨rl0.h,rl0.sz,ci a,rl0.df⟩;simp only[wpListIn,Region.wanted,if_true];exact tG this fun a' w' k=>⟨k.1.trans rl0.df.symm,k.2⟩
def cE[fu:Fu]{fo:Operand}{args:Array Operand}{tys:Array TypeId}{f:FuncId}{ds:List DV}{d:DV}{rv:Value->DV}{vc:Value->List Prop}{fr':Value->ao}{own':Value->aA}{cf':Value->Cf}(ha:ke (aD fr) fo args=some (f,ds))(hF:PE GB prog f ds d rv)
  (hgo: ∀x,bP tt n fu.n fr own (.ops ops (⟨dst, .call ⟨.value fo,args,tys⟩,ty,pos,af,none⟩::r) K) (.d (rv x)) [] []=⟨vc x,fr' x,own' x,cf' x⟩)(k: ∀GB' x,ba GB GB'->Is GB' d x->ak prog GB' C n Q0 (fr' x) (own' x) (cf' x))
  (hd:cC n dst=true:=by rfl)(hv: ∀x,aj (vc x):=by intro;first|exact trivial|(simp only[aj];kernel_rfl)|(simp only[aj];omega)):ak prog GB C n Q0 fr own (.ops ops (⟨dst, .call ⟨.value fo,args,tys⟩,ty,pos,af,none⟩::r) K):=by
 refine Nn ha hF hd fun GB' x hg hx=>?_;have h1:=hgo x;unfold bP at h1;simp only[mw,List.all_nil,hd,pL,cond_true,kr,qx] at h1;have:=dw (GB:=GB') (C:=C) (Q0:=Q0) h1 (hv x) (k GB' x hg hx);show SX GB' C n _ _ _;rw[<-vr];exact this
def l4[fu:Fu]{f:FuncId}{fb:Func}{c:Code}{m:Nat}{ds:List DV}{d:DV}{rv:Value->DV}(hf:prog.funcs[f]? =some fb)(hb:fb.body=some c)(hn:(fb.name== "runtime.NumGoroutine")=false)(hm:fb.ntmps=m)(hlen:Nat.ble ds.length m=true)
  (hgo:go tt m fu.n [] (jA 0 ds) [] (.code c [])=⟨vc,fr,own,cf⟩)(k: ∀C:az,ak prog GB C m (dx C prog fb (d6 C (fun v G'=> ∃u,Is G' d u/\Is G' (rv u) v))) fr own cf)
  (hv:autoParam (aj vc) Tb._auto_1):PE GB prog f ds d rv:=by
 intro G vs hg hvs;refine Fn.introR hf hb hn hm (by rw[hvs.len];exact hlen) fun C _ _ hrd hfx=>?_;intro a w rl;refine oh hrd ?_;have h:=dw (GB:=GB) (C:=C) (Q0:=dx C prog fb (d6 C (fun v G'=> ∃u,Is G' d u/\Is G' (rv u) v))) hgo hv (k C);exact h.run (fun _=>⟨none,0,0⟩) G [] a w ⟨hg,rl.h,rl.sz,rl.df,(fun k f e=>n5 hvs rl.fr k f e),(fun nm B e=>by cases e),(fun nm nm' B B' e=>by cases e),fun nm p _ _ e=>by rw[hfx] at e;cases e⟩
def ml{fb:Func}{e:Exit}{ds:List DV}{d:DV}{rv:Value->DV}(u:Value)(hu:Is GB d u)(hr:jP tt fr own fb.results.toList=some ds)(hd:iH ds=rv u)(he:rp e=true:=by rfl):ak prog GB C n (dx C prog fb (d6 C (fun v G'=> ∃u,Is G' d u/\Is G' (rv u) v))) fr own (.ex e []):=by
 refine⟨fun ρ G ov a w r=>?_⟩;obtain⟨vs,h1,h2⟩:=qD r hr;have hk: ∃u,Is G d u/\Is G (rv u) (i4 vs):=⟨u,hu.up r.gb,hd▸rL h2⟩
 cases e with
 |ret=>exact zD (C:=C) (n:=n) (fr:=cg a) (own:=ov) (G:=G) (K:=fun v G'=> ∃u,Is G' d u/\Is G' (rv u) v) h1 hk a w ⟨r.h,r.sz,ci a,r.df⟩
 |normal=>exact vC (C:=C) (n:=n) (fr:=cg a) (own:=ov) (G:=G) (K:=fun v G'=> ∃u,Is G' d u/\Is G' (rv u) v) h1 hk a w ⟨r.h,r.sz,ci a,r.df⟩
 |_=>cases he
def Uk{lk:LK}{bk:BM}{gd:Option (Nat×Bool)}{t:TypeId}{x:Operand}{l:List DV}(ht:sj t)(hx:aB lk x=some (.d (.pt l))):bw prog GB C n lk bk ⟨dst, .makeInterface t x,ty,pos,af,gd⟩ (.ip t (.pt l)) [] []:=
 bw.yd fun ρ G ov a w r=>by
  obtain⟨y,hy,hy'⟩:=r.ev hx;refine⟨_,⟨y,J,hy'⟩,fun a' w' hf _=>?_⟩;refine cp (f:=Next.value) ?_;rw[bh hf hy];exact ht _ _
def Es(fr:ao)(cf:Cf):Option (TypeId×List DV):=match bE fr cf with
 |some ⟨_, .makeInterface t x,_,_,_,_⟩=>match aB (aP fr cf) x with
  |some (.d (.pt l))=>some (t,l)
  |_=>none
 |_=>none
def wV[fu:Fu]{t:TypeId}{l:List DV}(ha:Es fr cf=some (t,l))(ht:sj t)(hgo:bP tt n fu.n fr own cf (.ip t (.pt l)) [] []=⟨vc,fr',own',cf'⟩)(k:ak prog GB C n Q0 fr' own' cf')
  (hv:autoParam (aj vc) Tb._auto_1):ak prog GB C n Q0 fr own cf:=by
 unfold Es at ha;split at ha<;>try (cases ha;done)
 rename_i hh;split at ha<;>cases ha;rename_i hx;exact us hh (Uk ht hx) hgo hv k
def BA(nm:Nat){t ty:TypeId}{l:List DV}{lo:Bool}{e:Exit}(hl:aI own nm=some (.o ty [.ip t (.pt l)] lo))(h: ∀(GB':Gh) (u:Value),ba GB GB'->Is GB' (.pt l) u->ak prog GB' C n Q0 fr ((nm,some (.o ty [.d (.v (.iface t u))] lo))::own) (.ex e K)):ak prog GB C n Q0 fr own (.ex e K):=by
 refine⟨fun ρ G ov a w r0=>?_⟩;obtain⟨os,⟨b,m,hb,rfl,hm⟩,h2⟩:=r0.bx nm _ hl;obtain⟨y,m',rfl,⟨u,rfl,hu⟩,hm'⟩:=hm;refine(h G u r0.gb hu).run ρ G ov a w ⟨ba.refl _,r0.h,r0.sz,r0.df,r0.fx,fun k B e=>?_,fun k k' B B' e e' hne=>?_,r0.fxd⟩
 .rw[fI] at e
  split at e
  .rename_i hj
   cases e;subst hj
   exact⟨_,⟨b,_,hb,J,_,m',J,(aH (G:=G)).2 J,hm'⟩,h2⟩
  .exact r0.bx k B e
 .have f: ∀(j:Nat) (B:Bk),aI ((nm,some (.o ty [.d (.v (.iface t u))] lo))::own) j=some B-> ∃B0,aI own j=some B0:=fun j B e=>by
   rw[fI] at e;split at e
   .rename_i hj;exact⟨_,hj▸hl⟩
   .exact⟨_,e⟩
  obtain⟨B1,e1⟩:=f k B e;obtain⟨B2,e2⟩:=f k' B' e';exact r0.dj k k' B1 B2 e1 e2 hne
end
def yu:sj 156:=fun x w=>by kernel_rfl
def jG(u:Value):DV:= .v (.iface 156 u)
def jj(a:Addr)(s:Value):DV:= .pt [j' a,vI 0,vI 0, .v s]
def vy{a:Addr}{s u:Value}(h:Is GB (jj a s) u):PF GB prog 13 [jG u,j' a] (.v (.bool true)):=by
 intro G vs hg hv;obtain⟨v1,m,rfl,h1,hm⟩:=bi.1 hv;obtain⟨v2,m,rfl,h2,hm⟩:=bi.1 hm;rw[b4] at hm;subst hm
 cases aH.1 h1;cases aH.1 h2
 obtain⟨b,cs,rfl,hb,hc⟩:=mD.1 (h.up hg);obtain⟨y,t,rfl,hy,_⟩:=bi.1 hc
 cases aH.1 hy
 refine⟨Dx,fun w hw=>(Tq b 0 a w ?_).mono fun e w' ⟨he,hww⟩=>⟨_,G,he,by
  subst hww;exact⟨J,J,J,aM _,fun _ _ _=>J,hw,ba.refl _,fun _ _=>J,fun o ho=>(by cases ho), .nil,aM _,fun p hp=>by cases hp⟩,aH.2 J⟩⟩
 obtain⟨ty,fz,hw2⟩:=hw b _ hb;simp[World.cell?,hw2]
section
variable {GB:Gh} {C:az} {n:Nat} {Q0:Exit->Act->World->Prop} {fr fr':ao} {own own':aA} {cf cf':Cf} {vc:List Prop}
def Gz(fr:ao)(cf:Cf):Option (ByteArray×ByteArray):=match bE fr cf with
 |some ⟨_, .binOp .add _ x y _,_,_,_,_⟩=>match aB (aP fr cf) x,aB (aP fr cf) y with
  |some (.d (.v (.string p))),some (.d (.v (.string q)))=>some (p,q)
  |_,_=>none
 |_=>none
def xu[fu:Fu]{p q:ByteArray}(h:Gz fr cf=some (p,q))(hs:p.size+q.size<=1000000)(hgo:bP tt n fu.n fr own cf (.d (.v (.string (p++q)))) [] []=⟨vc,fr',own',cf'⟩)(k:ak prog GB C n Q0 fr' own' cf')
  (hv:autoParam (aj vc) Tb._auto_1):ak prog GB C n Q0 fr own cf:=by
 unfold Gz at h;split at h<;>try (cases h;done)
 rename_i hh;split at h<;>cases h;rename_i h1 h2;exact us hh (.yd fun ρ G ov a w r=>by
  obtain⟨y1,hy1,hz1⟩:=r.ev h1;obtain⟨y2,hy2,hz2⟩:=r.ev h2;obtain rfl:=(aH (G:=G)).1 hz1;obtain rfl:=(aH (G:=G)).1 hz2;refine⟨_,(aH (G:=G)).2 J,fun a' w' hf _=>?_⟩;simp only[execOp,bh hf hy1,bh hf hy2];have he: ∀t x y,(eqGuard .add t x y (.string p) (.string q)).run prog w'= .ok () w':=fun _ _ _=>J;have hb: ¬(((p.size+q.size:Nat):Int)>IntKind.i64.max):=by
   have:IntKind.i64.max=9223372036854775807:=by decide
   omega
  have hr: ∀t,(binOp .add t (.string p) (.string q)).run prog w'= .ok (.string (p++q)) w':=fun t=>by
   show(Op.stringOp .add p q).run prog w'=_;simp only[Op.stringOp,if_neg hb];rfl
  exact cp (by rw[aG (he _ _ _)];exact hr _)) hgo hv k
end
def Pc(i:Nat)(hi:i<100):(Lib.decDigits i).toArray.size<=2:=by
 have key: ∀i:Fin 100,(Lib.decDigits i.val).toArray.size<=2:=by decide+kernel
 exact key ⟨i,hi⟩
def xc(i:Nat):ByteArray:=⟨(Lib.decDigits i).toArray⟩
def vG(i:Nat)(hi:i<100:=by omega):(xc i).size<=2:=Pc i hi
def JA{i:Nat}(hi:i<100:=by omega):PF GB prog 114 [vI (i:Nat)] (.v (.string (xc i))):=fun G vs _ hv=>by
 obtain⟨v,m,rfl,h1,h2⟩:=bi.1 hv
 cases b4.1 h2
 obtain rfl:=aH.1 h1;exact(Fn.of_calls (G:=G) (zn func114 J J) (fun w=>Tryz.strconv_Itoa_small i hi w)).mono fun v G' _ h=>by subst h;exact aH.2 J
section
variable {GB:Gh} {C:az} {n:Nat} {fr:ao} {own:aA} {cf:Cf} {vc:List Prop}
def uK(C:az)(d:DV)(rv:Value->DV):Value->Gh->Prop:=fun v G'=> ∃u,Is G' d u/\Is G' (rv u) v
def M6[fu:Fu]{f:FuncId}{fb:Func}{c:Code}{m:Nat}{ds:List DV}{d:DV}{rv:Value->DV}(hf:prog.funcs[f]? =some fb)(hb:fb.body=some c)(hn:(fb.name== "runtime.NumGoroutine")=false)(hm:fb.ntmps=m)(hlen:Nat.ble ds.length m=true)
  (hgo:go tt m fu.n [] (jA 0 ds) [] (.code c [])=⟨vc,fr,own,cf⟩)(k: ∀C:az,BP C->ak prog GB C m (sA prog fb (d6 C (uK C d rv))) fr own cf)
  (hv:autoParam (aj vc) fn._auto_1):PE GB prog f ds d rv:=by
 intro G vs hg hvs;refine⟨⟨fb,hf,hn,by simp[hb]⟩,fun w hw=>?_⟩;have hlen':vs.length<=m:=by rw[hvs.len];simpa using hlen
 have h:=dw (GB:=GB) (C:=fH w G) (Q0:=sA prog fb (d6 (fH w G) (uK (fH w G) d rv))) hgo hv (k (fH w G) ⟨J,J,J⟩);refine(callsIn_wide (n:=0)).1 (callsIn_of_wp_marks (F:=FW none) (n:=0) hf hb trivial ?_);refine h.run (fun _=>⟨none,0,0⟩) G [] _ w ⟨hg,vX hw,by simp;omega,J,fun k f e=>n5 hvs (fun k v hk=>?_) k f e,(fun nm B e=>by cases e),(fun nm nm' B B' e=>by cases e),fun nm p _ _ e=>by cases e⟩;obtain⟨j,rfl,hj⟩:=pG vs 0 k v hk;have hj':=(aT.1 hj).1;rw[fN (by simpa using hj')];simpa using hj
def Vy{fb:Func}{e:Exit}{ds:List DV}{d:DV}{rv:Value->DV}{D:Nat}(u:Value)(hu:Is GB d u)(hD:C.w0.heap.size<=D)(hx: ∀p∈C.ex,p.1≠D)(hr:jP tt fr own fb.results.toList=some ds)(hd:iH ds=rv u)(he:rp e=true:=by rfl):ak prog GB (C.mk3 D) n (sA prog fb (d6 C (uK C d rv))) fr own (.ex e []):=by
 refine⟨fun ρ G ov a w r=>?_⟩;obtain⟨vs,h1,h2⟩:=qD r hr;have hk:uK C d rv (i4 vs) G:=⟨u,hu.up r.gb,hd▸rL h2⟩;have hex:((D,Obj.deferred (some [])):Nat×Obj)∈(C.mk3 D).ex:=aX;have h3:bj C ov G (w.putObj D (.deferred none)):=r.h.putx hex hD (fun _ _ _ h=>by cases h) J J J fun p hp=> .inr ⟨aK _ hp,hx p hp⟩;have hres:=nv (C:=C) (G:=G) (own:=ov) (w:=w.putObj D (.deferred none)) h1 (ci a) h3;have key:LeavesInM (FW none) 0 prog fb a.tmps (d6 C (uK C d rv)) a.defers .returning w:=by
  rw[r.df];exact⟨by simp, .inl ⟨D,_,J,run_takeDeferred (r.h.ext _ hex).2,_,hres,_,G,J,h3.drop (kL _),hk⟩⟩
 cases e with
 |ret=>exact key
 |normal=>exact key
 |_=>cases he
def Oq{Q0:Exit->Act->World->Prop}{K:List Kt}(k:Nat){t:TypeId}{d:DV}{e:Exit}(hl:aD fr k=some (.ip t d))(h: ∀(GB':Gh) (u:Value),ba GB GB'->Is GB' d u->ak prog GB' C n Q0 ((k, .d (.v (.iface t u)))::fr) own (.ex e K)):ak prog GB C n Q0 fr own (.ex e K):=by
 refine⟨fun ρ G ov a w r0=>?_⟩;obtain⟨y,hy,u,rfl,hu⟩:=r0.fx k _ hl;refine(h G u r0.gb hu).run ρ G ov a w ⟨ba.refl _,r0.h,r0.sz,r0.df,fun j f e=>?_,r0.bx,r0.dj,r0.fxd⟩;rw[e7] at e;split at e
 .rename_i hj
  cases e;subst hj
  exact⟨_,hy,(aH (G:=G)).2 J⟩
 .exact r0.fx j f e
end
structure ew (GB:Gh) (ai al ar:Addr):Prop where
 ErrInvalid:GB 0=some [.iface 364 (.pointer (some ai))]
 ErrLimit:GB 1=some [.iface 364 (.pointer (some al))]
 ErrRing:GB 2=some [.iface 364 (.pointer (some ar))]
def ew.up{GB GB':Gh}{ai al ar:Addr}(h:ew GB ai al ar)(k:ba GB GB'):ew GB' ai al ar:=⟨k _ _ h.ErrInvalid,k _ _ h.ErrLimit,k _ _ h.ErrRing⟩
def Rp{L:List WP}{k:Nat}{r:WP}(h:L[k]? =some r):(((L.map WP.p).take k).map eZ)++[eZ r.p]=((L.map WP.p).take (k+1)).map eZ:=uS (by rw[fK,h];rfl)
def Qu{ai al ar:Addr}(hE:ew GB ai al ar){L:List WP}{j:Nat}{r:WP}(hs: ∀r∈L,r.sm)(hn:L.length<=50)(hj:L[j]? =some r)(hb: ¬r.nm)(hpre: ∀k q,k<j->L[k]? =some q->q.nm): ∃s,PE GB prog 67 [.sl (L.map WP.D)] (jj ai s) (fun u=> .tp [.sl [],jG u]):=by
 apply Exists.intro;have hm1:(L.map WP.D).length=L.length:=aZ ..;have hjl:=(aT.1 hj).1;refine l4 (fu:=⟨11⟩) func67 J J ntmps67 J J (fun C=>?_);refine ah 13 (.d (vI (L.length:Nat))) J (by rw[hm1]<;>rfl)<|gx (fu:=⟨0⟩) J<|dq (fu:=⟨15⟩) J (by show some (decide _)=some false;rw[decide_eq_false (by omega)]) J<|ah 20 (.d (vI (L.length:Nat))) J (by rw[hm1]<;>rfl)<|gx J<|nr 4 4 102 6 J J J<|lp (X:=Nat) (fun k=>[(21, .d (vI (k:Nat))),(4, .rw 4)]) (fun k=>[(4,some (.b 102 6 (((L.map WP.p).take k).map eZ) true))]) (fun k=>k<=j) (fun k=>L.length-k) 0 J (bJ _) (fun _=>J) (fun k hk=>?_);have hm3:(((L.map WP.p).take k).map eZ).length<=k:=by rw[aZ,aS];omega
 refine br J J J (fun hc22=>?_) (fun hc22=>?_)
 .
  obtain⟨q,hx⟩: ∃u,L[k]? =some u:=⟨_,aQ (by omega)⟩;have hqs:=hs q (aW hx);refine ix _ J (b8 hx) J<|cl J (Oo (r:=q) hqs) J<|bb J J J (fun hc28=>?_) (fun hc28=>?_)
  .
   obtain rfl:j=k:=by rcases dR k j with h|h;exact absurd (hpre k q h hx) (by simpa using hc28);omega
   refine gl J hE.ErrInvalid J<|cl (fu:=⟨0⟩) J (JA (i:=j)) J<|xu (fu:=⟨0⟩) J (by have:=vG j;show 7+_<=1000000;omega) J<|xu (fu:=⟨1⟩) J (by rw[ByteArray.size_append];have:=vG j;show 7+_+22<=1000000;omega) J<|vv (fu:=⟨0⟩) J J<|wV J yu J<|BA 3 J (fun GB1 u hg1 hu=>?_);exact ml u hu J J
  .
   have hqn:q.nm:=by simpa using hc28
   refine cl rfl (Q7 (r:=q) hqs hqn) rfl<|rf J J<|ap (((L.map WP.p).take (k+1)).map eZ) rfl (Rp hx) (lj [q.p]) rfl<|d4 41 4 rfl<|at_ (k+1) ⟨(by rcases dR k j with h|h;omega;exact absurd (by simpa using hc28) (by obtain rfl:k=j:=(by omega);rw[hj] at hx;cases hx;exact hb)),(by omega)⟩
 .
  exact absurd hc22 (by omega)
def WM{ai al ar:Addr}(hE:ew GB ai al ar){v:List aa}{i:Nat}(hb: ∀p∈v,aq p i)(hi:i<=100000)(hn:v.length<=4000)(hd3:dF v v.length<3): ∃s,PE GB prog 67 [.sl (v.map dy)] (jj ar s) (fun u=> .tp [.sl [],jG u]):=by
 apply Exists.intro;have hm1:(v.map dy).length=v.length:=aZ ..;have hm2:(v.map eZ).length=v.length:=aZ ..;refine l4 (fu:=⟨11⟩) func67 J J ntmps67 J J (fun C=>?_);refine ah 13 (.d (vI (v.length:Nat))) J (by rw[hm1]<;>rfl)<|gx (fu:=⟨0⟩) J<|dq (fu:=⟨15⟩) J (by show some (decide _)=some false;rw[decide_eq_false (by omega)]) J<|ah 20 (.d (vI (v.length:Nat))) J (by rw[hm1]<;>rfl)<|gx J<|nr 4 4 102 6 J J J<|lp (X:=Nat) (fun k=>[(21, .d (vI (k:Nat))),(4, .rw 4)]) (fun k=>[(4,some (.b 102 6 ((v.take k).map eZ) true))]) (fun k=>k<=v.length) (fun k=>v.length-k) 0 J (bJ _) (fun _=>J) (fun k hk=>?_);have hm3:((v.take k).map eZ).length<=k:=by rw[aZ,aS];omega
 refine br (fu2:=⟨0⟩) J J J (fun hc22=>?_) (fun hc22=>?_)
 .
  obtain⟨p,hx⟩: ∃u,v[k]? =some u:=⟨_,aQ (by omega)⟩;haveI:=hb p (aW hx);refine ix _ J (b8 hx) J<|cl (fu:=⟨0⟩) J (wT (p:=p) (i:=i) (by omega)) J<|fy 27 J<|gx J<|cl J (nG (p:=p) (i:=i) (by omega)) J<|rf J J<|ap ((v.take (k+1)).map eZ) J (uS hx) (lj [p]) J<|d4 41 4 J<|at_ (k+1) ⟨(by omega),(by omega)⟩
 .
  obtain rfl:k=v.length:=by omega
  rw[bT];refine px 4 J<|gx (fu:=⟨15⟩) J<|ah 44 (.d (vI (v.length:Nat))) J (by rw[hm2]<;>rfl)<|gx J<|lp (X:=Nat) (fun k=>[(45, .d (vI (k:Nat))),(7, .d (vI ((dF v k):Nat)))]) (fun k=>[]) (fun k=>k<=v.length) (fun k=>v.length-k) 0 J (bJ _) (fun _=>J) (fun k hk=>?_);have hdm:=wD v k;refine br (fu2:=⟨9⟩) J J J (fun hc46=>?_) (fun hc46=>?_)
  .
   obtain⟨p,hx⟩: ∃u,v[k]? =some u:=⟨_,aQ (by omega)⟩;haveI:=hb p (aW hx);have hcm:=u7 (l:=v) (k:=k);refine ix _ J (b8 hx) J<|cs 52 J J J (fun hg52=>?_) (fun hg52=>?_)
   .
    refine cl J (xU (l:=v) (p:=p) (i:=i) hb (by omega) (by omega)) J<|br J J J (fun hc58=>?_) (fun hc58=>?_)
    .
     have he7:=xp (by omega) (rk hx);refine ah 7 (.d (vI (dF v (k+1):Nat))) J (by rw[he7]<;>rfl)<|at_ (k+1) ⟨(by omega),(by omega)⟩
    .
     have he7:=ow (.inr (wN hx)) hcm;refine ah 7 (.d (vI (dF v (k+1):Nat))) J (by rw[he7]<;>rfl)<|at_ (k+1) ⟨(by omega),(by omega)⟩
   .
    have he7:=ow (l:=v) (k:=k) (.inl (by omega)) hcm;refine ah 7 (.d (vI (dF v (k+1):Nat))) J (by rw[he7]<;>rfl)<|at_ (k+1) ⟨(by omega),(by omega)⟩
  .
   obtain rfl:k=v.length:=by omega
   refine ic J (by show some (decide _)=some true;rw[decide_eq_true (by omega)]) J<|gl (fu:=⟨1⟩) J hE.ErrRing J<|vv (fu:=⟨0⟩) J J<|wV J yu J<|BA 3 J (fun GB1 u hg1 hu=>?_);exact ml u hu J J
def WG{ai al ar:Addr}(hE:ew GB ai al ar){v:List aa}{i:Nat}(hb: ∀p∈v,aq p i)(hi:i<=100000)(hn:v.length<=50)(h3:3<=cB v v.length){j:Nat}(hj:j<v.length)(hbad: ∀p q:aa,v[j]? =some p->v[(j+1)%v.length]? =some q->p.x=q.x/\p.y=q.y)(hpre: ∀(k:Nat) (p q:aa),k<j->v[k]? =some p->v[(k+1)%v.length]? =some q-> ¬(p.x=q.x/\p.y=q.y)):PE GB prog 67 [.sl (v.map dy)] (jj ar (.string (⟨#[116,104,101,32,101,100,103,101,32,102,114,111,109,32,118,101,114,116,101,120,32]⟩++xc j++⟨#[32,104,97,115,32,110,111,32,108,101,110,103,116,104]⟩))) (fun u=> .tp [.sl [],jG u]):=by
 have hm1:(v.map dy).length=v.length:=aZ ..;have hm2:(v.map eZ).length=v.length:=aZ ..;have hrl:(gj v).length=v.length:=by unfold gj;rw[aZ,kX]
 refine M6 (fu:=⟨11⟩) func67 J J ntmps67 J J (fun C h0=>?_);refine ah 13 (.d (vI (v.length:Nat))) J (by rw[hm1]<;>rfl)<|gx (fu:=⟨0⟩) J<|dq (fu:=⟨15⟩) J (by show some (decide _)=some false;rw[decide_eq_false (by omega)]) J<|ah 20 (.d (vI (v.length:Nat))) J (by rw[hm1]<;>rfl)<|gx J<|nr 4 4 102 6 J J J<|lp (X:=Nat) (fun k=>[(21, .d (vI (k:Nat))),(4, .rw 4)]) (fun k=>[(4,some (.b 102 6 ((v.take k).map eZ) true))]) (fun k=>k<=v.length) (fun k=>v.length-k) 0 J (bJ _) (fun _=>J) (fun k hk=>?_);have hm3:((v.take k).map eZ).length<=k:=by rw[aZ,aS];omega
 refine br (fu2:=⟨0⟩) J J J (fun hc22=>?_) (fun hc22=>?_)
 .
  obtain⟨p,hx⟩: ∃u,v[k]? =some u:=⟨_,aQ (by omega)⟩;haveI:=hb p (aW hx);refine ix _ J (b8 hx) J<|cl (fu:=⟨0⟩) J (wT (p:=p) (i:=i) (by omega)) J<|fy 27 J<|gx J<|cl J (nG (p:=p) (i:=i) (by omega)) J<|rf J J<|ap ((v.take (k+1)).map eZ) J (uS hx) (lj [p]) J<|d4 41 4 J<|at_ (k+1) ⟨(by omega),(by omega)⟩
 .
  obtain rfl:k=v.length:=by omega
  rw[bT];refine px 4 J<|gx (fu:=⟨15⟩) J<|ah 44 (.d (vI (v.length:Nat))) J (by rw[hm2]<;>rfl)<|gx J<|lp (X:=Nat) (fun k=>[(45, .d (vI (k:Nat))),(7, .d (vI ((dF v k):Nat)))]) (fun k=>[]) (fun k=>k<=v.length) (fun k=>v.length-k) 0 J (bJ _) (fun _=>J) (fun k hk=>?_);have hdm:=wD v k;refine br (fu2:=⟨9⟩) J J J (fun hc46=>?_) (fun hc46=>?_)
  .
   obtain⟨p,hx⟩: ∃u,v[k]? =some u:=⟨_,aQ (by omega)⟩;haveI:=hb p (aW hx);have hcm:=u7 (l:=v) (k:=k);refine ix _ J (b8 hx) J<|cs 52 J J J (fun hg52=>?_) (fun hg52=>?_)
   .
    refine cl J (xU (l:=v) (p:=p) (i:=i) hb (by omega) (by omega)) J<|br J J J (fun hc58=>?_) (fun hc58=>?_)
    .
     have he7:=xp (by omega) (rk hx);refine ah 7 (.d (vI (dF v (k+1):Nat))) J (by rw[he7]<;>rfl)<|at_ (k+1) ⟨(by omega),(by omega)⟩
    .
     have he7:=ow (.inr (wN hx)) hcm;refine ah 7 (.d (vI (dF v (k+1):Nat))) J (by rw[he7]<;>rfl)<|at_ (k+1) ⟨(by omega),(by omega)⟩
   .
    have he7:=ow (l:=v) (k:=k) (.inl (by omega)) hcm;refine ah 7 (.d (vI (dF v (k+1):Nat))) J (by rw[he7]<;>rfl)<|at_ (k+1) ⟨(by omega),(by omega)⟩
  .
   obtain rfl:k=v.length:=by omega
   have hd3:=Bq h3;refine dq (fu:=⟨9⟩) J (by show some (decide _)=some false;rw[decide_eq_false (by omega)]) J<|?_;have hE0:=hE;refine ux J J J uT (fun _=>J) (fun GB1 pv hg1 hpv=>?_);have hE:=hE0.up hg1;refine pc 2 2000002 h0.fx J<|pc 3 2000003 h0.fx J ?_;refine ul (σ:=Unit) (fun _=>[(2000002,some (.o 93 [.nl] true)),(2000003,some (.o 41 [.d (.v .nilIface)] true))]) (fun k=>k<=j) (fun _=>[(2000002,some (.o 93 [.nl] true)),(2000003,some (.o 41 [.ip 156 (jj ar (.string (⟨#[116,104,101,32,101,100,103,101,32,102,114,111,109,32,118,101,114,116,101,120,32]⟩++xc j++⟨#[32,104,97,115,32,110,111,32,108,101,110,103,116,104]⟩)))] true))]) (fun _=>True) [(2, .ov 2000002 0),(3, .ov 2000003 0),(4, .d (.sl (v.map eZ)))] h0 J (vz) (.cons hpv .nil) ⟨J,J,J,trivial⟩ J ⟨J,J,trivial⟩ (bJ _) tZ J J (fun k e GB' hE2 hg hp=>?_) (fun D hD hx hp=>?_) (fun D s hD hx hq=>?_)
   .obtain⟨p,q,hpx,hqx,rfl⟩:=ve hE2
    haveI:=hb p (aW hpx);haveI:=hb q (aW hqx);have hE:=hE.up hg;refine⟨?_,?_,fun C2=>?_,fun C2=>?_⟩
    rotate_left 2
    .refine gx J<|tK J J J ⟨J,J,J⟩ J ?_
     exact atR
    .refine gx J<|l7 0 (e:=102) (len:=2) (s:=6) J (by kernel_rfl) (by kernel_rfl) (by decide) J<|l7 1 (e:=102) (len:=2) (s:=6) J (by kernel_rfl) (by kernel_rfl) (by decide) J<|cl J (xV (p:=p) (q:=q) (i:=i) (by omega)) J<|bd J J J (fun hc=>?_) (fun hc=>?_)
     .obtain rfl:j=k:=by rcases dR k j with h|h;exact absurd hc (hpre k p q h hpx hqx);omega
      refine gl J hE.ErrRing J<|cl (fu:=⟨0⟩) J (JA (i:=j)) J<|xu (fu:=⟨0⟩) J (by have:=vG j;show 21+_<=1000000;omega) J<|xu (fu:=⟨1⟩) J (by rw[ByteArray.size_append];have:=vG j;show 21+_+14<=1000000;omega) J<|vv (fu:=⟨0⟩) J J<|wV J yu J<|?_;exact Vv () trivial ⟨J,J,trivial⟩
     .have hkj:k≠j:=fun e=>by subst e;exact hc (hbad p q hpx hqx)
      exact rq (by omega) ⟨J,J,trivial⟩
   .exact absurd hp (by rw[hrl];omega)
   .refine gx J<|BA 2000003 J (fun GB3 u hg3 hu=>?_)
    exact Vy u hu hD hx J J
structure f9 (r:List ZP):Prop where
 ok:en r
 c3:3<=cB (r.map ZP.q) (r.map ZP.q).length
def nO(r:List ZP):DV:= .sl ((r.map ZP.q).map eZ)
def Qk(l:List (List ZP)):dl 1 (l.map nO):=fun d hd=>by
 obtain⟨x,_,rfl⟩:=bV.1 hd;exact⟨J,J⟩
def Tu{L:List (List ZP)}{k:Nat}{l:List ZP}(h:L[k]? =some l):((L.take k).map nO)++[nO l]=(L.take (k+1)).map nO:=by
 rw[cX,h,cK];rfl
def W7{L:List (List ZP)}{k:Nat}{l:List ZP}(h:L[k]? =some l):((dB (L.take k)).map bF)++((iO l).map bF)=(dB (L.take (k+1))).map bF:=by
 rw[Rn h,cK]
def Pe{rs:List (List ZP)}(h: ∀r∈rs,f9 r)(hn:rs.length<=200):PF GB prog 29 [.sl (rs.map iu)] (.tp [.sl (rs.map nO), .v .nilIface]):=by
 have hml:(rs.map iu).length=rs.length:=aZ ..;refine fn (fu:=⟨11⟩) func29 J J ntmps29 J J (fun C=>?_);refine ah 10 (.d (vI (rs.length:Nat))) J (by rw[hml]<;>rfl)<|gx (fu:=⟨0⟩) J<|dq (fu:=⟨15⟩) J (by show some (decide _)=some false;rw[decide_eq_false (by omega)]) J<|ah 17 (.d (vI (rs.length:Nat))) J (by rw[hml]<;>rfl)<|gx J<|nr 4 4 93 1 J J J<|lp (X:=Nat) (fun k=>[(18, .d (vI (k:Nat))),(4, .rw 4)]) (fun k=>[(4,some (.b 93 1 ((rs.take k).map nO) true))]) (fun k=>k<=rs.length) (fun k=>rs.length-k) 0 J (bJ _) (fun _=>J) (fun k hk=>?_);have hm3:((rs.take k).map nO).length<=k:=by rw[aZ,aS];omega
 refine br J J J (fun hc19=>?_) (fun hc19=>?_)
 .
  obtain⟨r,hx⟩: ∃u,rs[k]? =some u:=⟨_,aQ (by omega)⟩;have hr:=h r (aW hx);refine ix _ J (b8 hx) J<|cl (fu:=⟨11⟩) J (UB hr.ok hr.c3) J<|dq J J J<|rf J J<|ap ((rs.take (k+1)).map nO) J (Tu hx) (Qk [r]) J<|d4 33 4 J<|at_ (k+1) ⟨(by omega),(by omega)⟩
 .
  obtain rfl:k=rs.length:=by omega
  rw[bT];refine gO 4 J<|rz J J
def H3{rs:List (List ZP)}(h: ∀r∈rs,f9 r)(hn:rs.length<=200):PF GB prog 48 [.sl (rs.map iu)] (.tp [.sl ((dB rs).map bF), .v .nilIface]):=by
 have hml:(rs.map nO).length=rs.length:=aZ ..;refine fn func48 J J ntmps48 J J (fun C=>?_);refine cl (fu:=⟨11⟩) J (Pe h hn) J<|dq (fu:=⟨15⟩) J J J<|ah 18 (.d (vI (rs.length:Nat))) J (by rw[hml]<;>rfl)<|gx J<|nr 6 6 139 17 J J J<|lp (X:=Nat) (fun k=>[(19, .d (vI (k:Nat))),(6, .rw 6)]) (fun k=>[(6,some (.b 139 17 ((dB (rs.take k)).map bF) true))]) (fun k=>k<=rs.length) (fun k=>rs.length-k) 0 J (bJ _) (fun _=>J) (fun k hk=>?_);have hm5:=IJ (fun r hr=>(h r hr).ok) k;have hm3:((dB (rs.take k)).map bF).length<=6*k:=by rw[aZ];exact IJ (fun r hr=>(h r hr).ok) k
 refine br J J J (fun hc20=>?_) (fun hc20=>?_)
 .
  obtain⟨r,hx⟩: ∃u,rs[k]? =some u:=⟨_,aQ (by omega)⟩;have hr:=h r (aW hx);have hel:=(A4 hr.ok).1;have hn6:=hr.ok.n6;have hm4:((iO r).map bF).length=(iO r).length:=aZ ..;refine ix _ J (b8 hx) J<|cl J (Uo hr.ok) J<|ap ((dB (rs.take (k+1))).map bF) J (W7 hx) (vE (iO r)) J<|d4 26 6 J<|at_ (k+1) ⟨(by omega),(by omega)⟩
 .
  obtain rfl:k=rs.length:=by omega
  rw[bT];refine gO 6 J<|rz J J
def DG{rs:List (List ZP)}(h: ∀r∈rs,f9 r)(hn:rs.length<=200):(dB rs).length<=1200:=by
 have:=(B5 fun r hr=>(h r hr).ok).1;omega
def GM(rs:List (List ZP))(p:aa):Bool:=(dB rs).any fun f=>fC f p
def S4{fill n:Int}:PF GB prog 33 [vI fill,vI n] (vB (lm fill n)):=by
 refine fn func33 J J ntmps33 J J (fun C=>?_);refine br J J J (fun hc6=>?_) (fun hc6=>?_)
 .
  exact rz J (by show DV.v (.bool _)= .v (.bool _);unfold lm;simp_all)
 .
  refine br J J J (fun hc11=>?_) (fun hc11=>?_)
  .
   exact rz J (by show DV.v (.bool _)= .v (.bool _);unfold lm;simp_all)
  .
   exact rz J (by show DV.v (.bool _)= .v (.bool _);unfold lm;simp_all)
def Xg{rs:List (List ZP)}(h: ∀r∈rs,f9 r)(hn:rs.length<=200){p:aa}{i:Nat}[hp:aq p i](hno:GM rs p=false)(hi:i<=100000:=by decide):PF GB prog 46 [.sl (rs.map iu),dy p] (.tp [vI (e6 (dB rs) p), .v .nilIface]):=by
 have hel:=DG h hn;have hfe:=Li fun r hr=>(h r hr).ok;refine fn func46 J J ntmps46 J J (fun C=>?_);refine cl J (H3 h hn) J<|cl (fu:=⟨9⟩) J (nG (p:=p) (i:=i) (by omega)) J<|dq J J J<|cl (fu:=⟨0⟩) J (OK (E:=dB rs) hfe (by omega) (p:=p) (i:=i) hi) J<|ah 23 (.d (vB false)) J (by rw[show(dB rs).any (fun f=>fC f p)=false from hno])<|oF 23 J<|gx J<|cl J (Ky (E:=dB rs) hfe (by omega) (p:=p) (i:=i) hi) J<|rz J J
end Go.Sx
end
