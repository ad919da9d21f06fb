import Derived.Test.YtmhfhhiaecjhiaaGreatDoorBr16
set_option linter.all false
set_option maxHeartbeats 2000000
set_option maxRecDepth 100000
section
namespace Go.Sx
open Go Go.Proofs Tryz
variable {GB:Gh}
def wF(a:Rat):a*(a.den:Rat)=(a.num:Rat):=by
 have h:(a.num:Rat)/((a.den:Nat):Rat)=a:=by rw[<-mZ];exact pZ a
 have h0:((a.den:Nat):Rat)≠0:=by
  intro k;have:a.den=0:=by exact_mod_cast k
  exact a.den_nz this
 generalize (a.num:Rat)=n at*;generalize ((a.den:Nat):Rat)=d at*;rw[<-h];grind
def Oq{a:Rat}{x:Int}{D:Nat}(hD:0<D)(h:a*((D:Int):Rat)=(x:Rat)):a.num*(D:Int)=x*(a.den:Int):=by
 have e:((a.den:Int):Rat)*a=(a.num:Rat):=by
  have:=wF a;rw[Rat.mul_comm];exact this
 have k:(a.num:Rat)*((D:Int):Rat)=(x:Rat)*((a.den:Int):Rat):=by rw[<-e,<-h];grind
 exact_mod_cast k
def Be{a b:Rat}{x y:Int}{D:Nat}(hD:0<D)(ha:a*((D:Int):Rat)=(x:Rat))(hb:b*((D:Int):Rat)=(y:Rat)):rgcd a b*((D:Int):Rat)=(((Nat.gcd x.natAbs y.natAbs:Nat):Int):Rat):=by
 have h1:=Oq hD ha;have h2:=Oq hD hb;have n1:a.num.natAbs*D=x.natAbs*a.den:=by
  have:=congrArg Int.natAbs h1;rwa [fX,fX,dR,dR] at this
 have n2:b.num.natAbs*D=y.natAbs*b.den:=by
  have:=congrArg Int.natAbs h2;rwa [fX,fX,dR,dR] at this
 have hg:Nat.gcd (a.num.natAbs*b.den) (b.num.natAbs*a.den)*D=Nat.gcd x.natAbs y.natAbs*(a.den*b.den):=by
  rw[<-Nat.gcd_mul_right,<-Nat.gcd_mul_right];congr 1
  .rw[mV,n1,bR]
  .rw[mV,n2,bR,bT b.den a.den]
 unfold rgcd;generalize Nat.gcd (a.num.natAbs*b.den) (b.num.natAbs*a.den)=G at*;generalize Nat.gcd x.natAbs y.natAbs=g at*;have hpos:0<a.den*b.den:=iV a.den_pos b.den_pos;have hq:((G:Int):Rat)*((D:Int):Rat)=((g:Int):Rat)*(((a.den*b.den:Nat):Int):Rat):=by exact_mod_cast hg
 generalize a.den*b.den=E at*;have h0:((E:Int):Rat)≠0:=fun k=>by
  have:(E:Int)=0:=by exact_mod_cast k
  omega
 have hm:mkRat ((G:Nat):Int) E*((E:Int):Rat)=((G:Int):Rat):=by
  have hz:((E:Nat):Rat)≠0:=h0;show mkRat ((G:Nat):Int) E*((E:Nat):Rat)=_;rw[mZ];generalize ((E:Nat):Rat)=z at*;generalize ((G:Int):Rat)=y at*;grind
 generalize mkRat ((G:Nat):Int) E=r at*;rw[<-hm] at hq;generalize ((E:Int):Rat)=e at*;generalize ((D:Int):Rat)=d at*;have:e*(r*d-((g:Int):Rat))=0:=by grind
 have:=(kL.1 this).resolve_left h0;grind
def kA(a b c:Rat):Nat:=a.den*(b.den*c.den)
def eh(a b c:Rat):ab:=ge (a.num*(b.den*c.den:Nat)) (b.num*(a.den*c.den:Nat)) (c.num*(a.den*b.den:Nat))
def PQ(a b c:Rat):0<kA a b c:=iV a.den_pos (iV b.den_pos c.den_pos)
def Gm(a:Rat)(k:Nat):a*(((a.den*k:Nat):Int):Rat)=((a.num*(k:Nat):Int):Rat):=by
 have e:=wF a;have:(((a.den*k:Nat):Int):Rat)=(a.den:Rat)*((k:Int):Rat):=by push_cast;rfl
 rw[this,cK,<-Rat.mul_assoc,e]
def Ph(a b c:Rat):a*((kA a b c:Int):Rat)=((a.num*(b.den*c.den:Nat):Int):Rat)/\b*((kA a b c:Int):Rat)=((b.num*(a.den*c.den:Nat):Int):Rat)/\c*((kA a b c:Int):Rat)=((c.num*(a.den*b.den:Nat):Int):Rat):=by
 refine⟨Gm a _,?_,?_⟩
 .rw[show kA a b c=b.den*(a.den*c.den) by unfold kA;rw[lW]];exact Gm b _
 .rw[show kA a b c=c.den*(a.den*b.den) by unfold kA;rw[<-bR,bT]];exact Gm c _
def Ev{a b c:Rat}(h: ¬(a=0/\b=0)): ¬(a.num*(b.den*c.den:Nat)=0/\b.num*(a.den*c.den:Nat)=0):=fun⟨h1,h2⟩=>by
 refine h ⟨?_,?_⟩
 .rcases oY.1 h1 with k|k
  .exact lT.1 k
  .have:=iV b.den_pos c.den_pos;omega
 .rcases oY.1 h2 with k|k
  .exact lT.1 k
  .have:=iV a.den_pos c.den_pos;omega
def aBC{a b c:Rat}(h: ¬(a=0/\b=0)): ∃g:Rat,0<g/\(∀p:aa,(eh a b c).value p=g*(a*p.x+b*p.y+c)):=by
 obtain⟨g,g0,e1,e2,e3⟩:=Qg (c:=c.num*(a.den*b.den:Nat)) (Ev (c:=c) h);obtain⟨k1,k2,k3⟩:=Ph a b c;have hD:(0:Rat)<((kA a b c:Int):Rat):=by
  have:=PQ a b c;exact_mod_cast (show(0:Int)<(kA a b c:Int) by omega)
 have hg:(0:Rat)<(g:Rat):=by exact_mod_cast g0
 have f1:(g:Rat)*((eh a b c).a:Rat)=a*((kA a b c:Int):Rat):=by rw[k1,<-e1];unfold eh;push_cast;rfl
 have f2:(g:Rat)*((eh a b c).b:Rat)=b*((kA a b c:Int):Rat):=by rw[k2,<-e2];unfold eh;push_cast;rfl
 have f3:(g:Rat)*((eh a b c).c:Rat)=c*((kA a b c:Int):Rat):=by rw[k3,<-e3];unfold eh;push_cast;rfl
 refine⟨((kA a b c:Int):Rat)/(g:Rat),div_pos hD hg,fun p=>?_⟩;unfold ab.value ab.nor aa.dot;dsimp only;generalize ((eh a b c).a:Rat)=A at*;generalize ((eh a b c).b:Rat)=B at*;generalize ((eh a b c).c:Rat)=C at*;generalize ((kA a b c:Int):Rat)=D at*;generalize (g:Rat)=g at*;have hq:D/g*g=D:=by grind
 generalize D/g=q at*;subst hq;have:g*(A*p.x+B*p.y+C-q*(a*p.x+b*p.y+c))=0:=by grind
 have:=(kL.1 this).resolve_left (by grind);grind
def WC{a b c:Rat}(h: ¬(a=0/\b=0)):(eh a b c).ok:=PD (Ev h)
def aa.subQ(p q:aa):aa:=⟨p.x-q.x,p.y-q.y⟩
def th(f:aa×aa):aa:=⟨-(f.2.y-f.1.y),f.2.x-f.1.x⟩
structure XC (V:List aa) (E:List (aa×aa)):Prop where
 ends: ∀f∈E,f.1∈V/\f.2∈V
 cvx: ∀f∈E,∀v∈V,0<=c7 f.1 f.2 v
 cen: ∃u,∀f∈E,0<c7 f.1 f.2 u
 hull: ∀n u:aa,(∀f∈E,0<=c7 f.1 f.2 u)-> ∃v∈V,n.dot v<=n.dot u
def aJR(f:aa×aa)(p:aa):ab:=eh (-(th f).x) (-(th f).y) ((th f).dot p-(th f).dot f.1)
def MW(n:aa):List aa->Rat
 |[]=>0
 |p::t=>t.foldl (fun b q=>if n.dot q<b then n.dot q else b) (n.dot p)
def UE(n:aa)(s:aH):Bool:=(s.v.nh&&decide (s.l.dir.dot n<0))||(s.v.nl&&decide (0<s.l.dir.dot n))
def aGC(n:aa):aA->Bool
 |[s]=>decide (s.l.nor.dot n<0)
 |_=>false
def VO(c:aA):List aa:=(c.map fun s=>s.l.at s.v.sample)++uS (c.map (·.l))
def YL(c:aA)(n:aa):Option Rat:=if c.isEmpty||aGC n c then none else if c.any (UE n) then none else some (MW n (VO c))
def js(p q:aa):ab:=eh (p.y-q.y) (q.x-p.x) (-((p.y-q.y)*p.x+(q.x-p.x)*p.y))
def CZ(n:aa):List aa->aa
 |[]=>⟨0,0⟩
 |p::t=>t.foldl (fun b q=>if n.dot q<n.dot b then q else b) p
def aII(l:ab)(V:List aa):ab:=js (l.base.add (CZ l.nor V)) ((l.base.add (CZ l.nor V)).add l.dir)
def Ix(l:ab)(V:List aa):ab:=eh l.a l.b (l.c-MW l.nor V)
def VM(l:ab)(c:List ab):List aa:=(c.flatMap fun s=>[s.dir,kP s.dir])++[⟨l.dir.y, -l.dir.x⟩]
def Tk(l:ab)(c:List ab):Bool:=!c.isEmpty&&(VM l c).all fun v=>!(Ow c v&&decide (Int.sign (l.dir.cross v).num<0))
def Oy(c:List ab):List aa:=if(uS c).isEmpty then c.map ab.base else uS c
def XY(l:ab)(p:aa)(c:List ab):ab:=js (p.add (CZ l.nor (Oy c))) ((p.add (CZ l.nor (Oy c))).add l.dir)
def LH(c:aA)(f:aa×aa):Option ab:=(YL c (th f)).map fun m=>eh (th f).x (th f).y (-(m+(th f).dot f.1))
def aGU(c:List ab)(f:aa×aa):Option ab:=if Tk (js f.1 f.2) c then some (XY (js f.1 f.2) f.1 c) else none
def U6(c:aA)(V:List aa)(E:List (aa×aa)):List ab:=(c.map fun s=>Ix s.l V)++E.filterMap (LH c)
def aHr(c:List ab)(V:List aa)(E:List (aa×aa)):List ab:=(c.map fun l=>aII l V)++E.filterMap (aGU c)
def jn:List ab->Tr
 |[]=> .leaf true
 |l::t=> .node l (jn t) (.leaf false)
def KW: ∀{L:List ab},(jn L).lns=L
 |[]=>rfl
 |l::t=>by rw[jn,Tr.lns,KW,Tr.lns,iN]
def H7{P:ab->Prop}{L:List ab}(h: ∀l∈L,P l):(jn L).all P:=qy.2 (by rw[KW];exact h)
def NW: ∀(L:List ab),(jn L).depth=L.length
 |[]=>rfl
 |l::t=>by rw[jn,Tr.depth,NW t,bY];show 1+max _ 0=_;omega
def Ni: ∀(L:List ab),(jn L).size=L.length
 |[]=>rfl
 |l::t=>by rw[jn,Tr.size,Ni t,bY];show 1+_+0=_;omega
def aJj(L:List ab)(p:aa):Int:=if L.any (fun l=>decide (l.value p<0)) then 0 else if L.any (fun l=>decide (l.value p=0)) then 1 else 2
def EO: ∀{ls:List ab} {c e:aA},cx c->vf c->(∀l∈ls,l.ok)->fj ls c=some e->vf e
 |[],c,e,_,ha,_,h=>by
  obtain rfl:c=e:=by simpa[fj] using h
  exact ha
 |l::t,c,e,hc,ha,hl,h=>by
  have hl':=cS.1 hl;rw[fj] at h;split at h
  .rename_i hb
   exact EO (iH hc hl'.1 hb).1 (SI hc hl'.1 ha hb) hl'.2 h
  .exact absurd h (by simp)
def F0(V:List aa)(E:List (aa×aa))(c:aA):Tr:=jn (iE (U6 c V E))
def aKe(f:aa×aa):aa×aa:=(kP f.1,kP f.2)
def aIT(V:List aa)(E:List (aa×aa))(cs:List aA)(t:Tr):Tr:=cs.foldl (fun t c=>t.mergeQ 1 (F0 V E c) []) t
def CE(V:List aa)(E:List (aa×aa))(t:Tr):Tr:=aIT V E (wX (t.restrict [])) (.leaf false)
def aLo(V:List aa)(E:List (aa×aa))(t:Tr):List ab:=(wX (t.restrict [])).flatMap fun c=>(F0 V E c).lns
def aKS(l:ab)(v:aa):ab:=eh l.a l.b (l.c-l.nor.dot v)
def cw(lo hi:Rat):ao:=⟨lo,hi,false,false⟩
def oA{lo hi x:Rat}:mf [cw lo hi] x=decide (lo<x/\x<hi):=by
 rw[oK,w7,decide_eq_true_eq];simp[cw,ao.ins]
def yG{t x:Rat}:mf [⟨t,0,false,true⟩] x=decide (t<x):=by
 rw[oK,w7,decide_eq_true_eq];simp[ao.ins]
def zj{t x:Rat}:mf [⟨0,t,true,false⟩] x=decide (x<t):=by
 rw[oK,w7,decide_eq_true_eq];simp[ao.ins]
def ot{a b:List ao}{cuts:List Rat}{marks:List Bool}{out:List ao}(h1:f7 (a++b)=cuts)(h2:(gg cuts).map (fun t=>mf a t&&mf b t)=marks)(h3:km cuts marks=out):gO 2 a b=out:=by
 unfold gO;rw[h1,<-h3,<-h2];rfl
def avl{lo hi:Rat}(h:lo<hi):gO 2 [cw lo hi] [ao.all]=[cw lo hi]:=by
 refine ot (cuts:=[lo,hi]) (marks:=[false,true,false]) (by simp[f7,gv,cw,ao.all,eG,h]) ?_ (by simp[km,gw,fI,cw]);have b: ∀x,mf [ao.all] x=true:=fun x=>w7.2 ⟨.inl J, .inl J⟩;simp only[gg,gP,bJ,dS,cX,cZ,oA,b,Bool.and_true];simp only[gX,gJ,List.cons.injEq,decide_eq_false_iff_not,decide_eq_true_eq,and_true];exact⟨by grind,by grind,by grind⟩
def Xp(v:ao):gO 2 [v] []=[]:=by
 unfold gO km;have key: ∀(cuts:List Rat) (m:List Bool),(∀x∈m,x=false)-> ∀k,gw cuts m k=[]:=fun cuts m hm k=>by
  induction k with
  |zero=>rfl
  |succ k ih=>
   rw[gw,ih];have:m.getD k false=false:=by
    rw[aK]
    cases e:m[k]? with
    |none=>rfl
    |some x=>exact hm x (aV e)
   rw[this];rfl
 refine key _ _ (fun x hx=>?_) _;obtain⟨t,_,rfl⟩:=bX.1 hx;have:mf [] t=false:=by unfold mf y6;decide
 rw[this];simp[Ex]
def aG7{lo hi t:Rat}(h:lo<hi)(k:t<lo):gO 2 [cw lo hi] [⟨t,0,false,true⟩]=[cw lo hi]:=by
 refine ot (cuts:=[t,lo,hi]) (marks:=[false,false,true,false]) ?_ ?_ (by simp[km,gw,fI,pe,cw])
 .simp only[f7,gv,cw,cX,cZ,dY,kY,if_true,cM,if_false,eG]
  grind [eG]
 .simp only[gg,gP,bJ,dS,cX,cZ,oA,yG]
  simp only[gX,gJ,List.cons.injEq,iK,aM,decide_eq_false_iff_not,decide_eq_true_eq,and_true];exact⟨by grind,by grind,by grind,by grind⟩
def Va{lo hi t:Rat}(h:lo<hi)(k:t=lo):gO 2 [cw lo hi] [⟨t,0,false,true⟩]=[cw lo hi]:=by
 refine ot (cuts:=[lo,hi]) (marks:=[false,true,false]) ?_ ?_ (by simp[km,gw,fI,pe,cw])
 .simp only[f7,gv,cw,cX,cZ,dY,kY,if_true,cM,if_false,eG]
  grind [eG]
 .simp only[gg,gP,bJ,dS,cX,cZ,oA,yG]
  simp only[gX,gJ,List.cons.injEq,iK,aM,decide_eq_false_iff_not,decide_eq_true_eq,and_true];exact⟨by grind,by grind,by grind⟩
def Sb{lo hi t:Rat}(h:lo<hi)(k:lo<t)(k2:t<hi):gO 2 [cw lo hi] [⟨t,0,false,true⟩]=[cw t hi]:=by
 refine ot (cuts:=[lo,t,hi]) (marks:=[false,false,true,false]) ?_ ?_ (by simp[km,gw,fI,pe,cw])
 .simp only[f7,gv,cw,cX,cZ,dY,kY,if_true,cM,if_false,eG]
  grind [eG]
 .simp only[gg,gP,bJ,dS,cX,cZ,oA,yG]
  simp only[gX,gJ,List.cons.injEq,iK,aM,decide_eq_false_iff_not,decide_eq_true_eq,and_true];exact⟨by grind,by grind,by grind,by grind⟩
def Ts{lo hi t:Rat}(h:lo<hi)(k:t=hi):gO 2 [cw lo hi] [⟨t,0,false,true⟩]=[]:=by
 refine ot (cuts:=[lo,hi]) (marks:=[false,false,false]) ?_ ?_ (by simp[km,gw,fI,pe,cw])
 .simp only[f7,gv,cw,cX,cZ,dY,kY,if_true,cM,if_false,eG]
  grind [eG]
 .simp only[gg,gP,bJ,dS,cX,cZ,oA,yG]
  simp only[gX,gJ,List.cons.injEq,iK,aM,decide_eq_false_iff_not,decide_eq_true_eq,and_true];exact⟨by grind,by grind,by grind⟩
def Un{lo hi t:Rat}(h:lo<hi)(k:hi<t):gO 2 [cw lo hi] [⟨t,0,false,true⟩]=[]:=by
 refine ot (cuts:=[lo,hi,t]) (marks:=[false,false,false,false]) ?_ ?_ (by simp[km,gw,fI,pe,cw])
 .simp only[f7,gv,cw,cX,cZ,dY,kY,if_true,cM,if_false,eG]
  grind [eG]
 .simp only[gg,gP,bJ,dS,cX,cZ,oA,yG]
  simp only[gX,gJ,List.cons.injEq,iK,aM,decide_eq_false_iff_not,decide_eq_true_eq,and_true];exact⟨by grind,by grind,by grind,by grind⟩
def TZ{lo hi t:Rat}(h:lo<hi)(k:t<lo):gO 2 [cw lo hi] [⟨0,t,true,false⟩]=[]:=by
 refine ot (cuts:=[t,lo,hi]) (marks:=[false,false,false,false]) ?_ ?_ (by simp[km,gw,fI,pe,cw])
 .simp only[f7,gv,cw,cX,cZ,dY,kY,if_true,cM,if_false,eG]
  grind [eG]
 .simp only[gg,gP,bJ,dS,cX,cZ,oA,zj]
  simp only[gX,gJ,List.cons.injEq,iK,aM,decide_eq_false_iff_not,decide_eq_true_eq,and_true];exact⟨by grind,by grind,by grind,by grind⟩
def Ro{lo hi t:Rat}(h:lo<hi)(k:t=lo):gO 2 [cw lo hi] [⟨0,t,true,false⟩]=[]:=by
 refine ot (cuts:=[lo,hi]) (marks:=[false,false,false]) ?_ ?_ (by simp[km,gw,fI,pe,cw])
 .simp only[f7,gv,cw,cX,cZ,dY,kY,if_true,cM,if_false,eG]
  grind [eG]
 .simp only[gg,gP,bJ,dS,cX,cZ,oA,zj]
  simp only[gX,gJ,List.cons.injEq,iK,aM,decide_eq_false_iff_not,decide_eq_true_eq,and_true];exact⟨by grind,by grind,by grind⟩
def aGR{lo hi t:Rat}(h:lo<hi)(k:lo<t)(k2:t<hi):gO 2 [cw lo hi] [⟨0,t,true,false⟩]=[cw lo t]:=by
 refine ot (cuts:=[lo,t,hi]) (marks:=[false,true,false,false]) ?_ ?_ (by simp[km,gw,fI,pe,cw])
 .simp only[f7,gv,cw,cX,cZ,dY,kY,if_true,cM,if_false,eG]
  grind [eG]
 .simp only[gg,gP,bJ,dS,cX,cZ,oA,zj]
  simp only[gX,gJ,List.cons.injEq,iK,aM,decide_eq_false_iff_not,decide_eq_true_eq,and_true];exact⟨by grind,by grind,by grind,by grind⟩
def Ug{lo hi t:Rat}(h:lo<hi)(k:t=hi):gO 2 [cw lo hi] [⟨0,t,true,false⟩]=[cw lo hi]:=by
 refine ot (cuts:=[lo,hi]) (marks:=[false,true,false]) ?_ ?_ (by simp[km,gw,fI,pe,cw])
 .simp only[f7,gv,cw,cX,cZ,dY,kY,if_true,cM,if_false,eG]
  grind [eG]
 .simp only[gg,gP,bJ,dS,cX,cZ,oA,zj]
  simp only[gX,gJ,List.cons.injEq,iK,aM,decide_eq_false_iff_not,decide_eq_true_eq,and_true];exact⟨by grind,by grind,by grind⟩
def Xh{lo hi t:Rat}(h:lo<hi)(k:hi<t):gO 2 [cw lo hi] [⟨0,t,true,false⟩]=[cw lo hi]:=by
 refine ot (cuts:=[lo,hi,t]) (marks:=[false,true,false,false]) ?_ ?_ (by simp[km,gw,fI,pe,cw])
 .simp only[f7,gv,cw,cX,cZ,dY,kY,if_true,cM,if_false,eG]
  grind [eG]
 .simp only[gg,gP,bJ,dS,cX,cZ,oA,zj]
  simp only[gX,gJ,List.cons.injEq,iK,aM,decide_eq_false_iff_not,decide_eq_true_eq,and_true];exact⟨by grind,by grind,by grind,by grind⟩
def AY(a b:Rat):a<b\/a=b\/b<a:=by grind
def splitP(f:aH)(m:ab):List aH:=if f.l.cutB f.v m then [⟨f.l,f.l.cutV f.v m⟩] else []
structure fC (f:aH):Prop where
 ok:f.l.ok
 nl:f.v.nl=false
 nh:f.v.nh=false
 lt:f.v.lo<f.v.hi
def fC.seg{f:aH}(h:fC f):f.v=cw f.v.lo f.v.hi:=by
 have h1:=h.nl;have h2:=h.nh;unfold cw
 cases hv:f.v with
 |mk a b c d=>rw[hv] at h1 h2;simp_all
def fC.pos{f:aH}(h:fC f):f.v.Pos:= .inr (.inr h.lt)
def L4{lo hi:Rat}:(cw lo hi).Pos↔lo<hi:=by unfold ao.Pos cw;simp
def Pr{lo hi t:Rat}:(cw lo hi).meet ⟨t,0,false,true⟩=cw (if lo<t then t else lo) hi:=by simp[ao.meet,cw];rfl
def Lj{lo hi t:Rat}:(cw lo hi).meet ⟨0,t,true,false⟩=cw lo (if t<hi then t else hi):=by simp[ao.meet,cw];rfl
def WS{lo hi t:Rat}(h:lo<hi):gO 2 [cw lo hi] [⟨t,0,false,true⟩]=if(if lo<t then t else lo)<hi then [cw (if lo<t then t else lo) hi] else []:=by
 rcases AY t lo with k|k|k
 .rw[aG7 h k,if_neg (show¬lo<t by grind),if_pos h]
 .rw[Va h k,if_neg (show¬lo<t by grind),if_pos h]
 .rw[if_pos k]
  rcases AY t hi with k2|k2|k2
  .rw[Sb h k k2,if_pos k2]
  .rw[Ts h k2,if_neg (by grind)]
  .rw[Un h k2,if_neg (by grind)]
def UM{lo hi t:Rat}(h:lo<hi):gO 2 [cw lo hi] [⟨0,t,true,false⟩]=if lo<(if t<hi then t else hi) then [cw lo (if t<hi then t else hi)] else []:=by
 rcases AY t hi with k|k|k
 .rw[if_pos k]
  rcases AY t lo with k2|k2|k2
  .rw[TZ h k2,if_neg (by grind)]
  .rw[Ro h k2,if_neg (by grind)]
  .rw[aGR h k2 k,if_pos k2]
 .rw[Ug h k,if_neg (show¬t<hi by grind),if_pos h]
 .rw[Xh h k,if_neg (show¬t<hi by grind),if_pos h]
def YZ(l m:ab):l.cutK m.rev= -l.cutK m:=by unfold ab.cutK ab.rev ab.nor ab.dir aa.dot;dsimp only;push_cast;grind
def Uq(l m:ab):l.cutC m.rev= -l.cutC m:=gA m l.base
def U'(a b:Rat): -a/ -b=a/b:=by grind
def Jd{f:aH}(h:fC f){m:ab}{side:Int}(hs:side=1\/side= -1):i0 f m side=splitP f (if side=1 then m else m.rev):=by
 obtain⟨M,hM⟩: ∃M,M=(if side=1 then m else m.rev):=⟨_,rfl⟩;have hK:f.l.cutK M=(side:Rat)*f.l.cutK m:=by
  rcases hs with rfl|rfl
  .rw[hM,if_pos J];grind
  .rw[hM,if_neg (by decide),YZ];grind
 have hC:f.l.cutC M=(side:Rat)*f.l.cutC m:=by
  rcases hs with rfl|rfl
  .rw[hM,if_pos J];grind
  .rw[hM,if_neg (by decide),Uq];grind
 have hq:f.l.cutC M/f.l.cutK M=f.l.cutC m/f.l.cutK m:=by
  rw[hK,hC];rcases hs with rfl|rfl
  .grind
  .rw[show((-1:Int):Rat)*f.l.cutC m= -f.l.cutC m by grind,show((-1:Int):Rat)*f.l.cutK m= -f.l.cutK m by grind,U']
 rw[<-hM];have hseg:=h.seg;have hlt:=h.lt;unfold i0 splitP sD sE;by_cases hc:crossI f.l m=0
 .have k0:f.l.cutK m=0:=Ei hc
  have kM:f.l.cutK M=0:=by rw[hK,k0];grind
  obtain⟨e1,e2⟩:=vv (l:=f.l) (m:=M) f.v kM;by_cases c0:f.l.cutC m=0
  .rw[if_pos (decide_eq_true ⟨hc,(lw _).2 c0⟩),if_neg (fun e=>by have:=e2.1 e;rw[hC,c0] at this;grind)]
  .rw[if_neg (by rw[decide_eq_true_eq];exact fun e=>c0 ((lw _).1 e.2)),if_pos hc]
   by_cases g:(m.value f.l.base).num.sign=side
   .have:0<f.l.cutC M:=by
     rw[hC];rcases hs with rfl|rfl
     .have:=(og _).1 g;show 0<((1:Int):Rat)*m.value f.l.base;grind
     .have:=(n8 (m.value f.l.base)).1 (by omega);show 0<((-1:Int):Rat)*m.value f.l.base;grind
    rw[if_pos g,if_pos (e2.2 this),e1,hseg,avl hlt];rfl
   .have: ¬0<f.l.cutC M:=fun e=>g (OS hs (by rw[hC] at e;exact e))
    rw[if_neg g,if_neg (fun e=>this (e2.1 e)),Xp];rfl
 .rw[if_neg (by rw[decide_eq_true_eq];exact fun e=>hc e.1),if_neg hc]
  have hp:=wk h.ok.ne hc;have hne:f.l.cutK m≠0:=fun e=>by
   rw[yV] at e;have:(crossI f.l m:Rat)=0:=by grind
   exact hc (dV.1 this)
  have hv1:m.value (f.l.at (dH f.l (gG f.l m)+1))=f.l.cutK m:=by rw[kE,hp];grind
  rw[hv1,hp];by_cases g:(f.l.cutK m).num.sign=side
  .have kM:0<f.l.cutK M:=by
    rw[hK];rcases hs with rfl|rfl
    .have:=(og _).1 g;grind
    .have:=(n8 (f.l.cutK m)).1 (by omega);grind
   obtain⟨e1,e2⟩:=vD (l:=f.l) (m:=M) f.v kM;rw[if_pos g,e1] at*;rw[hq,hseg,Pr,L4] at e2;rw[hq,hseg,Pr,WS hlt];by_cases q:(if f.v.lo< -(f.l.cutC m/f.l.cutK m) then-(f.l.cutC m/f.l.cutK m) else f.v.lo)<f.v.hi
   .rw[if_pos q,if_pos (e2.2 q)];rfl
   .rw[if_neg q,if_neg (fun e=>q (e2.1 e))];rfl
  .have kM:f.l.cutK M<0:=by
    rw[hK];rcases mC (f.l.cutK m) with k|k|k
    .exact absurd k hne
    .rcases hs with rfl|rfl
     .exact absurd ((og _).2 k) g
     .grind
    .rcases hs with rfl|rfl
     .grind
     .exact absurd (by have:=(n8 (f.l.cutK m)).2 k;have:=qQ (f.l.cutK m).num;omega) g
   obtain⟨e1,e2⟩:=vU (l:=f.l) (m:=M) f.v kM;rw[if_neg g,e1] at*;rw[hq,hseg,Lj,L4] at e2;rw[hq,hseg,Lj,UM hlt];by_cases q:f.v.lo<(if-(f.l.cutC m/f.l.cutK m)<f.v.hi then-(f.l.cutC m/f.l.cutK m) else f.v.hi)
   .rw[if_pos q,if_pos (e2.2 q)];rfl
   .rw[if_neg q,if_neg (fun e=>q (e2.1 e))];rfl
def d9(acc:aa->Bool):Nat->List aH->aA->Tr
 |_,[],c=> .leaf (acc (pf c))
 |0,_::_,_=> .leaf false
 |n+1,f::t,c=> .node f.l (d9 acc n ((f::t).flatMap fun g=>splitP g f.l) (bO c f.l)) (d9 acc n ((f::t).flatMap fun g=>splitP g f.l.rev) (bO c f.l.rev))
def Tr.like:Tr->Tr->Prop
 | .leaf _, .leaf _=>True
 | .node l x y, .node m u v=>l=m/\x.like u/\y.like v
 |_,_=>False
def fC.cut{f:aH}(h:fC f){m:ab}(hb:f.l.cutB f.v m=true):fC ⟨f.l,f.l.cutV f.v m⟩:=by
 have hp:=vo h.pos hb;have e:(f.l.cutV f.v m).nl=false/\(f.l.cutV f.v m).nh=false:=by
  have h1:=h.nl;have h2:=h.nh;unfold ab.cutV;split
  .exact⟨h1,h2⟩
  .split<;>simp[ao.meet,h1,h2]
 refine⟨h.ok,e.1,e.2,?_⟩;rcases hp with h|h|h
 .rw[e.1] at h;cases h
 .rw[e.2] at h;cases h
 .exact h
def fC.split{f g:aH}(h:fC f){m:ab}(hg:g∈splitP f m):fC g:=by
 unfold splitP at hg;split at hg
 .rename_i hb
  rw[aY] at hg;subst hg;exact h.cut hb
 .cases hg
def H'{l:List aH}(h: ∀f∈l,fC f)(m:ab):l.flatMap (fun g=>i0 g m 1)=l.flatMap (fun g=>splitP g m)/\l.flatMap (fun g=>i0 g m (-1))=l.flatMap (fun g=>splitP g m.rev):=by
 induction l with
 |nil=>exact⟨J,J⟩
 |cons f t ih=>
  obtain⟨i1,i2⟩:=ih fun g hg=>h g (aJ _ hg);have hf:=h f aQ;refine⟨?_,?_⟩
  .rw[lY,lY,i1,Jd hf (.inl J),if_pos J]
  .rw[lY,lY,i2,Jd hf (.inr J),if_neg (by decide)]
def fC.splits{l:List aH}(h: ∀f∈l,fC f)(m:ab): ∀g∈l.flatMap (fun g=>splitP g m),fC g:=fun g hg=>by
 obtain⟨f,hf,hg⟩:=gQ.1 hg;exact(h f hf).split hg
def Cb{a b:aa->Bool}: ∀{n:Nat} {l:List aH} {c:aA} {d:List ab},(∀f∈l,fC f)->(d9 a n l c).like (iu b n l d)
 |n,[],c,d,_=>by cases n<;>exact trivial
 |0,f::t,c,d,_=>trivial
 |n+1,f::t,c,d,h=>by
  rw[d9,iu];obtain⟨e1,e2⟩:=H' h f.l;refine⟨J,?_,?_⟩
  .rw[e1];exact Cb (fC.splits h f.l)
  .rw[e2];exact Cb (fC.splits h f.l.rev)
def Tr.like_lns: ∀{t u:Tr},t.like u->t.lns=u.lns
 | .leaf _, .leaf _,_=>rfl
 | .node l x y, .node m u v,⟨h,h1,h2⟩=>by rw[Tr.lns,Tr.lns,h,Tr.like_lns h1,Tr.like_lns h2]
def zr{M:List ab}(hM: ∀l∈M,l.ok): ∀{t u:Tr} {c:aA},t.like u->(∀l∈t.lns,l∈M)->cx c->(∀p,bH c p->gF M p->t.val p=u.val p)->t.restrict c=u.restrict c
 | .leaf a, .leaf b,c,_,_,hc,hv=>by
  obtain⟨p,hp,ho⟩:=aDP hc M hM;have:=hv p hp ho;rw[Tr.val,Tr.val] at this;rw[this]
 | .node l x y, .node m u v,c,⟨e,h1,h2⟩,hl,hc,hv=>by
  subst e;have hlM:=hl l aQ;have hx: ∀m∈x.lns,m∈M:=fun m hm=>hl m (aJ _ (cV _ hm));have hy: ∀m∈y.lns,m∈M:=fun m hm=>hl m (aJ _ (dX _ hm));have hok:=hM l hlM
  cases hb:co c l.rev with
  |false=>
   rw[Tr.restrict_A _ _ hb,Tr.restrict_A _ _ hb];refine zr hM h1 hx hc fun p hp ho=>?_;have q:=Jb hc hok hb hp (ho l hlM);have:=hv p hp ho;rwa [Tr.val_pos q,Tr.val_pos q] at this
  |true=>
   cases hb2:co c l with
   |false=>
    rw[Tr.restrict_B _ _ hb hb2,Tr.restrict_B _ _ hb hb2];refine zr hM h2 hy hc fun p hp ho=>?_;have q:=M' hc hok hb2 hp;have:=hv p hp ho;rwa [Tr.val_neg q,Tr.val_neg q] at this
   |true=>
    obtain⟨g1,i1⟩:=iH hc hok hb2;obtain⟨g2,i2⟩:=iH hc hok.rev hb;rw[Tr.restrict_C _ _ hb hb2,Tr.restrict_C _ _ hb hb2];congr 1
    .refine zr hM h1 hx g1 fun p hp ho=>?_
     obtain⟨a1,a2⟩:=(i1 p).1 hp;have:=hv p a1 ho;rwa [Tr.val_pos a2,Tr.val_pos a2] at this
    .refine zr hM h2 hy g2 fun p hp ho=>?_
     obtain⟨a1,a2⟩:=(i2 p).1 hp;rw[gA] at a2;have:=hv p a1 ho;rwa [Tr.val_neg (by grind),Tr.val_neg (by grind)] at this
def Tr.Prp:Tr->aA->Prop
 | .leaf _,_=>True
 | .node l x y,c=>co c l=true/\co c l.rev=true/\x.Prp (bO c l)/\y.Prp (bO c l.rev)
def O0{c:aA}(hc:cx c){l:ab}(hl:l.ok){p:aa}(hp:bH c p)(h0:l.value p=0):co c l=true/\co c l.rev=true:=by
 have hn:=ow hl.ne;obtain⟨e,he,hm⟩:=hp.open l.nor;obtain⟨f,hf,hk⟩:=hp.open (kP l.nor);have hn2:l.nor.dot (kP l.nor)= -(l.nor.dot l.nor):=by unfold kP aa.dot;dsimp only;grind
 refine⟨(qB hc hl).2 ⟨_,hm e (by grind) (by grind),?_⟩,(qB hc hl.rev).2 ⟨_,hk f (by grind) (by grind),?_⟩⟩
 .rw[jF,h0];have:=fp he hn;grind
 .rw[gA,jF,h0,hn2];have:=fp hf hn;grind
def uw(l:List aH)(c:aA):Prop:= ∀f∈l,∀t,f.v.ins t->bH c (f.l.at t)
def uw.split{l:List aH}{c:aA}(h:uw l c){m:ab}(i1: ∀p,bH (bO c m) p↔bH c p/\0<m.value p):uw (l.flatMap fun g=>splitP g m) (bO c m):=fun g hg t ht=>by
 obtain⟨f,hf,hg⟩:=gQ.1 hg;unfold splitP at hg;split at hg
 .rename_i hb
  rw[aY] at hg;subst hg;obtain⟨k1,k2⟩:=(BD hb t).1 ht;exact(i1 _).2 ⟨h f hf t k1,k2⟩
 .cases hg
def uw.cross{f:aH}{t:List aH}{c:aA}(h:uw (f::t) c)(hf:fC f)(hc:cx c):co c f.l=true/\co c f.l.rev=true:=by
 have hs:f.v.ins (Bj f.v):=LW hf.pos;exact O0 hc hf.ok (h f aQ _ hs) (mD hf.ok.ne _)
def Bp{acc:aa->Bool}: ∀{n:Nat} {l:List aH} {c:aA},(∀f∈l,fC f)->cx c->uw l c->(d9 acc n l c).Prp c
 |n,[],c,_,_,_=>by cases n<;>exact trivial
 |0,f::t,c,_,_,_=>trivial
 |n+1,f::t,c,h,hc,hl=>by
  rw[d9];have hf:=h f aQ;obtain⟨b1,b2⟩:=hl.cross hf hc;obtain⟨g1,i1⟩:=iH hc hf.ok b1;obtain⟨g2,i2⟩:=iH hc hf.ok.rev b2;exact⟨b1,b2,Bp (fC.splits h _) g1 (hl.split i1),Bp (fC.splits h _) g2 (hl.split i2)⟩
def BA(E:List aH)(c:aA)(l:List aH):Prop:= ∀e∈E,∀t,e.v.ins t->bH c (e.l.at t)-> ∃f∈l,f.l=e.l/\f.v.ins t
def BA.split{E l:List aH}{c:aA}(h:BA E c l)(hs: ∀f∈l,fC f){m:ab}(i1: ∀p,bH (bO c m) p↔bH c p/\0<m.value p):BA E (bO c m) (l.flatMap fun g=>splitP g m):=fun e he t ht hin=>by
 obtain⟨h1,h2⟩:=(i1 _).1 hin;obtain⟨f,hf,ef,hft⟩:=h e he t ht h1;have hb:f.l.cutB f.v m=true:=by
  cases q:f.l.cutB f.v m with
  |true=>rfl
  |false=>
   have:=C5 (hs f hf).pos q hft.has;rw[ef] at this;exact absurd this (by grind)
 refine⟨⟨f.l,f.l.cutV f.v m⟩,gQ.2 ⟨f,hf,by unfold splitP;rw[if_pos hb];exact aY.2 J⟩,ef,?_⟩;exact(BD hb t).2 ⟨hft,by rw[ef];exact h2⟩
structure FS (f:aH):Prop where
 fo:lc f
 sg:fC f
def FS.splits{l:List aH}(h: ∀f∈l,FS f){m:ab}(hm:LB m):(∀g∈l.flatMap (fun g=>splitP g m),FS g)/\ ∀g∈l.flatMap (fun g=>splitP g m.rev),FS g:=by
 obtain⟨e1,e2⟩:=H' (fun f hf=>(h f hf).sg) m;refine⟨fun g hg=>⟨?_,fC.splits (fun f hf=>(h f hf).sg) m g hg⟩,fun g hg=>⟨?_,fC.splits (fun f hf=>(h f hf).sg) m.rev g hg⟩⟩
 .rw[<-e1] at hg
  obtain⟨q,hq,hg⟩:=gQ.1 hg;exact(BY (h q hq).fo hm g hg).1
 .rw[<-e2] at hg
  obtain⟨q,hq,hg⟩:=gQ.1 hg;exact(BY (h q hq).fo hm g hg).1
def lh.splitP{n:Nat}{f:aH}{t:List aH}(h:lh (n+1) (f::t))(hok: ∀g∈f::t,FS g):lh n ((f::t).flatMap fun g=>splitP g f.l)/\lh n ((f::t).flatMap fun g=>splitP g f.l.rev):=by
 obtain⟨e1,e2⟩:=H' (fun f hf=>(hok f hf).sg) f.l;rw[<-e1,<-e2];exact⟨h.split (fun g hg=>(hok g hg).fo),h.split (fun g hg=>(hok g hg).fo)⟩
def lh.no{f:aH}{t:List aH}(h:lh 0 (f::t)):False:=by
 obtain⟨K,hK,hs⟩:=h;obtain⟨m,hm,_⟩:=hs f aQ;rw[bL (show K.length=0 by omega)] at hm;cases hm
def Gq{acc:aa->Bool}{E:List aH}(ha: ∀(c:aA) (q p:aa),(∀e∈E,∀t,e.v.ins t-> ¬bH c (e.l.at t))->bH c q->bH c p->acc q=acc p): ∀{n:Nat} {l:List aH} {c:aA} {p:aa},(∀f∈l,FS f)->lh n l->cx c->uw l c->BA E c l->bH c p->gF (d9 acc n l c).lns p->(d9 acc n l c).val p=acc p
 |n,[],c,p,_,_,hc,_,hcov,hp,_=>by
  have e:d9 acc n [] c= .leaf (acc (pf c)):=by cases n<;>rfl
  rw[e,Tr.val];exact ha c _ _ (fun e he t ht hin=>by obtain⟨f,hf,_⟩:=hcov e he t ht hin;cases hf) (avr hc) hp
 |0,f::t,_,_,_,hf,_,_,_,_,_=>hf.no.elim
 |n+1,f::t,c,p,hok,hf,hc,hl,hcov,hp,hoff=>by
  have fo:=hok f aQ;have hsg:=fun g hg=>(hok g hg).sg;obtain⟨k1,k2⟩:=FS.splits hok fo.fo.lb;obtain⟨w1,w2⟩:=hf.splitP hok;obtain⟨b1,b2⟩:=hl.cross fo.sg hc;obtain⟨g1,i1⟩:=iH hc fo.sg.ok b1;obtain⟨g2,i2⟩:=iH hc fo.sg.ok.rev b2;rw[d9] at hoff⊢;by_cases q:0<f.l.value p
  .rw[Tr.val_pos q]
   exact Gq ha k1 w1 g1 (hl.split i1) (hcov.split hsg i1) ((i1 p).2 ⟨hp,q⟩) hoff.x
  .rw[Tr.val_neg q]
   have:=hoff.l;exact Gq ha k2 w2 g2 (hl.split i2) (hcov.split hsg i2) ((i2 p).2 ⟨hp,by rw[gA];grind⟩) hoff.y
def Rk{v w:ZP}(h:v≠w)(ho:(di v w).l.ok):fC (di v w):=⟨ho,J,J,(Dn h ho).2.2⟩
def yM{rs:List (List ZP)}(hr: ∀r∈rs,dz r): ∀f∈cP rs,FS f:=fun f hf=>by
 have h2:=(qI hr).2 f hf;obtain⟨v,w,hn,ho,rfl,_⟩:=VS hr hf;exact⟨h2,Rk hn ho⟩
def HH(rs:List (List ZP)):lh (cP rs).length (cP rs):=⟨(cP rs).map (·.l),by rw[aX];exact bQ _,fun f hf=>⟨f.l,fZ hf, .inl J⟩⟩
def Hi{c:aA}{p:aa}:bH c p↔d8 (c.map fun s=>s.l) p:=by
 unfold bH d8;constructor
 .intro h m hm
  obtain⟨s,hs,rfl⟩:=bX.1 hm;exact h s hs
 .intro h s hs
  exact h s.l (fZ hs)
def jh(rs:List (List ZP))(fill:Int):Tr:=d9 (jp rs fill) (cP rs).length (cP rs) []
def Y7{rs:List (List ZP)}{fill:Int}(hr: ∀r∈rs,dz r){p:aa}(ho:gF (jh rs fill).lns p):(jh rs fill).val p=jp rs fill p:=
 Gq (E:=cP rs) (fun c q p hno hq hp=>Lv hr (c:=c.map fun s=>s.l) (fun e he t ht hin=>hno e he t ht (Hi.2 hin)) (Hi.1 hq) (Hi.1 hp)) (yM hr) (HH rs) cx.nil (fun f hf t ht s hs=>by cases hs) (fun e he t ht _=>⟨e,he,J,ht⟩) (fun s hs=>by cases hs) ho
def W8{rs:List (List ZP)}{fill:Int}(hr: ∀r∈rs,dz r){p:aa}(ho:gF (oo rs fill).lns p):(oo rs fill).val p=jp rs fill p:=by
 rw[<-R9 hr ho];unfold iB;rw[Tr.val_restrict (oo rs fill) [] p (qa fun f hf=>((qI hr).2 f hf).ok) cx.nil (fun s hs=>by cases hs) ho]
def JE{rs:List (List ZP)}{fill:Int}(hr: ∀r∈rs,dz r):(jh rs fill).like (oo rs fill)/\(jh rs fill).Prp []/\(jh rs fill).all ab.ok:=by
 have hl:(jh rs fill).like (oo rs fill):=Cb fun f hf=>(yM hr f hf).sg;refine⟨hl,Bp (fun f hf=>(yM hr f hf).sg) cx.nil (fun f hf t ht s hs=>by cases hs),?_⟩;have hk:(oo rs fill).all ab.ok:=qa fun f hf=>((qI hr).2 f hf).ok;rw[qy,Tr.like_lns hl,<-qy];exact hk
def W9{rs:List (List ZP)}{fill:Int}(hr: ∀r∈rs,dz r):(jh rs fill).restrict []=iB rs fill:=by
 obtain⟨h1,h2,h3⟩:=JE (fill:=fill) hr;unfold iB;refine zr (M:=(jh rs fill).lns) (qy.1 h3) h1 (fun l hl=>hl) cx.nil fun p hp ho=>?_;rw[Y7 hr ho,W8 hr (by rw[<-Tr.like_lns h1];exact ho)]
def mB(c:aA)(m:ab):Bool:=co c m&&co c m.rev
def sr{c:aA}(hc:cx c){m:ab}(hm:m.ok):mB c m=true↔Ct m c:=by
 unfold mB;rw[aM];constructor
 .rintro ⟨h1,h2⟩
  obtain⟨p,hp,k1⟩:=(qB hc hm).1 h1;obtain⟨q,hq,k2⟩:=(qB hc hm.rev).1 h2;rw[gA] at k2;generalize hA:m.value p=A at*;generalize hB:m.value q=B at*;have hAB:0<A-B:=by grind
  have e:A/(A-B)*(A-B)=A:=by grind
  generalize A/(A-B)=r at*;have r0:0<=r:=(i5 hAB).1 (by rw[e];exact fQ k1);have r1:r<=1:=by
   have:=(i5 (s:=1-r) hAB).1 (by grind);grind
  exact⟨bG p q r,hp.seg hq r0 r1,by rw[jD,hA,hB];grind⟩
 .rintro ⟨p,hp,h0⟩
  exact O0 hc hm hp h0
def xB(c:aA)(m n:ab):Bool:=decide (¬m.same n)&&(decide (n.value (wc m n)=0)&&oP c (wc m n))
def oB{c:aA}{m n:ab}(hm:m.ok)(hn:n.ok):xB c m n=true↔ ¬m.same n/\ ∃z,bH c z/\m.value z=0/\n.value z=0:=by
 unfold xB;rw[aM,aM,decide_eq_true_eq,decide_eq_true_eq,pj];constructor
 .rintro ⟨h1,h2,h3⟩
  exact⟨h1,_,h3,mD hm.ne _,h2⟩
 .rintro ⟨h1,z,hz,k1,k2⟩
  rcases Db hm hn k1 k2 with h|h
  .exact absurd h h1
  .rw[<-h];exact⟨h1,k2,hz⟩
def DL{c:aA}{m n:ab}(hm:m.ok)(hn:n.ok):xB c m n=xB c n m:=by
 rw[oK,oB hm hn,oB hn hm];constructor<;>(rintro ⟨h,z,hz,k1,k2⟩;exact⟨fun e=>h e.symm,z,hz,k2,k1⟩)
def gr(f:ab->Nat):List ab->Nat
 |[]=>0
 |m::K=>f m+gr f K
def bN(b:Bool):Nat:=if b then 1 else 0
def P8{f g:ab->Nat}: ∀{K:List ab},(∀m∈K,f m<=g m)->gr f K<=gr g K
 |[],_=>bQ _
 |m::K,h=>by
  have:=P8 (f:=f) (g:=g) (K:=K) fun n hn=>h n (aJ _ hn);have:=h m aQ;show f m+gr f K<=g m+gr g K;omega
def vO(f g:ab->Nat): ∀K,gr (fun m=>f m+g m) K=gr f K+gr g K
 |[]=>rfl
 |m::K=>by
  have:=vO f g K;show f m+g m+gr (fun m=>f m+g m) K=f m+gr f K+(g m+gr g K);omega
def yv{f g:ab->Nat}{d:Nat}{m0:ab}: ∀{K:List ab},(∀m∈K,f m<=g m)->m0∈K->f m0+d<=g m0->gr f K+d<=gr g K
 |[],_,h,_=>by cases h
 |m::K,h,hm,hd=>by
  have i1:=P8 (f:=f) (g:=g) (K:=K) fun n hn=>h n (aJ _ hn);have:=h m aQ;show f m+gr f K+d<=g m+gr g K;rcases aU.1 hm with rfl|hm
  .omega
  .have:=yv (f:=f) (g:=g) (d:=d) (K:=K) (fun n hn=>h n (aJ _ hn)) hm hd
   omega
def yc{f:ab->Nat}{B:Nat}: ∀{K:List ab},(∀m∈K,f m<=B)->gr f K<=K.length*B
 |[],_=>aN _
 |m::K,h=>by
  have:=yc (f:=f) (B:=B) (K:=K) fun n hn=>h n (aJ _ hn);have:=h m aQ;show f m+gr f K<=(K.length+1)*B;rw[fL];omega
def wl(K:List ab)(c:aA):Nat:=gr (fun m=>bN (mB c m)) K
def i7(K:List ab)(c:aA)(m:ab):Nat:=gr (fun n=>bN (xB c m n)) K
def wR(K:List ab)(c:aA):Nat:=gr (i7 K c) K
def QM(b:Bool):bN b<=1:=by cases b<;>decide
def ara{K:List ab}(hK: ∀m∈K,m.ok){c:aA}(hc:cx c){n m0:ab}(hn:n.ok)(h0:m0∈K)(hs:m0.same n)(hb:co c n=true)(hb2:co c n.rev=true):
  wl K (bO c n)+wl K (bO c n.rev)+1<=wl K c+i7 K c m0/\wR K (bO c n)+wR K (bO c n.rev)+2*i7 K c m0<=wR K c:=by
 obtain⟨g1,i1⟩:=iH hc hn hb;obtain⟨g2,i2⟩:=iH hc hn.rev hb2;have i2: ∀p,bH (bO c n.rev) p↔bH c p/\n.value p<0:=fun p=>by rw[i2,gA];constructor<;>(rintro ⟨a,b⟩;exact⟨a,by grind⟩)
 have hm0:=hK m0 h0;have z1: ∀m,m.ok->(mB (bO c n) m=true->mB c m=true)/\(mB (bO c n.rev) m=true->mB c m=true):=fun m hm=>by
  rw[sr g1 hm,sr g2 hm,sr hc hm];exact⟨fun⟨p,hp,k⟩=>⟨p,((i1 p).1 hp).1,k⟩,fun⟨p,hp,k⟩=>⟨p,((i2 p).1 hp).1,k⟩⟩
 have z2: ∀m,m.ok->mB (bO c n) m=true->mB (bO c n.rev) m=true->xB c m0 m=true:=fun m hm h1 h2=>by
  obtain⟨p,hp,k1⟩:=(sr g1 hm).1 h1;obtain⟨q,hq,k2⟩:=(sr g2 hm).1 h2;obtain⟨hp,ap⟩:=(i1 p).1 hp;obtain⟨hq,aq⟩:=(i2 q).1 hq;rw[oB hm0 hm];refine⟨fun e=>?_,?_⟩
  .rw[oH hs (oH e.symm k1)] at ap;grind
  generalize hA:n.value p=A at*;generalize hB:n.value q=B at*;have hAB:0<A-B:=by grind
  have e:A/(A-B)*(A-B)=A:=by grind
  generalize A/(A-B)=r at*;have r0:0<=r:=(i5 hAB).1 (by rw[e];exact fQ ap);have r1:r<=1:=by
   have:=(i5 (s:=1-r) hAB).1 (by grind);grind
  exact⟨bG p q r,hp.seg hq r0 r1,oH hs.symm (by rw[jD,hA,hB];grind),by rw[jD,k1,k2];grind⟩
 have w1: ∀m m',m.ok->m'.ok->xB (bO c n) m m'=true->xB c m m'=true/\ ¬xB (bO c n.rev) m m'=true:=fun m m' hm hm' h=>by
  rw[oB hm hm'] at h;obtain⟨e,z,hz,k1,k2⟩:=h;obtain⟨hz,az⟩:=(i1 z).1 hz;refine⟨(oB hm hm').2 ⟨e,z,hz,k1,k2⟩,fun h=>?_⟩;obtain⟨_,y,hy,j1,j2⟩:=(oB hm hm').1 h;obtain⟨hy,ay⟩:=(i2 y).1 hy;rcases Db hm hm' k1 k2 with h|h
  .exact e h
  .rcases Db hm hm' j1 j2 with h'|h'
   .exact e h'
   .rw[h'] at ay;rw[h] at az;grind
 have w2: ∀m m',m.ok->m'.ok->xB (bO c n.rev) m m'=true->xB c m m'=true:=fun m m' hm hm' h=>by
  rw[oB hm hm'] at h⊢;obtain⟨e,z,hz,k1,k2⟩:=h;exact⟨e,z,((i2 z).1 hz).1,k1,k2⟩
 have w3: ∀m,m.ok->xB (bO c n) m m0=false/\xB (bO c n.rev) m m0=false:=fun m hm=>by
  constructor
  .rw[<-lJ,oB hm hm0]
   rintro ⟨_,z,hz,_,k2⟩;have:=((i1 z).1 hz).2;rw[oH hs k2] at this;grind
  .rw[<-lJ,oB hm hm0]
   rintro ⟨_,z,hz,_,k2⟩;have:=((i2 z).1 hz).2;rw[oH hs k2] at this;grind
 have hmm: ∀d,xB d m0 m0=false:=fun d=>by
  rw[<-lJ,oB hm0 hm0];rintro ⟨h,_⟩;exact h (.inl rfl)
 have n1: ∀d:aA,cx d->(∀p,bH d p->n.value p≠0)->mB d m0=false:=fun d hd h=>by
  rw[<-lJ,sr hd hm0];rintro ⟨p,hp,k⟩;exact h p hp (oH hs k)
 have n2:mB c m0=true:=by
  rw[sr hc hm0];obtain⟨p,hp,k⟩:=(sr hc hn).1 (by unfold mB;rw[hb,hb2];rfl);exact⟨p,hp,oH hs.symm k⟩
 constructor
 .unfold wl i7
  rw[<-vO,<-vO];refine yv (m0:=m0) (d:=1) (fun m hm=>?_) h0 ?_
  .have hmk:=hK m hm
   obtain⟨a1,a2⟩:=z1 m hmk;have a3:=z2 m hmk
   try dsimp only
   cases e1:mB (bO c n) m<;>cases e2:mB (bO c n.rev) m<;>simp only[e1,e2,forall_const,reduceCtorEq,false_implies] at a1 a2 a3<;>simp_all [bN]
  .try dsimp only
   rw[n1 _ g1 (fun p hp=>by have:=((i1 p).1 hp).2;grind),n1 _ g2 (fun p hp=>by have:=((i2 p).1 hp).2;grind),n2,hmm];decide
 .have row: ∀m∈K,i7 K (bO c n) m+i7 K (bO c n.rev) m+bN (xB c m m0)<=i7 K c m:=fun m hm=>by
   have hmk:=hK m hm;unfold i7;rw[<-vO];refine yv (m0:=m0) (d:=bN (xB c m m0)) (fun m' hm'=>?_) h0 ?_
   .have hmk':=hK m' hm'
    have b1:=w1 m m' hmk hmk';have b2:=w2 m m' hmk hmk'
    try dsimp only
    cases e1:xB (bO c n) m m'<;>cases e2:xB (bO c n.rev) m m'<;>simp_all [bN]
   .obtain⟨c1,c2⟩:=w3 m hmk
    try dsimp only
    rw[c1,c2];simp[bN]
  have r0:i7 K (bO c n) m0=0/\i7 K (bO c n.rev) m0=0:=by
   have z: ∀d,(∀m∈K,xB d m0 m=false)->i7 K d m0=0:=fun d h=>by
    have:=yc (f:=fun m=>bN (xB d m0 m)) (B:=0) (K:=K) fun m hm=>by rw[h m hm];decide
    unfold i7;omega
   exact⟨z _ fun m hm=>by rw[DL hm0 (hK m hm)];exact(w3 m (hK m hm)).1,z _ fun m hm=>by rw[DL hm0 (hK m hm)];exact(w3 m (hK m hm)).2⟩
  have cs:gr (fun m=>bN (xB c m m0)) K=i7 K c m0:=by
   unfold i7;have key: ∀Jv:List ab,(∀m∈Jv,m.ok)->gr (fun m=>bN (xB c m m0)) Jv=gr (fun m=>bN (xB c m0 m)) Jv:=fun Jv=>by
    induction Jv with
    |nil=>intro _;rfl
    |cons a Jv ih=>
     intro h;show bN (xB c a m0)+_=bN (xB c m0 a)+_;rw[ih fun m hm=>h m (aJ _ hm),DL (h a aQ) hm0]
   exact key K hK
  have:=yv (f:=fun m=>i7 K (bO c n) m+i7 K (bO c n.rev) m+bN (xB c m m0)) (g:=i7 K c) (d:=i7 K c m0) (m0:=m0) row h0 (by rw[r0.1,r0.2,hmm];simp[bN]);rw[vO,vO,cs] at this;unfold wR;omega
def Fb{K:List ab}(hK: ∀m∈K,m.ok): ∀{t:Tr} {c:aA},t.Prp c->t.all ab.ok->cx c->kg K t->2*t.size<=2*wl K c+wR K c
 | .leaf _,_,_,_,_,_=>aN _
 | .node n x y,c,⟨h1,h2,h3,h4⟩,⟨hn,hx,hy⟩,hc,⟨⟨m0,hm0,hs⟩,kx,ky⟩=>by
  obtain⟨g1,_⟩:=iH hc hn h1;obtain⟨g2,_⟩:=iH hc hn.rev h2;have a:=Fb hK h3 hx g1 kx;have b:=Fb hK h4 hy g2 ky;obtain⟨d1,d2⟩:=ara hK hc hn hm0 hs h1 h2;rw[Tr.size];omega
def J7{K:List ab}(hK: ∀m∈K,m.ok){t:Tr}{c:aA}(h:t.Prp c)(ht:t.all ab.ok)(hc:cx c)(hA:kg K t):2*t.size<=K.length*(K.length+1):=by
 have h1:=Fb hK h ht hc hA;have h2:wl K c<=K.length*1:=yc fun m _=>QM _;have h3:wR K c<=K.length*(K.length-1):=yc fun m hm=>by
  have:=yv (f:=fun n=>bN (xB c m n)) (g:=fun _=>1) (d:=1) (m0:=m) (K:=K) (fun n _=>QM _) hm (by
   have:xB c m m=false:=by rw[<-lJ,oB (hK m hm) (hK m hm)];rintro ⟨h,_⟩;exact h (.inl rfl)
   rw[this];decide)
  have l1:gr (fun _=>1) K<=K.length*1:=yc fun _ _=>bQ _;unfold i7;omega
 have:K.length*(K.length+1)=K.length*(K.length-1)+2*K.length:=by
  cases K.length with
  |zero=>rfl
  |succ k=>rw[Nat.succ_sub_one,Nat.mul_succ,Nat.mul_succ,fL];omega
 omega
structure aLn (K:List ab) (t:Tr):Prop where
 ok:t.all ab.ok
 am:kg K t
 rd:t.Red []
def aK2(V:List aa)(E:List (aa×aa))(K:List ab)(cs:List aA):List ab:=(K.flatMap fun l=>[Ix l V,Ix l.rev V])++cs.flatMap fun c=>E.filterMap (LH c)
def ZB(p:aa):Prop:= ∃m n:Int,p=iP m n/\m.natAbs<=8/\n.natAbs<=8
def QD(k:Nat)(q:aa):Prop:= ∃(D:Nat) (X Y:Int),0<D/\D<=2^k/\X.natAbs<=2^k/\Y.natAbs<=2^k/\q.x*((D:Int):Rat)=(X:Rat)/\q.y*((D:Int):Rat)=(Y:Rat)
structure CvR (r:List ZP):Prop where
 ok:dz r
 cen: ∃c:aa,∀f∈sC r,0<c7 f.1 f.2 c
 one: ∀p,(∀f∈sC r,0<c7 f.1 f.2 p)->oh r p=1
 zer: ∀p,(∃f∈sC r,c7 f.1 f.2 p<0)->oh r p=0
 cvx: ∀f∈sC r,∀g∈sC r,0<=c7 f.1 f.2 g.1/\0<=c7 f.1 f.2 g.2
 onE: ∀p,(∀f∈sC r,0<=c7 f.1 f.2 p)-> ∀f∈sC r,c7 f.1 f.2 p=0->Pf f.1 f.2 p
section
variable {r:List ZP} {p:aa}
end
def wS(x y O:Rat):Int:=(if x<=0/\ ¬y<=0/\0<O then 1 else 0)-(if¬x<=0/\y<=0/\O<0 then 1 else 0)
def B4(p:Nat->Bool):Nat->Nat->Nat->Nat
 |0,i,_=>i
 |d+1,i,j=>if i<j then(if p ((i+j)/2) then B4 p d ((i+j)/2+1) j else B4 p d i ((i+j)/2)) else i
def aJE(c:aA)(l:ab)(v:ao):aA:=c.take (B4 (gI c l) c.length 0 c.length)++⟨l,v⟩::c.drop (B4 (gI c l) c.length 0 c.length)
def Cd(c:aA)(l:ab):aA:=match jm c l with
 |some v=>aJE (d7 l c) l v
 |none=>c
def Tr.restrictF:Tr->aA->Tr
 | .leaf b,_=> .leaf b
 | .node l x y,c=>if !co c l.rev then x.restrictF c else if !co c l then y.restrictF c else joinQ l (x.restrictF (Cd c l)) (y.restrictF (Cd c l.rev))
def lsh:List ZP:=[(0,0),(3,0),(3,1),(1,1),(1,3),(0,3)]
def cvE(v:List aa)(k i:Nat):Bool:=decide (i=k)||(decide (i=(k+1)%v.length)||decide (0<c7 (v.getD k ⟨0,0⟩) (v.getD ((k+1)%v.length) ⟨0,0⟩) (v.getD i ⟨0,0⟩)))
def aK0(v:List aa):Bool:=(List.range v.length).all fun k=>(List.range v.length).all fun i=>cvE v k i
structure BrV (V:List aa):Prop where
 br:XC V (r9 V)
 zb: ∀v∈V,ZB v
 le:V.length<=4
def aIt(es:List Int)(a:Nat):Tr×Nat:=
 let k:=aB es 4 a
 if(k.1:Int)=0 then(BX (lF es k.2).1,(lF es k.2).2)
 else if(k.1:Int)=1 then(iB [(wq es k.2).1] 2,(wq es k.2).2)
 else if(k.1:Int)=2 then((iB [(wq es k.2).1] 2).compl,(wq es k.2).2)
 else(iB [lsh] 2,k.2)
structure SmT (t:Tr):Prop where
 x:uG 18 t
 rd:t.Red []
 bl:t.all fun l=>BL l 8
 dp:t.depth<=6
 k: ∃K:List ab,K.length*2+4*(t.size+1)<=52/\K.length<=6/\(∀l∈K,l.ok)/\kg K t
def Tr.partsF:Tr->aA->List (Bool×aA)
 | .leaf b,c=>[(b,c)]
 | .node l x y,c=>(if co c l then x.partsF (Cd c l) else [])++(if co c l.rev then y.partsF (Cd c l.rev) else [])
def sqV:List aa:=(n7 0 0 1 1).map ZP.q
def sqC:List aA:=((((((oo [n7 0 0 1 1] 2).restrictF []).restrictF []).partsF []).filter (·.1)).map (·.2))
def L5:Tr->Tr->Bool
 | .leaf a, .leaf b=>a==b
 | .node l x y, .node m u v=>decide (l=m)&&(L5 x u&&L5 y v)
 |_,_=>false
structure aKC (V:List aa) (u:Tr):Prop where
 al:Dt 1 (Tr.leaf false) ((wX (u.restrict [])).map (F0 V (r9 V)))=some (CE V (r9 V) u)
 gd:(CE V (r9 V) u).gd
 dp:(CE V (r9 V) u).depth<=340
 s:(CE V (r9 V) u).size<=60000
def ly(v w:aa):Prop:= ¬(v.x=w.x/\v.y=w.y)
def Fx{a:Int}{g:Nat}(hg:0<g)(hd:g∣a.natAbs):(a:Rat)*(((g:Nat):Int):Rat)⁻¹=((zv (decide (a<0)) (a.natAbs/g):Int):Rat):=by
 obtain⟨q,hq⟩:=hd;have e:zv (decide (a<0)) (a.natAbs/g)*(g:Int)=a:=by
  rw[hq,nR q hg];unfold zv;have hc:((g*q:Nat):Int)=(g:Int)*(q:Int):=by simp
  have hm:=qN (g:Int) (q:Int);split
  .rename_i h
   have h:=of_decide_eq_true h;rw[Int.neg_mul];omega
  .rename_i h
   have h: ¬a<0:=fun k=>h (decide_eq_true k);omega
 generalize zv (decide (a<0)) (a.natAbs/g)=z at*;have h0:((g:Int):Rat)≠0:=by
  intro k;have:(g:Int)=0:=by exact_mod_cast k
  omega
 rw[<-e,cK];generalize ((g:Int):Rat)=r at*;grind
def Au{a R D g x:Rat}(hg:g≠0)(hR:R*D=g)(ha:a*D=x):a*R⁻¹=x*g⁻¹:=by
 have h1:g*g⁻¹=1:=qR g hg;have hR0:R≠0:=fun e=>hg (by rw[<-hR,e];grind);have h2:R*R⁻¹=1:=qR R hR0;generalize R⁻¹=r at*;generalize g⁻¹=s at*;have:r=D*s:=by
  have h3:R*(r-D*s)=0:=by grind
  have:=(kL.1 h3).resolve_left hR0;grind
 grind
def IU{a b c:Rat}(h0: ¬(a=0/\b=0)):a*(rgcd (rgcd a b) c)⁻¹=((eh a b c).a:Rat)/\b*(rgcd (rgcd a b) c)⁻¹=((eh a b c).b:Rat)/\c*(rgcd (rgcd a b) c)⁻¹=((eh a b c).c:Rat):=by
 obtain⟨k1,k2,k3⟩:=Ph a b c;have hn:=Ev (c:=c) h0;have hD:=PQ a b c;have hr:=Be hD (Be hD k1 k2) k3;unfold eh;generalize a.num*(b.den*c.den:Nat)=x at*;generalize b.num*(a.den*c.den:Nat)=y at*;generalize c.num*(a.den*b.den:Nat)=z at*;rw[dR] at hr;have hgn:Nat.gcd x.natAbs y.natAbs≠0:=fun h=>hn ⟨iU.1 (jU h),iU.1 (jY h)⟩;have hgp:0<Nat.gcd (Nat.gcd x.natAbs y.natAbs) z.natAbs:=kZ _ (eK hgn);have hg:(((Nat.gcd (Nat.gcd x.natAbs y.natAbs) z.natAbs:Nat):Int):Rat)≠0:=fun e=>by
  have:((Nat.gcd (Nat.gcd x.natAbs y.natAbs) z.natAbs:Nat):Int)=0:=by exact_mod_cast e
  omega
 refine⟨?_,?_,?_⟩
 .rw[Au hg hr k1];exact Fx hgp (nK (iW _ _) (iW _ _))
 .rw[Au hg hr k2];exact Fx hgp (nK (iW _ _) (jW _ _))
 .rw[Au hg hr k3];exact Fx hgp (jW _ _)
def Sw{a b c:Rat}(h0: ¬(a=0/\b=0)){x y z:Int}{D:Nat}(hD:0<D)(ha:a*((D:Int):Rat)=(x:Rat))(hb:b*((D:Int):Rat)=(y:Rat))(hc:c*((D:Int):Rat)=(z:Rat)):
  (eh a b c).a.natAbs<=x.natAbs/\(eh a b c).b.natAbs<=y.natAbs/\(eh a b c).c.natAbs<=z.natAbs:=by
 obtain⟨e1,e2,e3⟩:=IU (c:=c) h0;have hr:=Be hD (Be hD ha hb) hc;rw[dR] at hr;have hz: ∀{u:Rat} {v:Int},u*((D:Int):Rat)=(v:Rat)->v=0->u=0:=fun{u v} h k=>by
  rw[k] at h;exact(kL.1 h).resolve_right (fun e=>absurd (show(D:Int)=0 by exact_mod_cast e) (by omega))
 have hgn:Nat.gcd x.natAbs y.natAbs≠0:=fun h=>h0 ⟨hz ha (iU.1 (jU h)),hz hb (iU.1 (jY h))⟩;have hgp:0<Nat.gcd (Nat.gcd x.natAbs y.natAbs) z.natAbs:=kZ _ (eK hgn);generalize Nat.gcd (Nat.gcd x.natAbs y.natAbs) z.natAbs=g at*;have hg:((g:Int):Rat)≠0:=fun e=>by
  have:(g:Int)=0:=by exact_mod_cast e
  omega
 have key: ∀{u:Rat} {v w:Int},u*((D:Int):Rat)=(v:Rat)->u*(rgcd (rgcd a b) c)⁻¹=(w:Rat)->w.natAbs<=v.natAbs:=fun{u v w} h k=>by
  have h1:=Au hg hr h;have h2:((g:Int):Rat)*((g:Int):Rat)⁻¹=1:=qR _ hg;have h3:(w:Rat)*((g:Int):Rat)=(v:Rat):=by
   rw[<-k,h1];generalize ((g:Int):Rat)⁻¹=s at*;generalize ((g:Int):Rat)=r at*;grind
  have h4:w*(g:Int)=v:=by exact_mod_cast h3
  rw[<-h4,fX,dR];exact qS _ hgp
 exact⟨key ha e1,key hb e2,key hc e3⟩
def AN{p q:aa}(h:ly p q): ¬(p.y-q.y=0/\q.x-p.x=0):=fun⟨h1,h2⟩=>h ⟨by grind,by grind⟩
def NH{p q:aa}(h:ly p q):(js p q).ok:=WC (AN h)
def SA{a b c d k:Nat}(ha:a<2^k)(hb:b<2^k)(hc:c<2^k)(hd:d<2^k):a*b*(c*d)<2^(4*k):=by
 have:=Ce (Ce ha hb) (Ce hc hd);rwa [show k+k+(k+k)=4*k by omega] at this
def He{a b:Int}{k:Nat}(ha:a.natAbs<2^k)(hb:b.natAbs<2^k):(a-b).natAbs<2^(k+1):=by
 have:=Int.natAbs_sub_le a b;rw[iL];omega
theorem aAc{p q:aa}(hp:aO p 22)(hq:aO q 22)(h:ly p q):LB (js p q):=by
 obtain⟨⟨a1,a2⟩,⟨b1,b2⟩⟩:=hp;obtain⟨⟨c1,c2⟩,⟨d1,d2⟩⟩:=hq;generalize hK:6*22=K at*;have hpx:=wF p.x;have hpy:=wF p.y;have hqx:=wF q.x;have hqy:=wF q.y;have hD:0<p.x.den*p.y.den*(q.x.den*q.y.den):=iV (iV p.x.den_pos p.y.den_pos) (iV q.x.den_pos q.y.den_pos);have h0:=AN h;have k:=Sw (c:= -((p.y-q.y)*p.x+(q.x-p.x)*p.y)) (x:=p.y.num*q.y.den*(p.x.den*q.x.den)-q.y.num*p.y.den*(p.x.den*q.x.den)) (y:=q.x.num*p.x.den*(p.y.den*q.y.den)-p.x.num*q.x.den*(p.y.den*q.y.den)) (z:=q.y.num*p.x.num*(p.y.den*q.x.den)-q.x.num*p.y.num*(p.x.den*q.y.den)) h0 hD (by push_cast;grind) (by push_cast;grind) (by push_cast;grind);have key: ∀{a b:Int} {c d:Nat},a.natAbs<2^K->b.natAbs<2^K->c<2^K->d<2^K->(a*b*((c:Int)*(d:Int))).natAbs<2^(4*K):=fun{a b c d} ha hb hc hd=>by
  rw[fX,fX,fX,dR,dR];exact SA ha hb hc hd
 have hn: ∀{n:Nat} {m:Nat},n<2^m->((n:Int)).natAbs<2^m:=fun h=>by rw[dR];exact h
 have up: ∀{n m:Nat},n<=m->m<2^(4*K+1)->n<2^576:=fun h1 h2=>gW h1 (Ji (m:=4*K+1) (k:=576) h2 (by omega));obtain⟨k1,k2,k3⟩:=k;exact⟨⟨up k1 (He (key b1 (hn d2) a2 c2) (key d1 (hn b2) a2 c2)),up k2 (He (key c1 (hn a2) b2 d2) (key a1 (hn c2) b2 d2)),up k3 (He (key d1 a1 b2 c2) (key c1 b1 a2 d2))⟩⟩
abbrev PZ:aa:=⟨0,0⟩
def iF(r:List aa)(i:Nat):aa:=r.getD ((i+1)%r.length) PZ
def lI(v w:aa):aH:=⟨js v w,⟨dH (js v w) v,dH (js v w) w,false,false⟩⟩
def r8(r:List aa):Nat->List aH
 |0=>[]
 |k+1=>r8 r k++[lI (r.getD k PZ) (iF r k)]
def ir(r:List aa):List aH:=r8 r r.length
structure RgV (r:List aa):Prop where
 n3:3<=r.length
 n6:r.length<=6
 bd: ∀p∈r,aO p 7
 ne: ∀i<r.length,ly (r.getD i PZ) (iF r i)
def DF{r:List aa}{i:Nat}(h:i<r.length):r.getD i PZ∈r:=by
 rw[aK,aZ h];exact iZ h
def MJ{r:List aa}{i:Nat}(h:i<r.length):iF r i∈r:=DF (dQ _ (by omega))
def QZ(rs:List (List aa)):List aH:=rs.flatMap ir
def KJ(r:List aa)(p:aa):Nat->Int
 |0=>0
 |k+1=>KJ r p k+z8 (r.getD k PZ) (iF r k) p
def XR(r:List aa)(p:aa):Int:=KJ r p r.length
def Tz(rs:List (List aa))(fill:Int)(p:aa):Bool:=mm fill (rs.foldl (fun n r=>n+XR r p) 0)
def Uc(rs:List (List aa))(fill:Int):Tr:=iu (Tz rs fill) (QZ rs).length (QZ rs) []
def aKB(rs:List (List aa))(fill:Int):Tr:=(Uc rs fill).restrict []
def aHI(r:List aa)(q p:aa):Prop:= ∀k,k<r.length->rI (r.getD k PZ) (iF r k) q p
def Yy{v w:aa}(h:ly v w): ∃g:Rat,0<g/\(js v w).value v=0/\(js v w).value w=0/\w=dB v (js v w).dir g:=by
 obtain⟨g,g0,hg⟩:=aBC (c:= -((v.y-w.y)*v.x+(w.x-v.x)*v.y)) (AN h);have h00:=hg ⟨0,0⟩;have h10:=hg ⟨1,0⟩;have h01:=hg ⟨0,1⟩;have hv:=hg v;have hw:=hg w;have hi:g*g⁻¹=1:=qR _ (fun e=>by rw[e] at g0;exact absurd g0 (by decide));have hip:0<g⁻¹:=by rw[Rat.inv_pos];exact g0
 unfold js;generalize eh (v.y-w.y) (w.x-v.x) (-((v.y-w.y)*v.x+(w.x-v.x)*v.y))=l at*;rw[lj] at h00 h10 h01;dsimp only at h00 h10 h01;refine⟨g⁻¹,hip,by rw[hv];grind,by rw[hw];grind,?_⟩;obtain⟨vx,vy⟩:=v;obtain⟨wx,wy⟩:=w;unfold dB ab.dir;simp only[aa.mk.injEq];dsimp only at h00 h10 h01 hi hip;have ea:(l.a:Rat)=g*(vy-wy):=by grind
 have eb:(l.b:Rat)=g*(wx-vx):=by grind
 constructor
 .rw[eb];grind
 .push_cast;rw[ea];grind
def aEa{v w:aa}(h:ly v w):(lI v w).l.at (lI v w).v.lo=v/\(lI v w).l.at (lI v w).v.hi=w/\(lI v w).v.lo<(lI v w).v.hi:=by
 obtain⟨g,g0,h1,h2,h3⟩:=Yy h;have ho:=NH h;unfold lI;dsimp only;generalize js v w=l at*;have e1:=Da ho.ne h1;have e2:=Da ho.ne h2;refine⟨e1,e2,?_⟩;have:dH l w=dH l v+g:=by
  have e3:=Ap l (dH l v) g;rw[e1,<-h3] at e3;rw[<-e3,ID ho.ne]
 rw[this];grind
def ay0{a b c:Rat}{i:Nat}[ha:BQ a i][hb:BQ b i][hc:BQ c i](h0: ¬(a=0/\b=0))(hi:i<=4000:=by decide):PF GB prog 184 [eF a,eF b,eF c] (.tp [cG (eh a b c),vB true]):=by
 obtain⟨e1,e2,e3⟩:=IU (c:=c) h0;haveI:BQ a 4000:=ha.mono hi;haveI:BQ b 4000:=hb.mono hi;haveI:BQ c 4000:=hc.mono hi;haveI:BQ (rgcd a b) 16000:=BQ.mono (inferInstance:BQ (rgcd a b) _);haveI:BQ (rgcd (rgcd a b) c) 40000:=BQ.mono (inferInstance:BQ (rgcd (rgcd a b) c) _);haveI:BQ (rgcd (rgcd a b) c)⁻¹ 40000:=BQ.mono (inferInstance:BQ (rgcd (rgcd a b) c)⁻¹ _);have hl4:([((eh a b c).a:Rat),((eh a b c).b:Rat),((eh a b c).c:Rat)].map eF).length=3:=J;have hl3:[((eh a b c).a:Rat),((eh a b c).b:Rat),((eh a b c).c:Rat)].length=3:=J;refine fn func184 J J ntmps184 J J (fun C=>?_);refine cl J (qv (q:=a)) J<|csd 11 J J J (fun hg11=>?_) (fun hg11=>?_)
 .
  refine cl J (qv (q:=b)) J<|bd J J J (fun hc14=>?_) (fun hc14=>?_)
  .
   exact absurd ⟨hg11,hc14⟩ h0
  .
   refine cl rfl (kw (p:=a) (q:=b) (i:=4000) (j:=4000)) rfl<|cl rfl (kw (p:=rgcd a b) (q:=c) (i:=16000) (j:=4000)) rfl<|cl rfl (yL (q:=rgcd (rgcd a b) c) (i:=40000)) rfl<|ro (fu:=⟨0⟩) J J<|cq (hv:=by simp only[aj];exact⟨by kernel_rfl,by omega⟩) ([((eh a b c).a:Rat),((eh a b c).b:Rat),((eh a b c).c:Rat)].map eF) rfl (Bo (L:=[a,b,c]) (k:=(rgcd (rgcd a b) c)⁻¹) (i:=40000) (by intro q hq;simp only[aU,jS,or_false] at hq;rcases hq with rfl|rfl|rfl;exact ha.mono (by omega);exact hb.mono (by omega);exact hc.mono (by omega)) (nb rfl)) (by simp only[bJ,dS,e1,e2,e3]) rfl<|lb _ J J J<|lb _ J J J<|lb _ J J J<|rz J J
 .
  refine cl rfl (kw (p:=a) (q:=b) (i:=4000) (j:=4000)) rfl<|cl rfl (kw (p:=rgcd a b) (q:=c) (i:=16000) (j:=4000)) rfl<|cl rfl (yL (q:=rgcd (rgcd a b) c) (i:=40000)) rfl<|ro (fu:=⟨0⟩) J J<|cq (hv:=by simp only[aj];exact⟨by kernel_rfl,by omega⟩) ([((eh a b c).a:Rat),((eh a b c).b:Rat),((eh a b c).c:Rat)].map eF) rfl (Bo (L:=[a,b,c]) (k:=(rgcd (rgcd a b) c)⁻¹) (i:=40000) (by intro q hq;simp only[aU,jS,or_false] at hq;rcases hq with rfl|rfl|rfl;exact ha.mono (by omega);exact hb.mono (by omega);exact hc.mono (by omega)) (nb rfl)) (by simp only[bJ,dS,e1,e2,e3]) rfl<|lb _ J J J<|lb _ J J J<|lb _ J J J<|rz J J
def azp(p q:aa):oe ⟨q.x-p.x,q.y-p.y⟩=⟨p.y-q.y,q.x-p.x⟩:=by
 unfold oe;simp only[aa.mk.injEq,and_true];grind
def SQ{p q:aa}[hp:aO p 30][hq:aO q 30](h:ly p q):PF GB prog 118 [eZ p,eZ q] (.tp [cG (js p q),vB true]):=by
 haveI:aO (⟨p.y-q.y,q.x-p.x⟩:aa) 61:=⟨inferInstanceAs (BQ (p.y-q.y) _),inferInstanceAs (BQ (q.x-p.x) _)⟩;haveI:BQ (p.y-q.y) 400:=BQ.mono (inferInstance:BQ (p.y-q.y) _);haveI:BQ (q.x-p.x) 400:=BQ.mono (inferInstance:BQ (q.x-p.x) _);haveI:BQ ((⟨p.y-q.y,q.x-p.x⟩:aa).dot p) 400:=BQ.mono (inferInstance:BQ ((⟨p.y-q.y,q.x-p.x⟩:aa).dot p) _);haveI:BQ (-((⟨p.y-q.y,q.x-p.x⟩:aa).dot p)) 400:=inferInstance;refine fn func118 J J ntmps118 J J (fun C=>?_);refine cl J (Ko (p:=q) (q:=p) (i:=30) (j:=30)) J<|cl (fu:=⟨0⟩) J (Nb (p:=⟨q.x-p.x,q.y-p.y⟩) (i:=61) (h:=I4 q p)) J<|ah 12 (.d (eZ ⟨p.y-q.y,q.x-p.x⟩)) J (by rw[azp])<|gx J<|cl J (sj (p:=⟨p.y-q.y,q.x-p.x⟩) (q:=p) (i:=61) (j:=30)) J<|cl J (nA (q:=(⟨p.y-q.y,q.x-p.x⟩:aa).dot p) (i:=400)) J<|cl J (ay0 (a:=p.y-q.y) (b:=q.x-p.x) (c:= -((⟨p.y-q.y,q.x-p.x⟩:aa).dot p)) (AN h)) J<|rz J J
theorem Lf{l:ab}{p:aa}(hl:LB l)(hp:aO p 22):BQ (dH l p) 1200:=by
 unfold dH aa.dot ab.dir;exact BQ.mono (inferInstance:BQ ((p.x*(l.b:Rat)+p.y*((-l.a:Int):Rat))/((l.b:Rat)*(l.b:Rat)+((-l.a:Int):Rat)*((-l.a:Int):Rat))) _)
def QQ{v w:aa}(hv:aO v 22)(hw:aO w 22)(h:ly v w):lc (lI v w):=by
 have h1:=aAc hv hw h;exact⟨h1,NH h,⟨fun e=>(by cases e),fun e=>(by cases e)⟩,Lf h1 hv,Lf h1 hw⟩
theorem aO.mono'{p:aa}{i j:Nat}(h:aO p i)(k:i<=j):aO p j:=⟨h.x.mono k,h.y.mono k⟩
def Re{v w:aa}[hv:aO v 22][hw:aO w 22](h:ly v w):PF GB prog 69 [eZ v,eZ w] (.tp [bj (lI v w),vB true]):=by
 have hf:=QQ hv hw h;haveI:LB (js v w):=hf.lb;refine fn func69 J J ntmps69 J J (fun C=>?_);refine cl (fu:=⟨12⟩) J (SQ (hp:=hv.mono' (by decide)) (hq:=hw.mono' (by decide)) h) J<|fi 14 J<|gx J<|cl J (BO (l:=js v w) (p:=v) (i:=22)) J<|cl J (BO (l:=js v w) (p:=w) (i:=22)) J<|rz J J
structure BH (r:List aa):Prop where
 n1:0<r.length
 n9:r.length<=9
 bd: ∀p∈r,aO p 22
 ne: ∀i<r.length,ly (r.getD i PZ) (iF r i)
def rA(r:List aa): ∀n,(r8 r n).length=n
 |0=>rfl
 |n+1=>by rw[r8,aL,rA r n];rfl
def JG{r:List aa}{k:Nat}: ∀{n:Nat},k<n->(r8 r n)[k]? =some (lI (r.getD k PZ) (iF r k))
 |0,h=>by omega
 |n+1,h=>by
  rw[r8];by_cases e:k=n
  .subst e
   rw[gK (by rw[rA];omega),rA,nN];rfl
  .rw[eX (by rw[rA];omega)]
   exact JG (by omega)
def Hz{r:List aa}: ∀{n:Nat} {f:aH},f∈r8 r n-> ∃k,k<n/\f=lI (r.getD k PZ) (iF r k)
 |0,f,h=>by cases h
 |n+1,f,h=>by
  rw[r8] at h;rcases bS.1 h with h|h
  .obtain⟨k,k1,k2⟩:=Hz h
   exact⟨k,by omega,k2⟩
  .exact⟨n,by omega,aY.1 h⟩
def Vk{r:List aa}(h:BH r):(ir r).length=r.length/\ ∀f∈ir r,lc f:=by
 refine⟨rA r _,fun f hf=>?_⟩;obtain⟨k,hk,rfl⟩:=Hz hf;exact QQ (h.bd _ (DF hk)) (h.bd _ (MJ hk)) (h.ne k hk)
def HB{v:List aa}{k:Nat}{p:aa}(h:v[k]? =some p):k<v.length/\p=v.getD k PZ:=
 ⟨(aT.1 h).1,by rw[aK,h];rfl⟩
def Jh{v:List aa}{k:Nat}{p:aa}(h:v[(k+1)%v.length]? =some p):p=iF v k:=(HB h).2
def MI{v:List aa}(h:BH v):PF GB prog 30 [.sl (v.map eZ)] (.sl ((ir v).map bj)):=by
 have hn:=h.n9;have hel:(ir v).length=v.length:=rA v _;have hrl:(jl v).length=v.length:=by unfold jl;rw[aX,oN]
 refine Bv func30 J J ntmps30 J J (fun C h0=>?_);refine xi J J J yo (fun _=>J) (fun GB1 pv hg1 hpv=>?_);refine wA 3 0 50 139 17 J J J J J<|sO 3 2000003 h0.fx J ?_;refine yw (σ:=Empty) (fun k=>[(2000003,some (.o 91 [.rw 50] true)),(50,some (.b 139 17 (((ir v).take k).map bj) true))]) (fun _=>True) (fun _=>[]) (fun _=>False) [(3, .ov 2000003 0)]
  h0 J (zJ) (.cons hpv .nil) ⟨J,trivial⟩ J ⟨J,J,trivial⟩ trivial zi J J (fun k e GB' hE hg hp=>?_) (fun D hD hx hp=>?_) (fun D s hD hx hq=>hq.elim)
 .obtain⟨p,q,hpx,hqx,rfl⟩:=zh hE
  obtain⟨hk,rfl⟩:=HB hpx;obtain rfl:=Jh hqx;haveI:=h.bd _ (DF hk);haveI:=h.bd _ (MJ hk);have hx:(ir v)[k]? =some (lI (v.getD k PZ) (iF v k)):=JG hk;have hml:(((ir v).take k).map bj).length=k:=by rw[aX,bK];omega
  refine⟨?_,?_,fun C2=>?_,fun C2=>?_⟩
  rotate_left 2
  .refine gx J<|zS J J J ⟨J,J,J⟩ J ?_
   exact atR
  .refine gx J<|pH 0 (e:=102) (len:=2) (s:=6) J (by kernel_rfl) (by kernel_rfl) (by decide) J<|pH 1 (e:=102) (len:=2) (s:=6) J (by kernel_rfl) (by kernel_rfl) (by decide) J<|cl J (Re (v:=v.getD k PZ) (w:=iF v k) (h.ne k hk)) J<|rf J J<|ap (((ir v).take (k+1)).map bj) J (J3 hx) (sF [lI (v.getD k PZ) (iF v k)]) J<|fD 23 50 J ?_
   exact rq trivial ⟨J,J,trivial⟩
 .rw[hrl,<-hel,cJ]
  refine gx J<|ke 50 J ?_;exact A9 hD hx J J
def VY{a i:Nat}[h:BN a i](hi:i<=1000000000:=by decide):PF GB prog 194 [dN a] (.v (.bool true)):=
 (AH (ds:=dg a) (ey _).2.1 (by have:=hH (a:=a) hi;omega)).to (by unfold vB;rw[decide_eq_true (ey a).2.2])
def Nm{q:Rat}{i:Nat}[hq:BQ q i](hi:i<=1000000:=by decide):PF GB prog 180 [eR q] (.v (.bool true)):=by
 have hd:=q.den_pos;have hdl:0<(dg q.den).length:=eK fun e=>by have:=oI.1 e;omega
 have hml:((dg q.den).map dU).length=(dg q.den).length:=aX ..;have hco:Nat.gcd q.num.natAbs q.den=1:=q.reduced;refine fn func180 J J ntmps180 J J (fun C=>?_);refine cl (fu:=⟨0⟩) J (pq (m:=q.num) (i:=i) (h:=⟨hq.hn⟩) (by omega)) J<|fi 5 J<|gx J<|cl (fu:=⟨0⟩) J (VY (a:=q.den) (i:=i) (h:=⟨hq.hd⟩) (by omega)) J<|fi 10 J<|gx (fu:=⟨6⟩) J<|b9 J (by show some (decide _)=some false;rw[decide_eq_false (by omega)]) J<|cl (fu:=⟨0⟩) J (A7 (a:=q.num.natAbs) (b:=q.den) (i:=i) (j:=i) (h:=⟨hq.hn⟩) (k:=⟨hq.hd⟩) (by omega) (by omega)) J<|ah 24 (.d (dN 1)) J (by rw[hco])<|gx J<|cl J (r5 (a:=1) (i:=1) (h:=⟨by decide⟩)) J<|rz J J
def BT{p:aa}{i:Nat}[hp:aO p i](hi:i<=1000000:=by decide):PF GB prog 113 [gh p] (.v (.bool true)):=by
 refine fn func113 J J ntmps113 J J (fun C=>?_);refine cl (fu:=⟨0⟩) J (Nm (q:=p.x) (i:=i) (by omega)) J<|fi 5 J<|gx J<|cl J (Nm (q:=p.y) (i:=i) (by omega)) J<|rz J J
def jI(l:List aa)(p:aa):Int:=match l.findIdx? (fun q=>decide (q.x=p.x/\q.y=p.y)) with
 |some i=>(i:Nat)
 |none=> -1
def AU{l:List aa}{p q:aa}{k:Nat}(hx:l[k]? =some q)(h:(l.take k).all (fun q=>!decide (q.x=p.x/\q.y=p.y))=true)(hq:q.x=p.x/\q.y=p.y):jI l p=(k:Nat):=by
 have hk:=(aT.1 hx).1;have e:l.findIdx? (fun q=>decide (q.x=p.x/\q.y=p.y))=some k:=by
  rw[List.findIdx?_eq_some_iff_getElem];refine⟨hk,?_,fun j hj=>?_⟩
  .rw[(aT.1 hx).2];exact decide_eq_true hq
  .have:=dT.1 h l[j] (by rw[List.mem_take_iff_getElem];exact⟨j,by omega,J⟩)
   simp at this⊢;intro a b;rcases this with k|k
   .exact k a
   .exact k b
 unfold jI;rw[e]
def Wh{l:List aa}{p:aa}(h:l.all (fun q=>!decide (q.x=p.x/\q.y=p.y))=true):jI l p= -1:=by
 have e:l.findIdx? (fun q=>decide (q.x=p.x/\q.y=p.y))=none:=by
  rw[List.findIdx?_eq_none_iff];intro x hx;have:=dT.1 h x hx;simp at this⊢;intro a b;rcases this with k|k
  .exact k a
  .exact k b
 unfold jI;rw[e]
def Xl{l:List aa}{k:Nat}{q:aa}{g:aa->Bool}(hx:l[k]? =some q)(h:(l.take k).all g=true)(hq:g q=true):(l.take (k+1)).all g=true:=by
 rw[fJ,hx,List.all_append,h];simp[hq]
def Dj{l:List aa}{p:aa}{i:Nat}[hp:aO p i](hl: ∀q∈l,aO q i)(hn:l.length<=100000)(hi:i<=1000000:=by decide):PF GB prog 115 [.sl (l.map eZ),eZ p] (vI (jI l p)):=by
 have hml:(l.map eZ).length=l.length:=aX ..;refine fn (fu:=⟨11⟩) func115 J J ntmps115 J J (fun C=>?_);refine ah 8 (.d (vI (l.length:Nat))) J (by rw[hml]<;>rfl)<|gx J<|lp (X:=Nat) (fun k=>[(9, .d (vI (k:Nat)))]) (fun k=>[]) (fun k=>k<=l.length/\(l.take k).all (fun q=>!decide (q.x=p.x/\q.y=p.y))=true) (fun k=>l.length-k) 0 J ⟨aN _,J⟩ (fun _=>J) (fun k hk=>?_);obtain⟨hk,hall⟩:=hk;refine br J J J (fun hc10=>?_) (fun hc10=>?_)
 .
  obtain⟨q,hx⟩: ∃u,l[k]? =some u:=⟨_,aZ (by omega)⟩;haveI:=hl q (aV hx);refine ix _ J (cO hx) J<|cl J (AZ (p:=q) (q:=p) (i:=i) hi) J<|bd J J J (fun hc16=>?_) (fun hc16=>?_)
  .
   exact rz J (by rw[AU hx hall hc16];rfl)
  .
   exact at_ (k+1) ⟨⟨by omega,Xl hx hall (by rw[decide_eq_false hc16];rfl)⟩,(by omega)⟩
 .
  obtain rfl:k=l.length:=by omega
  rw[cJ] at hall;exact rz J (by rw[Wh hall];rfl)
def dk(l:List aa):Nat->Nat
 |0=>0
 |k+1=>dk l k+if jI l (l.getD k ⟨0,0⟩)=(k:Nat) then 1 else 0
def fe(l:List aa)(k:Nat):Nat:=if 3<=dk l k then 3 else dk l k
def Bw{l:List aa}{k:Nat}(h:fe l k<3)(e:dk l (k+1)=dk l k+1):((fe l k:Nat):Int)+1=((fe l (k+1):Nat):Int):=by
 have a:fe l k=if 3<=dk l k then 3 else dk l k:=J
 have b:fe l (k+1)=if 3<=dk l (k+1) then 3 else dk l (k+1):=J
 split at a<;>split at b<;>omega
def tj{l:List aa}{k:Nat}(h: ¬fe l k<3\/dk l (k+1)=dk l k)(m:dk l k<=dk l (k+1)):((fe l k:Nat):Int)=((fe l (k+1):Nat):Int):=by
 have a:fe l k=if 3<=dk l k then 3 else dk l k:=J
 have b:fe l (k+1)=if 3<=dk l (k+1) then 3 else dk l (k+1):=J
 split at a<;>split at b<;>omega
def Ax(l:List aa)(k:Nat):fe l k<=3:=by unfold fe;split<;>omega
def Ih{l:List aa}{k:Nat}(h:3<=dk l k):fe l k=3:=by unfold fe;rw[if_pos h]
def cnt_le(l:List aa): ∀k,dk l k<=k
 |0=>bQ _
 |k+1=>by
  have:=cnt_le l k;rw[dk];split<;>omega
def ut{l:List aa}{k:Nat}{p:aa}(hx:l[k]? =some p)(h:jI l p=(k:Nat):=by omega):dk l (k+1)=dk l k+1:=by
 rw[dk,aK,hx,jR,if_pos h]
def A'{l:List aa}{k:Nat}{p:aa}(hx:l[k]? =some p)(h: ¬jI l p=(k:Nat):=by omega):dk l (k+1)=dk l k:=by
 rw[dk,aK,hx,jR,if_neg h];rfl
def zB{l:List aa}{k:Nat}:dk l k<=dk l (k+1):=by rw[dk];split<;>omega
def yy{v:List aa}{k:Nat}{p:aa}(h:v[k]? =some p):((v.take k).map eZ)++[eZ p]=(v.take (k+1)).map eZ:=by
 rw[fJ,h,cY];rfl
def Nc{r:List ZP}(h:dz r){k:Nat}(hk:k<r.length):decide ((r.getD k (0,0)).q.x=(et r k).q.x/\(r.getD k (0,0)).q.y=(et r k).q.y)=false:=decide_eq_false fun e=>h.ne k hk (zG (by
 obtain⟨e1,e2⟩:=e;generalize (r.getD k (0,0)).q=a at*;generalize (et r k).q=b at*
 cases a;cases b
 simp only[aa.mk.injEq];exact⟨e1,e2⟩))
def Wv{r:List ZP}(h:dz r)(h3:3<=dk (r.map ZP.q) (r.map ZP.q).length):PF GB prog 67 [kB r] (.tp [.sl ((r.map ZP.q).map eZ), .v .nilIface]):=by
 have hn:=h.n6;obtain⟨v,hv⟩: ∃v,v=r.map ZP.q:=⟨_,rfl⟩;have hvl:v.length=r.length:=by rw[hv,aX]
 have hb: ∀p∈v,aO p 22:=fun p hp=>by rw[hv] at hp;obtain⟨z,hz,rfl⟩:=bX.1 hp;exact uP (h.le z hz)
 unfold kB;rw[<-hv] at h3⊢;have hm1:(v.map gh).length=v.length:=aX ..;have hm2:(v.map eZ).length=v.length:=aX ..;have hrl:(jl v).length=v.length:=by unfold jl;rw[aX,oN]
 refine Bv (fu:=⟨11⟩) func67 J J ntmps67 J J (fun C h0=>?_);refine ah 13 (.d (vI (v.length:Nat))) J (by rw[hm1]<;>rfl)<|gx (fu:=⟨0⟩) J<|b9 (fu:=⟨15⟩) J (by show some (decide _)=some false;rw[decide_eq_false (by omega)]) J<|ah 20 (.d (vI (v.length:Nat))) J (by rw[hm1]<;>rfl)<|gx J<|nr 4 4 102 6 J J J<|lp (X:=Nat) (fun k=>[(21, .d (vI (k:Nat))),(4, .rw 4)]) (fun k=>[(4,some (.b 102 6 ((v.take k).map eZ) true))]) (fun k=>k<=v.length) (fun k=>v.length-k) 0 J (aN _) (fun _=>J) (fun k hk=>?_);have hm3:((v.take k).map eZ).length<=k:=by rw[aX,bK];omega
 refine br (fu2:=⟨0⟩) J J J (fun hc22=>?_) (fun hc22=>?_)
 .
  obtain⟨p,hx⟩: ∃u,v[k]? =some u:=⟨_,aZ (by omega)⟩;haveI:=hb p (aV hx);refine ix _ J (cO hx) J<|cl (fu:=⟨0⟩) J (BT (p:=p) (i:=22)) J<|fi 27 J<|gx J<|cl J (yY (p:=p) (i:=22)) J<|rf J J<|ap ((v.take (k+1)).map eZ) J (yy hx) (yz [p]) J<|fD 41 4 J<|at_ (k+1) ⟨(by omega),(by omega)⟩
 .
  obtain rfl:k=v.length:=by omega
  rw[cJ];refine mr 4 J<|gx (fu:=⟨15⟩) J<|ah 44 (.d (vI (v.length:Nat))) J (by rw[hm2]<;>rfl)<|gx J<|lp (X:=Nat) (fun k=>[(45, .d (vI (k:Nat))),(7, .d (vI ((fe v k):Nat)))]) (fun k=>[]) (fun k=>k<=v.length) (fun k=>v.length-k) 0 J (aN _) (fun _=>J) (fun k hk=>?_);have hdm:=Ax v k;refine br (fu2:=⟨9⟩) J J J (fun hc46=>?_) (fun hc46=>?_)
  .
   obtain⟨p,hx⟩: ∃u,v[k]? =some u:=⟨_,aZ (by omega)⟩;haveI:=hb p (aV hx);have hcm:=zB (l:=v) (k:=k);refine ix _ J (cO hx) J<|cs 52 J J J (fun hg52=>?_) (fun hg52=>?_)
   .
    refine cl J (Dj (l:=v) (p:=p) (i:=22) hb (by omega)) J<|br J J J (fun hc58=>?_) (fun hc58=>?_)
    .
     have he7:=Bw (by omega) (ut hx);refine ah 7 (.d (vI (fe v (k+1):Nat))) J (by rw[he7]<;>rfl)<|at_ (k+1) ⟨(by omega),(by omega)⟩
    .
     have he7:=tj (.inr (A' hx)) hcm;refine ah 7 (.d (vI (fe v (k+1):Nat))) J (by rw[he7]<;>rfl)<|at_ (k+1) ⟨(by omega),(by omega)⟩
   .
    have he7:=tj (l:=v) (k:=k) (.inl (by omega)) hcm;refine ah 7 (.d (vI (fe v (k+1):Nat))) J (by rw[he7]<;>rfl)<|at_ (k+1) ⟨(by omega),(by omega)⟩
  .
   obtain rfl:k=v.length:=by omega
   have hd3:=Ih h3;refine b9 (fu:=⟨9⟩) J (by show some (decide _)=some false;rw[decide_eq_false (by omega)]) J<|xi J J J yo (fun _=>J) (fun GB1 pv hg1 hpv=>?_);refine sO 2 2000002 h0.fx J<|sO 3 2000003 h0.fx J ?_;refine yw (σ:=Empty) (fun _=>[(2000002,some (.o 93 [.nl] true)),(2000003,some (.o 41 [.d (.v .nilIface)] true))]) (fun _=>True) (fun _=>[]) (fun _=>False) [(2, .ov 2000002 0),(3, .ov 2000003 0),(4, .d (.sl (v.map eZ)))] h0 J (zJ) (.cons hpv .nil) ⟨J,J,J,trivial⟩ J ⟨J,J,trivial⟩ trivial zi J J (fun k e GB' hE hg hp=>?_) (fun D hD hx hp=>?_) (fun D s hD hx hq=>hq.elim)
   .obtain⟨p,q,hpx,hqx,rfl⟩:=zh hE
    rw[hvl] at hqx;rw[hv] at hpx hqx;obtain⟨hk,rfl⟩:=Dg hpx;obtain⟨hk2,rfl⟩:=Dg hqx;haveI:=uP (h.le _ (xZ hk));haveI:=uP (h.le _ (Ae hk));have hne:=Nc h hk;refine⟨?_,?_,fun C2=>?_,fun C2=>?_⟩
    rotate_left 2
    .refine gx J<|zS J J J ⟨J,J,J⟩ J ?_
     exact atR
    .refine gx J<|pH 0 (e:=102) (len:=2) (s:=6) J (by kernel_rfl) (by kernel_rfl) (by decide) J<|pH 1 (e:=102) (len:=2) (s:=6) J (by kernel_rfl) (by kernel_rfl) (by decide) J<|cl J (AZ (p:=(r.getD k (0,0)).q) (q:=(et r k).q) (i:=22)) J<|bd J J J (fun hc=>absurd (decide_eq_true hc) (by rw[hne];decide)) (fun hc=>?_)
     exact rq trivial ⟨J,J,trivial⟩
   .refine gx J<|?_
    exact A9 hD hx J J
structure WQ where
 n:Bool
 d:List Nat
 e:List Nat
def WQ.D(r:WQ):List DV:=[.v (.bool r.n),bE r.d,bE r.e]
structure WQ.sm (r:WQ):Prop where
 d:bt r.d/\r.d.length<=4
 e:bt r.e/\r.e.length<=4
def WQ.nm(r:WQ):Prop:=eo r.n r.d/\dl r.e/\0<r.e.length/\Nat.gcd (dv r.d) (dv r.e)=1
instance (r:WQ):Decidable r.nm:=inferInstanceAs (Decidable (_/\_/\_/\_))
def WQ.q(r:WQ):Rat:=mkRat (zv r.n (dv r.d)) (dv r.e)
def BE{ds:List Nat}(h:bt ds)(hn:dl ds)(hl:0<ds.length):0<dv ds:=by
 refine eK fun e=>?_;have:=od h hn;rw[e,qc] at this;rw[<-this] at hl;exact absurd hl (Nat.lt_irrefl 0)
def pp{ds:List Nat}(h:bt ds/\ds.length<=4):dv ds<2^(6*22):=by
 refine bM (ka h.1) ?_;refine dJ (bU (by decide) h.2) ?_;decide+kernel
def WQ.nd{r:WQ}(s:r.sm)(h:r.nm):r.q.num=zv r.n (dv r.d)/\r.q.den=dv r.e:=by
 have hp:=BE s.e.1 h.2.1 h.2.2.1;obtain⟨h1,h2⟩:=Fq (n:=r.n) (a:=dv r.d) hp;rw[h.2.2.2,sJ] at h1 h2;exact⟨h1,h2⟩
def QN{n:Bool}{a:Nat}(h:n=true->0<a):decide (zv n a<0)=n:=by
 cases n with
 |false=>unfold zv;simp
 |true=>unfold zv;have:=h J;simp;omega
def WQ.eq{r:WQ}(s:r.sm)(h:r.nm):r.D=[.v (.bool (decide (r.q.num<0))),dN r.q.num.natAbs,dN r.q.den]:=by
 obtain⟨h1,h2⟩:=WQ.nd s h;have hz:decide (zv r.n (dv r.d)<0)=r.n:=QN fun k=>BE s.d.1 h.1.1 (h.1.2 k);rw[h1,h2,kI,hz];unfold WQ.D dN;rw[od s.d.1 h.1.1,od s.e.1 h.2.1];rfl
theorem WQ.bq{r:WQ}(s:r.sm)(h:r.nm):BQ r.q 22:=by
 obtain⟨h1,h2⟩:=WQ.nd s h;exact⟨by rw[h1,kI];exact pp s.d,by rw[h2];exact pp s.e⟩
def Hc{n:Bool}{ds:List Nat}(h:bt ds/\ds.length<=4)(k:eo n ds):PF GB prog 130 [.ag [.v (.bool n),bE ds]] (.v (.bool true)):=(tq (neg:=n) ⟨h.1,by have:=h.2;omega⟩).to (by unfold vB;rw[decide_eq_true k])
def Vp{n:Bool}{ds:List Nat}(h:bt ds/\ds.length<=4)(k: ¬eo n ds):PF GB prog 130 [.ag [.v (.bool n),bE ds]] (.v (.bool false)):=(tq (neg:=n) ⟨h.1,by have:=h.2;omega⟩).to (by unfold vB;rw[decide_eq_false k])
def QT{ds:List Nat}(h:bt ds/\ds.length<=4)(k:dl ds):PF GB prog 194 [bE ds] (.v (.bool true)):=(AH h.1 (by have:=h.2;omega)).to (by unfold vB;rw[decide_eq_true k])
def aGo{ds:List Nat}(h:bt ds/\ds.length<=4)(k: ¬dl ds):PF GB prog 194 [bE ds] (.v (.bool false)):=(AH h.1 (by have:=h.2;omega)).to (by unfold vB;rw[decide_eq_false k])
def UW{a b:List Nat}(ha:bt a/\a.length<=4)(hb:bt b/\b.length<=4)(na:dl a)(nb:dl b):PF GB prog 199 [bE a,bE b] (dN (Nat.gcd (dv a) (dv b))):=by
 haveI:BN (dv a) 22:=⟨pp ha⟩;haveI:BN (dv b) 22:=⟨pp hb⟩;have:=A7 (GB:=GB) (a:=dv a) (b:=dv b) (i:=22) (j:=22);unfold dN at this⊢;rw[od ha.1 na,od hb.1 nb] at this;exact this
def Ri{r:WQ}(s:r.sm)(h: ¬eo r.n r.d):PF GB prog 180 [.ag [.v (.bool r.n),bE r.d,bE r.e]] (.v (.bool false)):=by
 refine fn func180 J J ntmps180 J J (fun C=>?_);refine cl (fu:=⟨0⟩) J (Vp s.d h) J<|jH 5 J<|gx J<|rz J J
def Xd{r:WQ}(s:r.sm)(h1:eo r.n r.d)(h: ¬dl r.e):PF GB prog 180 [.ag [.v (.bool r.n),bE r.d,bE r.e]] (.v (.bool false)):=by
 refine fn func180 J J ntmps180 J J (fun C=>?_);refine cl (fu:=⟨0⟩) J (Hc s.d h1) J<|fi 5 J<|gx J<|cl (fu:=⟨0⟩) J (aGo s.e h) J<|jH 10 J<|gx J<|rz J J
def Zq{r:WQ}(s:r.sm)(h1:eo r.n r.d)(h2:dl r.e)(h:r.e.length=0):PF GB prog 180 [.ag [.v (.bool r.n),bE r.d,bE r.e]] (.v (.bool false)):=by
 have hml:(r.e.map dU).length=r.e.length:=aX ..;refine fn func180 J J ntmps180 J J (fun C=>?_);refine cl (fu:=⟨0⟩) J (Hc s.d h1) J<|fi 5 J<|gx J<|cl (fu:=⟨0⟩) J (QT s.e h2) J<|fi 10 J<|gx (fu:=⟨6⟩) J<|dh J (by show some (decide _)=some true;rw[decide_eq_true (by omega)]) J<|rz J J
def aF7{r:WQ}(s:r.sm)(h1:eo r.n r.d)(h2:dl r.e)(h3:0<r.e.length):PF GB prog 180 [.ag [.v (.bool r.n),bE r.d,bE r.e]] (vB (decide (((bl (Nat.gcd (dv r.d) (dv r.e)):Nat):Int)=1))):=by
 have hml:(r.e.map dU).length=r.e.length:=aX ..;haveI:BN (Nat.gcd (dv r.d) (dv r.e)) 50:=BN.mono (show BN (Nat.gcd (dv r.d) (dv r.e)) (22+22) from(haveI:BN (dv r.d) 22:=⟨pp s.d⟩;haveI:BN (dv r.e) 22:=⟨pp s.e⟩;inferInstance)) (by decide);refine fn func180 J J ntmps180 J J (fun C=>?_);refine cl (fu:=⟨0⟩) J (Hc s.d h1) J<|fi 5 J<|gx J<|cl (fu:=⟨0⟩) J (QT s.e h2) J<|fi 10 J<|gx (fu:=⟨6⟩) J<|b9 J (by show some (decide _)=some false;rw[decide_eq_false (by omega)]) J<|cl J (UW s.d s.e h1.1 h2) J<|cl J (r5 (a:=Nat.gcd (dv r.d) (dv r.e)) (i:=50)) J<|rz J J
def UP{a:Nat}(h:0<a):(((bl a:Nat):Int)=1)↔a=1:=by
 have h1:bl a<=1↔a<2^1:=ld;have h2:bl a<=0↔a<2^0:=ld;omega
def NZ{r:WQ}(s:r.sm):PF GB prog 180 [.ag [.v (.bool r.n),bE r.d,bE r.e]] (vB (decide r.nm)):=by
 have no: ¬r.nm->vB (decide r.nm)= .v (.bool false):=fun h=>by unfold vB;rw[decide_eq_false h]
 by_cases h1:eo r.n r.d
 .by_cases h2:dl r.e
  .by_cases h3:r.e.length=0
   .rw[no fun h=>by have:=h.2.2.1;omega];exact Zq s h1 h2 h3
   .have hp:=BE s.e.1 h2 (by omega)
    have e:decide (((bl (Nat.gcd (dv r.d) (dv r.e)):Nat):Int)=1)=decide r.nm:=decide_eq_decide.2 ((UP (nX _ hp)).trans ⟨fun k=>⟨h1,h2,by omega,k⟩,fun k=>k.2.2.2⟩);rw[<-e];exact aF7 s h1 h2 (by omega)
  .rw[no fun h=>h2 h.2.1];exact Xd s h1 h2
 .rw[no fun h=>h1 h.1];exact Ri s h1
structure WP where
 x:WQ
 y:WQ
def WP.D(r:WP):DV:= .ag [.v (.bool r.x.n),bE r.x.d,bE r.x.e, .v (.bool r.y.n),bE r.y.d,bE r.y.e]
structure WP.sm (r:WP):Prop where
 x:r.x.sm
 y:r.y.sm
def WP.nm(r:WP):Prop:=r.x.nm/\r.y.nm
instance (r:WP):Decidable r.nm:=inferInstanceAs (Decidable (_/\_))
def WP.p(r:WP):aa:=⟨r.x.q,r.y.q⟩
def WP.eq{r:WP}(s:r.sm)(h:r.nm):r.D=gh r.p:=by
 have h1:=WQ.eq s.x h.1;have h2:=WQ.eq s.y h.2;unfold WQ.D at h1 h2;unfold WP.D gh WP.p;simp only[List.cons.injEq,and_true] at h1 h2;obtain⟨a1,a2,a3⟩:=h1;obtain⟨b1,b2,b3⟩:=h2;rw[a1,a2,a3,b1,b2,b3]
theorem WP.bpt{r:WP}(s:r.sm)(h:r.nm):aO r.p 22:=⟨WQ.bq s.x h.1,WQ.bq s.y h.2⟩
def Ys{r:WP}(s:r.sm):PF GB prog 113 [r.D] (vB (decide r.nm)):=by
 refine fn func113 J J ntmps113 J J (fun C=>?_);refine cl J (NZ (r:=r.x) s.x) J<|csd 6 J J J (fun hg6=>?_) (fun hg6=>?_)
 .
  refine cl J (NZ (r:=r.y) s.y) J<|rz J (by show DV.v (.bool _)= .v (.bool _);unfold WP.nm;simp_all)
 .
  exact rz J (by show DV.v (.bool _)= .v (.bool _);unfold WP.nm;simp_all)
def Tv{r:WP}(s:r.sm)(h:r.nm):PF GB prog 50 [r.D] (eZ r.p):=by
 haveI:=WP.bpt s h;rw[WP.eq s h];exact yY (i:=22)
end Go.Sx
end
section
namespace Go.Sx
open Go Go.Proofs Go.RowKit Go.Extern.Stop Go.Stop Go.Extern
def TO(v:Value)(xT:TypeId)(w:World):(Instr.typeAssert (.iface 156 v) xT 188 true).run Tryz.prog w= .ok (.tuple #[.nilIface, .bool false]) w:=run_typeAssert_lacksB Tryz.underlying188 (by kernel_rfl) (by kernel_rfl) v xT w
def aDm(v:Value)(xT:TypeId)(w:World):(Instr.typeAssert (.iface 156 v) xT 191 true).run Tryz.prog w= .ok (.tuple #[.iface 156 v, .bool true]) w:=run_typeAssert_hasB Tryz.underlying191 (by kernel_rfl) v xT w
def U3(n:Nat)(v:Value)(w:World):(Go.method (n+1) 156 v "Unwrap").run Tryz.prog w= .ok (307,v) w:=by kernel_rfl
def U2(b po:Nat)(a:Addr)(w:World)(h1:w.cell? ⟨b,po,none⟩=some (.iface 364 (.pointer (some a)))):Calls Tryz.prog 13 #[.iface 156 (.pointer (some ⟨b,po,none⟩)), .iface 364 (.pointer (some a))] w fun e w'=>e= .returned (.bool true)/\w'=w:=by
 obtain⟨i,hi,hcmp⟩:=lS.1 Ql;obtain⟨j,hj,hjs⟩:=lS.1 K5;have h8:= @run_callFunc_extern Tryz.prog 40 _ Extern.ReflectliteType.typeOf Tryz.func40 (by kernel_rfl) (by kernel_rfl) (by kernel_rfl) (by kernel_rfl);have h32:= @run_callFunc_extern Tryz.prog 311 _ (Extern.ReflectliteType.method EP) Tryz.func311 (by kernel_rfl) (by kernel_rfl) (by kernel_rfl) (by kernel_rfl);have tT:=P';have cT:=Mo;obtain⟨g,hg⟩: ∃g,g=Tryz.prog.globals.size:=⟨_,rfl⟩;simp only[<-hg] at tT cT;clear hg;have mR:=Q2;have nW:=TO;have uW:=aDm;have mU:=U3;have heq:=run_eql_iface_ptr_same (P:=Tryz.prog) w a Tryz.underlying41 Tryz.underlying364 hi hcmp hj;have hty:=run_eql_iface_types (P:=Tryz.prog) 156 364 (.pointer (some ⟨b,po,none⟩)) (.pointer (some a)) Tryz.underlying41 (by decide) w
 go_enter Tryz.func13,Tryz.ntmps13
 go_wp2
 refine wp_loop_rounds 2 ?_;rw[rounds_succ]
 go_wp2
 rw[rounds_succ]
 go_wp2
 go_ret
 exact⟨J,J⟩
end Go.Sx
end
