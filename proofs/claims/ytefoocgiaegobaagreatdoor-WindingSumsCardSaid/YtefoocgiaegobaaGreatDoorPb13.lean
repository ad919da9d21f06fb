import Derived.Test.YtefoocgiaegobaaGreatDoorPb12
set_option linter.all false
set_option maxHeartbeats 4000000
set_option maxRecDepth 100000
section
namespace Go.Sx
open Go Go.Proofs Tryz
def ij(p q:ZP):Int:=if p.1<q.1 then-1 else if q.1<p.1 then 1 else if p.2<q.2 then-1 else if q.2<p.2 then 1 else 0
def gt(x:ZP):List ZP->List ZP
 |[]=>[x]
 |u::t=>if ij u x<0 then u::gt x t else if ij u x=0 then u::t else x::u::t
def kt(l:List ZP):List ZP:=l.foldl (fun out x=>gt x out) []
def Fp{x:ZP}: ∀{l:List ZP},(gt x l).length<=l.length+1
 |[]=>aR _
 |u::t=>by
  rw[gt];have:=Fp (x:=x) (l:=t);split
  ·simp;omega
  ·split<;>simp
def Oc(l:List ZP):(kt l).length<=l.length:=by
 have key: ∀(l o:List ZP),(l.foldl (fun out x=>gt x out) o).length<=l.length+o.length:=by
  intro l
  induction l with
  |nil=>intro o;simp
  |cons x t ih=>intro o;have:=ih (gt x o);have:=Fp (x:=x) (l:=o);simp only[gN,bN];omega
 have:=key l [];simpa[kt] using this
def mI(a b c d:Int):List ZP:=[(a,b),(c,b),(c,d),(a,d)]
def RI{r:List ZP}{i:Nat}(h:i+1<r.length):d4 r i=r.getD (i+1) (0,0):=by unfold d4;rw[dQ h]
def Of{r:List ZP}{i:Nat}(h:i+1=r.length):d4 r i=r.getD 0 (0,0):=by unfold d4;rw[h,Nat.mod_self]
def IL{a b c d:Int}(h1:a.natAbs<=50)(h2:b.natAbs<=50)(h3:c.natAbs<=50)(h4:d.natAbs<=50)(h5:a<c)(h6:b<d):dB (mI a b c d):=by
 refine⟨by simp[mI],by simp[mI],fun p hp=>?_,fun i hi=>?_⟩
 ·simp only[mI,bZ,jS,or_false] at hp
  rcases hp with rfl|rfl|rfl|rfl<;>exact⟨by dsimp only;omega,by dsimp only;omega⟩
 ·have:i=0\/i=1\/i=2\/i=3:=by simp[mI] at hi;omega
  rcases this with rfl|rfl|rfl|rfl<;>simp[mI,d4]<;>omega
def mH(p u v:ZP):List ZP:=[p,qy p u,qy p v]
def Mm{p u v:ZP}(h1:ZP.le 40 p)(h2:ZP.le 40 u)(h3:ZP.le 40 v)(h:mj u v≠0):dB (mH p u v):=by
 obtain⟨p1,p2⟩:=p;obtain⟨u1,u2⟩:=u;obtain⟨v1,v2⟩:=v;unfold ZP.le at h1 h2 h3;dsimp only at h1 h2 h3;unfold mj at h;dsimp only at h;refine⟨by simp[mH],by simp[mH],fun p hp=>?_,fun i hi=>?_⟩
 ·simp only[mH,qy,bZ,jS,or_false] at hp
  rcases hp with rfl|rfl|rfl<;>exact⟨by dsimp only;omega,by dsimp only;omega⟩
 ·have:i=0\/i=1\/i=2:=by simp[mH] at hi;omega
  have hu: ¬(u1=0/\u2=0):=fun e=>h (by rw[e.1,e.2];simp);have hv: ¬(v1=0/\v2=0):=fun e=>h (by rw[e.1,e.2];simp);have huv: ¬(u1=v1/\u2=v2):=fun e=>h (by rw[e.1,e.2,Int.mul_comm];omega);rcases this with rfl|rfl|rfl<;>simp[mH,qy,d4]<;>omega
def jz(es:List Int):Nat->Nat->List ZP->List ZP×Nat
 |0,a,out=>(out,a)
 |n+1,a,out=>jz es n (pF es a).2 (if out.getLast? =some (pF es a).1 then out else out++[(pF es a).1])
structure gP (r:List ZP):Prop where
 ne: ∀i,i+1<r.length->r.getD i (0,0)≠r.getD (i+1) (0,0)
 le: ∀p∈r,ZP.le 100 p
def gP.snoc{r:List ZP}{p:ZP}(h:gP r)(hp:ZP.le 100 p)(hl:r.getLast? ≠some p):gP (r++[p]):=by
 refine⟨fun i hi=>?_,fun q hq=>?_⟩
 ·rw[aT,List.length_singleton] at hi
  rw[aJ,aJ];by_cases h1:i+1<r.length
  ·rw[bS (by omega),bS h1]
   have:=h.ne i h1;rwa [aJ,aJ] at this
  ·have e:i+1=r.length:=by omega
   rw[bS (by omega),e,cV (aR _),Nat.sub_self];rw[lZ,<-e,jY] at hl;rw[aZ (by omega)] at hl⊢;intro c;exact hl (by simpa using c)
 ·rcases cL.1 hq with hq|hq
  ·exact h.le q hq
  ·rw[aL] at hq;subst hq;exact hp
def Bs{es:List Int}: ∀{n a:Nat} {out:List ZP},a<=es.length->gP out->gP (jz es n a out).1/\(jz es n a out).1.length<=out.length+n/\(jz es n a out).2<=es.length
 |0,a,out,ha,h=>⟨h,aR _,ha⟩
 |n+1,a,out,ha,h=>by
  obtain⟨h1,h2,h3⟩:=qm ha;rw[jz];by_cases hl:out.getLast? =some (pF es a).1
  ·rw[if_pos hl]
   obtain⟨k1,k2,k3⟩:=Bs (n:=n) h3 h;exact⟨k1,by omega,k3⟩
  ·rw[if_neg hl]
   obtain⟨k1,k2,k3⟩:=Bs (n:=n) h3 (h.snoc (p:=(pF es a).1) ⟨by omega,by omega⟩ hl);rw[aT,List.length_singleton] at k2;exact⟨k1,by omega,k3⟩
def gr:Nat->List ZP->List ZP
 |0,l=>l
 |n+1,l=>if 1<l.length/\l.getD 0 (0,0)=l.getD (l.length-1) (0,0) then gr n l.dropLast else l
def gP.drop{r:List ZP}(h:gP r):gP r.dropLast:=by
 refine⟨fun i hi=>?_,fun p hp=>h.le p ((List.dropLast_sublist _).subset hp)⟩;rw[lW] at hi;have:=h.ne i (by omega);rw[aJ,aJ] at this⊢;rw[List.getElem?_dropLast,List.getElem?_dropLast,if_pos (by omega),if_pos (by omega)];exact this
def Eb: ∀{n:Nat} {l:List ZP},gP l->l.length<=n+1->gP (gr n l)/\(gr n l).length<=l.length/\(1<(gr n l).length->(gr n l).getD 0 (0,0)≠(gr n l).getD ((gr n l).length-1) (0,0))
 |0,l,h,hn=>⟨h,aR _,fun k=>absurd k (by unfold gr;omega)⟩
 |n+1,l,h,hn=>by
  rw[gr];split
  ·obtain⟨h1,h2,h3⟩:=Eb (n:=n) h.drop (by rw[lW];omega)
   rw[lW] at h2;exact⟨h1,by omega,h3⟩
  ·rename_i hc
   exact⟨h,aR _,fun k e=>hc ⟨k,e⟩⟩
def P4{r:List ZP}(h:gP r)(h6:r.length<=6)(hc:1<r.length->r.getD 0 (0,0)≠r.getD (r.length-1) (0,0))(h3:3<=(kt r).length):dB r:=by
 have:=Oc r;refine⟨by omega,h6,h.le,fun i hi=>?_⟩;by_cases h1:i+1<r.length
 ·rw[RI h1];exact h.ne i h1
 ·have e:i+1=r.length:=by omega
  rw[Of e];have:=hc (by omega);rw[show i=r.length-1 by omega];exact fun k=>this k.symm
def se:List ZP:=[(0,0),(2,0),(0,2)]
def Fh:dB se:=⟨by decide,by decide,fun p hp=>by
  simp only[se,bZ,jS,or_false] at hp;rcases hp with rfl|rfl|rfl<;>exact⟨by decide,by decide⟩,fun i hi=>by
  have:i=0\/i=1\/i=2:=by simp[se] at hi;omega
  rcases this with rfl|rfl|rfl<;>decide⟩
def ku(es:List Int)(a:Nat):List ZP×Nat:=
 ((if(kt (gr 6 (jz es (3+(aq es 4 a).1) (aq es 4 a).2 []).1)).length<3 then se else gr 6 (jz es (3+(aq es 4 a).1) (aq es 4 a).2 []).1),(jz es (3+(aq es 4 a).1) (aq es 4 a).2 []).2)
def gP.nil:gP []:=⟨fun i hi=>by simp at hi,fun p hp=>by cases hp⟩
def zz{es:List Int}{a:Nat}(ha:a<=es.length):dB (ku es a).1/\(ku es a).2<=es.length:=by
 have h1:=gG (es:=es) (n:=4) (a:=a) (by decide);obtain⟨k1,k2,k3⟩:=Bs (n:=3+(aq es 4 a).1) (fw (n:=4) ha) gP.nil;obtain⟨t1,t2,t3⟩:=Eb (n:=6) k1 (by simp at k2;omega);refine⟨?_,k3⟩;unfold ku;dsimp only;split
 ·exact Fh
 ·exact P4 t1 (by simp at k2;omega) t3 (by omega)
def tu(es:List Int)(n m k:Int)(a:Nat):List ZP×Nat:=
 let x:=aq es n a
 let y:=aq es n x.2
 let z:=aq es m y.2
 let w:=aq es m z.2
 (mI ((x.1:Int)-k) ((y.1:Int)-k) ((x.1:Int)-k+1+z.1) ((y.1:Int)-k+1+w.1),w.2)
def O2{es:List Int}{n m k:Int}{a:Nat}(ha:a<=es.length)(hn:1<=n)(hn2:n<=10)(hm:1<=m)(hm2:m<=10)(hk:0<=k)(hk2:k<=10):dB (tu es n m k a).1/\(tu es n m k a).2<=es.length:=by
 have h1:=gG (es:=es) (a:=a) hn;have h2:=gG (es:=es) (a:=(aq es n a).2) hn;have h3:=gG (es:=es) (a:=(aq es n (aq es n a).2).2) hm;have h4:=gG (es:=es) (a:=(aq es m (aq es n (aq es n a).2).2).2) hm;exact⟨IL (by omega) (by omega) (by omega) (by omega) (by omega) (by omega),fw (fw (fw (fw ha)))⟩
def e6(es:List Int)(a:Nat):List ZP×Nat:=
 let k:=aq es 4 a
 if(k.1:Int)=0 then tu es 5 4 4 k.2
 else if(k.1:Int)=1 then
  let p:=pF es k.2
  let u:=vF es p.2
  let v:=vF es u.2
  if mj u.1 v.1≠0 then(mH p.1 u.1 v.1,v.2) else ku es v.2
 else ku es k.2
def Ab{es:List Int}{a:Nat}(ha:a<=es.length):dB (e6 es a).1/\(e6 es a).2<=es.length:=by
 have h0:=fw (n:=4) ha;unfold e6;dsimp only;split
 ·exact O2 h0 (by decide) (by decide) (by decide) (by decide) (by decide) (by decide)
 ·split
  ·obtain⟨p1,p2,p3⟩:=qm h0
   obtain⟨u1,u2,u3,u4⟩:=rM p3;obtain⟨v1,v2,v3,v4⟩:=rM u4;split
   ·rename_i hc
    exact⟨Mm ⟨by omega,by omega⟩ ⟨by omega,by omega⟩ ⟨by omega,by omega⟩ hc,v4⟩
   ·exact zz v4
  ·exact zz h0
def O5:List ZP:=[(0,0),(1,0),(0,1)]
def Js(es:List Int)(a:Nat):List ZP×Nat:=
 let k:=aq es 2 a
 if(k.1:Int)=0 then tu es 3 2 1 k.2
 else
  let x:=aq es 3 k.2
  let y:=aq es 3 x.2
  let u1:=aq es 2 y.2
  let u2:=aq es 3 u1.2
  let v1:=aq es 3 u2.2
  let v2:=aq es 2 v1.2
  (if 0<mj (1+(u1.1:Int),(u2.1:Int)-1) ((v1.1:Int)-1,1+(v2.1:Int)) then mH ((x.1:Int)-1,(y.1:Int)-1) (1+(u1.1:Int),(u2.1:Int)-1) ((v1.1:Int)-1,1+(v2.1:Int)) else O5,v2.2)
def om(es:List Int)(a:Nat):Tr×Nat:=
 let r:=e6 es a
 let k:=aq es 3 r.2
 if(k.1:Int)=0 then
  let s:=e6 es k.2
  let f:=aq es 2 s.2
  (uW [r.1,s.1] (1+(f.1:Int)),f.2)
 else
  let f:=aq es 2 k.2
  (uW [r.1] (1+(f.1:Int)),f.2)
def yt(l:ah):Tr:=(Tr.node l (.leaf true) (.leaf false)).restrict []
def nD(es:List Int):Nat->Nat->Tr×Nat
 |0,a=>
  let k:=aq es 6 a
  if(k.1:Int)=1 then(yt (lF es k.2).1,(lF es k.2).2)
  else if(k.1:Int)=2 then((jf es 3 k.2).1.restrict [],(jf es 3 k.2).2)
  else if(k.1:Int)=3 then((om es k.2).1.compl,(om es k.2).2)
  else om es k.2
 |d+1,a=>
  let k:=aq es 6 a
  if(k.1:Int)=0 then
   let x:=nD es d k.2
   let o:=aq es 4 x.2
   let y:=nD es d o.2
   (x.1.mergeQ (1+(o.1:Int)) y.1 [],y.2)
  else if(k.1:Int)=1 then(yt (lF es k.2).1,(lF es k.2).2)
  else if(k.1:Int)=2 then((jf es 3 k.2).1.restrict [],(jf es 3 k.2).2)
  else if(k.1:Int)=3 then((om es k.2).1.compl,(om es k.2).2)
  else om es k.2
def VR(es:List Int)(a:Nat):Tr×Nat:=
 let k:=aq es 4 a
 if(k.1:Int)=0 then(yt (lF es k.2).1,(lF es k.2).2)
 else if(k.1:Int)=1 then((jf es 2 k.2).1.restrict [],(jf es 2 k.2).2)
 else(uW [(Js es k.2).1] 2,(Js es k.2).2)
def CQ(op:Int)(a b:Tr):Bool:=decide ((a.mergeQ op b []).isLeaf=true/\(a.mergeQ op b []).code=false)
def VU(a b:Tr):Int:=if CQ 4 a b then 0 else if CQ 3 a b then-1 else if CQ 3 b a then 1 else 2
def o5:Tr->aa->Bool
 | .leaf b,_=>b
 | .node l x y,p=>if(l.value p).num.sign=1 then o5 x p else if(l.value p).num.sign= -1 then o5 y p else false
def Cn(t:Tr):List bO:=((t.parts []).filter (·.1)).map (·.2)
def JR(l:ah)(p:aa):bO->Rat->Rat
 |[],f=>f
 |s::c,f=>JR l p c (if Int.sign (s.l.nor.dot l.nor).num<0 then(if-(s.l.value p/s.l.nor.dot l.nor)<f then-(s.l.value p/s.l.nor.dot l.nor) else f) else f)
def W4:bO->aa
 |[]=>⟨0,0⟩
 |s::c=>dx (s.l.at s.v.sample) s.l.nor (JR s.l (s.l.at s.v.sample) c 1*mkRat 1 2)
def nq:Tr->aa->aa->Bool×Bool
 | .leaf b,_,_=>(b,true)
 | .node l x y,p,v=>match (if(l.value p).num.sign=0 then(l.dir.cross v).num.sign else(l.value p).num.sign) with
  |1=>nq x p v
  | -1=>nq y p v
  |_=>(false,false)
def My(l:ah)(v:aa):l.dir.cross v=l.nor.dot v:=by
 unfold ah.dir ah.nor aa.cross aa.dot;grind
def Gn(L:List ah)(p v:aa):Prop:= ∀l∈L,l.value p=0->l.nor.dot v≠0
def Uq(x:Bool×bO):DV:= .ag [.sl (x.2.map bP),eU (.leaf x.1)]
def Ic{GB:Gh}{q:Rat}{i:Nat}[h:BQ q i](hi:i<=900000000:=by decide):PF GB prog 120 [eF q] (eR q):=by
 refine fn func120 J J ntmps120 J J (fun C=>?_);refine cl J (qE (q:=q) (i:=i) hi) J<|cl J (lC (q:=q) (i:=i) hi) J<|?_;exact rz J J
def DX{GB:Gh}{p:aa}{i:Nat}[h:aA p i](hi:i<=900000000:=by decide):PF GB prog 128 [eZ p] (gm p):=by
 refine fn func128 J J ntmps128 J J (fun C=>?_);refine cl J (Ic (q:=p.x) (i:=i) hi) J<|cl J (Ic (q:=p.y) (i:=i) hi) J<|?_;exact rz J J
def eC(c:bO):DV:= .sl (c.map bP)
def U9(ps:List (Bool×bO)):List bO:=(ps.filter (·.1)).map (·.2)
def kA(p:aa):(p.half=1/\(0<p.y\/(p.y=0/\0<p.x)))\/(p.half=2/\(p.y<0\/(p.y=0/\p.x<0)))\/(p.half=0/\p.y=0/\p.x=0):=by
 unfold aa.half;simp only[wW,sf,q7];split
 ·rename_i h;exact .inl ⟨rfl,h⟩
 ·rename_i h
  split
  ·rename_i h2
   exact .inr (.inl ⟨J,by grind⟩)
  ·rename_i h2
   exact .inr (.inr ⟨J,by grind,by grind⟩)
def tN{p:aa}:p.half=1↔(0<p.y\/(p.y=0/\0<p.x)):=by
 rcases kA p with⟨h,k⟩|⟨h,k⟩|⟨h,k⟩<;>rw[h]<;>grind
def uJ{p:aa}:p.half=2↔(p.y<0\/(p.y=0/\p.x<0)):=by
 rcases kA p with⟨h,k⟩|⟨h,k⟩|⟨h,k⟩<;>rw[h]<;>grind
def cP(u v:aa):Prop:=u.half<v.half\/(u.half=v.half/\0<u.cross v)
def mE{u v:aa}:ce u v<0↔cP u v:=by
 unfold ce cP;split
 ·rename_i h;exact⟨fun _=> .inl h,fun _=>by decide⟩
 ·rename_i h
  split
  ·rename_i h2;exact⟨fun e=>absurd e (by decide),fun e=>by omega⟩
  ·rename_i h2
   have e:u.half=v.half:=by omega
   rw[<-wW];constructor
   ·intro k;exact .inr ⟨e,by omega⟩
   ·rintro (k|⟨_,k⟩)
    ·omega
    ·omega
def dw(d:aa):aa:=⟨-d.x, -d.y⟩
def Sp{d:aa}(h:d.half≠0):(dw d).half=3-d.half:=by
 rcases kA d with⟨e,k⟩|⟨e,k⟩|⟨e,k⟩
 ·rw[e];exact uJ.2 (by unfold dw;grind)
 ·rw[e];exact tN.2 (by unfold dw;grind)
 ·exact absurd e h
def vo{d:aa}(h:d.half≠0):d.half=1\/d.half=2:=by
 rcases kA d with⟨e,_⟩|⟨e,_⟩|⟨e,_⟩
 ·exact .inl e
 ·exact .inr e
 ·exact absurd e h
def UK(ds:List aa)(u w:aa):Prop:=(cP u w/\ ∀d∈ds,¬(cP u d/\cP d w))\/((∀d∈ds,¬cP u d)/\ ∀d∈ds,¬cP d w)
structure U5 (ds:List aa):Prop where
 nz: ∀d∈ds,d.half≠0
 neg: ∀d∈ds,dw d∈ds
def nH(u v:aa):v.cross u= -u.cross v:=by unfold aa.cross;grind
def oO(u v:aa):u.cross (dw v)= -u.cross v:=by unfold aa.cross dw;grind
def uK(a b:Rat)(u w:aa):aa:=⟨a*u.x+b*w.x,a*u.y+b*w.y⟩
def Ip{a b:Rat}{u w:aa}(ha:0<a)(hb:0<b)(h:u.half=w.half)(hz:u.half≠0):(uK a b u w).half=u.half:=by
 rcases kA u with⟨e,k⟩|⟨e,k⟩|⟨e,k⟩
 ·rw[e] at h⊢
  have k2:=tN.1 h.symm;refine tN.2 ?_;unfold uK;simp only;have p1: ∀z:Rat,0<z->0<a*z:=fun z hz=>fy ha hz;have p2: ∀z:Rat,0<z->0<b*z:=fun z hz=>fy hb hz;rcases k with k|⟨k,k'⟩<;>rcases k2 with l|⟨l,l'⟩
  ·have:=p1 _ k;have:=p2 _ l;grind
  ·have:=p1 _ k;rw[l];grind
  ·have:=p2 _ l;rw[k];grind
  ·have:=p1 _ k';have:=p2 _ l';rw[k,l];grind
 ·rw[e] at h⊢
  have k2:=uJ.1 h.symm;refine uJ.2 ?_;unfold uK;simp only;have p1: ∀z:Rat,z<0->a*z<0:=fun z hz=>by have:=fy (a:=a) (b:= -z) ha (by grind);grind
  have p2: ∀z:Rat,z<0->b*z<0:=fun z hz=>by have:=fy (a:=b) (b:= -z) hb (by grind);grind
  rcases k with k|⟨k,k'⟩<;>rcases k2 with l|⟨l,l'⟩
  ·have:=p1 _ k;have:=p2 _ l;grind
  ·have:=p1 _ k;rw[l];grind
  ·have:=p2 _ l;rw[k];grind
  ·have:=p1 _ k';have:=p2 _ l';rw[k,l];grind
 ·exact absurd e hz
end Go.Sx
end
section
namespace Go.Sx
open Go
inductive OT where
 |z (π:List (Nat×Bool))
 |q (i:Nat) (t:OT)
 |a (i:Nat) (t:OT)
 |c (i:Nat) (t r:OT)
def OT.sz:OT->Nat
 | .z _=>0
 | .q _ t=>t.sz+1
 | .a _ t=>t.sz+1
 | .c _ t r=>t.sz+r.sz+1
def OT.d:OT->Nat
 | .z π=>π.length
 | .q _ t=>t.d+1
 | .a _ t=>t.d+1
 | .c _ t r=>Nat.max (t.d+1) r.d
section
variable {P:Program} {ops:Array Oper} {Q:Exit->Act->World->Prop} {S:World->Prop} {π₂:List (Nat×Bool)}
def qM(P:Program)(ops:Array Oper)(Q:Exit->Act->World->Prop)(K:(World->Prop)->Act->World->Prop):List Nat->OT->(World->Prop)->Act->World->Prop
 |ks, .z π,S,a,w=>rQ P ops Q K ks π S a w
 |ks, .q i t,S,a,w=> ∃o v,ops[i]? =some o/\S w/\YieldsIf P ops S o v a/\qM P ops Q K ks t S (a.put o.dst v) w
 |ks, .a i t,S,a,w=>wpOp P ops Q i (qz S (qM P ops Q K ks t)) a w/\
   ∀j,(h:j∈ks)->wpOp P ops Q j (qz S (qM P ops Q K (iE ks j) (.a i t))) a w
 |ks, .c i t r,S,a,w=>wpOp P ops Q i (qz S (qM P ops Q K ks t)) a w/\qM P ops Q K ks r S a w/\
   ∀j,(h:j∈ks)->wpOp P ops Q j (qz S (qM P ops Q K (iE ks j) (.c i t r))) a w
termination_by ks t=>ks.length+t.sz
decreasing_by
 all_goals (first|(have:=zo h;simp only[OT.sz] at*;omega)|(simp only[OT.sz];omega))
def nv(ops:Array Oper)(fin:Nat->Bool)(π₂:List (Nat×Bool)):Nat->Bool->List Nat->OT->Array Bool->List Nat->Bool
 |0,_,_,_,_,_=>false
 |n+1,false,ks, .z π,l,_=>tG ops fin π₂ n ks π l
 |_+1,true,_, .z _,_,_=>false
 |n+1,false,ks, .q i t,l,_=>r9 ops fin l i&&nv ops fin π₂ n false ks t (l.setIfInBounds i true) []
 |_+1,true,_, .q _ _,_,_=>false
 |n+1,true,ks, .a i t,l,rs=>rs.all (fun j=>Nat.beq j i)&&nv ops fin π₂ n false ks t (l.setIfInBounds i true) []
 |n+1,false,ks, .a i t,l,_=>!(Region.ready .any ops l).isEmpty&&(Region.ready .any ops l).all (fun j=>Nat.beq j i||ks.contains j)&&nv ops fin π₂ n false ks t (l.setIfInBounds i true) []&&ks.all fun j=>nv ops fin π₂ n false (iE ks j) (.a i t) (l.setIfInBounds j true) []
 |n+1,true,ks, .c i t r,l,rs=>nv ops fin π₂ n false ks t (l.setIfInBounds i true) []&&nv ops fin π₂ n true ks r l (iE rs i)
 |n+1,false,ks, .c i t r,l,_=>!(Region.ready .any ops l).isEmpty&&nv ops fin π₂ n false ks t (l.setIfInBounds i true) []&&nv ops fin π₂ n true ks r l (iE ((Region.ready .any ops l).filter fun j=>!ks.contains j) i)&&ks.all fun j=>nv ops fin π₂ n false (iE ks j) (.c i t r) (l.setIfInBounds j true) []
end
section
variable {P:Program} {GB:Gh} {C:az} {n:Nat} {fr fr':cI} {own own' own0 own1 own1':List b7} {bs bs0 bs1 bs1':List cD} {ops:Array Oper} {Q:Exit->Act->World->Prop} {fd:List FD} {π₂:List (Nat×Bool)} {t r:OT}
abbrev UD (P:Program) (ops:Array Oper) (Q:Exit->Act->World->Prop) (K:(World->Prop)->Act->World->Prop) (t:OT):List Nat->(World->Prop)->Act->World->Prop:=fun ks S=>qM P ops (ic Q) K ks t S
end
end Go.Sx
end
section
namespace Go.Sx
open Go Go.Proofs Tryz
variable {GB:Gh}
theorem LB.rev{l:ah}(h:LB l):LB l.rev:=⟨⟨by rw[show l.rev.a= -l.a from J,gK];exact h.bl.a,by rw[show l.rev.b= -l.b from J,gK];exact h.bl.b,by rw[show l.rev.c= -l.c from J,gK];exact h.bl.c⟩⟩
def DW{α:Type}{p:α->Bool}: ∀{xs:List α} {n:Nat},n<=xs.length->(∀j (h:j<xs.length),j<n->p xs[j]=true)->(∀h:n<xs.length,p xs[n]=false)->(xs.takeWhile p).length=n
 |[],n,h,_,_=>by simp at h;subst h;rfl
 |x::xs,0,_,_,h3=>by
  have:=h3 (by simp);simp only[mY] at this;simp[nR,this]
 |x::xs,n+1,h1,h2,h3=>by
  have hx:=h2 0 (by simp) (by omega);simp only[mY] at hx;rw[nR,if_pos hx,bN];rw[DW (n:=n) (by simpa using h1) (fun j h hj=>by have:=h2 (j+1) (by simpa using h) (by omega);simpa using this) (fun h=>by have:=h3 (by simpa using h);simpa using this)]
structure WB (c:List ah) (k:Nat) (xs:List ah):Prop where
 le:k<=c.length
 f:AP c (c.drop k) xs=nf c
 m: ∀m∈xs,m∈c
 n:xs.length<=k
def EO(c:List ah):Bool:=if(((c.map eL).length:Nat):Int)=0 then true else decide ((0:Int)<((((nf c).map eL).length:Nat):Int))
section
variable {α:Type} (c:α->α->Int)
def dE(x:α):List α->List α
 |[]=>[x]
 |u::t=>if c u x<0 then u::dE x t else if c u x=0 then u::t else x::u::t
def ke(x:α)(xs:List α):Nat:=(xs.takeWhile fun u=>decide (c u x<0)).length
def Rd(x:α)(xs:List α):ke c x xs<=xs.length:=(List.takeWhile_sublist _).length_le
def Fb{x:α}{xs:List α}{n:Nat}(h1:n<=xs.length)(h2: ∀j (h:j<xs.length),j<n->c xs[j] x<0)(h3: ∀h:n<xs.length,¬c xs[n] x<0):ke c x xs=n:=
 DW h1 (fun j h hj=>decide_eq_true (h2 j h hj)) (fun h=>decide_eq_false (h3 h))
def Jf{x:α}: ∀{xs:List α} {n:Nat},ke c x xs=n->(h:n<xs.length)->c xs[n] x=0->dE c x xs=xs
 |[],n,_,h,_=>by simp at h
 |u::t,n,hn,h,e=>by
  rw[dE];unfold ke at hn;rw[nR] at hn;by_cases hu:c u x<0
  ·rw[if_pos hu]
   rw[if_pos (by simpa using hu)] at hn;obtain⟨k,rfl⟩: ∃k,n=k+1:=⟨n-1,by simp at hn;omega⟩;rw[Jf (xs:=t) (n:=k) (by unfold ke;simpa using hn) (by simpa using h) (by simpa using e)]
  ·rw[if_neg (by simpa using hu)] at hn
   simp at hn;subst hn;rw[if_neg hu,if_pos (by simpa using e)]
def xQ{x:α}: ∀{xs:List α} {n:Nat},ke c x xs=n->(∀h:n<xs.length,c xs[n] x≠0)->dE c x xs=xs.take n++x::xs.drop n
 |[],n,hn,_=>by simp[ke] at hn;subst hn;rfl
 |u::t,n,hn,e=>by
  rw[dE];unfold ke at hn;rw[nR] at hn;by_cases hu:c u x<0
  ·rw[if_pos hu]
   rw[if_pos (by simpa using hu)] at hn;obtain⟨k,rfl⟩: ∃k,n=k+1:=⟨n-1,by simp at hn;omega⟩;rw[xQ (xs:=t) (n:=k) (by unfold ke;simpa using hn) (fun h=>by have:=e (by simpa using h);simpa using this)];simp
  ·rw[if_neg (by simpa using hu)] at hn
   simp at hn;subst hn;have:=e (by simp);rw[if_neg hu,if_neg (by simpa using this)];rfl
def FA(x:α): ∀(xs:List α),(dE c x xs).length<=xs.length+1
 |[]=>aR _
 |u::t=>by
  have:=FA x t;rw[dE];split
  ·simp;omega
  ·split<;>simp
def AC{x y:α}: ∀{xs:List α},y∈dE c x xs->y=x\/y∈xs
 |[],h=>by rw[dE,aL] at h;exact .inl h
 |u::t,h=>by
  rw[dE] at h;split at h
  ·rcases bZ.1 h with rfl|h
   ·exact .inr aQ
   ·rcases AC h with h|h
    ·exact .inl h
    ·exact .inr (aV _ h)
  ·split at h
   ·exact .inr h
   ·rcases bZ.1 h with rfl|h
    ·exact .inl J
    ·exact .inr h
def n7(l:List α):List α:=l.foldl (fun out x=>dE c x out) []
def Ai: ∀(l o:List α),(l.foldl (fun out x=>dE c x out) o).length<=l.length+o.length
 |[],o=>by simp
 |x::t,o=>by
  have:=Ai t (dE c x o);have:=FA c x o;simp only[gN,bN];omega
def wT{y:α}: ∀{l o:List α},y∈l.foldl (fun out x=>dE c x out) o->y∈l\/y∈o
 |[],o,h=> .inr h
 |x::t,o,h=>by
  rcases wT (l:=t) h with h|h
  ·exact .inl (aV _ h)
  ·rcases AC c h with rfl|h
   ·exact .inl aQ
   ·exact .inr h
end
def Fo{α β:Type}{f:α->β}{l:List α}{k:Nat}{x:α}(h:l[k]? =some x):(l.take k).map f++[f x]=(l.take (k+1)).map f:=by
 rw[cM,h,cX];rfl
instance BQ.m1':BQ (((-1:Int):Int):Rat) 2:=⟨by decide,by decide⟩
instance BQ.m1:BQ (-1:Rat) 2:=⟨by decide,by decide⟩
def FL{q:Rat}{i:Nat}[h:BQ q i](hi:i<=400000000:=by decide):PF GB prog 106 [eQ q] (eR q):=by
 refine fn func106 J J ntmps106 J J (fun C=>?_);refine cl J (Kg (z:=q.num) hi) J<|cl J (jO (q:=q)) J<|cl J (JS (a:=q.den) hi) J<|?_;exact rz J J
def E'{p:aa}{i:Nat}[h:aA p i](hi:i<=20000:=by decide):PF GB prog 35 [eP p] (gm p):=by
 refine fn func35 J J ntmps35 J J (fun C=>?_);refine cl J (FL (q:=p.x) (i:=i) (by omega)) J<|cl J (FL (q:=p.y) (i:=i) (by omega)) J<|?_;exact rz J J
def ui{α:Type}(f:α->DV)(l:List α):(l.map f).length=l.length:=aX ..
def mc(ps:List aa):du 6 (ps.map eP):=fun d hd=>by
 obtain⟨u,_,rfl⟩:=bT.1 hd;exact⟨rfl,rfl⟩
def IS(ps:List aa):du 6 (ps.map gm):=fun d hd=>by
 obtain⟨u,_,rfl⟩:=bT.1 hd;exact⟨rfl,rfl⟩
def En{ps:List aa}(hb: ∀p∈ps,aA p 1200)(hn:ps.length<=1000000):PF GB prog 32 [.sl (ps.map eP)] (.sl (ps.map gm)):=by
 have hm:=ui eP ps;refine fn (fu:=⟨15⟩) func32 J J ntmps32 J J (fun C=>?_);refine ak 7 (.d (vI (ps.length:Nat))) J (by rw[hm]<;>rfl) ?_;refine gx J<|?_;refine nr 3 3 73 6 J J J ?_;refine lp (X:=Nat) (fun k=>[(8, .d (vI (k:Nat))),(3, .rw 3)]) (fun k=>[(3,some (.b 73 6 ((ps.take k).map gm) true))]) (fun k=>k<=ps.length) (fun k=>ps.length-k) 0 J (bL _) (fun _=>J) (fun k hk=>?_);have hml:=ui gm (ps.take k);rw[bW] at hml;refine br J J J (fun hc9=>?_) (fun hc9=>?_)
 .
  obtain⟨z,hz⟩: ∃s,ps[k]? =some s:=⟨_,aZ (by omega)⟩;have hzm:=aS hz;refine ix _ J (d9 hz) J<|cl J (E' (p:=z) (h:=hb z hzm)) J<|rf J J<|ap ((ps.take (k+1)).map gm) J (Fo hz) (IS [z]) J<|?_;refine iI 16 3 J ?_;exact at_ (k+1) ⟨(by omega),(by omega)⟩
 .
  obtain rfl:k=ps.length:=by omega
  refine ki 3 J ?_;exact rz J (by rw[dX];rfl)
def ee(p q:aa):Int:=if bv p.x q.x≠0 then bv p.x q.x else bv p.y q.y
def HR{p q:aa}{i j:Nat}[hp:aA p i][hq:aA q j](hi:i<=100000:=by decide)(hj:j<=100000:=by decide):PF GB prog 181 [eP p,eP q] (vI (ee p q)):=by
 refine fn func181 J J ntmps181 J J (fun C=>?_);refine cl J (wg (a:=p.x) (b:=q.x) (by omega) (by omega)) J<|?_;refine br J J J (fun hc12=>?_) (fun hc12=>?_)
 .
  exact rz J (by unfold ee;rw[if_pos hc12];rfl)
 .
  refine cl J (wg (a:=p.y) (b:=q.y) (by omega) (by omega)) J<|?_;exact rz J (by unfold ee;rw[if_neg hc12];rfl)
def qh(l:ah):Bool:=decide (l.a<0\/(l.a=0/\l.b<0))
def ah.canon(l:ah):ah:=if qh l then l.rev else l
instance LB.canon (l:ah) [h:LB l]:LB l.canon:=by unfold ah.canon;split;exact LB.rev h;exact h
def nP{α β:Type}(c:β->β->Int)(g:α->β)(l:List α)(k:Nat):List β:=n7 c ((l.take k).map g)
section
variable {α β:Type} {c:β->β->Int} {g:α->β} {l:List α} {k:Nat}
def BZ{x:α}(h:l[k]? =some x):nP c g l (k+1)=dE c (g x) (nP c g l k):=by
 unfold nP n7;rw[cM,h,Option.toList_some,cX,mS];rfl
def Li(h:k=l.length):nP c g l k=n7 c (l.map g):=by unfold nP;rw[h,dX]
def Ld:(nP c g l k).length<=k:=by
 have:=Ai c ((l.take k).map g) [];have h2:((l.take k).map g).length<=k:=by rw[aX,bW];omega
 rw[iU] at this;unfold nP n7;omega
def S6{y:β}(h:y∈nP c g l k): ∃x∈l,y=g x:=by
 rcases wT c h with h|h
 ·obtain⟨x,hx,rfl⟩:=bT.1 h
  exact⟨x,eK hx,J⟩
 ·cases h
end
def GH{α:Type}{f:α->DV}{s:Nat}(ok: ∀l:List α,du s (l.map f))(xs:List α)(n:Nat):du s ((xs.map f).take n):=fun d hd=>ok xs d (eK hd)
def CI{α:Type}{f:α->DV}{s:Nat}(ok: ∀l:List α,du s (l.map f))(xs:List α)(n m:Nat):du s (((xs.map f).take n).drop m):=fun d hd=>ok xs d (eK (mM hd))
def IC{α:Type}{f:α->DV}{s:Nat}(ok: ∀l:List α,du s (l.map f))(xs:List α)(n m:Nat)(x:α):du s ([f x]++((xs.map f).take n).drop m):=fun d hd=>by
 rcases cL.1 hd with h|h
 ·exact ok [x] d h
 ·exact CI ok xs n m d h
def x5{α:Type}{f:α->DV}{l:List α}{i:Nat}(h:i<l.length):(l.map f)[(i:Int).toNat]? =some (f l[i]):=by
 rw[bY,fR,aZ h];rfl
def N'{ps:List aa}(hb: ∀p∈ps,aA p 1200)(hn:ps.length<=100000):PF GB prog 90 [.sl (ps.map eP)] (.sl ((n7 ee ps).map eP)):=by
 have hm':=ui eP ps;refine fn (fu:=⟨15⟩) func90 J J ntmps90 J J (fun C=>?_);refine ak 8 (.d (vI (ps.length:Nat))) J (by rw[hm'];rfl) ?_;refine gx J<|?_;refine NY 3 J ?_;refine lp (X:=List aa×Nat) (fun⟨xs,k⟩=>[(9, .d (vI (k:Nat))),(8, .d (vI (ps.length:Nat))),(7, .d (.sl (ps.map eP))),(0, .d (.sl (ps.map eP))),(3, .d (.sl (xs.map eP)))]) (fun⟨xs,k⟩=>[]) (fun⟨xs,k⟩=>xs=nP ee id ps k/\k<=ps.length) (fun⟨xs,k⟩=>ps.length-k) ⟨[],0⟩ J ⟨J,bL _⟩ (fun _=>J) (fun⟨xs,k⟩ hk=>?_)
 try dsimp only at hk⊢
 obtain⟨hS,hkl⟩:=hk;refine br J J J (fun hc10=>?_) (fun hc10=>?_)
 .
  have hk:k<ps.length:=by omega
  obtain⟨m,hm⟩: ∃m,m=ps[k]:=⟨_,rfl⟩;have hz:ps[k]? =some m:=by rw[hm];exact aZ hk
  haveI hmb:aA m 1200:=hm▸hb _ (jU hk);have hxl:=ui eP xs;have hxn:xs.length<=k:=by rw[hS];exact Ld
  have hxb: ∀q∈xs,aA q 1200:=fun q hq=>by rw[hS] at hq;obtain⟨z,hz,he⟩:=S6 hq;rw[he];exact hb z hz
  refine ix (fu:=⟨1⟩) _ J (x5 hk) J<|?_;refine ak 12 (.d (eP m)) J (by rw[hm];rfl) ?_;refine gx (fu:=⟨10⟩) J<|?_;refine mg (fu:=⟨5⟩) (X:=Unit) (fun _=>[(9, .d (vI (k:Nat))),(8, .d (vI (ps.length:Nat))),(7, .d (.sl (ps.map eP))),(0, .d (.sl (ps.map eP))),(3, .d (.sl (xs.map eP))),(5, .ov 5 0),(6, .d (vI (ke ee m xs:Nat)))]) (fun _=>[(5,some (.o 81 [.d ((.v (.bool (decide (m.x.num<0))))), .d (dN m.x.num.natAbs), .d (dD m.x.den), .d ((.v (.bool (decide (m.y.num<0))))), .d (dN m.y.num.natAbs), .d (dD m.y.den)] true))]) (fun _=>True) [9,8,7,0,3,5,6] [5] rfl ?_ (fun _=>J) (fun _ _=>?_)
  .
   refine gx J<|?_;refine lp (fu:=⟨6⟩) (X:=Nat) (fun n=>[(9, .d (vI (k:Nat))),(8, .d (vI (ps.length:Nat))),(7, .d (.sl (ps.map eP))),(0, .d (.sl (ps.map eP))),(3, .d (.sl (xs.map eP))),(5, .ov 5 0),(6, .d (vI (n:Nat)))]) (fun n=>[(5,some (.o 81 [.d ((.v (.bool (decide (m.x.num<0))))), .d (dN m.x.num.natAbs), .d (dD m.x.den), .d ((.v (.bool (decide (m.y.num<0))))), .d (dN m.y.num.natAbs), .d (dD m.y.den)] true))]) (fun n=>n<=xs.length/\ ∀j (h:j<xs.length),j<n->ee xs[j] m<0) (fun n=>xs.length-n) 0 J ⟨bL _,fun j _ hj=>absurd hj (by omega)⟩ (fun _=>J) (fun n hk=>?_);obtain⟨n1,n2⟩:=hk;refine r8 (v2:=fun hg16=>by simp only[ab];kernel_rfl) J J J J (fun hg16=>?_) (fun hg16=>?_)
   .
    refine ix _ J (x5 (by omega)) J<|cl J (HR (p:=xs[n]'(by omega)) (q:=m) (hp:=hxb _ (jU (by omega))) (hq:=hmb)) J<|?_;refine br J J J (fun hc25=>?_) (fun hc25=>?_)
    .
     exact at_ (n+1) ⟨⟨by omega,fun j h hj=>by by_cases q:j=n;(subst q;exact hc25);exact n2 j h (by omega)⟩,(by omega)⟩
    .
     have hidx:ke ee m xs=n:=Fb ee n1 n2 (fun h=>hc25);exact at_ () trivial
   .
    have hidx:ke ee m xs=n:=Fb ee n1 n2 (fun h=>absurd h (by omega));exact at_ () trivial
  .
   obtain⟨n,hnx⟩: ∃n,ke ee m xs=n:=⟨_,rfl⟩;rw[hnx];have hnl:n<=xs.length:=by rw[<-hnx];exact Rd _ _ _
   refine r8 (v1:=fun hg31=>by simp only[ab];kernel_rfl) J J J J (fun hg31=>?_) (fun hg31=>?_)
   .
    have hnew: ∀h:n<xs.length,ee xs[n] m≠0:=fun h=>absurd h (by omega);obtain⟨ys,hys⟩: ∃ys,ys=xs.take n++m::xs.drop n:=⟨_,rfl⟩;have hin:dE ee m xs=ys:=by rw[hys];exact xQ ee hnx hnew
    have hyl:ys.length<=xs.length+1:=by rw[hys];simp;omega
    refine s3 n _ J J J J (mc _) (by rw[hxl];exact hnl) J<|ro J J<|qS n xs.length _ J J (by rw[hxl]) J (mc _) hnl (by omega) J<|?_;refine ap _ J J (CI mc _ _ _) J<|Dj (hv:=by simp only[ab];exact⟨by kernel_rfl,by omega⟩) (ho:=fun _=>⟨GH mc _ _,by simp⟩) (ys.map eP) J (by rw[hys,cX,cZ,kU,pS,aU (l:=xs.map eP) (i:=xs.length) (by simp)];rfl) (IC mc _ _ _ _) J<|?_;exact at_ ⟨ys,k+1⟩ (by dsimp only;exact⟨⟨by rw[BZ hz,<-hS];exact hin.symm,by omega⟩,(by omega)⟩)
   .
    refine ix _ J (x5 (by omega)) J<|cl J (HR (p:=xs[n]'(by omega)) (q:=m) (hp:=hxb _ (jU (by omega))) (hq:=hmb)) J<|?_;refine br J J J (fun hc40=>?_) (fun hc40=>?_)
    .
     have hnew: ∀h:n<xs.length,ee xs[n] m≠0:=fun h=>hc40;obtain⟨ys,hys⟩: ∃ys,ys=xs.take n++m::xs.drop n:=⟨_,rfl⟩;have hin:dE ee m xs=ys:=by rw[hys];exact xQ ee hnx hnew
     have hyl:ys.length<=xs.length+1:=by rw[hys];simp;omega
     refine s3 n _ J J J J (mc _) (by rw[hxl];exact hnl) J<|ro J J<|qS n xs.length _ J J (by rw[hxl]) J (mc _) hnl (by omega) J<|?_;refine ap _ J J (CI mc _ _ _) J<|Dj (hv:=by simp only[ab];exact⟨by kernel_rfl,by omega⟩) (ho:=fun _=>⟨GH mc _ _,by simp⟩) (ys.map eP) J (by rw[hys,cX,cZ,kU,pS,aU (l:=xs.map eP) (i:=xs.length) (by simp)];rfl) (IC mc _ _ _ _) J<|?_;exact at_ ⟨ys,k+1⟩ (by dsimp only;exact⟨⟨by rw[BZ hz,<-hS];exact hin.symm,by omega⟩,(by omega)⟩)
    .
     have hin:dE ee m xs=xs:=Jf ee hnx (by omega) (Decidable.not_not.1 hc40);exact at_ ⟨xs,k+1⟩ (by dsimp only;exact⟨⟨by rw[BZ hz,<-hS];exact hin.symm,by omega⟩,(by omega)⟩)
 .
  have hfin:n7 ee ps=xs:=by rw[hS,Li (by omega),List.map_id]
  exact rz J (by rw[hfin];rfl)
def uH(ls:List ah):List ah:=n7 LW (ls.map ah.canon)
def KC(l:ah)(p:aa):l.canon.value p=l.value p\/l.canon.value p= -l.value p:=by
 unfold ah.canon;split
 ·exact .inr (QK l p)
 ·exact .inl J
def CB(a b:Tr):List aa:=Ex (uH (a.lns++b.lns))
def Wv(a b:Tr):Bool:=(CB a b).all fun p=>o5 a p==o5 b p
def Wn(f:Bool->Bool->Bool)(a b:Tr):Bool:=(CB a b).any fun p=>f (o5 a p) (o5 b p)
def WJ(v:Bool)(t:Tr):Bool:=decide ((t.restrict []).isLeaf=true/\(t.restrict []).code=v)
def Dh{α:Type}{c:α->α->Int}(hT: ∀u v w,c u v<0->c v w<0->c u w<0)(hA: ∀u v,¬c u v<0->c u v≠0->c v u<0){x:α}: ∀{xs:List α},xs.Pairwise (fun a b=>c a b<0)->(dE c x xs).Pairwise (fun a b=>c a b<0)
 |[],_=>by rw[dE];exact oR _ _
 |u::t,h=>by
  obtain⟨h1,h2⟩:=bR.1 h;rw[dE];split
  ·rename_i hu
   refine bR.2 ⟨fun y hy=>?_,Dh hT hA h2⟩;rcases AC c hy with rfl|hy
   ·exact hu
   ·exact h1 y hy
  ·rename_i hu
   split
   ·exact h
   ·rename_i hz
    have hx:=hA u x hu hz;refine bR.2 ⟨fun y hy=>?_,h⟩;rcases bZ.1 hy with rfl|hy
    ·exact hx
    ·exact hT _ _ _ hx (h1 y hy)
def DM{α:Type}{c:α->α->Int}(hT: ∀u v w,c u v<0->c v w<0->c u w<0)(hA: ∀u v,¬c u v<0->c u v≠0->c v u<0): ∀{l o:List α},o.Pairwise (fun a b=>c a b<0)->(l.foldl (fun out x=>dE c x out) o).Pairwise (fun a b=>c a b<0)
 |[],o,h=>h
 |x::l,o,h=>DM (l:=l) (o:=dE c x o) hT hA (Dh hT hA h)
def Ko(L:List ah)(p:aa):List aa:=L.flatMap fun l=>if Int.sign (l.value p).num=0 then [l.dir,dw l.dir] else []
def SP{u v:aa}:0<ce u v↔cP v u:=by
 unfold ce cP;split
 ·rename_i h;exact⟨fun e=>absurd e (by decide),fun e=>by omega⟩
 ·rename_i h
  split
  ·rename_i h2;exact⟨fun _=> .inl h2,fun _=>by decide⟩
  ·rename_i h2
   have e:v.half=u.half:=by omega
   rw[nH u v];constructor
   ·intro k
    have:Int.sign (u.cross v).num<0:=by omega
    rw[sf] at this;exact .inr ⟨e,by grind⟩
   ·rintro (k|⟨_,k⟩)
    ·omega
    ·have:Int.sign (u.cross v).num<0:=(sf _).2 (by grind)
     omega
def cP.trans{u v w:aa}(hu:u.half≠0)(hv:v.half≠0)(hw:w.half≠0)(h:cP u v)(k:cP v w):cP u w:=by
 rcases h with h|⟨h,h'⟩<;>rcases k with k|⟨k,k'⟩
 ·exact .inl (by omega)
 ·exact .inl (by omega)
 ·exact .inl (by omega)
 ·refine .inr ⟨h.trans k,?_⟩
  have id1:u.cross w*v.y=u.cross v*w.y+v.cross w*u.y:=by unfold aa.cross;grind
  rcases kA v with⟨x,q⟩|⟨x,q⟩|⟨x,q⟩
  ·rw[x] at h k
   have qu:=tN.1 h;have qw:=tN.1 k.symm;rcases q with q|⟨q,q'⟩
   ·rw[<-ol q,id1]
    have wy:0<=w.y:=by grind
    have uy:0<=u.y:=by grind
    have a1:=mA (Rat.le_of_lt h') wy;rcases qu with qu|⟨qu,qu'⟩
    ·have:=fy k' qu;grind
    ·rcases qw with qw|⟨qw,qw'⟩
     ·have:=fy h' qw;rw[qu];grind
     ·exfalso
      have hx:v.cross w= -(w.x*v.y):=by unfold aa.cross;rw[qw];grind
      have:=fy qw' q;grind
   ·exfalso
    have hx:u.cross v= -(v.x*u.y):=by unfold aa.cross;rw[q];grind
    have:=mA (a:=v.x) (b:=u.y) (Rat.le_of_lt q') (by grind);grind
  ·rw[x] at h k
   have qu:=uJ.1 h;have qw:=uJ.1 k.symm;rcases q with q|⟨q,q'⟩
   ·have e1:u.cross w* -v.y=u.cross v* -w.y+v.cross w* -u.y:=by grind
    rw[<-ol (k:= -v.y) (by grind),e1];have a1:=mA (a:=u.cross v) (b:= -w.y) (Rat.le_of_lt h') (by grind);rcases qu with qu|⟨qu,qu'⟩
    ·have:=fy (a:=v.cross w) (b:= -u.y) k' (by grind);grind
    ·rcases qw with qw|⟨qw,qw'⟩
     ·have:=fy (a:=u.cross v) (b:= -w.y) h' (by grind);rw[qu];grind
     ·exfalso
      have hx:v.cross w= -(-w.x* -v.y):=by unfold aa.cross;rw[qw];grind
      have:=fy (a:= -w.x) (b:= -v.y) (by grind) (by grind);grind
   ·exfalso
    have hx:u.cross v= -(-v.x* -u.y):=by unfold aa.cross;rw[q];grind
    have:=mA (a:= -v.x) (b:= -u.y) (by grind) (by grind);grind
  ·exact absurd x hv
def xU(S:List aa)(x:aa):Nat->Nat
 |0=>0
 |k+1=>if 0<ce (S.getD k ⟨0,0⟩) x then xU S x k else k+1
def Tz(S:List aa)(x:aa):List aa:=S.take (xU S x S.length)++x::S.drop (xU S x S.length)
def T4(ds:List aa):List aa:=ds.foldl Tz []
structure Vo (L:List ah):Prop where
 ok: ∀l∈L,l.ok
 cn: ∀l∈L,qh l=false
 nd:L.Pairwise (fun a b=>a≠b)
def F1{l:ah}(h:l.ok):qh l.canon=false:=by
 have hn:=h.ne;unfold ah.Ne at hn;unfold ah.canon;split
 ·rename_i k
  unfold qh at*;rw[decide_eq_true_eq] at k;rw[decide_eq_false_iff_not];show¬(-l.a<0\/(-l.a=0/\ -l.b<0));omega
 ·rename_i k;simpa using k
def JN{l:ah}(h:l.ok):l.dir.half≠0:=fun e=>by
 have hn:=h.ne;unfold ah.Ne at hn;rcases kA l.dir with⟨k,_⟩|⟨k,_⟩|⟨_,k1,k2⟩
 ·rw[k] at e;cases e
 ·rw[k] at e;cases e
 ·unfold ah.dir at k1 k2
  simp only at k1 k2;apply hn;refine⟨?_,mJ.1 k2⟩;have:(l.a:Rat)=0:=by grind
  exact mJ.1 this
def wc(d:aa):dw (dw d)=d:=by unfold dw;cases d;simp
def QW{l m:ah}(hl:l.ok)(hm:m.ok)(cl:qh l=false)(cm:qh m=false){p:aa}(h1:l.value p=0)(h2:m.value p=0)(hc:l.dir.cross m.dir=0):l=m:=by
 have key: ∀t,l.value (m.at t)=0:=fun t=>by
  obtain⟨s,rfl⟩:=IA hm.ne h2;rw[Dq] at h1⊢;have hk:m.cutK l=0:=by
   unfold ah.cutK;rw[<-My];exact hc
  rw[hk] at h1⊢;grind
 rcases Qb hl hm key with e|e
 ·exact e
 ·exfalso
  have hn:=hm.ne;unfold ah.Ne at hn;rw[e] at cl;unfold qh at cl cm;rw[decide_eq_false_iff_not] at cl cm;have cl: ¬(-m.a<0\/(-m.a=0/\ -m.b<0)):=cl;omega
def Ju(v:aa):Nat:=Nat.gcd (v.x.num.natAbs*v.y.den) (v.y.num.natAbs*v.x.den)
def DC(n:Int)(d g:Nat):Int:=if n<0 then-((n.natAbs*d/g:Nat):Int) else((n.natAbs*d/g:Nat):Int)
def ET(v:aa):aa:=if v.half=0 then⟨0,0⟩ else⟨(DC v.x.num v.y.den (Ju v):Int),(DC v.y.num v.x.den (Ju v):Int)⟩
def M2(ds:List aa)(i:Nat):List aa:=
 if ce (ds.getD i ⟨0,0⟩) (ds.getD ((i+1)%ds.length) ⟨0,0⟩)=0/\2<ds.length then []
 else if Int.sign ((ds.getD i ⟨0,0⟩).cross (ds.getD ((i+1)%ds.length) ⟨0,0⟩)).num=0 then [lm (ds.getD i ⟨0,0⟩)]
 else [dx (ET (ds.getD i ⟨0,0⟩)) (ET (ds.getD ((i+1)%ds.length) ⟨0,0⟩)) 1]
def MS(ds:List aa):List aa:=if ds.length=0 then [⟨1,0⟩] else(List.range ds.length).flatMap (M2 ds)
def Fl(L:List ah)(p:aa):List aa:=MS (T4 (Ko L p))
def L5(t:Tr)(p:aa):Bool:=(Fl (uH t.lns) p).any fun v=>(nq t p v).1
def Mp(t:Tr)(p:aa):Bool:=(Fl (uH t.lns) p).all fun v=>(nq t p v).1
def IH{z:Rat}(h:z<0):Int.sign z.num= -1:=by
 have:=(sf _).2 h;rcases pZ z.num 0 with q|q|q
 ·exact eX q
 ·rw[q] at this;simp at this
 ·rw[fW q] at this;simp at this
def uS:Tr->aa->List ah
 | .leaf _,_=>[]
 | .node l x y,p=>(if Int.sign (l.value p).num=0 then [l] else [])++((if 0<=Int.sign (l.value p).num then uS x p else [])++(if Int.sign (l.value p).num<=0 then uS y p else []))
def Vi(t:Tr)(p:aa)(b:Bool):Prop:= ∃v,Gn (uS t p) p v/\(nq t p v).1=b
def pw(ds:List aa)(i:Nat):aa:=
 if 0<Int.sign ((ds.getD i ⟨0,0⟩).cross (ds.getD ((i+1)%ds.length) ⟨0,0⟩)).num then(ds.getD i ⟨0,0⟩).add (ds.getD ((i+1)%ds.length) ⟨0,0⟩) else lm (ds.getD i ⟨0,0⟩)
def gk(ds:List aa):List aa:=if ds.length=0 then [⟨1,0⟩] else(List.range ds.length).map (pw ds)
def ck(v:aa):aa:=v.scale (rgcd v.x v.y)⁻¹
def D9(t:Tr)(p:aa):List aa:=(uS t p).flatMap fun l=>[ck l.dir,dw (ck l.dir)]
def ld(ds:List aa):List aa:=n7 ce ds
def Q3{x y:Rat}(h:x≠0\/y≠0):0<rgcd x y:=by
 unfold rgcd;have hd:0<x.den*y.den:=gT x.den_pos y.den_pos;have hg:0<Nat.gcd (x.num.natAbs*y.den) (y.num.natAbs*x.den):=by
  rcases h with h|h
  ·exact kJ _ (gT (Int.natAbs_pos.2 fun e=>h (kK.1 e)) y.den_pos)
  ·exact lT _ (gT (Int.natAbs_pos.2 fun e=>h (kK.1 e)) x.den_pos)
 generalize Nat.gcd (x.num.natAbs*y.den) (y.num.natAbs*x.den)=g at*;generalize x.den*y.den=d at*;rw[<-Ce];have h1:mkRat (g:Int) d=(g:Rat)/(d:Rat):=by rw[nY];rfl
 rw[Ce,h1];have hg':(0:Rat)<(g:Rat):=by exact_mod_cast hg
 have hd':(0:Rat)<(d:Rat):=by exact_mod_cast hd
 have e:(g:Rat)/(d:Rat)*(d:Rat)=(g:Rat):=by grind
 exact(ol (k:=(d:Rat)) hd').1 (by rw[e];exact hg')
def S9{v:aa}(h:v.half≠0):v.x≠0\/v.y≠0:=by
 rcases kA v with⟨_,k⟩|⟨_,k⟩|⟨k,_⟩
 ·rcases k with k|⟨_,k⟩
  ·exact .inr (by grind)
  ·exact .inl (by grind)
 ·rcases k with k|⟨_,k⟩
  ·exact .inr (by grind)
  ·exact .inl (by grind)
 ·exact absurd k h
def A7{v:aa}(h:v.half≠0): ∃a:Rat,0<a/\ck v=⟨a*v.x,a*v.y⟩:=by
 have hg:=Q3 (S9 h);refine⟨(rgcd v.x v.y)⁻¹,?_,?_⟩
 ·generalize rgcd v.x v.y=g at*
  have e:g⁻¹*g=1:=by grind
  exact(ol (k:=g) hg).1 (by rw[e];decide)
 ·unfold ck aa.scale
  simp only[aa.mk.injEq];constructor<;>grind
def PL(v:aa):ck (dw v)=dw (ck v):=by
 have e:rgcd (-v.x) (-v.y)=rgcd v.x v.y:=by
  unfold rgcd;rw[kR,kR,nQ,nQ,gK,gK]
 unfold ck aa.scale dw;simp only[aa.mk.injEq,e];constructor<;>grind
def HL{v:aa}(h:v.half≠0):(ck v).half=v.half:=by
 obtain⟨a,a1,e⟩:=A7 h;have:=Ip (a:=a) (b:=a) (u:=v) (w:=v) a1 a1 J h;rw[<-this];have h2:ck v=uK (a*(1/2)) (a*(1/2)) v v:=by rw[e];unfold uK;simp only[aa.mk.injEq];constructor<;>grind
 have h3:=Ip (a:=a*(1/2)) (b:=a*(1/2)) (u:=v) (w:=v) (fy a1 (by grind)) (fy a1 (by grind)) J h;rw[h2,h3,this]
def OV{u v:aa}:ce u v=0↔u.half=v.half/\u.cross v=0:=by
 unfold ce;split
 ·constructor
  ·intro h;exact absurd h (by decide)
  ·intro h;omega
 ·split
  ·constructor
   ·intro h;exact absurd h (by decide)
   ·intro h;omega
  ·constructor
   ·intro h
    exact⟨by omega,(q7 _).1 (by omega)⟩
   ·intro h
    rw[(q7 _).2 h.2];rfl
def w7{u v w:aa}(h:cP u v)(k:cP v w):cP u w:=by
 by_cases hu:u.half=0
 ·by_cases hw:w.half=0
  ·have z: ∀x y:aa,x.half=0->x.cross y=0:=fun x y hx=>by
    rcases kA x with⟨e,_⟩|⟨e,_⟩|⟨_,e1,e2⟩
    ·rw[hx] at e;exact absurd e (by decide)
    ·rw[hx] at e;exact absurd e (by decide)
    ·unfold aa.cross;rw[e1,e2];grind
   rcases h with h|⟨h,h'⟩
   ·rcases k with k|⟨k,k'⟩
    ·omega
    ·have hv:v.half≠0:=by omega
     omega
   ·rw[z u v hu] at h';exact absurd h' (by decide)
  ·refine .inl ?_
   have h1:=vo hw;omega
 ·have hv:v.half≠0:=by
   intro e;rcases h with h|⟨h,_⟩
   ·have:=vo hu;omega
   ·omega
  have hw:w.half≠0:=by
   intro e;rcases k with k|⟨k,_⟩
   ·have:=vo hv;omega
   ·omega
  exact cP.trans hu hv hw h k
section
variable {α:Type} (c:α->α->Int)
def Hk{x y:α}: ∀{xs:List α},y∈xs->y∈dE c x xs
 |[],h=>by cases h
 |u::t,h=>by
  rw[dE];split
  ·rcases bZ.1 h with rfl|h
   ·exact aQ
   ·exact aV _ (Hk h)
  ·split
   ·exact h
   ·exact aV _ h
def Ik{x:α}: ∀{xs:List α},∃e∈dE c x xs,e=x\/c e x=0
 |[]=>⟨x,aQ, .inl J⟩
 |u::t=>by
  rw[dE];split
  ·obtain⟨e,h1,h2⟩:=Ik (x:=x) (xs:=t)
   exact⟨e,aV _ h1,h2⟩
  ·split
   ·exact⟨u,aQ, .inr (by assumption)⟩
   ·exact⟨x,aQ, .inl J⟩
def DO{y:α}: ∀{l o:List α},y∈o->y∈l.foldl (fun out x=>dE c x out) o
 |[],o,h=>h
 |x::t,o,h=>DO (l:=t) (Hk c h)
def Ad{d:α}: ∀{l o:List α},d∈l-> ∃e∈l.foldl (fun out x=>dE c x out) o,e=d\/c e d=0
 |[],o,h=>by cases h
 |x::t,o,h=>by
  rcases bZ.1 h with rfl|h
  ·obtain⟨e,h1,h2⟩:=Ik c (x:=d) (xs:=o)
   exact⟨e,DO c (l:=t) h1,h2⟩
  ·exact Ad (l:=t) h
end
def Sd(ds:List aa):(ld ds).Pairwise cP:=by
 have:=DM (c:=ce) (fun u v w h k=>mE.2 (w7 (mE.1 h) (mE.1 k))) (fun u v h k=>mE.2 (SP.1 (by omega))) (l:=ds) (o:=[]) List.Pairwise.nil;exact this.imp fun h=>mE.1 h
def KO{l m:ah}(hl:l.ok)(hm:m.ok){p:aa}(h1:l.value p=0)(h2:m.value p=0){d e:aa}(hd:d=ck l.dir\/d=dw (ck l.dir))(he:e=ck m.dir\/e=dw (ck m.dir))(h:ce d e=0):d=e:=by
 obtain⟨hh,hc⟩:=OV.1 h;have zl:=JN hl;have zm:=JN hm;have zpl:(ck l.dir).half≠0:=by rw[HL zl];exact zl
 have zpm:(ck m.dir).half≠0:=by rw[HL zm];exact zm
 have cr:l.dir.cross m.dir=0:=by
  obtain⟨a,a1,e1⟩:=A7 zl;obtain⟨b,b1,e2⟩:=A7 zm;have c0:(ck l.dir).cross (ck m.dir)=0:=by
   rcases hd with rfl|rfl<;>rcases he with rfl|rfl
   ·exact hc
   ·rw[oO] at hc;grind
   ·rw[nH,oO] at hc;rw[nH];grind
   ·rw[oO,nH,oO] at hc;rw[nH];grind
  have e3:(ck l.dir).cross (ck m.dir)=(a*b)*l.dir.cross m.dir:=by rw[e1,e2];unfold aa.cross;grind
  have hab:=fy a1 b1;rw[e3] at c0;clear e1 e2 e3;generalize a*b=k at*;generalize l.dir.cross m.dir=z at*;rcases Fc z with q|q|q
  ·exact q
  ·have:=fy hab q;grind
  ·have:=fy (a:=k) (b:= -z) hab (by grind);grind
 have dirR: ∀k:ah,k.rev.dir=dw k.dir:=fun k=>by
  unfold ah.dir ah.rev dw;simp only[aa.mk.injEq,Rat.intCast_neg]
  try constructor<;>grind
 have cdir: ∀k:ah,k.canon.dir=k.dir\/k.canon.dir=dw k.dir:=fun k=>by
  unfold ah.canon;split
  ·exact .inr (dirR k)
  ·exact .inl J
 have cval: ∀k:ah,k.value p=0->k.canon.value p=0:=fun k hk=>by rcases KC k p with e|e<;>rw[e,hk]<;>rfl
 have okc: ∀k:ah,k.ok->k.canon.ok:=fun k hk=>by unfold ah.canon;split;exact hk.rev;exact hk
 have ec:l.canon=m.canon:=QW (okc l hl) (okc m hm) (F1 hl) (F1 hm) (cval l h1) (cval m h2) (by
  rcases cdir l with e1|e1<;>rcases cdir m with e2|e2<;>rw[e1,e2]
  ·exact cr
  ·rw[oO,cr];rfl
  ·rw[nH,oO,nH,cr];rfl
  ·rw[oO,nH,oO,nH,cr];rfl)
 have hdir:l.dir=m.dir\/l.dir=dw m.dir:=by
  have e1:=cdir l;have e2:=cdir m;rw[ec] at e1;rcases e1 with e1|e1<;>rcases e2 with e2|e2
  ·exact .inl (e1.symm.trans e2)
  ·exact .inr (e1.symm.trans e2)
  ·right;rw[<-e2,e1,wc]
  ·left;rw[<-wc l.dir,<-e1,e2,wc]
 have hP:ck l.dir=ck m.dir\/ck l.dir=dw (ck m.dir):=by
  rcases hdir with e|e
  ·exact .inl (by rw[e])
  ·exact .inr (by rw[e,PL])
 have hn:=Sp zpm;have h3:=vo zpm;have key:d=ck m.dir\/d=dw (ck m.dir):=by
  rcases hd with rfl|rfl<;>rcases hP with e|e
  ·exact .inl e
  ·exact .inr e
  ·exact .inr (by rw[e])
  ·exact .inl (by rw[e,wc])
 rcases key with rfl|rfl<;>rcases he with rfl|rfl
 ·rfl
 ·exfalso;omega
 ·exfalso;omega
 ·rfl
def FU(t:Tr)(p:aa):Bool:=(gk (ld (D9 t p))).any fun v=>(nq t p v).1
def Or(t:Tr)(p:aa):Bool:=(gk (ld (D9 t p))).all fun v=>(nq t p v).1
def VH(t:Tr)(p:aa):Int:=if FU t p&&Or t p then 2 else if FU t p then 1 else 0
def vW(u:aa): ¬cP u u:=by
 rintro (h|⟨_,h⟩)
 ·omega
 ·have:u.cross u=0:=by unfold aa.cross;grind
  rw[this] at h;exact absurd h (by decide)
def R4{u v:aa}(h:cP u v)(k:cP v u):False:=vW u (w7 h k)
def GP{x y:aa}(h: ¬cP x y)(k: ¬cP y x):ce x y=0:=by
 rw[<-mE] at h k;unfold ce at*;split at h<;>try omega
 split at h<;>try omega
 split at k<;>try omega
 rw[show y.cross x= -(x.cross y) by unfold aa.cross;grind,kR,Int.sign_neg] at k;omega
def oG(l:List aa):du 6 (l.map eZ):=fun d hd=>by
 obtain⟨x,_,rfl⟩:=bT.1 hd;exact⟨J,J⟩
instance aA.negp (p:aa) (i:Nat) [h:aA p i]:aA (dw p) i:=⟨inferInstanceAs (BQ (-p.x) i),inferInstanceAs (BQ (-p.y) i)⟩
instance aA.prip (l:ah) [LB l]:aA (ck l.dir) 500:=by
 have h:=(inferInstance:aA (l.dir.scale (rgcd l.dir.x l.dir.y)⁻¹) _);exact⟨h.x.mono (by decide),h.y.mono (by decide)⟩
def Ew{p:aa}{i:Nat}[h:aA p i](hi:i<=900000000:=by decide):PF GB prog 320 [eZ p] (eZ (dw p)):=by
 refine fn func320 J J ntmps320 J J (fun C=>?_);refine cl J (pd (q:=p.x) (i:=i) hi) J<|cl J (pd (q:=p.y) (i:=i) hi) J<|?_;exact rz J J
def EV{p:aa}{i:Nat}[h:aA p i](hi:i<=900000000:=by decide):PF GB prog 242 [eZ p] (eZ (lm p)):=by
 refine fn func242 J J ntmps242 J J (fun C=>?_);refine cl J (pd (q:=p.y) (i:=i) hi) J<|?_;exact rz J J
def MA{p:aa}{i:Nat}[h:aA p i](hi:i<=1000000:=by decide):PF GB prog 319 [eZ p] (eZ (ck p)):=by
 refine fn func319 J J ntmps319 J J (fun C=>?_);refine cl J (ud (p:=p.x) (q:=p.y) (i:=i) (j:=i) (by omega) (by omega)) J<|cl J (xp (q:=rgcd p.x p.y) (i:=i+i+(i+i)) (by omega)) J<|?_;refine cl J (tU (p:=p) (c:=(rgcd p.x p.y)⁻¹) (i:=i) (j:=i+i+(i+i)) (by omega) (by omega)) J<|?_;exact rz J J
def D2{q:Rat}{i:Nat}[h:BQ q i](hi:i<=400000000:=by decide):PF GB prog 198 [eR q] (eF q):=by
 haveI:BN q.num.natAbs i:=⟨h.hn⟩;haveI:BN q.den i:=⟨h.hd⟩;refine fn func198 J J ntmps198 J J (fun C=>?_);refine cl (fu:=⟨0⟩) J (qq (n:=decide (q.num<0)) (a:=q.num.natAbs) (d:=q.den) (i:=i) (j:=i) (by omega) (by omega)) J<|?_;refine ak 7 (.d (eF q)) J (by rw[i8,Rat.mkRat_self]) ?_;refine gx J<|?_;exact rz J J
def ul{p:aa}{i:Nat}[h:aA p i](hi:i<=400000000:=by decide):PF GB prog 110 [gm p] (eZ p):=by
 refine fn func110 J J ntmps110 J J (fun C=>?_);refine cl J (D2 (q:=p.x) (i:=i) hi) J<|cl J (D2 (q:=p.y) (i:=i) hi) J<|?_;exact rz J J
def O8(G:Gh)(y:Value)(h:Is G (.sl [.ag [vI (c7 1),vI (c8 1),cF 1,vI 0,vI 0, .v (.pointer none)]]) y):Is G (.sl ((gk []).map eZ)) y:=by
 obtain⟨s,x,es,rfl,h1,h2⟩:=gh.1 h;obtain⟨v,m,rfl,k,h3⟩:=bE.1 h2
 cases cb.1 h3
 refine gh.2 ⟨s,x,_,J,h1, .cons ?_ .nil⟩;obtain⟨m4,rfl,g4⟩:=dP.1 k;obtain⟨v1,m1,rfl,k1,g1⟩:=bE.1 g4;obtain⟨v2,m2,rfl,k2,g2⟩:=bE.1 g1;obtain⟨v3,m3,rfl,k3,g3⟩:=bE.1 g2;obtain⟨m5,q5,g5⟩:=dP.1 (rO _ _ (dP.2 ⟨m3,rfl,g3⟩))
 cases q5
 exact dP.2 ⟨_,J, .cons k1 (.cons k2 (.cons k3 g5))⟩
def J4{ds:List aa}{k:Nat}{u w:aa}(h1:ds[k]? =some u)(h2:ds[(k+1)%ds.length]? =some w):pw ds k=if 0<Int.sign (u.cross w).num then u.add w else lm u:=by
 unfold pw;rw[aJ,aJ,h1,h2];rfl
def FZ(ds:List aa)(k:Nat):(List.range (k+1)).map (pw ds)=(List.range k).map (pw ds)++[pw ds k]:=by rw[List.range_succ,cX];rfl
def La:PF GB prog 220 [.sl []] (.sl ((gk []).map eZ)):=by
 refine fn (fu:=⟨10⟩) func220 J J ntmps220 J J (fun C=>?_);refine mB J (by rfl) J<|cl J (s9 (by omega)) J<|rf J J<|?_;exact gH J O8
def Lv{ds:List aa}{i:Nat}(h0:0<ds.length)(hb: ∀d∈ds,aA d i)(hn:ds.length<=10000000)(hi:i<=1000000:=by decide):PF GB prog 220 [.sl (ds.map eZ)] (.sl ((gk ds).map eZ)):=by
 have hml:(ds.map eZ).length=ds.length:=aX ..;refine fn (fu:=⟨10⟩) func220 J J ntmps220 J J (fun C=>?_);refine ak 8 (.d (vI (ds.length:Nat))) J (by rw[hml]<;>rfl) ?_;refine gx (fu:=⟨0⟩) J<|ky (fu:=⟨15⟩) J (by show some (decide _)=some false;rw[decide_eq_false (by omega)]) J<|?_;refine ak 14 (.d (vI (ds.length:Nat))) J (by rw[hml]<;>rfl) ?_;refine gx J<|?_;refine nr 3 3 141 6 J J J ?_;refine lp (X:=List aa×Nat) (fun⟨acc,k⟩=>[(15, .d (vI (k:Nat))),(3, .rw 3)]) (fun⟨acc,k⟩=>[(3,some (.b 141 6 (acc.map eZ) true))]) (fun⟨acc,k⟩=>acc=(List.range k).map (pw ds)/\k<=ds.length) (fun⟨acc,k⟩=>ds.length-k) ⟨[],0⟩ J ⟨J,bL _⟩ (fun _=>J) (fun⟨acc,k⟩ hk=>?_)
 try dsimp only at hk⊢
 obtain⟨h1,h2⟩:=hk;have hal:acc.length=k:=by rw[h1,aX,pJ]
 have ham:(acc.map eZ).length=acc.length:=aX ..;refine br J J J (fun hc16=>?_) (fun hc16=>?_)
 .
  obtain⟨u,hx⟩: ∃u,ds[k]? =some u:=⟨_,aZ (by omega)⟩;obtain⟨w,hw⟩: ∃w,ds[(k+1)%ds.length]? =some w:=⟨_,aZ (cY _ (by omega))⟩;haveI:=hb u (aS hx);haveI:=hb w (aS hw);refine ix (fu:=⟨13⟩) _ J (d9 hx) J<|?_;refine ak 24 (.d (vI (ds.length:Nat))) J (by rw[hml]<;>rfl) ?_;refine gx (fu:=⟨1⟩) J<|?_;refine ak 25 (.d (vI (((k+1)%ds.length:Nat):Int))) J J ?_;refine gx J<|ix _ J (d9 hw) J<|cl J (Gg (p:=u) (q:=w) (by omega) (by omega)) J<|cl J (jv (q:=u.cross w) (by omega)) J<|?_;refine br J J J (fun hc32=>?_) (fun hc32=>?_)
  .
   refine cl J (wM (p:=u) (q:=w) (by omega) (by omega)) J<|rf J J<|ap ((acc++[u.add w]).map eZ) J (by rw[cX]<;>rfl) (oG [u.add w]) J<|?_;refine iI 38 3 J ?_;exact at_ ⟨acc++[u.add w],k+1⟩ (by dsimp only;exact⟨⟨by rw[FZ,J4 hx hw,if_pos hc32,<-h1],by omega⟩,(by omega)⟩)
  .
   refine cl J (EV (p:=u) (by omega)) J<|rf J J<|ap ((acc++[lm u]).map eZ) J (by rw[cX]<;>rfl) (oG [lm u]) J<|?_;refine iI 43 3 J ?_;exact at_ ⟨acc++[lm u],k+1⟩ (by dsimp only;exact⟨⟨by rw[FZ,J4 hx hw,if_neg hc32,<-h1],by omega⟩,(by omega)⟩)
 .
  obtain rfl:k=ds.length:=by omega
  have hS:gk ds=acc:=by unfold gk;rw[if_neg (by omega),h1]
  refine ki 3 J ?_;exact rz J (by rw[hS];rfl)
def N0{ds:List aa}{i:Nat}(hb: ∀d∈ds,aA d i)(hn:ds.length<=10000000)(hi:i<=1000000:=by decide):PF GB prog 220 [.sl (ds.map eZ)] (.sl ((gk ds).map eZ)):=by
 cases ds with
 |nil=>exact La
 |cons d ds=>exact Lv (i:=i) (Nat.zero_lt_succ _) hb hn hi
def ek(a b p:aa):Rat:=(b.x-a.x)*(p.y-a.y)-(b.y-a.y)*(p.x-a.x)
def oB(v w p:aa):Int:=(if v.y<=p.y/\ ¬w.y<=p.y/\0<ek v w p then 1 else 0)-(if¬v.y<=p.y/\w.y<=p.y/\ek v w p<0 then 1 else 0)
def Pq(v w q p:aa):Prop:= ∀s t:Rat,0<=s->s<=1->0<=t->t<=1->p6 v w s≠p6 q p t
def bI(b:Prop)[Decidable b]:Int:=if b then 1 else 0
def Un(q p u:aa):Int:=if q.y<u.y/\u.y<=p.y/\ek q p u<0 then 1 else 0
def lh(r:List ZP)(p:aa):Nat->Int
 |0=>0
 |k+1=>lh r p k+oB (r.getD k (0,0)).q (d4 r k).q p
def Va(r:List ZP)(q p:aa):Prop:= ∀k,k<r.length->Pq (r.getD k (0,0)).q (d4 r k).q q p
def N5(a b c:aa):o4 a b c=(ek a b c).num.sign:=by
 unfold o4 ek aa.cross dx;congr 2;grind
def BC(a b:Rat):bv a b<=0↔a<=b:=by
 have:=HF a b;constructor
 ·intro h
  by_cases q:b<a
  ·have:=this.2 q;omega
  ·grind
 ·intro h
  by_cases q:0<bv a b
  ·have:=this.1 q;grind
  ·omega
def Tt(v w p:aa):tA v w p=oB v w p:=by
 unfold tA oB;simp only[N5,wW,sf,BC]
def tB(r:List ZP)(p:aa): ∀k,pG r p k=lh r p k
 |0=>rfl
 |k+1=>by rw[pG,lh,tB r p k,Tt]
def LY(R:Rat)(p:aa):Prop:=p.x< -R\/R<p.x\/p.y< -R\/R<p.y
structure Vj (v:bi):Prop where
 lo:BQ v.lo 1200
 hi:BQ v.hi 1200
def Uu(l:List bi)(k:Nat):List Rat:=Bo (l.take k)
def UZ(o:List Rat)(v:bi)(j:Nat):List Rat:=if j=0 then o else if j=1 then(if v.nl then o else rJ v.lo o) else I0 o v
def U2(v:bi)(j:Nat):Rat:=if j=0 then v.lo else v.hi
def Wt(v:bi)(j:Nat):Bool:=if j=0 then v.nl else v.nh
def U8(l m:ah)(side:Int):DV:= .tp [.sl ((FR l m side).map eV),vB (Dg l m)]
def WG(f:bg):DV:= .ag [.v (.bool (decide (f.l.a<0))),dN f.l.a.natAbs, .v (.bool (decide (f.l.b<0))),dN f.l.b.natAbs, .v (.bool (decide (f.l.c<0))),dN f.l.c.natAbs, .v (.bool (decide (f.v.lo.num<0))),dN f.v.lo.num.natAbs,dD f.v.lo.den, .v (.bool (decide (f.v.hi.num<0))),dN f.v.hi.num.natAbs,dD f.v.hi.den, .v (.bool f.v.nl), .v (.bool f.v.nh)]
theorem SS{p:ZP}(h:ZP.le 100 p):aA p.q 12:=by
 haveI:BI p.1 11:=gu (by have:=h.1;omega) (by decide);haveI:BI p.2 11:=gu (by have:=h.2;omega) (by decide);exact(inferInstance:aA (iP p.1 p.2) 12)
def WQ(v w:bi):bi:=⟨v.lo,w.hi,v.nl,v.nh⟩

section
variable {GB:Gh} {C:az} {n:Nat} {Q0:Exit->Act->World->Prop} {fr fr':ao} {own own':aB} {cf cf':Cf} {vc:List Prop}
def OI{lk:LK}{bk:BM}{dst:Option Nat}{t ty':TypeId}{pos:String}{af:Array Edge}{gd:Option (Nat×Bool)}{x y:Operand}{e len s nm off:Nat}{k:IntKind}{i:Nat}(hu:prog.underlying t=some (.array len e))(hs:(prog.info? e).map (·.size)=some s)
  (e1:aC lk x=some (.ov nm off))(e2:aC lk y=some (.d (.v (.int k (i:Nat)))))(hi:i<len):bm prog GB C n lk bk ⟨dst, .indexAddr t x y,ty',pos,af,gd⟩ (.ov nm (off+i*s)) [] []:= .yd fun ρ G ov a w r=>by
 obtain⟨p,h1,h2⟩:=r.ev e1;obtain⟨q,h3,h4⟩:=r.ev e2;rw[cg] at h4;subst h4;obtain⟨b,hb,rfl⟩:=h2;refine⟨_,⟨b,hb,J⟩,?_⟩;obtain⟨j,hj,hjs⟩: ∃j,prog.info? e=some j/\j.size=s:=by
  cases h:prog.info? e with
  |none=>rw[h] at hs;cases hs
  |some j=>rw[h] at hs;exact⟨j,J,by simpa using hs⟩
 intro a' w' hf hh;simp only[execOp,aO hf h1,aO hf h3];have:(Instr.indexAt t (.pointer (some ⟨b,off,none⟩)) (.int k (i:Nat))).run prog w'= .ok (.pointer (some ⟨b,off+i*s,none⟩)) w':=by
  unfold Instr.indexAt;show(underlying t>>=_).run prog w'=_;rw[aE (lq hu w')];show(underlying t>>=_).run prog w'=_;rw[aE (lq hu w')];have h0:0<=((i:Nat):Int):=Int.natCast_nonneg i;have h1:((i:Nat):Int)<((len:Nat):Int):=by omega
  simp only[h0,h1,and_self,if_true];show(sizeOf e>>=_).run prog w'=_;rw[aE (pi hj w'),me,hjs,bY];rfl
 exact cj this
def C9(fr:ao)(cf:Cf):Option (TypeId×Nat×Nat×Int):=match bu fr cf with
 |some ⟨_, .indexAddr t x y,_,_,_,_⟩=>match aC (aI fr cf) x with
  |some (.ov nm off)=>match aC (aI fr cf) y with
   |some (.d (.v (.int _ i)))=>some (t,nm,off,i)
   |_=>none
  |_=>none
 |_=>none
def uZ[fu:Fu](i:Nat){t nm off e len s:Nat}(h:C9 fr cf=some (t,nm,off,((i:Nat):Int)))(hu:prog.underlying t=some (.array len e))(hs:(prog.info? e).map (·.size)=some s)(hi:i<len)
  (hgo:bF tt n fu.n fr own cf (.ov nm (off+i*s)) [] []=⟨vc,fr',own',cf'⟩)(k:aj prog GB C n Q0 fr' own' cf')
  (hv:ab vc:=by first|exact trivial|(simp only[ab];kernel_rfl)|(simp only[ab];omega)):aj prog GB C n Q0 fr own cf:=by
 unfold C9 at h;split at h<;>try (cases h;done)
 rename_i hh;split at h<;>try (cases h;done)
 rename_i hx;split at h<;>cases h;rename_i hy;exact us hh (OI hu hs hx hy hi) hgo hv k
def U7(fr:ao)(cf:Cf):Option (Nat×List FX):=match bu fr cf with
 |some ⟨some d, .build t ⟨ps⟩,_,_,_,_⟩=>match b8 tt t with
  |some ⟨.st fo,_,some zx,_⟩=>match pj (aI fr cf) fo zx ps with
   |some l=>some (d,l)
   |none=>none
  |_=>none
 |_=>none
end
def VT(f:bg)(m:ah)(k:Nat):List bg:=if k=0 then [] else xq f m 1
def VK(f:bg)(m:ah)(k:Nat):List bg:=if k<=1 then [] else xq f m (-1)
def ie(p:ZP):DV:=eP p.q
def kP(r:List ZP):DV:= .sl (r.map ie)
def CE(l:List ZP):du 6 (l.map ie):=fun d hd=>by
 obtain⟨u,_,rfl⟩:=bT.1 hd;exact⟨rfl,rfl⟩
def MT(l:List (List ZP)):du 1 (l.map kP):=fun d hd=>by
 obtain⟨u,_,rfl⟩:=bT.1 hd;exact⟨rfl,rfl⟩
def KT(v w p:aa):(tA v w p).natAbs<=1:=by
 unfold tA;split<;>split<;>decide
def Dl(r:List ZP)(p:aa): ∀k,(pG r p k).natAbs<=k
 |0=>aR _
 |k+1=>by rw[pG];have:=Dl r p k;have:=KT (r.getD k (0,0)).q (d4 r k).q p;omega
def Qw(rs:List (List ZP)):List ah:=(c6 rs).map bg.l
def VJ(rs:List (List ZP))(fill:Int):DV:= .ag [.sl (rs.map kP), .v (.int .i64 fill), .sl ((uH (Qw rs)).map eL)]
def MX{rs:List (List ZP)}{p:aa}(h: ∀r∈rs,dB r)(k:Nat):((rs.take k).foldl (fun n r=>n+fI r p) 0).natAbs<=6*k:=by
 induction k with
 |zero=>rw[List.take_zero];exact bL _
 |succ k ih=>
  rw[cM,mS]
  cases e:rs[k]? with
  |none=>exact fX ih (by omega)
  |some r=>
   have h1:(fI r p).natAbs<=r.length:=Dl r p r.length;have h2:=(h r (aS e)).n6;show(List.foldl _ 0 (rs.take k)+fI r p).natAbs<=_;omega
def fG(r:List ZP):DV:= .sl ((r.map ZP.q).map gm)
def Tq(l:List (List ZP)):du 1 (l.map fG):=fun d hd=>by
 obtain⟨u,_,rfl⟩:=bT.1 hd;exact⟨rfl,rfl⟩
theorem Jq{r:List ZP}(h: ∀p∈r,ZP.le 100 p): ∀p∈r.map ZP.q,aA p 1200:=fun p hp=>by
 obtain⟨z,hz,rfl⟩:=bT.1 hp;have:=SS (h z hz);exact⟨BQ.mono this.x (by decide),BQ.mono this.y (by decide)⟩
def QG(r:List ZP):DV.sl ((r.map ZP.q).map eP)=kP r:=by unfold kP;rw[List.map_map];rfl
def KJ{rs:List (List ZP)}{k:Nat}{r:List ZP}(h:rs[k]? =some r):c6 (rs.take (k+1))=c6 (rs.take k)++il r:=by
 unfold c6;rw[cM,h,List.flatMap_append];simp
def Gq{rs:List (List ZP)}(h: ∀r∈rs,dB r)(k:Nat):(c6 (rs.take k)).length<=6*k:=by
 have:=(Bg (rs:=rs.take k) (fun r hr=>h r (eK hr))).1;have h2:(rs.take k).length<=k:=by rw[bW];omega
 omega
def T3{rs:List (List ZP)}(h: ∀r∈rs,dB r)(hn:rs.length<=100):PF GB prog 16 [.sl (rs.map kP)] (.sl (rs.map fG)):=by
 have hm:=ui kP rs;refine fn (fu:=⟨15⟩) func16 J J ntmps16 J J (fun C=>?_);refine ak 7 (.d (vI (rs.length:Nat))) J (by rw[hm]<;>rfl) ?_;refine gx J<|?_;refine nr 3 3 48 1 J J J ?_;refine lp (X:=Nat) (fun k=>[(8, .d (vI (k:Nat))),(3, .rw 3)]) (fun k=>[(3,some (.b 48 1 ((rs.take k).map fG) true))]) (fun k=>k<=rs.length) (fun k=>rs.length-k) 0 J (bL _) (fun _=>J) (fun k hk=>?_);have hml:((rs.take k).map fG).length<=k:=by rw[aX,bW];omega
 refine br J J J (fun hc9=>?_) (fun hc9=>?_)
 .
  obtain⟨r,hz⟩: ∃s,rs[k]? =some s:=⟨_,aZ (by omega)⟩;have hr:=h r (aS hz);refine ix (fu:=⟨1⟩) _ J (d9 hz) J<|?_;refine ak 11 (.d (.sl ((r.map ZP.q).map eP))) J (by rw[QG]) ?_;refine gx J<|cl J (En (ps:=r.map ZP.q) (Jq hr.le) (by rw[aX];have:=hr.n6;omega)) J<|rf J J<|ap ((rs.take (k+1)).map fG) J (Fo hz) (Tq [r]) J<|?_;refine iI 16 3 J ?_;exact at_ (k+1) ⟨(by omega),(by omega)⟩
 .
  obtain rfl:k=rs.length:=by omega
  refine ki 3 J ?_;exact rz J (by rw[dX];rfl)

def p7:aa:=⟨mkRat 1 7,mkRat 1 5⟩
structure LP (l:ah):Prop where
 s:LS l
 p:0<l.value p7
def Cb(es:List Int):Nat->Nat->List ah×Nat
 |0,a=>([],a)
 |i+1,a=>((lF es a).1::(Cb es i (lF es a).2).1,(Cb es i (lF es a).2).2)
def Ix(es:List Int)(most a:Nat):List ah×Nat:=Cb es (aq es ((most:Int)+1) a).1 (aq es ((most:Int)+1) a).2
def FJ(l:ah):ah:=if(l.value p7).num.sign<0 then l.rev else l
def VM(xs:List ah)(i:Nat):List ah:=(xs.take i).map FJ++xs.drop i
def VQ(es:List Int)(a:Nat):List ah×Nat:=((Ix es 3 a).1.map FJ,(Ix es 3 a).2)

def OC(ds:List Int):du 1 (ds.map vI):=fun d hd=>by
 obtain⟨n,_,rfl⟩:=bT.1 hd;exact⟨rfl,rfl⟩
def OD(es:List Int):(es.map vI).take (min es.length 400)=(es.take 400).map vI:=by
 rw[kU];rcases Nat.le_total es.length 400 with h|h
 ·rw[fV h,aU (by simp),aU (by simpa using h)]
 ·rw[Nat.min_eq_right h]
def Oe{es:List Int}(hb:es.length<=1125899906842624):PN GB prog 15 [.sl (es.map vI)] 126 Unit (fun _=>[.sl ((es.take 400).map vI), .v (.int .i64 (0:Nat))]):=by
 have hel:(es.map vI).length=es.length:=by simp
 refine NC func15 J J ntmps15 J J (fun C hmb=>?_);refine qS 0 (min es.length 400) ((es.take 400).map vI) J J (by rw[hel];show(if _ then _ else _:Int)=_;split<;>omega) (OD es) (OC _) (by omega) (by omega) J<|?_;exact Nk () J J J J J


def M0(p r:ZP):(ee p.q r.q<0↔ij p r<0)/\(ee p.q r.q=0↔ij p r=0):=by
 have e1: ∀a b:Int,bv (a:Rat) (b:Rat)<0↔a<b:=fun a b=>by rw[Na,pX]
 have e2: ∀a b:Int,bv (a:Rat) (b:Rat)=0↔a=b:=fun a b=>by rw[uu,oK]
 have f1:=e1 p.1 r.1;have f2:=e2 p.1 r.1;have f3:=e1 p.2 r.2;have f4:=e2 p.2 r.2;show(ee ⟨(p.1:Rat),(p.2:Rat)⟩ ⟨(r.1:Rat),(r.2:Rat)⟩<0↔_)/\(ee ⟨(p.1:Rat),(p.2:Rat)⟩ ⟨(r.1:Rat),(r.2:Rat)⟩=0↔_);unfold ee ij;dsimp only;generalize bv (p.1:Rat) (r.1:Rat)=u at*;generalize bv (p.2:Rat) (r.2:Rat)=v at*;by_cases h:p.1<r.1
 ·rw[if_pos (by omega),if_pos h];omega
 ·by_cases h2:r.1<p.1
  ·rw[if_pos (by omega),if_neg h,if_pos h2];omega
  ·rw[if_neg (by omega),if_neg h,if_neg h2]
   by_cases h3:p.2<r.2
   ·rw[if_pos h3];omega
   ·rw[if_neg h3]
    split<;>omega
def H4(x:ZP): ∀l:List ZP,dE ee x.q (l.map ZP.q)=(gt x l).map ZP.q
 |[]=>rfl
 |u::t=>by
  obtain⟨h1,h2⟩:=M0 u x;rw[cZ,dE,gt,H4 x t];by_cases k1:ij u x<0
  ·rw[if_pos (h1.2 k1),if_pos k1];rfl
  ·rw[if_neg (fun e=>k1 (h1.1 e)),if_neg k1]
   by_cases k2:ij u x=0
   ·rw[if_pos (h2.2 k2),if_pos k2];rfl
   ·rw[if_neg (fun e=>k2 (h2.1 e)),if_neg k2];rfl
def Ki(l:List ZP):n7 ee (l.map ZP.q)=(kt l).map ZP.q:=by
 have key: ∀(l o:List ZP),(l.map ZP.q).foldl (fun out x=>dE ee x out) (o.map ZP.q)=(l.foldl (fun out x=>gt x out) o).map ZP.q:=by
  intro l
  induction l with
  |nil=>intro o;rfl
  |cons x t ih=>intro o;rw[cZ,gN,gN,H4,ih]
 exact key l []
def EH(l:List ZP):(l.map ZP.q).map eP=l.map ie:=by rw[List.map_map];rfl
def D0{l:List ZP}(h: ∀p∈l,ZP.le 100 p)(hn:l.length<=100000):PF GB prog 90 [.sl (l.map ie)] (.sl ((kt l).map ie)):=by
 have:=N' (GB:=GB) (ps:=l.map ZP.q) (Jq h) (by rw[aX];exact hn);rw[Ki,EH,EH] at this;exact this
def Tc(u v:ZP):(aa.cross (iP u.1 u.2) (iP v.1 v.2))=((mj u v:Int):Rat):=by
 unfold aa.cross iP mj;push_cast;rfl
def yf(u v:ZP):(aa.cross (iP u.1 u.2) (iP v.1 v.2)).num.sign≠0↔mj u v≠0:=by
 rw[Tc,oX];exact not_congr nU
def Og{α β:Type}(f:α->β)(l:List α):((l.map f).take (l.length-1)).drop 0=l.dropLast.map f:=by
 rw[gJ,<-kU,List.dropLast_eq_take]
def HA{l:List ZP}(h:0<l.length): ∃u,l.getLast? =some u/\l[l.length-1]? =some u/\l.getD (l.length-1) (0,0)=u:=by
 refine⟨l[l.length-1],?_,aZ (by omega),?_⟩
 ·rw[lZ];exact aZ (by omega)
 ·rw[aJ,aZ (by omega)];rfl
def T5{l:List ZP}(h:0<l.length): ∃u,l[0]? =some u/\l.getD 0 (0,0)=u:=by
 refine⟨l[0],aZ (by omega),?_⟩;rw[aJ,aZ (by omega)];rfl
def vT{u p:ZP}:(u.1=p.1/\u.2=p.2)↔u=p:=⟨fun h=>Prod.ext h.1 h.2,fun h=>by rw[h];exact⟨J,J⟩⟩
def Pt{b:Nat}{es:List Int}(hes:es.length<=400){a:Nat}(ha:a<=es.length):PM GB prog 33 (f9 [none] b) b 126 [.sl (es.map vI), .v (.int .i64 (a:Nat))] (kP (e6 es a).1) [.sl (es.map vI), .v (.int .i64 ((e6 es a).2:Nat))]:=by
 have hk0:=fw (n:=4) ha;refine qc (fu:=⟨6⟩) func33 J J ntmps33 J J (fun C b m lo hmb=>?_);refine mg (X:=Nat) (fun a2=>[]) (fun a2=>[(1000000,some (.o 126 [.d (.sl (es.map vI)), .d (.v (.int .i64 (a2:Nat)))] false))]) (fun a2=>e6 es a=ku es a2/\a2<=es.length) [] [1000000] rfl ?_ (fun _=>J) (fun a2 ⟨hR,ha2⟩=>?_)
 .
  refine gx J<|cm J (fun b=>(lc (n:=4) hes ha (by decide) (by decide))) J<|?_;refine br J J J (fun hc15=>?_) (fun hc15=>?_)
  .
   have hx1:=fw (n:=5) hk0;have hy1:=fw (n:=5) hx1;have hz1:=fw (n:=4) hy1;have hw1:=fw (n:=4) hz1;have hl0:=gG (es:=es) (n:=5) (a:=(aq es 4 a).2) (by decide);have hl1:=gG (es:=es) (n:=5) (a:=(aq es 5 (aq es 4 a).2).2) (by decide);have hl2:=gG (es:=es) (n:=4) (a:=(aq es 5 (aq es 5 (aq es 4 a).2).2).2) (by decide);have hl3:=gG (es:=es) (n:=4) (a:=(aq es 4 (aq es 5 (aq es 5 (aq es 4 a).2).2).2).2) (by decide);refine cm J (fun b=>(lc (n:=5) hes hk0 (by decide) (by decide))) J<|cm J (fun b=>(lc (n:=5) hes hx1 (by decide) (by decide))) J<|?_;refine cm J (fun b=>(lc (n:=4) hes hy1 (by decide) (by decide))) J<|cm J (fun b=>(lc (n:=4) hes hz1 (by decide) (by decide))) J<|?_;refine cl J (i5 (m:=(((aq es 5 (aq es 4 a).2).1:Int)-4)) (n:=(((aq es 5 (aq es 5 (aq es 4 a).2).2).1:Int)-4)) (by omega) (by omega)) J<|?_;refine cl J (i5 (m:=(((aq es 5 (aq es 4 a).2).1:Int)-4+1+((aq es 4 (aq es 5 (aq es 5 (aq es 4 a).2).2).2).1:Int))) (n:=(((aq es 5 (aq es 5 (aq es 4 a).2).2).1:Int)-4)) (by omega) (by omega)) J<|?_;refine cl J (i5 (m:=(((aq es 5 (aq es 4 a).2).1:Int)-4+1+((aq es 4 (aq es 5 (aq es 5 (aq es 4 a).2).2).2).1:Int))) (n:=(((aq es 5 (aq es 5 (aq es 4 a).2).2).1:Int)-4+1+((aq es 4 (aq es 4 (aq es 5 (aq es 5 (aq es 4 a).2).2).2).2).1:Int))) (by omega) (by omega)) J<|?_;refine cl J (i5 (m:=(((aq es 5 (aq es 4 a).2).1:Int)-4)) (n:=(((aq es 5 (aq es 5 (aq es 4 a).2).2).1:Int)-4+1+((aq es 4 (aq es 4 (aq es 5 (aq es 5 (aq es 4 a).2).2).2).2).1:Int))) (by omega) (by omega)) J<|?_;refine rf J J<|?_
   exact gO hmb J J (by rw[show e6 es a=_ from if_pos hc15];rfl) (by rw[show e6 es a=_ from if_pos hc15];rfl)
  .
   refine br J J J (fun hc46=>?_) (fun hc46=>?_)
   .
    obtain⟨hp1,hp2,hp3⟩:=qm hk0;obtain⟨hu1,hu2,hu3,hu4⟩:=rM hp3;obtain⟨hv1,hv2,hv3,hv4⟩:=rM hu4;haveI:=gu (k:=10) (m:=(vF es (pF es (aq es 4 a).2).2).1.1) (by omega) (by decide);haveI:=gu (k:=10) (m:=(vF es (pF es (aq es 4 a).2).2).1.2) (by omega) (by decide);haveI:=gu (k:=10) (m:=(vF es (vF es (pF es (aq es 4 a).2).2).2).1.1) (by omega) (by decide);haveI:=gu (k:=10) (m:=(vF es (vF es (pF es (aq es 4 a).2).2).2).1.2) (by omega) (by decide);refine cm J (fun b=>(Ae hes hk0)) J<|cm J (fun b=>(Ha hes hp3)) J<|cm J (fun b=>(Ha hes hu4)) J<|cl J (Nw (p:=iP (vF es (pF es (aq es 4 a).2).2).1.1 (vF es (pF es (aq es 4 a).2).2).1.2) (q:=iP (vF es (vF es (pF es (aq es 4 a).2).2).2).1.1 (vF es (vF es (pF es (aq es 4 a).2).2).2).1.2)) J<|?_;refine cl J (GK (q:=aa.cross (iP (vF es (pF es (aq es 4 a).2).2).1.1 (vF es (pF es (aq es 4 a).2).2).1.2) (iP (vF es (vF es (pF es (aq es 4 a).2).2).2).1.1 (vF es (vF es (pF es (aq es 4 a).2).2).2).1.2))) J<|?_;refine br J J J (fun hc58=>?_) (fun hc58=>?_)
    .
     refine cl J (te (n:=1) (by decide) (by decide)) J<|cl J (EW (m:=(pF es (aq es 4 a).2).1.1) (n:=(pF es (aq es 4 a).2).1.2) (m':=(vF es (pF es (aq es 4 a).2).2).1.1) (n':=(vF es (pF es (aq es 4 a).2).2).1.2) (k:=1) (by omega) (by omega) (by omega) (by omega) (by decide)) J<|?_;refine cl J (te (n:=1) (by decide) (by decide)) J<|cl J (EW (m:=(pF es (aq es 4 a).2).1.1) (n:=(pF es (aq es 4 a).2).1.2) (m':=(vF es (vF es (pF es (aq es 4 a).2).2).2).1.1) (n':=(vF es (vF es (pF es (aq es 4 a).2).2).2).1.2) (k:=1) (by omega) (by omega) (by omega) (by omega) (by decide)) J<|?_;refine rf J J<|?_;exact gO hmb J J (by rw[show e6 es a=_ from(if_neg hc15).trans ((if_pos hc46).trans (if_pos ((yf _ _).1 hc58)))];rfl) (by rw[show e6 es a=_ from(if_neg hc15).trans ((if_pos hc46).trans (if_pos ((yf _ _).1 hc58)))])
    .
     exact at_ (vF es (vF es (pF es (aq es 4 a).2).2).2).2 ⟨(if_neg hc15).trans ((if_pos hc46).trans (if_neg (fun e=>hc58 ((yf _ _).2 e)))),hv4⟩
   .
    exact at_ (aq es 4 a).2 ⟨(if_neg hc15).trans (if_neg hc46),hk0⟩
 .
  have hj1:=gG (es:=es) (n:=4) (a:=a2) (by decide);have hj2:=fw (n:=4) ha2;refine cm J (fun b=>(lc (n:=4) hes ha2 (by decide) (by decide))) J<|?_;refine nr 10 10 81 6 J J J ?_;refine lp (X:=List ZP×Nat×Nat) (fun⟨r,i,a3⟩=>[(11, .d (vI (i:Nat))),(10, .rw 10)]) (fun⟨r,i,a3⟩=>[(1000000,some (.o 126 [.d (.sl (es.map vI)), .d (.v (.int .i64 (a3:Nat)))] false)),(10,some (.b 81 6 (r.map ie) true))]) (fun⟨r,i,a3⟩=>jz es i a3 r=jz es (3+(aq es 4 a2).1) (aq es 4 a2).2 []/\a3<=es.length/\gP r/\r.length+i<=6) (fun⟨r,i,a3⟩=>i) ⟨[],3+(aq es 4 a2).1,(aq es 4 a2).2⟩ J ⟨J,hj2,gP.nil,by simp;omega⟩ (fun _=>J) (fun⟨r,i,a3⟩ hk=>?_)
  try dsimp only at hk⊢
  obtain⟨h1,h2,h3,h4⟩:=hk;have hrl:(r.map ie).length=r.length:=by simp
  refine br (fu2:=⟨0⟩) J J J (fun hc73=>?_) (fun hc73=>?_)
  .
   obtain⟨j,rfl⟩: ∃j,i=j+1:=⟨i-1,by omega⟩;obtain⟨hq1,hq2,hq3⟩:=qm h2;refine cm (fu:=⟨8⟩) J (fun b=>(Ae hes h2)) J<|?_;refine r8 (v1:=fun hg80=>by simp only[ab];kernel_rfl) J J J J (fun hg80=>?_) (fun hg80=>?_)
   .
    have hlast: ¬r.getLast? =some (pF es a3).1:=by rw[bU (l:=r) (by omega)];simp
    refine rf J J<|ap ((r++[(pF es a3).1]).map ie) J (by rw[cX];rfl) (CE [_]) J<|?_;refine iI 95 10 J ?_;exact at_ ⟨r++[(pF es a3).1],j,(pF es a3).2⟩ (by dsimp only;exact⟨⟨by rw[<-h1,jz,if_neg hlast],hq3,h3.snoc ⟨by omega,by omega⟩ hlast,by simp;omega⟩,(by omega)⟩)
   .
    obtain⟨q,hq,hqi,hqd⟩:=HA (l:=r) (by omega);have hqm:=h3.le q (List.mem_of_getLast? hq);unfold ZP.le at hqm;refine lb (ie q) J (by rw[show(((r.map ie).length:Nat):Int)-1=((r.length-1:Nat):Int) by omega];exact d9 hqi) J<|cl J (B9 (m:=q.1) (n:=q.2) (m':=(pF es a3).1.1) (n':=(pF es a3).1.2) (by omega) (by omega) (by omega) (by omega)) J<|?_;refine bb J J J (fun hc91=>?_) (fun hc91=>?_)
    .
     have hlast: ¬r.getLast? =some (pF es a3).1:=by rw[hq];intro e;have:=vT.2 (Option.some.inj e);simp[this] at hc91
     refine rf J J<|ap ((r++[(pF es a3).1]).map ie) J (by rw[cX];rfl) (CE [_]) J<|?_;refine iI 95 10 J ?_;exact at_ ⟨r++[(pF es a3).1],j,(pF es a3).2⟩ (by dsimp only;exact⟨⟨by rw[<-h1,jz,if_neg hlast],hq3,h3.snoc ⟨by omega,by omega⟩ hlast,by simp;omega⟩,(by omega)⟩)
    .
     have hlast:r.getLast? =some (pF es a3).1:=by rw[hq];congr 1;exact vT.1 (by simpa using hc91)
     exact at_ ⟨r,j,(pF es a3).2⟩ (by dsimp only;exact⟨⟨by rw[<-h1,jz,if_pos hlast],hq3,h3,by omega⟩,(by omega)⟩)
  .
   obtain rfl:i=0:=by omega
   have hg:=h1;rw[jz] at hg;refine Cg 10 J ?_;refine gx J<|?_;refine lp (fu:=⟨5⟩) (X:=List ZP×Nat) (fun⟨l,m⟩=>[(10, .d (.sl (l.map ie)))]) (fun⟨l,m⟩=>[]) (fun⟨l,m⟩=>gr m l=gr 6 r/\l.length<=m+1/\gP l/\l.length<=6) (fun⟨l,m⟩=>m) ⟨r,6⟩ J ⟨J,by omega,h3,by omega⟩ (fun _=>J) (fun⟨l,m⟩ hk=>?_)
   try dsimp only at hk⊢
   obtain⟨t1,t2,t3,t4⟩:=hk;have hll:(l.map ie).length=l.length:=by simp
   refine r8 (v2:=fun hg98=>by simp only[ab];kernel_rfl) J J J J (fun hg98=>?_) (fun hg98=>?_)
   .
    obtain⟨q,hqi,hqd⟩:=T5 (l:=l) (by omega);obtain⟨q2,hq0,hqi2,hqd2⟩:=HA (l:=l) (by omega);have hqm:=t3.le q (aS hqi);have hqm2:=t3.le q2 (aS hqi2);unfold ZP.le at hqm hqm2;refine ix _ J (d9 (i:=0) hqi) J<|ix (ie q2) J (by rw[show(((l.map ie).length:Nat):Int)-1=((l.length-1:Nat):Int) by omega];exact d9 hqi2) J<|?_;refine cl J (B9 (m:=q.1) (n:=q.2) (m':=q2.1) (n':=q2.2) (by omega) (by omega) (by omega) (by omega)) J<|?_;refine bd J J J (fun hc110=>?_) (fun hc110=>?_)
    .
     have hcond:1<l.length/\l.getD 0 (0,0)=l.getD (l.length-1) (0,0):=⟨by omega,by rw[hqd,hqd2];exact vT.1 hc110⟩;refine qS 0 (l.length-1) (l.dropLast.map ie) J J (by omega) (Og ie l) (CE l) (bL _) (by omega) J<|?_;exact at_ ⟨l.dropLast,m-1⟩ (by dsimp only;exact⟨⟨by rw[<-t1];obtain⟨m,rfl⟩: ∃q,m=q+1:=⟨m-1,by omega⟩;rw[gr,if_pos hcond];rfl,by rw[lW];omega,t3.drop,by rw[lW];omega⟩,(by omega)⟩)
    .
     have hcond: ¬(1<l.length/\l.getD 0 (0,0)=l.getD (l.length-1) (0,0)):=fun e=>hc110 (vT.2 (by rw[<-hqd,<-hqd2];exact e.2));refine cl (fu:=⟨1⟩) J (D0 (l:=l) t3.le (by omega)) J<|?_;have hgen:gr 6 r=l:=by rw[<-t1];cases m with|zero=>rfl|succ m=>rw[gr,if_neg hcond]
     refine ak 118 (.d (vI ((kt l).length:Nat))) J (by rw[aX];rfl) ?_;refine gx J<|?_;refine br J J J (fun hc119=>?_) (fun hc119=>?_)
     .
      have hfin:e6 es a=(se,a3):=by rw[hR,ku,<-hg,hgen,if_pos (by omega)]
      refine cl J (i5 (m:=0) (n:=0) (by decide) (by decide)) J<|cl J (i5 (m:=2) (n:=0) (by decide) (by decide)) J<|cl J (i5 (m:=0) (n:=2) (by decide) (by decide)) J<|?_;refine rf J J<|?_;exact gO hmb J J (by rw[hfin];rfl) (by rw[hfin])
     .
      have hfin:e6 es a=(l,a3):=by rw[hR,ku,<-hg,hgen,if_neg (by omega)]
      exact gO hmb J J (by rw[hfin];rfl) (by rw[hfin])
   .
    have hcond: ¬(1<l.length/\l.getD 0 (0,0)=l.getD (l.length-1) (0,0)):=fun e=>by omega
    refine cl (fu:=⟨1⟩) J (D0 (l:=l) t3.le (by omega)) J<|?_;have hgen:gr 6 r=l:=by rw[<-t1];cases m with|zero=>rfl|succ m=>rw[gr,if_neg hcond]
    refine ak 118 (.d (vI ((kt l).length:Nat))) J (by rw[aX];rfl) ?_;refine gx J<|?_;refine br J J J (fun hc119=>?_) (fun hc119=>?_)
    .
     have hfin:e6 es a=(se,a3):=by rw[hR,ku,<-hg,hgen,if_pos (by omega)]
     refine cl J (i5 (m:=0) (n:=0) (by decide) (by decide)) J<|cl J (i5 (m:=2) (n:=0) (by decide) (by decide)) J<|cl J (i5 (m:=0) (n:=2) (by decide) (by decide)) J<|?_;refine rf J J<|?_;exact gO hmb J J (by rw[hfin];rfl) (by rw[hfin])
    .
     have hfin:e6 es a=(l,a3):=by rw[hR,ku,<-hg,hgen,if_neg (by omega)]
     exact gO hmb J J (by rw[hfin];rfl) (by rw[hfin])
def BJ:DV:= .v (.pointer none)
def MQ(l:ah)(p q:DV):List DV:=[.v (.bool false), .v (.bool false), .v (.bool (decide (l.a<0))),dN l.a.natAbs, .v (.bool (decide (l.b<0))),dN l.b.natAbs, .v (.bool (decide (l.c<0))),dN l.c.natAbs,p,q]
inductive RF (ns:List RN):Int->(Nat->Bool)->DV->Bool->(Nat->Bool)->Prop where
 |leaf (b:Bool) (f:Nat->Bool):RF ns (wh b) f (eT (.leaf b)) true f
 |js (rt:Int) (f:Nat->Bool) (h1:rt≠ -1) (h2:rt≠ -2) (h:rt<0\/(ns.length:Int)<=rt\/(∃k:Nat,rt=k/\k<ns.length/\f k=true)):RF ns rt f BJ false f
 |line (k:Nat) (n:RN) (f:Nat->Bool) (h:ns[k]? =some n) (hf:f k=false) (hl:n.g.ln=none):RF ns (k:Int) f BJ false (qr f k)
 |left (k:Nat) (n:RN) (l:ah) (f f2:Nat->Bool) (p:DV) (h:ns[k]? =some n) (hf:f k=false) (hl:n.g.ln=some l) (h1:RF ns n.l (qr f k) p false f2):RF ns (k:Int) f BJ false f2
 |node (k:Nat) (n:RN) (l:ah) (f f2 f3:Nat->Bool) (p q:DV) (ok:Bool) (h:ns[k]? =some n) (hf:f k=false) (hl:n.g.ln=some l) (h1:RF ns n.l (qr f k) p true f2) (h2:RF ns n.r f2 q ok f3):RF ns (k:Int) f (.pt (MQ l p q)) ok f3
def Vy(n:Nat)(f:Nat->Bool):Bool:=(List.range n).all f
end Go.Sx
end
