import Derived.Test.YtliglnbeohlnnaaGreatDoorMq13
set_option linter.all false
set_option maxHeartbeats 4000000
set_option maxRecDepth 100000
section
namespace Go.Sx
open Go Go.Proofs
variable {r:List ZP}{i a k:Nat}{b t:Tr}{c n m op:Int}{d p u v:ah}{es:List Int}
def xg(p q:ZP):Int:=if p.1<q.1 then-1 else if q.1<p.1 then 1 else if p.2<q.2 then-1 else if q.2<p.2 then 1 else 0
def ud(x:ZP):List ZP->List ZP
 |[]=>[x]
 |u::t=>if xg u x<0 then u::ud x t else if xg u x=0 then u::t else x::u::t
def vS(l:List ZP):List ZP:=l.foldl (fun out x=>ud x out) []
def Tx{x:ZP}: ∀{l:List ZP},(ud x l).length<=l.length+1
 |[]=>bJ _
 |u::t=>by
  rw[ud];have:=Tx (x:=x) (l:=t);split
  .simp;omega
  .split<;>simp
def ayv(l:List ZP):(vS l).length<=l.length:=by
 have key: ∀(l o:List ZP),(l.foldl (fun out x=>ud x out) o).length<=l.length+o.length:=by
  intro l
  induction l with
  |nil=>intro o;simp
  |cons x t ih=>intro o;have:=ih (ud x o);have:=Tx (x:=x) (l:=o);simp only[iK,bZ];omega
 have:=key l [];simpa[vS] using this
def dt(a b c d:Int):List ZP:=[(a,b),(c,b),(c,d),(a,d)]
def Z1(h:i+1<r.length):iv r i=r.getD (i+1) (0,0):=by unfold iv;rw[kQ h]
def auw(h:i+1=r.length):iv r i=r.getD 0 (0,0):=by unfold iv;rw[h,Nat.mod_self]
def K7{a b d:Int}(h1:a.natAbs<=50:=by decide)(h2:b.natAbs<=50:=by decide)(h3:c.natAbs<=50:=by decide)(h4:d.natAbs<=50:=by decide)(h5:a<c:=by decide)(h6:b<d:=by decide):gk (dt a b c d):=by
 refine⟨by simp[dt],by simp[dt],fun p hp=>?_,fun i hi=>?_⟩
 .simp only[dt,aW,fK,or_false] at hp
  rcases hp with rfl|rfl|rfl|rfl<;>exact⟨by dsimp only;omega,by dsimp only;omega⟩
 .have:i=0\/i=1\/i=2\/i=3:=by simp[dt] at hi;omega
  rcases this with rfl|rfl|rfl|rfl<;>simp[dt,iv]<;>omega
def gE(p u v:ZP):List ZP:=[p,uN p u,uN p v]
def Nb{p u v:ZP}(h1:ZP.le 40 p)(h2:ZP.le 40 u)(h3:ZP.le 40 v)(h:kA u v≠0):gk (gE p u v):=by
 obtain⟨p1,p2⟩:=p;obtain⟨u1,u2⟩:=u;obtain⟨v1,v2⟩:=v;unfold ZP.le at h1 h2 h3;dsimp only at h1 h2 h3;unfold kA at h;dsimp only at h;refine⟨by simp[gE],by simp[gE],fun p hp=>?_,fun i hi=>?_⟩
 .simp only[gE,uN,aW,fK,or_false] at hp
  rcases hp with rfl|rfl|rfl<;>exact⟨by dsimp only;omega,by dsimp only;omega⟩
 .have:i=0\/i=1\/i=2:=by simp[gE] at hi;omega
  have hu: ¬(u1=0/\u2=0):=fun e=>h (by rw[e.1,e.2];simp);have hv: ¬(v1=0/\v2=0):=fun e=>h (by rw[e.1,e.2];simp);have huv: ¬(u1=v1/\u2=v2):=fun e=>h (by rw[e.1,e.2,uV];omega);rcases this with rfl|rfl|rfl<;>simp[gE,uN,iv]<;>omega
def n7(es:List Int):Nat->Nat->List ZP->List ZP×Nat
 |0,a,out=>(out,a)
 |n+1,a,out=>n7 es n (pF es a).2 (if out.getLast? =some (pF es a).1 then out else out++[(pF es a).1])
structure l9 (r:List ZP):Prop where
 ne: ∀i,i+1<r.length->r.getD i (0,0)≠r.getD (i+1) (0,0)
 le: ∀p∈r,ZP.le 100 p
def l9.snoc{p:ZP}(h:l9 r)(hp:ZP.le 100 p)(hl:r.getLast? ≠some p):l9 (r++[p]):=by
 refine⟨fun i hi=>?_,fun q hq=>?_⟩
 .rw[aY,fY] at hi
  rw[aV,aV];by_cases h1:i+1<r.length
  .rw[iQ we,iQ h1]
   have:=h.ne i h1;rwa [aV,aV] at this
  .have e:i+1=r.length:=by omega
   rw[iQ we,e,jZ (bJ _),pK];rw[lY,<-e,mM] at hl;rw[aQ we] at hl⊢;intro c;exact hl (by simpa using c)
 .rcases bX.1 hq with hq|hq
  .exact h.le q hq
  .rw[aR] at hq;subst hq;exact hp
def GR{es:List Int}: ∀{n a:Nat} {out:List ZP},a<=es.length->l9 out->l9 (n7 es n a out).1/\(n7 es n a out).1.length<=out.length+n/\(n7 es n a out).2<=es.length
 |0,a,out,ha,h=>⟨h,bJ _,ha⟩
 |n+1,a,out,ha,h=>by
  obtain⟨h1,h2,h3⟩:=ua ha;rw[n7];by_cases hl:out.getLast? =some (pF es a).1
  .rw[if_pos hl]
   obtain⟨k1,k2,k3⟩:=GR (n:=n) h3 h;exact⟨k1,we,k3⟩
  .rw[if_neg hl]
   obtain⟨k1,k2,k3⟩:=GR (n:=n) h3 (h.snoc (p:=(pF es a).1) ⟨we,we⟩ hl);rw[aY,fY] at k2;exact⟨k1,we,k3⟩
def kP:Nat->List ZP->List ZP
 |0,l=>l
 |n+1,l=>if 1<l.length/\l.getD 0 (0,0)=l.getD (l.length-1) (0,0) then kP n l.dropLast else l
def l9.drop(h:l9 r):l9 r.dropLast:=by
 refine⟨fun i hi=>?_,fun p hp=>h.le p ((List.dropLast_sublist _).subset hp)⟩;rw[iM] at hi;have:=h.ne i we;rw[aV,aV] at this⊢;rw[sV,sV,if_pos we,if_pos we];exact this
def MP: ∀{n:Nat} {l:List ZP},l9 l->l.length<=n+1->l9 (kP n l)/\(kP n l).length<=l.length/\(1<(kP n l).length->(kP n l).getD 0 (0,0)≠(kP n l).getD ((kP n l).length-1) (0,0))
 |0,l,h,hn=>⟨h,bJ _,fun k=>absurd k (by unfold kP;omega)⟩
 |n+1,l,h,hn=>by
  rw[kP];split
  .obtain⟨h1,h2,h3⟩:=MP (n:=n) h.drop (by rw[iM];omega)
   rw[iM] at h2;exact⟨h1,we,h3⟩
  .rename_i hc
   exact⟨h,bJ _,fun k e=>hc ⟨k,e⟩⟩
def XR(h:l9 r)(h6:r.length<=6)(hc:1<r.length->r.getD 0 (0,0)≠r.getD (r.length-1) (0,0))(h3:3<=(vS r).length):gk r:=by
 have:=ayv r;refine⟨we,h6,h.le,fun i hi=>?_⟩;by_cases h1:i+1<r.length
 .rw[Z1 h1];exact h.ne i h1
 .have e:i+1=r.length:=by omega
  rw[auw e];have:=hc we;rw[show i=r.length-1 by omega];exact fun k=>this k.symm
def z':List ZP:=[(0,0),(2,0),(0,2)]
def aFm:gk z':=⟨oma,oma,fun p hp=>by
  simp only[z',aW,fK,or_false] at hp;rcases hp with rfl|rfl|rfl<;>exact⟨oma,oma⟩,fun i hi=>by
  have:i=0\/i=1\/i=2:=by simp[z'] at hi;omega
  rcases this with rfl|rfl|rfl<;>decide⟩
def r9(es:List Int)(a:Nat):List ZP×Nat:=
 ((if(vS (kP 6 (n7 es (3+(ao es 4 a).1) (ao es 4 a).2 []).1)).length<3 then z' else kP 6 (n7 es (3+(ao es 4 a).1) (ao es 4 a).2 []).1),(n7 es (3+(ao es 4 a).1) (ao es 4 a).2 []).2)
def l9.nil:l9 []:=⟨fun i hi=>by simp at hi,fun p hp=>by cases hp⟩
def NG(ha:a<=es.length):gk (r9 es a).1/\(r9 es a).2<=es.length:=by
 have h1:=e8 (es:=es) (n:=4) (a:=a);obtain⟨k1,k2,k3⟩:=GR (n:=3+(ao es 4 a).1) (fI (n:=4) ha) l9.nil;obtain⟨t1,t2,t3⟩:=MP (n:=6) k1 (by simp at k2;omega);refine⟨?_,k3⟩;unfold r9;dsimp only;split
 .exact aFm
 .exact XR t1 (by simp at k2;omega) t3 we
def AP(es:List Int)(n m k:Int)(a:Nat):List ZP×Nat:=
 let x:=ao es n a
 let y:=ao es n x.2
 let z:=ao es m y.2
 let w:=ao es m z.2
 (dt ((x.1:Int)-k) ((y.1:Int)-k) ((x.1:Int)-k+1+z.1) ((y.1:Int)-k+1+w.1),w.2)
def LH{k:Int}(ha:a<=es.length)(hn:1<=n:=by decide)(hn2:n<=10:=by decide)(hm:1<=m:=by decide)(hm2:m<=10:=by decide)(hk:0<=k:=by decide)(hk2:k<=10:=by decide):gk (AP es n m k a).1/\(AP es n m k a).2<=es.length:=by
 have h1:=e8 (es:=es) (a:=a) hn;have h2:=e8 (es:=es) (a:=(ao es n a).2) hn;have h3:=e8 (es:=es) (a:=(ao es n (ao es n a).2).2) hm;have h4:=e8 (es:=es) (a:=(ao es m (ao es n (ao es n a).2).2).2) hm;exact⟨K7 we we we we we we,fI (fI (fI (fI ha)))⟩
def lw(es:List Int)(a:Nat):List ZP×Nat:=
 let k:=ao es 4 a
 if(k.1:Int)=0 then AP es 5 4 4 k.2
 else if(k.1:Int)=1 then
  let p:=pF es k.2
  let u:=vF es p.2
  let v:=vF es u.2
  if kA u.1 v.1≠0 then(gE p.1 u.1 v.1,v.2) else r9 es v.2
 else r9 es k.2
def DY(ha:a<=es.length):gk (lw es a).1/\(lw es a).2<=es.length:=by
 have h0:=fI (n:=4) ha;unfold lw;dsimp only;split
 .exact LH h0
 .split
  .obtain⟨p1,p2,p3⟩:=ua h0
   obtain⟨u1,u2,u3,u4⟩:=xA p3;obtain⟨v1,v2,v3,v4⟩:=xA u4;split
   .rename_i hc
    exact⟨Nb ⟨we,we⟩ ⟨we,we⟩ ⟨we,we⟩ hc,v4⟩
   .exact NG v4
  .exact NG h0
def Bq:List ZP:=[(0,0),(1,0),(0,1)]
def aEG:gk Bq:=⟨oma,oma,fun p hp=>by
  simp only[Bq,aW,fK,or_false] at hp;rcases hp with rfl|rfl|rfl<;>exact⟨oma,oma⟩,fun i hi=>by
  have:i=0\/i=1\/i=2:=by simp[Bq] at hi;omega
  rcases this with rfl|rfl|rfl<;>decide⟩
def jA(es:List Int)(a:Nat):List ZP×Nat:=
 let k:=ao es 2 a
 if(k.1:Int)=0 then AP es 3 2 1 k.2
 else
  let x:=ao es 3 k.2
  let y:=ao es 3 x.2
  let u1:=ao es 2 y.2
  let u2:=ao es 3 u1.2
  let v1:=ao es 3 u2.2
  let v2:=ao es 2 v1.2
  (if 0<kA (1+(u1.1:Int),(u2.1:Int)-1) ((v1.1:Int)-1,1+(v2.1:Int)) then gE ((x.1:Int)-1,(y.1:Int)-1) (1+(u1.1:Int),(u2.1:Int)-1) ((v1.1:Int)-1,1+(v2.1:Int)) else Bq,v2.2)
def Ga(ha:a<=es.length):gk (jA es a).1/\(jA es a).2<=es.length:=by
 have h0:=fI (n:=2) ha;unfold jA;dsimp only;split
 .exact LH h0
 .generalize hk:(ao es 2 a).2=k at*
  have e1:=e8 (es:=es) (n:=3) (a:=k);have f1:=fI (n:=3) h0;generalize hx:ao es 3 k=x at*;have e2:=e8 (es:=es) (n:=3) (a:=x.2);have f2:=fI (n:=3) f1;generalize hy:ao es 3 x.2=y at*;have e3:=e8 (es:=es) (n:=2) (a:=y.2);have f3:=fI (n:=2) f2;generalize hu:ao es 2 y.2=u1 at*;have e4:=e8 (es:=es) (n:=3) (a:=u1.2);have f4:=fI (n:=3) f3;generalize hu2:ao es 3 u1.2=u2 at*;have e5:=e8 (es:=es) (n:=3) (a:=u2.2);have f5:=fI (n:=3) f4;generalize hv:ao es 3 u2.2=v1 at*;have e6:=e8 (es:=es) (n:=2) (a:=v1.2);have f6:=fI (n:=2) f5;generalize hv2:ao es 2 v1.2=v2 at*;refine⟨?_,f6⟩;split
  .rename_i hc
   exact Nb ⟨by dsimp only;omega,by dsimp only;omega⟩ ⟨by dsimp only;omega,by dsimp only;omega⟩ ⟨by dsimp only;omega,by dsimp only;omega⟩ we
  .exact aEG
def yC(l:aa):Tr:=(Tr.node l (.leaf true) (.leaf false)).restrict []
def u': ∀t:Tr,t.lns.length=t.size
 | .leaf _=>rfl
 | .node l x y=>by rw[Tr.lns,bZ,aY,u' x,u' y,Tr.size];omega
def aEk(hb:t.all (fun l=>BL l 672))(ho:t.all aa.ok)(hs:t.size<=k):jz k t:=
 ⟨⟨uP.2 fun l hl=>⟨uP.1 hb l hl⟩,ho⟩,cN t.depth_size hs,t.lns,by rw[u'];exact hs,wo ho,aBb fun l hl=>hl⟩
def aEq{l:aa}(h:LS l):jz 18 (yC l):=
 (aEk (k:=18) (t:= .node l (.leaf true) (.leaf false)) ⟨h.bl,trivial,trivial⟩ ⟨h.ok,trivial,trivial⟩ (by simp[Tr.size])).restrict []
def ck(a b p:ah):Rat:=(b.x-a.x)*(p.y-a.y)-(b.y-a.y)*(p.x-a.x)
def aIl(q p v w:ah)(e:Rat):ck q p (kD v w e)=ck q p v+e*(ck q p w-ck q p v):=by
 unfold ck kD;grind
def Ak{a b:Rat}(ha:0<a):0<a*b↔0<b:=by rw[Rat.mul_comm];exact gh ha
def ZH(a b c:ah):qB a b c=(ck a b c).num.sign:=by
 unfold qB ck ah.cross de;congr 2;grind
def FQ(op:Int)(a b:Tr):Bool:=decide ((a.mergeQ op b []).isLeaf=true/\(a.mergeQ op b []).code=false)
def XN{a:Tr}:FQ op a b=true↔a.mergeQ op b []= .leaf false:=by
 unfold FQ;rw[decide_eq_true_iff]
 cases a.mergeQ op b [] with
 |leaf v=>simp[Tr.isLeaf,Tr.code]
 |node l x y=>simp[Tr.isLeaf]
def wz.none{L:List aa}{a:Tr}(h:wz L a b):FQ op a b=true↔ ∀p,dP L p->vh op (a.val p) (b.val p)=false:=by rw[XN,h.leaf]
def kd:Tr->ah->Bool
 | .leaf b,_=>b
 | .node l x y,p=>if(l.value p).num.sign=1 then kd x p else if(l.value p).num.sign= -1 then kd y p else false
def zH: ∀{t:Tr} {p:ah},dP t.lns p->kd t p=t.val p
 | .leaf b,p,_=>rfl
 | .node l x y,p,h=>by
  rw[kd,Tr.val];have h0:=h.l;by_cases h1:0<l.value p
  .rw[if_pos ((EP _).2 h1),if_pos h1,zH h.x]
  .have h2:l.value p<0:=by grind
   have h3:=(Tt _).2 h2;have h4:(l.value p).num.sign= -1:=by
    rcases Int.sign_trichotomy (l.value p).num with e|e|e<;>omega
   rw[if_neg we,if_pos h4,if_neg h1,zH h.y]
def Eu{L:List aa}{p q:ah}(h: ∀l∈L,0<l.value q↔0<l.value p): ∀{t:Tr},(∀l∈t.lns,l∈L)->t.val q=t.val p
 | .leaf _,_=>rfl
 | .node l x y,hl=>by
  have hx:=Eu h (t:=x) fun m hm=>hl m (aJ _ (bM _ hm));have hy:=Eu h (t:=y) fun m hm=>hl m (aJ _ (bU _ hm));rw[Tr.val,Tr.val,hx,hy];by_cases h1:0<l.value q
  .rw[if_pos h1,if_pos ((h l (hl l aZ)).1 h1)]
  .rw[if_neg h1,if_neg (fun e=>h1 ((h l (hl l aZ)).2 e))]
def In: ∀{t:Tr} {c:av} {b:Bool} {e:av},t.all aa.ok->bF c->(b,e)∈t.parts c->bF e/\ ∀p,bA e p->bA c p/\t.val p=b
 | .leaf v,c,b,e,_,hc,h=>by
  rw[Tr.parts,aR] at h
  cases h
  exact⟨hc,fun p hp=>⟨hp,J⟩⟩
 | .node l x y,c,b,e,⟨hl,hx,hy⟩,hc,h=>by
  rw[Tr.parts] at h;rcases bX.1 h with h|h
  .split at h
   .rename_i hb
    obtain⟨k1,k2⟩:=gO hc hl hb;obtain⟨m1,m2⟩:=In hx k1 h;refine⟨m1,fun p hp=>?_⟩;obtain⟨n1,n2⟩:=m2 p hp;obtain⟨o1,o2⟩:=(k2 p).1 n1;exact⟨o1,by rw[Tr.val_pos o2,n2]⟩
   .cases h
  .split at h
   .rename_i hb
    obtain⟨k1,k2⟩:=gO hc hl.rev hb;obtain⟨m1,m2⟩:=In hy k1 h;refine⟨m1,fun p hp=>?_⟩;obtain⟨n1,n2⟩:=m2 p hp;obtain⟨o1,o2⟩:=(k2 p).1 n1;rw[fA] at o2;exact⟨o1,by rw[Tr.val_neg omb,n2]⟩
   .cases h
def dE(t:Tr):List av:=((t.parts []).filter (·.1)).map (·.2)
def vR{e:av}:e∈dE t↔(true,e)∈t.parts []:=by
 unfold dE;simp
def Ln(l:aa)(v:ah):l.dir.cross v=l.nor.dot v:=by
 unfold aa.dir aa.nor ah.cross ah.dot;grind
def vN(p:ah):(p.half=1/\(0<p.y\/(p.y=0/\0<p.x)))\/(p.half=2/\(p.y<0\/(p.y=0/\p.x<0)))\/(p.half=0/\p.y=0/\p.x=0):=by
 unfold ah.half;simp only[mO,Tt,qg];split
 .rename_i h;exact .inl ⟨rfl,h⟩
 .rename_i h
  split
  .rename_i h2
   exact .inr (.inl ⟨J,omb⟩)
  .rename_i h2
   exact .inr (.inr ⟨J,omb,omb⟩)
def qa:p.half=1↔(0<p.y\/(p.y=0/\0<p.x)):=by
 rcases vN p with⟨h,k⟩|⟨h,k⟩|⟨h,k⟩<;>rw[h]<;>grind
def wA:p.half=2↔(p.y<0\/(p.y=0/\p.x<0)):=by
 rcases vN p with⟨h,k⟩|⟨h,k⟩|⟨h,k⟩<;>rw[h]<;>grind
def eD(u v:ah):Prop:=u.half<v.half\/(u.half=v.half/\0<u.cross v)
def yo:gm u v<0↔eD u v:=by
 unfold gm eD;split
 .rename_i h;exact⟨fun _=> .inl h,fun _=>by decide⟩
 .rename_i h
  split
  .rename_i h2;exact⟨fun e=>absurd e oma,fun e=>by omega⟩
  .rename_i h2
   have e:u.half=v.half:=by omega
   rw[<-mO];constructor
   .intro k;exact .inr ⟨e,we⟩
   .rintro (k|⟨_,k⟩)
    .omega
    .omega
def fH(d:ah):ah:=⟨-d.x, -d.y⟩
def azF(h:d.half≠0):(fH d).half=3-d.half:=by
 rcases vN d with⟨e,k⟩|⟨e,k⟩|⟨e,k⟩
 .rw[e];exact wA.2 (by unfold fH;grind)
 .rw[e];exact qa.2 (by unfold fH;grind)
 .exact absurd e h
def oO(h:d.half≠0):d.half=1\/d.half=2:=by
 rcases vN d with⟨e,_⟩|⟨e,_⟩|⟨e,_⟩
 .exact .inl e
 .exact .inr e
 .exact absurd e h
def y7(ds:List ah)(u w:ah):Prop:=(eD u w/\ ∀d∈ds,¬(eD u d/\eD d w))\/((∀d∈ds,¬eD u d)/\ ∀d∈ds,¬eD d w)
def xP(u v:ah):v.cross u= -u.cross v:=by unfold ah.cross;grind
def Mm(u v:ah):u.cross (fH v)= -u.cross v:=by unfold ah.cross fH;grind
end Go.Sx
end
section
namespace Go.Sx
open Go
variable {P:Program}{ops:Array Oper}{Q:Exit->Act->World->Prop}
inductive OT where
 |z (π:List (Nat×Bool))
 |q (i:Nat) (t:OT)
 |a (i:Nat) (t:OT)
 |c (i:Nat) (t r:OT)
def OT.sz:OT->Nat
 | .z _=>0
 | .q _ t=>t.sz+1
 | .a _ t=>t.sz+1
 | .c _ t r=>t.sz+r.sz+1
def OT.d:OT->Nat
 | .z π=>π.length
 | .q _ t=>t.d+1
 | .a _ t=>t.d+1
 | .c _ t r=>Nat.max (t.d+1) r.d
section
variable {S:World->Prop}{π₂:List (Nat×Bool)}
end
section
variable {GB:Gh}{C:aF}{n:Nat}{fr fr':nC}{own own' own0 own1 own1':List kH}{bs bs0 bs1 bs1':List jq}{fd:List FD}{π₂:List (Nat×Bool)}{t r:OT}
end
end Go.Sx
end
section
namespace Go.Sx
open Go Go.Proofs Tryz
variable {c xs ys ls L:List aa}{l:aa}{k i j s:Nat}{α β:Type}{a b:Tr}{z:Int}{ds d:List Nat}{neg:Bool}{r:RL}{q:Rat}{p u v w:ah}{ps:List ah}
variable {GB:Gh}
theorem xS(hc: ∀m∈c,LB m)(hl:LB l): ∀m∈c++[l],LB m:=by
 rw[rN];exact⟨hc,by simpa using hl⟩
theorem LB.rev{l:aa}(h:LB l):LB l.rev:=⟨⟨by rw[show l.rev.a= -l.a from J,jX];exact h.bl.a,by rw[show l.rev.b= -l.b from J,jX];exact h.bl.b,by rw[show l.rev.c= -l.c from J,jX];exact h.bl.c⟩⟩
def aFe(hc: ∀m∈c,LB m)(hok: ∀m∈c,m.ok)(hn:c.length<=900)(hl:LB l)(hlo:l.ok):PF GB prog 139 [.sl (c.map eL),eL l] (vI (um c l)):=by
 have hcl:=wY c;refine fn func139 J J ntmps139 J J (fun C=>?_);refine sO J J<|ap (c.map eL) J J (dO _) J<|rf J J<|kp ((c++[l]).map eL) J omJ (dO [l]) J<|cl J (Hd (c:=c++[l]) (xS hc hl) (pg hok hlo) omp) J<|sO J J<|ap (c.map eL) J J (dO _) J<|cl J (BZ (l:=l)) J<|rf J J<|kp ((c++[l.rev]).map eL) J omJ (dO [l.rev]) J<|cl J (Hd (c:=c++[l.rev]) (xS hc hl.rev) (pg hok hlo.rev) omp) J<|iE 31 J J J (fun hg31=>?_) (fun hg31=>?_)
 .
  refine bb J J J (fun hc33=>?_) (fun hc33=>?_)
  .
   exact rz J (by show vI 0=vI _;congr 1;unfold um;simp_all)
  .
   refine bb J J J (fun hc34=>?_) (fun hc34=>?_)
   .
    exact rz J (by show vI 1=vI _;congr 1;unfold um;simp_all)
   .
    exact rz J (by simp[hg31] at hc34)
 .
  refine bb J J J (fun hc34=>?_) (fun hc34=>?_)
  .
   exact rz J (by simp[hg31] at hc34)
  .
   exact rz J (by show vI (-1)=vI _;congr 1;unfold um;simp_all)
def HU{α:Type}{p:α->Bool}: ∀{xs:List α} {n:Nat},n<=xs.length->(∀j (h:j<xs.length),j<n->p xs[j]=true)->(∀h:n<xs.length,p xs[n]=false)->(xs.takeWhile p).length=n
 |[],n,h,_,_=>by simp at h;subst h;rfl
 |x::xs,0,_,_,h3=>by
  have:=h3 omc;simp only[pV] at this;simp[oS,this]
 |x::xs,n+1,h1,h2,h3=>by
  have hx:=h2 0 omc we;simp only[pV] at hx;rw[oS,if_pos hx,bZ];rw[HU (n:=n) (by simpa using h1) (fun j h hj=>by have:=h2 (j+1) omE we;simpa using this) (fun h=>by have:=h3 omE;simpa using this)]
def Rs{n:Nat}(h1:n<=xs.length)(h2: ∀j (h:j<xs.length),j<n->gm xs[j].dir l.dir<0)(h3: ∀h:n<xs.length,¬gm xs[n].dir l.dir<0):ou xs l=n:=
 HU h1 (fun j h hj=>decide_eq_true (h2 j h hj)) (fun h=>decide_eq_false (h3 h))
def ao4{n:Nat}(hn:ou xs l=n)(h:n<xs.length)(e:xs[n]=l):qe xs l=xs:=by
 unfold qe;rw[hn,if_pos (by rw[aQ h,e])]
def NU{n:Nat}(hn:ou xs l=n)(h: ∀h:n<xs.length,xs[n]≠l):qe xs l=xs.take n++l::xs.drop n:=by
 unfold qe;rw[hn,if_neg];intro e;obtain⟨h1,h2⟩:=aT.1 e;exact h h1 h2
def Pb(xs:List aa)(n:Nat):cI 6 ((xs.map eL).take n):=fun d hd=>dO xs d (fW hd)
def JG(xs:List aa)(n m:Nat):cI 6 (((xs.map eL).take n).drop m):=fun d hd=>dO xs d (fW (gS hd))
def TW(xs:List aa)(n m:Nat)(l:aa):cI 6 ([eL l]++((xs.map eL).take n).drop m):=fun d hd=>by
 rcases bX.1 hd with h|h
 .exact dO [l] d h
 .exact JG xs n m d h
structure mA (c:List aa) (k:Nat) (xs:List aa):Prop where
 le:k<=c.length
 f:n4 c (c.drop k) xs=im c
 m: ∀m∈xs,m∈c
 n:xs.length<=k
def mA.skip(h:mA c k xs)(hk:k<c.length)(e:(ge c[k] c au.all).isSome=false):mA c (k+1) xs:=by
 have:=h.f;rw[bK hk,n4,e] at this;exact⟨hk,this,h.m,by have:=h.n;omega⟩
def mA.ins(h:mA c k xs)(hk:k<c.length)(e:(ge c[k] c au.all).isSome=true)(hy:qe xs c[k]=ys)(hl:ys.length<=xs.length+1):mA c (k+1) ys:=by
 have:=h.f;rw[bK hk,n4,e,if_pos J,hy] at this;refine⟨hk,this,fun m hm=>?_,by have:=h.n;omega⟩;rw[<-hy] at hm;rcases KA.1 hm with rfl|hm
 .exact cR hk
 .exact h.m m hm
def mA.done(h:mA c k xs)(hk:k=c.length):im c=xs:=by
 have:=h.f;rw[hk,gT,n4] at this;exact this.symm
def JU(c:List aa):Bool:=if(((c.map eL).length:Nat):Int)=0 then true else decide ((0:Int)<((((im c).map eL).length:Nat):Int))
def mA.nil(c:List aa):mA c 0 []:=⟨aS _,J,fun m hm=>absurd hm omc,bJ _⟩
theorem omw{p:Prop}(h:p:=by rw[hys,aM,bV,fN,gL,bS (l:=xs.map eL) (i:=xs.length) omc];rfl):p:=h
theorem omA{p:Prop}(h:p:=by rw[hxl];exact hnl):p:=h
theorem oke{p:Prop}(h:p:=by rw[hxl]):p:=h
def aEd(hc: ∀m∈c,LB m)(hok: ∀m∈c,m.ok)(hn:c.length<=1000):PF GB prog 207 [.sl (c.map eL)] (.tp [.sl ((im c).map eL),vB (JU c)]):=by
 have hcl:=wY c;refine fn (fu:=⟨16⟩) func207 J J ntmps207 J J (fun C=>?_);refine aj 11 (.d (vI (c.length:Nat))) J (by rw[hcl];rfl)<|gx J<|zi 4 J<|lp (X:=List aa×Nat) (fun⟨xs,k⟩=>[(12, .d (vI (k:Nat))),(11, .d (vI (c.length:Nat))),(10, .d (.sl (c.map eL))),(0, .d (.sl (c.map eL))),(4, .d (.sl (xs.map eL)))]) (fun⟨xs,k⟩=>[]) (fun⟨xs,k⟩=>mA c k xs) (fun⟨xs,k⟩=>c.length-k) ⟨[],0⟩ J (mA.nil c) (fun _=>J) (fun⟨xs,k⟩ hk=>?_)
 try dsimp only at hk⊢
 have hS:=hk;refine br J J J (fun hc13=>?_) (fun hc13=>?_)
 .
  have hk:k<c.length:=by omega
  obtain⟨m,hm⟩: ∃m,m=c[k]:=⟨_,rfl⟩;haveI hmb:LB m:=hm▸hc _ (cR hk);have hmo:m.ok:=hm▸hok _ (cR hk);have hxl:=wY xs;have hxn:=hS.n;refine ix (fu:=⟨1⟩) _ J (xo hk) J<|aj 16 (.d (eL m)) J okK<|gx J<|cl J (TG hc hok hn hk) J<|bb (fu2:=⟨8⟩) J J J (fun hc24=>?_) (fun hc24=>?_)
  .
   have hinv:mA c (k+1) xs:=hS.skip hk (by rw[<-zc];simpa using hc24);exact at_ ⟨xs,k+1⟩ omB
  .
   have hyes:(ge c[k] c au.all).isSome=true:=by rw[<-zc];simpa using hc24
   refine mg (fu:=⟨6⟩) (X:=Unit) (fun _=>[(12, .d (vI (k:Nat))),(11, .d (vI (c.length:Nat))),(10, .d (.sl (c.map eL))),(0, .d (.sl (c.map eL))),(4, .d (.sl (xs.map eL))),(6, .ov 6 0),(9, .d (vI (ou xs m:Nat)))]) (fun _=>[(6,some (.o 99 [.d ((.v (.bool (decide (m.a<0))))), .d (dN m.a.natAbs), .d ((.v (.bool (decide (m.b<0))))), .d (dN m.b.natAbs), .d ((.v (.bool (decide (m.c<0))))), .d (dN m.c.natAbs)] true))]) (fun _=>True) [12,11,10,0,4,6,9] [6] rfl ?_ (fun _=>J) (fun _ _=>?_)
   .
    refine gx J<|lp (fu:=⟨6⟩) (X:=Nat) (fun n=>[(12, .d (vI (k:Nat))),(11, .d (vI (c.length:Nat))),(10, .d (.sl (c.map eL))),(0, .d (.sl (c.map eL))),(4, .d (.sl (xs.map eL))),(6, .ov 6 0),(9, .d (vI (n:Nat)))]) (fun n=>[(6,some (.o 99 [.d ((.v (.bool (decide (m.a<0))))), .d (dN m.a.natAbs), .d ((.v (.bool (decide (m.b<0))))), .d (dN m.b.natAbs), .d ((.v (.bool (decide (m.c<0))))), .d (dN m.c.natAbs)] true))]) (fun n=>n<=xs.length/\ ∀j (h:j<xs.length),j<n->gm xs[j].dir m.dir<0) (fun n=>xs.length-n) 0 J ⟨aS _,fun j _ hj=>absurd hj we⟩ (fun _=>J) (fun n hk=>?_);obtain⟨n1,n2⟩:=hk;refine gF J J J J (fun hg28=>?_) (fun hg28=>?_)
    .
     refine ix _ J (xo) J<|?_;haveI:LB (xs[n]' we):=hc _ (hS.m _ (cR _));refine cl J (wB (l:=xs[n]' we)) J<|cl J (wB (l:=m)) J<|cl J (aEt (u:=(xs[n]' we).dir) (v:=m.dir)) J<|br J J J (fun hc39=>?_) (fun hc39=>?_)
     .
      exact at_ (n+1) ⟨⟨we,fun j h hj=>by by_cases q:j=n;(subst q;exact hc39);exact n2 j h we⟩,we⟩
     .
      have hidx:ou xs m=n:=Rs n1 n2 (fun h=>hc39);exact at_ () trivial
    .
     have hidx:ou xs m=n:=Rs n1 n2 (fun h=>absurd h we);exact at_ () trivial
   .
    obtain⟨n,hnx⟩: ∃n,ou xs m=n:=⟨_,rfl⟩;rw[hnx];have hnl:n<=xs.length:=by rw[<-hnx];unfold ou;exact(List.takeWhile_sublist _).length_le
    have hcb: ∀m∈xs,LB m:=fun m hm=>hc m (hS.m m hm);refine gF J J J J (fun hg45=>?_) (fun hg45=>?_)
    .
     refine ix _ J (xo) J<|cl J (xD (l:=xs[n]' we) (m:=m) (hl:=hcb _ (cR we))) J<|br J J J (fun hc54=>?_) (fun hc54=>?_)
     .
      have hn46:n<xs.length:=by omega
      have hinv:mA c (k+1) xs:=hS.ins hk hyes (by rw[<-hm];exact ao4 hnx hn46 ((BW _ m).1 hc54)) we;exact at_ ⟨xs,k+1⟩ omB
     .
      have hnew: ∀h:n<xs.length,xs[n]≠m:=fun h e=>hc54 ((BW _ m).2 e);obtain⟨ys,hys⟩: ∃ys,ys=xs.take n++m::xs.drop n:=⟨_,rfl⟩;have hinv:mA c (k+1) ys:=hS.ins hk hyes (by rw[<-hm,NU hnx hnew,hys]) (by rw[hys];simp;omega);refine s3 n _ J J J J (dO _) omA J<|ro J J<|je n xs.length _ J J oke J (dO _) hnl we J<|ap _ J J (JG _ _ _) J<|kp (hv:=by simp only[ak];exact⟨omd,we⟩) (ho:=fun _=>⟨Pb _ _,omc⟩) (ys.map eL) J omw (TW _ _ _ _) J<|at_ ⟨ys,k+1⟩ omB
    .
     have hnew: ∀h:n<xs.length,xs[n]≠m:=fun h=>absurd h we;obtain⟨ys,hys⟩: ∃ys,ys=xs.take n++m::xs.drop n:=⟨_,rfl⟩;have hinv:mA c (k+1) ys:=hS.ins hk hyes (by rw[<-hm,NU hnx hnew,hys]) (by rw[hys];simp;omega);refine s3 n _ J J J J (dO _) omA J<|ro J J<|je n xs.length _ J J oke J (dO _) hnl we J<|ap _ J J (JG _ _ _) J<|kp (hv:=by simp only[ak];exact⟨omd,we⟩) (ho:=fun _=>⟨Pb _ _,omc⟩) (ys.map eL) J omw (TW _ _ _ _) J<|at_ ⟨ys,k+1⟩ omB
 .
  have hfin:im c=xs:=hS.done (by have:=hS.le;omega);refine cs 71 J J J (fun hg71=>?_) (fun hg71=>?_)
  .
   exact rz J (by rw[JU,if_pos hg71,hfin];rfl)
  .
   exact rz J (by rw[JU,if_neg hg71,hfin];rfl)
section
variable (c:α->α->Int)
def c9(x:α):List α->List α
 |[]=>[x]
 |u::t=>if c u x<0 then u::c9 x t else if c u x=0 then u::t else x::u::t
def jt(x:α)(xs:List α):Nat:=(xs.takeWhile fun u=>decide (c u x<0)).length
def yN(x:α)(xs:List α):jt c x xs<=xs.length:=(List.takeWhile_sublist _).length_le
def p8{x:α}{xs:List α}{n:Nat}(h1:n<=xs.length)(h2: ∀j (h:j<xs.length),j<n->c xs[j] x<0)(h3: ∀h:n<xs.length,¬c xs[n] x<0):jt c x xs=n:=
 HU h1 (fun j h hj=>decide_eq_true (h2 j h hj)) (fun h=>decide_eq_false (h3 h))
theorem ozG{p:Prop}(h:p:=by simpa using hu):p:=h
def wL{x:α}: ∀{xs:List α} {n:Nat},jt c x xs=n->(h:n<xs.length)->c xs[n] x=0->c9 c x xs=xs
 |[],n,_,h,_=>by simp at h
 |u::t,n,hn,h,e=>by
  rw[c9];unfold jt at hn;rw[oS] at hn;by_cases hu:c u x<0
  .rw[if_pos hu]
   rw[if_pos ozG] at hn;obtain⟨k,rfl⟩: ∃k,n=k+1:=⟨n-1,by simp at hn;omega⟩;rw[wL (xs:=t) (n:=k) (by unfold jt;simpa using hn) omE (by simpa using e)]
  .rw[if_neg ozG] at hn
   simp at hn;subst hn;rw[if_neg hu,if_pos (by simpa using e)]
def oH{x:α}: ∀{xs:List α} {n:Nat},jt c x xs=n->(∀h:n<xs.length,c xs[n] x≠0)->c9 c x xs=xs.take n++x::xs.drop n
 |[],n,hn,_=>by simp[jt] at hn;subst hn;rfl
 |u::t,n,hn,e=>by
  rw[c9];unfold jt at hn;rw[oS] at hn;by_cases hu:c u x<0
  .rw[if_pos hu]
   rw[if_pos ozG] at hn;obtain⟨k,rfl⟩: ∃k,n=k+1:=⟨n-1,by simp at hn;omega⟩;rw[oH (xs:=t) (n:=k) (by unfold jt;simpa using hn) (fun h=>by have:=e omE;simpa using this)];simp
  .rw[if_neg ozG] at hn
   simp at hn;subst hn;have:=e omc;rw[if_neg hu,if_neg (by simpa using this)];rfl
def Do(x:α): ∀(xs:List α),(c9 c x xs).length<=xs.length+1
 |[]=>bJ _
 |u::t=>by
  have:=Do x t;rw[c9];split
  .simp;omega
  .split<;>simp
def IT{x y:α}: ∀{xs:List α},y∈c9 c x xs->y=x\/y∈xs
 |[],h=>by rw[c9,aR] at h;exact .inl h
 |u::t,h=>by
  rw[c9] at h;split at h
  .rcases aW.1 h with rfl|h
   .exact .inr aZ
   .rcases IT h with h|h
    .exact .inl h
    .exact .inr (aJ _ h)
  .split at h
   .exact .inr h
   .rcases aW.1 h with rfl|h
    .exact .inl J
    .exact .inr h
def gn(l:List α):List α:=l.foldl (fun out x=>c9 c x out) []
def Dd: ∀(l o:List α),(l.foldl (fun out x=>c9 c x out) o).length<=l.length+o.length
 |[],o=>by simp
 |x::t,o=>by
  have:=Dd t (c9 c x o);have:=Do c x o;simp only[iK,bZ];omega
def DE{y:α}: ∀{l o:List α},y∈l.foldl (fun out x=>c9 c x out) o->y∈l\/y∈o
 |[],o,h=> .inr h
 |x::t,o,h=>by
  rcases DE (l:=t) h with h|h
  .exact .inl (aJ _ h)
  .rcases IT c h with rfl|h
   .exact .inl aZ
   .exact .inr h
end
def x9{x:Rat}: ∀{l:List Rat},kI x l=c9 bw x l
 |[]=>rfl
 |u::t=>by
  have e1:bw u x<0↔u<x:=Kr u x;have e2:bw u x=0↔u=x:=pz u x;rw[kI,c9,x9 (l:=t)];by_cases h:u<x
  .rw[if_pos h,if_pos (e1.2 h)]
  .rw[if_neg h,if_neg (fun e=>h (e1.1 e))]
   by_cases h2:u=x
   .rw[if_pos h2,if_pos (e2.2 h2)]
   .rw[if_neg h2,if_neg (fun e=>h2 (e2.1 e))]
def vY{f:α->β}{l:List α}{x:α}(h:l[k]? =some x):(l.take k).map f++[f x]=(l.take (k+1)).map f:=by
 rw[dW,h,aM];rfl
def OH{a:Nat}[ha:BN a i](hi:i<=400000000:=by decide):PF GB prog 124 [dN a] (dN a):=by
 have hl:=b7 (dg a);have hb:=ji ha.h;refine fn func124 J J ntmps124 J J (fun C=>?_);refine sO J J<|ap ((dg a).map dU) J J (r5 _) J<|gD 5 J<|rz J J
def DO[hz:BI z i](hi:i<=400000000:=by decide):PF GB prog 123 [eI z] (eI z):=by
 refine fn func123 J J ntmps123 J J (fun C=>?_);refine cl J (OH (a:=z.natAbs) (i:=i) (ha:=⟨hz.h⟩) hi) J<|rz J J
def Zs(hl:BL l 672):PF GB prog 82 [eL l] (eL l):=by
 haveI h1:BI l.a 96:=BI.of hl.a J;haveI h2:BI l.b 96:=BI.of hl.b J;haveI h3:BI l.c 96:=BI.of hl.c J;refine fn func82 J J ntmps82 J J (fun C=>?_);refine cl J (DO (z:=l.a)) J<|cl J (DO (z:=l.b)) J<|cl J (DO (z:=l.c)) J<|rz J J
def aA4{d:Nat}(h:ds[ds.length-1]? =some d):dG ds↔ ¬((d:Int)=0):=by
 unfold dG;rw[lY,h];simp
def Rb(hn:ds.length<=1000000):PF GB prog 183 [bD ds] (vB (decide (dG ds))):=by
 have hm:=b7 ds;refine fn (fu:=⟨9⟩) func183 J J ntmps183 J J (fun C=>?_);refine aj 4 (.d (vI (ds.length:Nat))) J omn<|gx (fu:=⟨0⟩) J<|gF (fu2:=⟨4⟩) J J J J (fun hg5=>?_) (fun hg5=>?_)
 .
  exact rz rfl (by obtain rfl:ds=[]:=cJ we;show DV.v (.bool _)= .v (.bool _);congr 2<;>exact(decide_eq_true (by intro h;cases h)).symm)
 .
  obtain⟨d,hd⟩: ∃d,ds[ds.length-1]? =some d:=⟨_,aQ we⟩;refine aj 9 (.d (vI (ds.length:Nat))) J omn<|gx J<|ix _ J (by rw[show(((ds.length:Nat):Int)-1).toNat=ds.length-1 by omega,bL,hd];rfl) J<|?_;exact rz J (by show DV.v (.bool _)= .v (.bool _);congr 2;exact decide_eq_decide.2 (aA4 hd).symm)
theorem omX{p:Prop}(h:p:=by show DV.v (.bool _)= .v (.bool _);congr 2;unfold fj;simp_all):p:=h
def ut(hn:ds.length<=1000000):PF GB prog 103 [.ag [.v (.bool neg),bD ds]] (vB (decide (fj neg ds))):=by
 have hm:=b7 ds;refine fn func103 J J ntmps103 J J (fun C=>?_);by_cases hN:dG ds
 .
  refine cl (fu:=⟨0⟩) J (Rb hn) J<|aj 5 (.d (vB true)) J (by rw[decide_eq_true hN])<|fD 5 J<|gx J<|iE (fu2:=⟨3⟩) 10 J J J (fun hg10=>?_) (fun hg10=>?_)
  .
   exact rz J omX
  .
   refine aj 13 (.d (vI (ds.length:Nat))) J omn<|gx J<|rz J omX
 .
  refine cl (fu:=⟨0⟩) J (Rb hn) J<|aj 5 (.d (vB false)) J (by rw[decide_eq_false hN])<|iG 5 J<|gx J<|rz J omX
def FJ(hd:bt ds)(hn:ds.length<=10000000):PF GB prog 184 [bD ds] (dN (dv ds)):=by
 have hm:=b7 ds;refine fn func184 J J ntmps184 J J (fun C=>?_);refine sO J J<|ap (ds.map dU) J J (r5 _) J<|fz 5 J J<|cl J (tB (ds:=ds)) J<|rz J (by unfold dN;rw[DM hd];rfl)
def Cg(hd:bt ds)(hn:ds.length<=10000000):PF GB prog 104 [.ag [.v (.bool neg),bD ds]] (eI (mD neg ds)):=by
 refine fn func104 J J ntmps104 J J (fun C=>?_);refine cl J (FJ hd hn) J<|cl J kj J<|rz J J
def nF(r:RL):DV:= .tp [if r.nm then eL r.l else .ag [.v (.bool false), .sl [], .v (.bool false), .sl [], .v (.bool false), .sl []],vB (decide (r.nm/\r.l.ok))]
def Yp{a b:Nat}(h:i0 a b=0):a=b:=by
 unfold i0 at h;split at h
 .cases h
 .split at h
  .assumption
  .cases h
def GM:l.ok↔0<Nat.gcd l.a.natAbs l.b.natAbs/\Nat.gcd (Nat.gcd l.a.natAbs l.b.natAbs) l.c.natAbs=1:=by
 unfold aa.ok;refine and_congr ?_ Iff.rfl;rw[Nat.pos_iff_ne_zero,ne_eq,Nat.gcd_eq_zero_iff];simp only[jU]
theorem okH{p:Prop}(h:p:=by have:=s.a.2;omega):p:=h
def aJm(s:r.sm)(h: ¬fj r.na r.da):PF GB prog 52 [r.d] (nF r):=by
 refine fn func52 J J ntmps52 J J (fun C=>?_);refine cl (fu:=⟨0⟩) J (ut (neg:=r.na) (ds:=r.da) okH) J<|cF J omy J<|rz J (by unfold nF;rw[if_neg (fun e=>h e.1),show decide (r.nm/\r.l.ok)=false from decide_eq_false (fun e=>(fun e=>h e.1) e.1)];rfl)
theorem ozi{p:Prop}(h:p:=by have:=s.b.2;omega):p:=h
def aKj(s:r.sm)(h1:fj r.na r.da)(h: ¬fj r.nb r.db):PF GB prog 52 [r.d] (nF r):=by
 refine fn func52 J J ntmps52 J J (fun C=>?_);refine cl (fu:=⟨0⟩) J (ut (neg:=r.na) (ds:=r.da) okH) J<|bO J omH J<|cl (fu:=⟨0⟩) J (ut (neg:=r.nb) (ds:=r.db) ozi) J<|cF J omy J<|rz J (by unfold nF;rw[if_neg (fun e=>h e.2.1),show decide (r.nm/\r.l.ok)=false from decide_eq_false (fun e=>(fun e=>h e.2.1) e.1)];rfl)
def aIO(s:r.sm)(h1:fj r.na r.da)(h2:fj r.nb r.db)(h: ¬fj r.nc r.dc):PF GB prog 52 [r.d] (nF r):=by
 refine fn func52 J J ntmps52 J J (fun C=>?_);refine cl (fu:=⟨0⟩) J (ut (neg:=r.na) (ds:=r.da) okH) J<|bO J omH J<|cl (fu:=⟨0⟩) J (ut (neg:=r.nb) (ds:=r.db) ozi) J<|bO J oza J<|cl (fu:=⟨0⟩) J (ut (neg:=r.nc) (ds:=r.dc) (by have:=s.c.2;omega)) J<|cF J omy J<|rz J (by unfold nF;rw[if_neg (fun e=>h e.2.2),show decide (r.nm/\r.l.ok)=false from decide_eq_false (fun e=>(fun e=>h e.2.2) e.1)];rfl)
def Q1(s:r.sm)(h:r.nm):PF GB prog 52 [r.d] (nF r):=by
 haveI:=RL.lb s;haveI ba:BN r.l.a.natAbs 96:=⟨(LB.a r.l).h⟩;haveI bb':BN r.l.b.natAbs 96:=⟨(LB.b r.l).h⟩;haveI bc:BN r.l.c.natAbs 96:=⟨(LB.c r.l).h⟩;obtain⟨g,hg⟩: ∃g,g=Nat.gcd r.l.a.natAbs r.l.b.natAbs:=⟨_,rfl⟩;haveI bg:BN g 96:=hg▸⟨HN ba.h bb'.h⟩;have bgc:=HN bg.h bc.h;have hgl:=ji bg.h;refine fn func52 J J ntmps52 J J (fun C=>?_);refine cl (fu:=⟨0⟩) J (ut (neg:=r.na) (ds:=r.da) okH) J<|bO J (by show some (!decide _)=some false;rw[decide_eq_true h.1];rfl) J<|cl (fu:=⟨0⟩) J (ut (neg:=r.nb) (ds:=r.db) ozi) J<|bO J (by show some (!decide _)=some false;rw[decide_eq_true h.2.1];rfl) J<|cl (fu:=⟨0⟩) J (ut (neg:=r.nc) (ds:=r.dc) (by have:=s.c.2;omega)) J<|bO J (by show some (!decide _)=some false;rw[decide_eq_true h.2.2];rfl) J<|cl J (Cg (neg:=r.na) (ds:=r.da) s.a.1 okH) J<|cl J (Cg (neg:=r.nb) (ds:=r.db) s.b.1 ozi) J<|cl J (Cg (neg:=r.nc) (ds:=r.dc) s.c.1 (by have:=s.c.2;omega)) J<|cl (fu:=⟨0⟩) J (B9 (a:=r.l.a.natAbs) (b:=r.l.b.natAbs)) J<|aj 39 (.d (dN g)) J (by rw[hg])<|gx (fu:=⟨8⟩) J<|aj 42 (.d (vI ((dg g).length:Nat))) J (by rw[b7]<;>rfl)<|gx (fu:=⟨0⟩) J<|gF (v2:=fun hg43=>by simp only[ak];kernel_rfl) J J J J (fun hg43=>?_) (fun hg43=>?_)
 .
  refine cl J (B9 (a:=g) (b:=r.l.c.natAbs)) J<|cl J EZ J<|cl J (yj (a:=Nat.gcd g r.l.c.natAbs) (b:=1) (by have:=ji bgc;omega) (by have:=ji (show 1<2^32 by decide);omega)) J<|rz J (by unfold nF;rw[if_pos h,show decide (r.nm/\r.l.ok)=decide (i0 (Nat.gcd g r.l.c.natAbs) 1=0) from decide_eq_decide.2 ⟨fun e=>Lj (by rw[hg];exact(GM.1 e.2).2),fun e=>⟨h,GM.2 ⟨by rw[<-hg];exact wm.1 we,by rw[<-hg];exact Yp e⟩⟩⟩];rfl)
 .
  exact rz J (by unfold nF;rw[if_pos h,show decide (r.nm/\r.l.ok)=false from decide_eq_false fun e=>by(have h1:=(GM.1 e.2).1;rw[<-hg] at h1;have:=wm.2 h1;omega)];rfl)
def GT(s:r.sm):PF GB prog 52 [r.d] (nF r):=by
 by_cases h1:fj r.na r.da
 .by_cases h2:fj r.nb r.db
  .by_cases h3:fj r.nc r.dc
   .exact Q1 s ⟨h1,h2,h3⟩
   .exact aIO s h1 h2 h3
  .exact aKj s h1 h2
 .exact aJm s h1
def smB(n:Int)(ls:List (List Nat)):Bool:=ls.all fun d=>decide ((d.length:Int)<=n)
def NZ{n:Int}{ls:List (List Nat)}(h:ls[k]? =some d):smB n (ls.drop k)=(decide ((d.length:Int)<=n)&&smB n (ls.drop (k+1))):=by
 rw[yi h];rfl
def RL.smB(n:Int)(r:RL):Bool:=Sx.smB n [r.da,r.db,r.dc]
def sD(n:Int)(ls:List RL):Bool:=ls.all fun r=>r.smB n
def Mb{n:Int}{ls:List RL}(h:ls[k]? =some r):sD n (ls.drop k)=(r.smB n&&sD n (ls.drop (k+1))):=by
 rw[yi h];rfl
def aDX{n:Int}{ls:List (List Nat)}(hn:ls.length<=1000000):PF GB prog 23 [vI n, .sl (ls.map bD)] (vB (smB n ls)):=by
 have hm:=nj bD ls;refine fn (fu:=⟨10⟩) func23 J J ntmps23 J J (fun C=>?_);refine aj 8 (.d (vI (ls.length:Nat))) J omn<|gx J<|lp (X:=Nat) (fun k=>[(9, .d (vI (k:Nat)))]) (fun k=>[]) (fun k=>k<=ls.length/\smB n (ls.drop k)=smB n ls) (fun k=>ls.length-k) 0 J ⟨aS _,J⟩ (fun _=>J) (fun k hk=>?_);obtain⟨h1,h2⟩:=hk;refine br J J J (fun hc10=>?_) (fun hc10=>?_)
 .
  obtain⟨d,hd0⟩: ∃s,ls[k]? =some s:=⟨_,aQ we⟩;refine ix (fu:=⟨8⟩) _ J (ce hd0) J<|aj 14 (.d (vI (d.length:Nat))) J (by rw[b7]<;>rfl)<|gx J<|br J J J (fun hc16=>?_) (fun hc16=>?_)
  .
   exact rz J (by rw[<-h2,NZ hd0,decide_eq_false we,Bool.false_and];rfl)
  .
   exact at_ (k+1) ⟨⟨we,by rw[<-h2,NZ hd0,decide_eq_true we,pR]⟩,we⟩
 .
  exact rz J (by rw[<-h2,iW we];rfl)
def aBh{n:Int}{ls:List RL}(hn:ls.length<=1000000):PF GB prog 5 [vI n, .sl (ls.map RL.d)] (vB (sD n ls)):=by
 have hm:=nj RL.d ls;refine fn (fu:=⟨10⟩) func5 J J ntmps5 J J (fun C=>?_);refine aj 8 (.d (vI (ls.length:Nat))) J omn<|gx J<|lp (X:=Nat) (fun k=>[(9, .d (vI (k:Nat)))]) (fun k=>[]) (fun k=>k<=ls.length/\sD n (ls.drop k)=sD n ls) (fun k=>ls.length-k) 0 J ⟨aS _,J⟩ (fun _=>J) (fun k hk=>?_);obtain⟨h1,h2⟩:=hk;refine br J J J (fun hc10=>?_) (fun hc10=>?_)
 .
  obtain⟨r,hr0⟩: ∃s,ls[k]? =some s:=⟨_,aQ we⟩;refine ix _ J (ce hr0) J<|rf J J<|cl J (aDX (n:=n) (ls:=[r.da,r.db,r.dc]) omc) J<|bb J J J (fun hc25=>?_) (fun hc25=>?_)
  .
   exact rz J (by rw[<-h2,Mb hr0,show r.smB n=false by unfold RL.smB;simpa using hc25,Bool.false_and];rfl)
  .
   exact at_ (k+1) ⟨⟨we,by rw[<-h2,Mb hr0,show r.smB n=true by unfold RL.smB;simpa using hc25,pR]⟩,we⟩
 .
  exact rz J (by rw[<-h2,iW we];rfl)
def WN{n:Nat}[h:BN n i](hi:i<=20000000:=by decide):PF GB prog 184 [dN n] (dN n):=by
 have hl:=ji h.h;have:=FJ (GB:=GB) (ds:=dg n) (gt n) we;rw[c8,<-HH] at this;exact this
def azZ(z:Int):mD (decide (z<0)) (dg z.natAbs)=z:=by
 unfold mD;rw[c8];split<;>(rename_i h;simp at h;omega)
def aLM[h:BI z i](hi:i<=20000000:=by decide):PF GB prog 104 [eI z] (eI z):=by
 have hl:=ji h.h;have:=Cg (GB:=GB) (neg:=decide (z<0)) (ds:=dg z.natAbs) (gt _) we;rw[azZ,<-HH] at this;exact this
def Rr{n:Nat}(h:0<n): ¬((((dg n).map dU).length:Nat):Int)=0:=by
 rw[aX];have:=qn (n:=n);omega
instance BQ.m1':BQ (((-1:Int):Int):Rat) 2:=⟨oma,oma⟩
instance BQ.m1:BQ (-1:Rat) 2:=⟨oma,oma⟩
def Sa[h:BQ q i](hi:i<=20000000:=by decide):PF GB prog 110 [eR q] (eQ q):=by
 have hd:=q.den_pos;refine fn func110 J J ntmps110 J J (fun C=>?_);refine cl (fu:=⟨8⟩) J (WN (n:=q.den) hi) J<|bO J (omh (Rr hd)) J<|cl J (aLM (z:=q.num) hi) J<|cl J (wW (x:=q.num) (d:=q.den) hd we we) J<|rz J (by rw[oN];rfl)
def Dg[h:BQ q i](hi:i<=400000000:=by decide):PF GB prog 66 [eQ q] (eR q):=by
 refine fn func66 J J ntmps66 J J (fun C=>?_);refine cl J (DO (z:=q.num) hi) J<|cl J (jr (q:=q)) J<|cl J (OH (a:=q.den) hi) J<|rz J J
def aNQ[h:aE p i](hi:i<=20000000:=by decide):PF GB prog 57 [iz p] (eP p):=by
 refine fn func57 J J ntmps57 J J (fun C=>?_);refine cl J (Sa (q:=p.x) hi) J<|cl J (Sa (q:=p.y) hi) J<|rz J J
def aLz[h:aE p i](hi:i<=20000:=by decide):PF GB prog 28 [eP p] (iz p):=by
 refine fn func28 J J ntmps28 J J (fun C=>?_);refine cl J (Dg (q:=p.x) (i:=i) we) J<|cl J (Dg (q:=p.y) (i:=i) we) J<|rz J J
def d7(f:α->DV)(l:List α):(l.map f).length=l.length:=aX ..
def qf(ps:List ah):cI 6 (ps.map eP):=fun d hd=>by
 obtain⟨u,_,rfl⟩:=aU.1 hd;exact⟨rfl,rfl⟩
def aJ8(ps:List ah):cI 6 (ps.map iz):=fun d hd=>by
 obtain⟨u,_,rfl⟩:=aU.1 hd;exact⟨rfl,rfl⟩
def Mj(hb: ∀p∈ps,aE p 1200)(hn:ps.length<=1000000):PF GB prog 21 [.sl (ps.map iz)] (.sl (ps.map eP)):=by
 have hm:=d7 iz ps;refine fn (fu:=⟨15⟩) func21 J J ntmps21 J J (fun C=>?_);refine aj 7 (.d (vI (ps.length:Nat))) J omn<|gx J<|nr 3 3 83 6 J J J<|lp (X:=Nat) (fun k=>[(8, .d (vI (k:Nat))),(3, .rw 3)]) (fun k=>[(3,some (.b 83 6 ((ps.take k).map eP) true))]) (fun k=>k<=ps.length) (fun k=>ps.length-k) 0 J (aS _) (fun _=>J) (fun k hk=>?_);have hml:=d7 eP (ps.take k);rw[bT] at hml;refine br J J J (fun hc9=>?_) (fun hc9=>?_)
 .
  obtain⟨z,hz⟩: ∃s,ps[k]? =some s:=⟨_,aQ we⟩;have hzm:=aK hz;refine ix _ J (ce hz) J<|cl J (aNQ (p:=z) (h:=hb z hzm)) J<|rf J J<|ap ((ps.take (k+1)).map eP) J (vY hz) (qf [z]) J<|d8 16 3 J<|at_ (k+1) ⟨we,we⟩
 .
  obtain rfl:k=ps.length:=by omega
  refine gD 3 J<|rz J (by rw[dQ];rfl)
def UM(hb: ∀p∈ps,aE p 1200)(hn:ps.length<=1000000):PF GB prog 9 [.sl (ps.map eP)] (.sl (ps.map iz)):=by
 have hm:=d7 eP ps;refine fn (fu:=⟨15⟩) func9 J J ntmps9 J J (fun C=>?_);refine aj 7 (.d (vI (ps.length:Nat))) J omn<|gx J<|nr 3 3 65 6 J J J<|lp (X:=Nat) (fun k=>[(8, .d (vI (k:Nat))),(3, .rw 3)]) (fun k=>[(3,some (.b 65 6 ((ps.take k).map iz) true))]) (fun k=>k<=ps.length) (fun k=>ps.length-k) 0 J (aS _) (fun _=>J) (fun k hk=>?_);have hml:=d7 iz (ps.take k);rw[bT] at hml;refine br J J J (fun hc9=>?_) (fun hc9=>?_)
 .
  obtain⟨z,hz⟩: ∃s,ps[k]? =some s:=⟨_,aQ we⟩;have hzm:=aK hz;refine ix _ J (ce hz) J<|cl J (aLz (p:=z) (h:=hb z hzm)) J<|rf J J<|ap ((ps.take (k+1)).map iz) J (vY hz) (aJ8 [z]) J<|d8 16 3 J<|at_ (k+1) ⟨we,we⟩
 .
  obtain rfl:k=ps.length:=by omega
  refine gD 3 J<|rz J (by rw[dQ];rfl)
def ID{q:ah}[hp:aE p i][hq:aE q j](hi:i<=100000:=by decide)(hj:j<=100000:=by decide):PF GB prog 109 [eP p,eP q] (eP (de p q (-1))):=by
 refine fn func109 J J ntmps109 J J (fun C=>?_);refine cl J (ju (n:= -1)) J<|cl J (Ai (p:=p) (q:=q) (c:=((-1:Int):Rat)) (i:=i) (j:=j) (k:=2) we we) J<|rz J (by rw[show((-1:Int):Rat)= -1 from J];rfl)
def CS{a b c:ah}[ha:aE a i][hb:aE b j][hc:aE c k](hi:i<=80000:=by decide)(hj:j<=80000:=by decide)(hk:k<=80000:=by decide):PF GB prog 56 [eP a,eP b,eP c] (vI (qB a b c)):=by
 refine fn func56 J J ntmps56 J J (fun C=>?_);refine cl J (ID (p:=b) (q:=a) (i:=j) (j:=i) we we) J<|cl J (ID (p:=c) (q:=a) (i:=k) (j:=i) we we) J<|cl J (CZ (p:=de b a (-1)) (q:=de c a (-1)) we we) J<|cl J (ry (q:=(de b a (-1)).cross (de c a (-1)))) J<|rz J J
def cO(p q:ah):Int:=if bw p.x q.x≠0 then bw p.x q.x else bw p.y q.y
def Qy{q:ah}[hp:aE p i][hq:aE q j](hi:i<=100000:=by decide)(hj:j<=100000:=by decide):PF GB prog 73 [eP p,eP q] (vI (cO p q)):=by
 refine fn func73 J J ntmps73 J J (fun C=>?_);refine cl J (jF (a:=p.x) (b:=q.x) we we) J<|br J J J (fun hc12=>?_) (fun hc12=>?_)
 .
  exact rz J (by unfold cO;rw[if_pos hc12];rfl)
 .
  refine cl J (jF (a:=p.y) (b:=q.y) we we) J<|rz J (by unfold cO;rw[if_neg hc12];rfl)
def y4(l:aa):Bool:=decide (l.a<0\/(l.a=0/\l.b<0))
def aa.canon(l:aa):aa:=if y4 l then l.rev else l
def Bw(a:Int):a.sign<0↔a<0:=by
 rcases pN a 0 with h|h|h
 .rw[eK h];omega
 .subst h;simp
 .rw[fS h];omega
def Oo(a:Int):a.sign=0↔a=0:=fM
def Oj(h:l.a<0\/(l.a=0/\l.b<0)):DV.tp [eL l.canon,vB (y4 l)]= .tp [eL l.rev,vB true]:=by
 unfold aa.canon y4;rw[decide_eq_true h];rfl
def Qu(h: ¬(l.a<0\/(l.a=0/\l.b<0))):DV.tp [eL l.canon,vB (y4 l)]= .tp [eL l,vB false]:=by
 unfold aa.canon y4;rw[decide_eq_false h];rfl
def UR[hl:LB l]:PF GB prog 120 [eL l] (.tp [eL l.canon,vB (y4 l)]):=by
 refine fn func120 J J ntmps120 J J (fun C=>?_);refine cl J (yw (z:=l.a)) J<|cs 10 J J J (fun hg10=>?_) (fun hg10=>?_)
 .
  refine cl J (BZ (l:=l)) J<|rz J (by rw[Oj (.inl ((Bw _).1 hg10))];rfl)
 .
  refine cs 13 J J J (fun hg13=>?_) (fun hg13=>?_)
  .
   refine cl J (yw (z:=l.b)) J<|br J J J (fun hc19=>?_) (fun hc19=>?_)
   .
    refine cl J (BZ (l:=l)) J<|rz J (by rw[Oj (.inr ⟨(Oo _).1 hg13,(Bw _).1 hc19⟩)];rfl)
   .
    exact rz J (by rw[Qu (fun e=>e.elim (fun e=>hg10 ((Bw _).2 e)) (fun e=>hc19 ((Bw _).2 e.2)))];rfl)
  .
   exact rz J (by rw[Qu (fun e=>e.elim (fun e=>hg10 ((Bw _).2 e)) (fun e=>hg13 ((Oo _).2 e.1)))];rfl)
instance LB.canon (l:aa) [h:LB l]:LB l.canon:=by unfold aa.canon;split;exact LB.rev h;exact h
def OG(h:l.ok):l.canon.ok:=by unfold aa.canon;split;exact h.rev;exact h
def qr(c:β->β->Int)(g:α->β)(l:List α)(k:Nat):List β:=gn c ((l.take k).map g)
section
variable {c:β->β->Int}{g:α->β}{l:List α}
def qc{x:α}(h:l[k]? =some x):qr c g l (k+1)=c9 c (g x) (qr c g l k):=by
 unfold qr gn;rw[dW,h,pW,aM,oK];rfl
def F9(h:k=l.length:=by omega):qr c g l k=gn c (l.map g):=by unfold qr;rw[h,dQ]
def Ed:(qr c g l k).length<=k:=by
 have:=Dd c ((l.take k).map g) [];have h2:((l.take k).map g).length<=k:=by rw[aX,bT];omega
 rw[fX] at this;unfold qr gn;omega
def EJ{y:β}(h:y∈qr c g l k): ∃x∈l,y=g x:=by
 rcases DE c h with h|h
 .obtain⟨x,hx,rfl⟩:=aU.1 h
  exact⟨x,fW hx,J⟩
 .cases h
end
def pI{f:α->DV}(ok: ∀l:List α,cI s (l.map f))(xs:List α)(n:Nat):cI s ((xs.map f).take n):=fun d hd=>ok xs d (fW hd)
def oF{f:α->DV}(ok: ∀l:List α,cI s (l.map f))(xs:List α)(n m:Nat):cI s (((xs.map f).take n).drop m):=fun d hd=>ok xs d (fW (gS hd))
def qj{f:α->DV}(ok: ∀l:List α,cI s (l.map f))(xs:List α)(n m:Nat)(x:α):cI s ([f x]++((xs.map f).take n).drop m):=fun d hd=>by
 rcases bX.1 hd with h|h
 .exact ok [x] d h
 .exact oF ok xs n m d h
def my{f:α->DV}{l:List α}(h:i<l.length:=by omega):(l.map f)[(i:Int).toNat]? =some (f l[i]):=by
 rw[cK,bL,aQ h];rfl
theorem omY{p:Prop}(h:p:=by rw[hfin];rfl):p:=h
theorem oka{p:Prop}(h:p:=by dsimp only;exact⟨⟨by rw[qc hz,<-hS];exact hin.symm,we⟩,we⟩):p:=h
theorem okX{p:Prop}(h:p:=by rw[hys,aM,bV,fN,gL,bS (l:=xs.map eP) (i:=xs.length) omc];rfl):p:=h
def EW(hb: ∀p∈ps,aE p 1200)(hn:ps.length<=100000:=by omega):PF GB prog 37 [.sl (ps.map eP)] (.sl ((gn cO ps).map eP)):=by
 have hm':=d7 eP ps;refine fn (fu:=⟨15⟩) func37 J J ntmps37 J J (fun C=>?_);refine aj 8 (.d (vI (ps.length:Nat))) J (by rw[hm'];rfl)<|gx J<|zi 3 J<|lp (X:=List ah×Nat) (fun⟨xs,k⟩=>[(9, .d (vI (k:Nat))),(8, .d (vI (ps.length:Nat))),(7, .d (.sl (ps.map eP))),(0, .d (.sl (ps.map eP))),(3, .d (.sl (xs.map eP)))]) (fun⟨xs,k⟩=>[]) (fun⟨xs,k⟩=>xs=qr cO id ps k/\k<=ps.length) (fun⟨xs,k⟩=>ps.length-k) ⟨[],0⟩ J ⟨J,aS _⟩ (fun _=>J) (fun⟨xs,k⟩ hk=>?_)
 try dsimp only at hk⊢
 obtain⟨hS,hkl⟩:=hk;refine br J J J (fun hc10=>?_) (fun hc10=>?_)
 .
  have hk:k<ps.length:=by omega
  obtain⟨m,hm⟩: ∃m,m=ps[k]:=⟨_,rfl⟩;have hz:ps[k]? =some m:=by rw[hm];exact aQ hk
  haveI hmb:aE m 1200:=hm▸hb _ (cR hk);have hxl:=d7 eP xs;have hxn:xs.length<=k:=by rw[hS];exact Ed
  have hxb: ∀q∈xs,aE q 1200:=fun q hq=>by rw[hS] at hq;obtain⟨z,hz,he⟩:=EJ hq;rw[he];exact hb z hz
  refine ix (fu:=⟨1⟩) _ J (my hk) J<|aj 12 (.d (eP m)) J okK<|gx (fu:=⟨10⟩) J<|mg (fu:=⟨5⟩) (X:=Unit) (fun _=>[(9, .d (vI (k:Nat))),(8, .d (vI (ps.length:Nat))),(7, .d (.sl (ps.map eP))),(0, .d (.sl (ps.map eP))),(3, .d (.sl (xs.map eP))),(5, .ov 5 0),(6, .d (vI (jt cO m xs:Nat)))]) (fun _=>[(5,some (.o 83 [.d ((.v (.bool (decide (m.x.num<0))))), .d (dN m.x.num.natAbs), .d (dD m.x.den), .d ((.v (.bool (decide (m.y.num<0))))), .d (dN m.y.num.natAbs), .d (dD m.y.den)] true))]) (fun _=>True) [9,8,7,0,3,5,6] [5] rfl ?_ (fun _=>J) (fun _ _=>?_)
  .
   refine gx J<|lp (fu:=⟨6⟩) (X:=Nat) (fun n=>[(9, .d (vI (k:Nat))),(8, .d (vI (ps.length:Nat))),(7, .d (.sl (ps.map eP))),(0, .d (.sl (ps.map eP))),(3, .d (.sl (xs.map eP))),(5, .ov 5 0),(6, .d (vI (n:Nat)))]) (fun n=>[(5,some (.o 83 [.d ((.v (.bool (decide (m.x.num<0))))), .d (dN m.x.num.natAbs), .d (dD m.x.den), .d ((.v (.bool (decide (m.y.num<0))))), .d (dN m.y.num.natAbs), .d (dD m.y.den)] true))]) (fun n=>n<=xs.length/\ ∀j (h:j<xs.length),j<n->cO xs[j] m<0) (fun n=>xs.length-n) 0 J ⟨aS _,fun j _ hj=>absurd hj we⟩ (fun _=>J) (fun n hk=>?_);obtain⟨n1,n2⟩:=hk;refine gF (v2:=fun hg16=>by simp only[ak];kernel_rfl) J J J J (fun hg16=>?_) (fun hg16=>?_)
   .
    refine ix _ J (my) J<|cl J (Qy (p:=xs[n]' we) (q:=m) (hp:=hxb _ (cR we)) (hq:=hmb)) J<|br J J J (fun hc25=>?_) (fun hc25=>?_)
    .
     exact at_ (n+1) ⟨⟨we,fun j h hj=>by by_cases q:j=n;(subst q;exact hc25);exact n2 j h we⟩,we⟩
    .
     have hidx:jt cO m xs=n:=p8 cO n1 n2 (fun h=>hc25);exact at_ () trivial
   .
    have hidx:jt cO m xs=n:=p8 cO n1 n2 (fun h=>absurd h we);exact at_ () trivial
  .
   obtain⟨n,hnx⟩: ∃n,jt cO m xs=n:=⟨_,rfl⟩;rw[hnx];have hnl:n<=xs.length:=by rw[<-hnx];exact yN _ _ _
   refine gF (v1:=fun hg31=>by simp only[ak];kernel_rfl) J J J J (fun hg31=>?_) (fun hg31=>?_)
   .
    have hnew: ∀h:n<xs.length,cO xs[n] m≠0:=fun h=>absurd h we;obtain⟨ys,hys⟩: ∃ys,ys=xs.take n++m::xs.drop n:=⟨_,rfl⟩;have hin:c9 cO m xs=ys:=by rw[hys];exact oH cO hnx hnew
    have hyl:ys.length<=xs.length+1:=by rw[hys];simp;omega
    refine s3 n _ J J J J (qf _) omA J<|ro J J<|je n xs.length _ J J oke J (qf _) hnl we J<|ap _ J J (oF qf _ _ _) J<|kp (hv:=by simp only[ak];exact⟨omd,we⟩) (ho:=fun _=>⟨pI qf _ _,omc⟩) (ys.map eP) J okX (qj qf _ _ _ _) J<|at_ ⟨ys,k+1⟩ oka
   .
    refine ix _ J (my) J<|cl J (Qy (p:=xs[n]' we) (q:=m) (hp:=hxb _ (cR we)) (hq:=hmb)) J<|br J J J (fun hc40=>?_) (fun hc40=>?_)
    .
     have hnew: ∀h:n<xs.length,cO xs[n] m≠0:=fun h=>hc40;obtain⟨ys,hys⟩: ∃ys,ys=xs.take n++m::xs.drop n:=⟨_,rfl⟩;have hin:c9 cO m xs=ys:=by rw[hys];exact oH cO hnx hnew
     have hyl:ys.length<=xs.length+1:=by rw[hys];simp;omega
     refine s3 n _ J J J J (qf _) omA J<|ro J J<|je n xs.length _ J J oke J (qf _) hnl we J<|ap _ J J (oF qf _ _ _) J<|kp (hv:=by simp only[ak];exact⟨omd,we⟩) (ho:=fun _=>⟨pI qf _ _,omc⟩) (ys.map eP) J okX (qj qf _ _ _ _) J<|at_ ⟨ys,k+1⟩ oka
    .
     have hin:c9 cO m xs=xs:=wL cO hnx we (Decidable.not_not.1 hc40);exact at_ ⟨xs,k+1⟩ oka
 .
  have hfin:gn cO ps=xs:=by rw[hS,F9,List.map_id]
  exact rz J omY
def mi(ls:List aa):List aa:=gn en (ls.map aa.canon)
def CP{y:aa}(h:y∈mi ls): ∃x∈ls,y=x.canon:=by
 rcases DE en h with h|h
 .obtain⟨x,hx,rfl⟩:=aU.1 h;exact⟨x,hx,rfl⟩
 .cases h
theorem omv{p:Prop}(h:p:=by dsimp only;exact⟨⟨by rw[qc hz,<-hS,<-hmc];exact hin.symm,we⟩,we⟩):p:=h
def atW(hb: ∀p∈ls,LB p)(hn:ls.length<=100000):PF GB prog 63 [.sl (ls.map eL)] (.sl ((mi ls).map eL)):=by
 have hm':=d7 eL ls;refine fn (fu:=⟨15⟩) func63 J J ntmps63 J J (fun C=>?_);refine aj 8 (.d (vI (ls.length:Nat))) J (by rw[hm'];rfl)<|gx J<|zi 3 J<|lp (X:=List aa×Nat) (fun⟨xs,k⟩=>[(9, .d (vI (k:Nat))),(8, .d (vI (ls.length:Nat))),(7, .d (.sl (ls.map eL))),(0, .d (.sl (ls.map eL))),(3, .d (.sl (xs.map eL)))]) (fun⟨xs,k⟩=>[]) (fun⟨xs,k⟩=>xs=qr en aa.canon ls k/\k<=ls.length) (fun⟨xs,k⟩=>ls.length-k) ⟨[],0⟩ J ⟨J,aS _⟩ (fun _=>J) (fun⟨xs,k⟩ hk=>?_)
 try dsimp only at hk⊢
 obtain⟨hS,hkl⟩:=hk;refine br J J J (fun hc10=>?_) (fun hc10=>?_)
 .
  have hk:k<ls.length:=by omega
  obtain⟨z,hm⟩: ∃m,m=ls[k]:=⟨_,rfl⟩;have hz:ls[k]? =some z:=by rw[hm];exact aQ hk
  haveI hzb:LB z:=hm▸hb _ (cR hk);obtain⟨m,hmc⟩: ∃m,m=z.canon:=⟨_,rfl⟩;haveI hmb:LB m:=by rw[hmc];infer_instance
  have hxl:=d7 eL xs;have hxn:xs.length<=k:=by rw[hS];exact Ed
  have hxb: ∀q∈xs,LB q:=fun q hq=>by rw[hS] at hq;obtain⟨z,hz,rfl⟩:=EJ hq;haveI:=hb z hz;infer_instance
  refine ix (fu:=⟨1⟩) _ J (my hk) J<|aj 12 (.d (eL z)) J okK<|gx J<|cl (fu:=⟨2⟩) J (UR (l:=z)) J<|aj 16 (.d (eL m)) J (by rw[hmc])<|gx (fu:=⟨10⟩) J<|mg (fu:=⟨5⟩) (X:=Unit) (fun _=>[(9, .d (vI (k:Nat))),(8, .d (vI (ls.length:Nat))),(7, .d (.sl (ls.map eL))),(0, .d (.sl (ls.map eL))),(3, .d (.sl (xs.map eL))),(5, .ov 5 0),(6, .d (vI (jt en m xs:Nat)))]) (fun _=>[(5,some (.o 99 [.d ((.v (.bool (decide (m.a<0))))), .d (dN m.a.natAbs), .d ((.v (.bool (decide (m.b<0))))), .d (dN m.b.natAbs), .d ((.v (.bool (decide (m.c<0))))), .d (dN m.c.natAbs)] true))]) (fun _=>True) [9,8,7,0,3,5,6] [5] rfl ?_ (fun _=>J) (fun _ _=>?_)
  .
   refine gx J<|lp (fu:=⟨6⟩) (X:=Nat) (fun n=>[(9, .d (vI (k:Nat))),(8, .d (vI (ls.length:Nat))),(7, .d (.sl (ls.map eL))),(0, .d (.sl (ls.map eL))),(3, .d (.sl (xs.map eL))),(5, .ov 5 0),(6, .d (vI (n:Nat)))]) (fun n=>[(5,some (.o 99 [.d ((.v (.bool (decide (m.a<0))))), .d (dN m.a.natAbs), .d ((.v (.bool (decide (m.b<0))))), .d (dN m.b.natAbs), .d ((.v (.bool (decide (m.c<0))))), .d (dN m.c.natAbs)] true))]) (fun n=>n<=xs.length/\ ∀j (h:j<xs.length),j<n->en xs[j] m<0) (fun n=>xs.length-n) 0 J ⟨aS _,fun j _ hj=>absurd hj we⟩ (fun _=>J) (fun n hk=>?_);obtain⟨n1,n2⟩:=hk;refine gF (v2:=fun hg21=>by simp only[ak];kernel_rfl) J J J J (fun hg21=>?_) (fun hg21=>?_)
   .
    refine ix _ J (my) J<|cl J (xD (l:=xs[n]' we) (m:=m) (hl:=hxb _ (cR we)) (hm:=hmb)) J<|br J J J (fun hc30=>?_) (fun hc30=>?_)
    .
     exact at_ (n+1) ⟨⟨we,fun j h hj=>by by_cases q:j=n;(subst q;exact hc30);exact n2 j h we⟩,we⟩
    .
     have hidx:jt en m xs=n:=p8 en n1 n2 (fun h=>hc30);exact at_ () trivial
   .
    have hidx:jt en m xs=n:=p8 en n1 n2 (fun h=>absurd h we);exact at_ () trivial
  .
   obtain⟨n,hnx⟩: ∃n,jt en m xs=n:=⟨_,rfl⟩;rw[hnx];have hnl:n<=xs.length:=by rw[<-hnx];exact yN _ _ _
   refine gF (v1:=fun hg36=>by simp only[ak];kernel_rfl) J J J J (fun hg36=>?_) (fun hg36=>?_)
   .
    have hnew: ∀h:n<xs.length,en xs[n] m≠0:=fun h=>absurd h we;obtain⟨ys,hys⟩: ∃ys,ys=xs.take n++m::xs.drop n:=⟨_,rfl⟩;have hin:c9 en m xs=ys:=by rw[hys];exact oH en hnx hnew
    have hyl:ys.length<=xs.length+1:=by rw[hys];simp;omega
    refine s3 n _ J J J J (dO _) omA J<|ro J J<|je n xs.length _ J J oke J (dO _) hnl we J<|ap _ J J (oF dO _ _ _) J<|kp (hv:=by simp only[ak];exact⟨omd,we⟩) (ho:=fun _=>⟨pI dO _ _,omc⟩) (ys.map eL) J omw (qj dO _ _ _ _) J<|at_ ⟨ys,k+1⟩ omv
   .
    refine ix _ J (my) J<|cl J (xD (l:=xs[n]' we) (m:=m) (hl:=hxb _ (cR we)) (hm:=hmb)) J<|br J J J (fun hc45=>?_) (fun hc45=>?_)
    .
     have hnew: ∀h:n<xs.length,en xs[n] m≠0:=fun h=>hc45;obtain⟨ys,hys⟩: ∃ys,ys=xs.take n++m::xs.drop n:=⟨_,rfl⟩;have hin:c9 en m xs=ys:=by rw[hys];exact oH en hnx hnew
     have hyl:ys.length<=xs.length+1:=by rw[hys];simp;omega
     refine s3 n _ J J J J (dO _) omA J<|ro J J<|je n xs.length _ J J oke J (dO _) hnl we J<|ap _ J J (oF dO _ _ _) J<|kp (hv:=by simp only[ak];exact⟨omd,we⟩) (ho:=fun _=>⟨pI dO _ _,omc⟩) (ys.map eL) J omw (qj dO _ _ _ _) J<|at_ ⟨ys,k+1⟩ omv
    .
     have hin:c9 en m xs=xs:=wL en hnx we (Decidable.not_not.1 hc45);exact at_ ⟨xs,k+1⟩ omv
 .
  have hfin:mi ls=xs:=by rw[hS,F9];rfl
  exact rz J omY
def CB{α:Type}{c:α->α->Int}(hc: ∀u x,c u x=0->u=x){x y:α}: ∀{xs:List α},y=x\/y∈xs->y∈c9 c x xs
 |[],h=>by
  rcases h with rfl|h
  .rw[c9];exact aR.2 J
  .cases h
 |u::t,h=>by
  rw[c9];split
  .rcases h with rfl|h
   .exact aJ _ (CB hc (.inl J))
   .rcases aW.1 h with rfl|h
    .exact aZ
    .exact aJ _ (CB hc (.inr h))
  .split
   .rename_i h0
    rcases h with rfl|h
    .rw[<-hc _ _ h0];exact aZ
    .exact h
   .rcases h with rfl|h
    .exact aZ
    .exact aJ _ h
def Ma{α:Type}{c:α->α->Int}(hc: ∀u x,c u x=0->u=x){y:α}: ∀{l o:List α},y∈l\/y∈o->y∈l.foldl (fun out x=>c9 c x out) o
 |[],o,h=>h.elim (fun h=>by cases h) id
 |x::t,o,h=>by
  refine Ma hc (l:=t) ?_;rcases h with h|h
  .rcases aW.1 h with rfl|h
   .exact .inr (CB hc (.inl J))
   .exact .inl h
  .exact .inr (CB hc (.inr h))
def OO{x:aa}(h:x∈ls):x.canon∈mi ls:=
 Ma (fun u x e=>(BW u x).1 e) (.inl (fQ h))
def Tw(l:aa)(p:ah):l.canon.value p=l.value p\/l.canon.value p= -l.value p:=by
 unfold aa.canon;split
 .exact .inr (fA l p)
 .exact .inl J
def GD:dP (mi ls) p↔dP ls p:=by
 constructor
 .intro h l hl e
  have:=h _ (OO hl);rcases Tw l p with k|k<;>rw[k,e] at this<;>exact this omc
 .intro h l hl e
  obtain⟨x,hx,rfl⟩:=CP hl;have:=h x hx;rcases Tw x p with k|k<;>rw[k] at e
  .exact this e
  .exact this omb
def Vz{q:ah}(hp:dP ls p)(hq:dP ls q)(h: ∀l∈mi ls,0<l.value p↔0<l.value q): ∀l∈ls,0<l.value q↔0<l.value p:=fun l hl=>by
 have h1:=h _ (OO hl);have h2:=hp l hl;have h3:=hq l hl;unfold aa.canon at h1;split at h1
 .rw[fA,fA] at h1
  constructor
  .intro k
   rcases kt (l.value p) with e|e|e
   .exact absurd e h2
   .exact e
   .have:=h1.1 omb;grind
  .intro k
   rcases kt (l.value q) with e|e|e
   .exact absurd e h3
   .exact e
   .have:=h1.2 omb;grind
 .exact h1.symm
def pi(a b:Tr):List ah:=p7 (mi (a.lns++b.lns))
def Yk(ha:a.all aa.ok)(hb:b.all aa.ok){R:Bool->Bool->Prop}:(∀p∈pi a b,R (kd a p) (kd b p))↔ ∀p,dP (a.lns++b.lns) p->R (a.val p) (b.val p):=by
 have hok: ∀l∈a.lns++b.lns,l.ok:=fun l hl=>(bX.1 hl).elim (wo ha l) (wo hb l);have hne: ∀l∈mi (a.lns++b.lns),l.Ne:=fun l hl=>by
  obtain⟨x,hx,rfl⟩:=CP hl;exact(OG (hok x hx)).ne
 constructor
 .intro h p hp
  obtain⟨q,hq,hs⟩:=axW hne (GD.2 hp);have ho:=GD.1 (Qb hne hq);have hsd:=Vz hp ho hs;have k:=h q hq;rw[zH (dP.app.1 ho).1,zH (dP.app.1 ho).2,Eu (t:=a) hsd (fun l hl=>bM _ hl),Eu (t:=b) hsd (fun l hl=>bU _ hl)] at k;exact k
 .intro h p hp
  have ho:=GD.1 (Qb hne hp);rw[zH (dP.app.1 ho).1,zH (dP.app.1 ho).2];exact h p ho
def uz(a b:Tr):Bool:=(pi a b).all fun p=>kd a p==kd b p
def azr(ha:a.all aa.ok)(hb:b.all aa.ok):uz a b=FQ 4 a b:=by
 rw[rZ,(wz.mk0 ha hb).none,uz,dJ,Yk ha hb (R:=fun x y=>(x==y)=true)];unfold vh;simp
def Zj(ha:a.all aa.ok)(hb:b.all aa.ok)(hL: ∀l∈L,l.ok)(hLa: ∀l∈a.lns,l∈L)(hLb: ∀l∈b.lns,l∈L)(h: ∀p,dP L p->a.val p=b.val p):uz a b=true:=by
 rw[azr ha hb,(wz.mk ha hb hL hLa hLb).none];intro p hp;rw[h p hp];unfold vh;simp
def Sw{α:Type}{c:α->α->Int}(hT: ∀u v w,c u v<0->c v w<0->c u w<0)(hA: ∀u v,¬c u v<0->c u v≠0->c v u<0){x:α}: ∀{xs:List α},xs.Pairwise (fun a b=>c a b<0)->(c9 c x xs).Pairwise (fun a b=>c a b<0)
 |[],_=>by rw[c9];exact List.pairwise_singleton _ _
 |u::t,h=>by
  obtain⟨h1,h2⟩:=bY.1 h;rw[c9];split
  .rename_i hu
   refine bY.2 ⟨fun y hy=>?_,Sw hT hA h2⟩;rcases IT c hy with rfl|hy
   .exact hu
   .exact h1 y hy
  .rename_i hu
   split
   .exact h
   .rename_i hz
    have hx:=hA u x hu hz;refine bY.2 ⟨fun y hy=>?_,h⟩;rcases aW.1 hy with rfl|hy
    .exact hx
    .exact hT _ _ _ hx (h1 y hy)
def NX{α:Type}{c:α->α->Int}(hT: ∀u v w,c u v<0->c v w<0->c u w<0)(hA: ∀u v,¬c u v<0->c u v≠0->c v u<0): ∀{l o:List α},o.Pairwise (fun a b=>c a b<0)->(l.foldl (fun out x=>c9 c x out) o).Pairwise (fun a b=>c a b<0)
 |[],o,h=>h
 |x::l,o,h=>NX (l:=l) (o:=c9 c x o) hT hA (Sw hT hA h)
def eD.trans{u v w:ah}(hu:u.half≠0)(hv:v.half≠0)(hw:w.half≠0)(h:eD u v)(k:eD v w):eD u w:=by
 rcases h with h|⟨h,h'⟩<;>rcases k with k|⟨k,k'⟩
 .exact .inl we
 .exact .inl we
 .exact .inl we
 .refine .inr ⟨h.trans k,?_⟩
  have id1:u.cross w*v.y=u.cross v*w.y+v.cross w*u.y:=by unfold ah.cross;grind
  rcases vN v with⟨x,q⟩|⟨x,q⟩|⟨x,q⟩
  .rw[x] at h k
   have qu:=qa.1 h;have qw:=qa.1 k.symm;rcases q with q|⟨q,q'⟩
   .rw[<-gh q,id1]
    have wy:0<=w.y:=by grind
    have uy:0<=u.y:=by grind
    have a1:=dh (dX h') wy;rcases qu with qu|⟨qu,qu'⟩
    .have:=dx k' qu;grind
    .rcases qw with qw|⟨qw,qw'⟩
     .have:=dx h' qw;rw[qu];grind
     .exfalso
      have hx:v.cross w= -(w.x*v.y):=by unfold ah.cross;rw[qw];grind
      have:=dx qw' q;grind
   .exfalso
    have hx:u.cross v= -(v.x*u.y):=by unfold ah.cross;rw[q];grind
    have:=dh (a:=v.x) (b:=u.y) (dX q') omb;grind
  .rw[x] at h k
   have qu:=wA.1 h;have qw:=wA.1 k.symm;rcases q with q|⟨q,q'⟩
   .have e1:u.cross w* -v.y=u.cross v* -w.y+v.cross w* -u.y:=by grind
    rw[<-gh (k:= -v.y) omb,e1];have a1:=dh (a:=u.cross v) (b:= -w.y) (dX h') omb;rcases qu with qu|⟨qu,qu'⟩
    .have:=dx (a:=v.cross w) (b:= -u.y) k' omb;grind
    .rcases qw with qw|⟨qw,qw'⟩
     .have:=dx (a:=u.cross v) (b:= -w.y) h' omb;rw[qu];grind
     .exfalso
      have hx:v.cross w= -(-w.x* -v.y):=by unfold ah.cross;rw[qw];grind
      have:=dx (a:= -w.x) (b:= -v.y) omb omb;grind
   .exfalso
    have hx:u.cross v= -(-v.x* -u.y):=by unfold ah.cross;rw[q];grind
    have:=dh (a:= -v.x) (b:= -u.y) omb omb;grind
  .exact absurd x hv
def D7(h:l.ok):l.dir.half≠0:=fun e=>by
 have hn:=h.ne;unfold aa.Ne at hn;rcases vN l.dir with⟨k,_⟩|⟨k,_⟩|⟨_,k1,k2⟩
 .rw[k] at e;cases e
 .rw[k] at e;cases e
 .unfold aa.dir at k1 k2
  simp only at k1 k2;apply hn;refine⟨?_,cX.1 k2⟩;have:(l.a:Rat)=0:=by grind
  exact cX.1 this
def Vh(q:Rat):q*((q.den:Nat):Rat)=((q.num:Int):Rat):=by
 have h:((q.den:Nat):Rat)≠0:=fun e=>q.den_nz (by exact_mod_cast e);have h2:((q.num:Int):Rat)/((q.den:Nat):Rat)=q:=by have:=oN q;rwa [mL] at this
 grind
def Xk:gm u v=0↔u.half=v.half/\u.cross v=0:=by
 unfold gm;split
 .constructor
  .intro h;exact absurd h oma
  .intro h;omega
 .split
  .constructor
   .intro h;exact absurd h oma
   .intro h;omega
  .constructor
   .intro h
    exact⟨we,(qg _).1 we⟩
   .intro h
    rw[(qg _).2 h.2];rfl
def Ae(h:eD u v)(k:eD v w):eD u w:=by
 by_cases hu:u.half=0
 .by_cases hw:w.half=0
  .have z: ∀x y:ah,x.half=0->x.cross y=0:=fun x y hx=>by
    rcases vN x with⟨e,_⟩|⟨e,_⟩|⟨_,e1,e2⟩
    .rw[hx] at e;exact absurd e oma
    .rw[hx] at e;exact absurd e oma
    .unfold ah.cross;rw[e1,e2];grind
   rcases h with h|⟨h,h'⟩
   .rcases k with k|⟨k,k'⟩
    .omega
    .have hv:v.half≠0:=by omega
     omega
   .rw[z u v hu] at h';exact absurd h' oma
  .refine .inl ?_
   have h1:=oO hw;omega
 .have hv:v.half≠0:=by
   intro e;rcases h with h|⟨h,_⟩
   .have:=oO hu;omega
   .omega
  have hw:w.half≠0:=by
   intro e;rcases k with k|⟨k,_⟩
   .have:=oO hv;omega
   .omega
  exact eD.trans hu hv hw h k
section
variable (c:α->α->Int)
end
def x8(u:ah): ¬eD u u:=by
 rintro (h|⟨_,h⟩)
 .omega
 .have:u.cross u=0:=by unfold ah.cross;grind
  rw[this] at h;exact absurd h oma
def BY(h:eD u v)(k:eD v u):False:=x8 u (Ae h k)
def UD{x y:ah}(h: ¬eD x y)(k: ¬eD y x):gm x y=0:=by
 rw[<-yo] at h k;unfold gm at*;split at h<;>try omega
 split at h<;>try omega
 split at k<;>try omega
 rw[show y.cross x= -(x.cross y) by unfold ah.cross;grind,oX,Int.sign_neg] at k;omega
end Go.Sx
end
