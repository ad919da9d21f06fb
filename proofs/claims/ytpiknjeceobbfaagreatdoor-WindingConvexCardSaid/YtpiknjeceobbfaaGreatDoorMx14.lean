import Derived.Test.YtpiknjeceobbfaaGreatDoorMx13
set_option linter.all false
set_option maxHeartbeats 4000000
set_option maxRecDepth 100000
section
namespace Go.Sx
open Go Go.Proofs Tryz
variable {GB:Gh}
def ck(v:aa):aa:=v.scale (rgcd v.x v.y)⁻¹
def jh(t:Tr)(p:aa):List aa:=(kd t p).flatMap fun l=>[ck l.dir,bc (ck l.dir)]
def gz(ds:List aa):List aa:=BY cA ds
def pO{t:Tr}{p d:aa}:d∈jh t p↔ ∃l∈kd t p,d=ck l.dir\/d=bc (ck l.dir):=by
 unfold jh;rw[cR];constructor
 ·rintro ⟨l,h1,h2⟩
  refine⟨l,h1,?_⟩;rcases aU.1 h2 with h|h
  ·exact .inl h
  ·exact .inr (aV.1 h)
 ·rintro ⟨l,h1,rfl|rfl⟩
  ·exact⟨l,h1,aQ⟩
  ·exact⟨l,h1,aZ _ aQ⟩
def O5{x y:Rat}(h:x≠0\/y≠0):0<rgcd x y:=by
 unfold rgcd;have hd:0<x.den*y.den:=iY x.den_pos y.den_pos;have hg:0<Nat.gcd (x.num.natAbs*y.den) (y.num.natAbs*x.den):=by
  rcases h with h|h
  ·exact kM _ (iY (Int.natAbs_pos.2 fun e=>h (kN.1 e)) y.den_pos)
  ·exact mY _ (iY (Int.natAbs_pos.2 fun e=>h (kN.1 e)) x.den_pos)
 generalize Nat.gcd (x.num.natAbs*y.den) (y.num.natAbs*x.den)=g at*;generalize x.den*y.den=d at*;rw[<-DF];have h1:mkRat (g:Int) d=(g:Rat)/(d:Rat):=by rw[nJ];rfl
 rw[DF,h1];have hg':(0:Rat)<(g:Rat):=by exact_mod_cast hg
 have hd':(0:Rat)<(d:Rat):=by exact_mod_cast hd
 have e:(g:Rat)/(d:Rat)*(d:Rat)=(g:Rat):=by grind
 exact(eO (k:=(d:Rat)) hd').1 (by rw[e];exact hg')
def Xu{v:aa}(h:v.half≠0):v.x≠0\/v.y≠0:=by
 rcases jj v with⟨_,k⟩|⟨_,k⟩|⟨k,_⟩
 ·rcases k with k|⟨_,k⟩
  ·exact .inr (by grind)
  ·exact .inl (by grind)
 ·rcases k with k|⟨_,k⟩
  ·exact .inr (by grind)
  ·exact .inl (by grind)
 ·exact absurd k h
def u5{v:aa}(h:v.half≠0): ∃a:Rat,0<a/\ck v=⟨a*v.x,a*v.y⟩:=by
 have hg:=O5 (Xu h);refine⟨(rgcd v.x v.y)⁻¹,?_,?_⟩
 ·generalize rgcd v.x v.y=g at*
  have e:g⁻¹*g=1:=by grind
  exact(eO (k:=g) hg).1 (by rw[e];decide)
 ·unfold ck aa.scale
  simp only[aa.mk.injEq];constructor<;>grind
def VX(v:aa):ck (bc v)=bc (ck v):=by
 have e:rgcd (-v.x) (-v.y)=rgcd v.x v.y:=by
  unfold rgcd;rw[lW,lW,nN,nN,iJ,iJ]
 unfold ck aa.scale bc;simp only[aa.mk.injEq,e];constructor<;>grind
def yq{v:aa}(h:v.half≠0):(ck v).half=v.half:=by
 obtain⟨a,a1,e⟩:=u5 h;have:=E4 (a:=a) (b:=a) (u:=v) (w:=v) a1 a1 J h;rw[<-this];have h2:ck v=fk (a*(1/2)) (a*(1/2)) v v:=by rw[e];unfold fk;simp only[aa.mk.injEq];constructor<;>grind
 have h3:=E4 (a:=a*(1/2)) (b:=a*(1/2)) (u:=v) (w:=v) (bj a1 (by grind)) (bj a1 (by grind)) J h;rw[h2,h3,this]
def Vl{u v:aa}:cA u v=0↔u.half=v.half/\u.cross v=0:=by
 unfold cA;split
 ·constructor
  ·intro h;exact absurd h (by decide)
  ·intro h;omega
 ·split
  ·constructor
   ·intro h;exact absurd h (by decide)
   ·intro h;omega
  ·constructor
   ·intro h
    exact⟨by omega,(jf _).1 (by omega)⟩
   ·intro h
    rw[(jf _).2 h.2];rfl
def uE{u v w:aa}(h:cd u v)(k:cd v w):cd u w:=by
 by_cases hu:u.half=0
 ·by_cases hw:w.half=0
  ·have z: ∀x y:aa,x.half=0->x.cross y=0:=fun x y hx=>by
    rcases jj x with⟨e,_⟩|⟨e,_⟩|⟨_,e1,e2⟩
    ·rw[hx] at e;exact absurd e (by decide)
    ·rw[hx] at e;exact absurd e (by decide)
    ·unfold aa.cross;rw[e1,e2];grind
   rcases h with h|⟨h,h'⟩
   ·rcases k with k|⟨k,k'⟩
    ·omega
    ·have hv:v.half≠0:=by omega
     omega
   ·rw[z u v hu] at h';exact absurd h' (by decide)
  ·refine .inl ?_
   have h1:=fq hw;omega
 ·have hv:v.half≠0:=by
   intro e;rcases h with h|⟨h,_⟩
   ·have:=fq hu;omega
   ·omega
  have hw:w.half≠0:=by
   intro e;rcases k with k|⟨k,_⟩
   ·have:=fq hv;omega
   ·omega
  exact cd.trans hu hv hw h k
section
variable {α:Type} (c:α->α->Int)
def Ir{x y:α}: ∀{xs:List α},y∈xs->y∈fC c x xs
 |[],h=>by cases h
 |u::t,h=>by
  rw[fC];split
  ·rcases aU.1 h with rfl|h
   ·exact aQ
   ·exact aZ _ (Ir h)
  ·split
   ·exact h
   ·exact aZ _ h
def JU{x:α}: ∀{xs:List α},∃e∈fC c x xs,e=x\/c e x=0
 |[]=>⟨x,aQ, .inl J⟩
 |u::t=>by
  rw[fC];split
  ·obtain⟨e,h1,h2⟩:=JU (x:=x) (xs:=t)
   exact⟨e,aZ _ h1,h2⟩
  ·split
   ·exact⟨u,aQ, .inr (by assumption)⟩
   ·exact⟨x,aQ, .inl J⟩
def I2{y:α}: ∀{l o:List α},y∈o->y∈l.foldl (fun out x=>fC c x out) o
 |[],o,h=>h
 |x::t,o,h=>I2 (l:=t) (Ir c h)
def zT{d:α}: ∀{l o:List α},d∈l-> ∃e∈l.foldl (fun out x=>fC c x out) o,e=d\/c e d=0
 |[],o,h=>by cases h
 |x::t,o,h=>by
  rcases aU.1 h with rfl|h
  ·obtain⟨e,h1,h2⟩:=JU c (x:=d) (xs:=o)
   exact⟨e,I2 c (l:=t) h1,h2⟩
  ·exact zT (l:=t) h
end
def wo(ds:List aa):(gz ds).Pairwise cd:=by
 have:=EN (c:=cA) (fun u v w h k=>o9.2 (uE (o9.1 h) (o9.1 k))) (fun u v h k=>o9.2 (RZ.1 (by omega))) (l:=ds) (o:=[]) List.Pairwise.nil;exact this.imp fun h=>o9.1 h
def FZ{l m:ab}(hl:l.ok)(hm:m.ok){p:aa}(h1:l.value p=0)(h2:m.value p=0){d e:aa}(hd:d=ck l.dir\/d=bc (ck l.dir))(he:e=ck m.dir\/e=bc (ck m.dir))(h:cA d e=0):d=e:=by
 obtain⟨hh,hc⟩:=Vl.1 h;have zl:=sE hl;have zm:=sE hm;have zpl:(ck l.dir).half≠0:=by rw[yq zl];exact zl
 have zpm:(ck m.dir).half≠0:=by rw[yq zm];exact zm
 have cr:l.dir.cross m.dir=0:=by
  obtain⟨a,a1,e1⟩:=u5 zl;obtain⟨b,b1,e2⟩:=u5 zm;have c0:(ck l.dir).cross (ck m.dir)=0:=by
   rcases hd with rfl|rfl<;>rcases he with rfl|rfl
   ·exact hc
   ·rw[kA] at hc;grind
   ·rw[eE,kA] at hc;rw[eE];grind
   ·rw[kA,eE,kA] at hc;rw[eE];grind
  have e3:(ck l.dir).cross (ck m.dir)=(a*b)*l.dir.cross m.dir:=by rw[e1,e2];unfold aa.cross;grind
  have hab:=bj a1 b1;rw[e3] at c0;clear e1 e2 e3;generalize a*b=k at*;generalize l.dir.cross m.dir=z at*;rcases dF z with q|q|q
  ·exact q
  ·have:=bj hab q;grind
  ·have:=bj (a:=k) (b:= -z) hab (by grind);grind
 have dirR: ∀k:ab,k.rev.dir=bc k.dir:=fun k=>by
  unfold ab.dir ab.rev bc;simp only[aa.mk.injEq,pZ]
  try constructor<;>grind
 have cdir: ∀k:ab,k.canon.dir=k.dir\/k.canon.dir=bc k.dir:=fun k=>by
  unfold ab.canon;split
  ·exact .inr (dirR k)
  ·exact .inl J
 have cval: ∀k:ab,k.value p=0->k.canon.value p=0:=fun k hk=>by rcases Co k p with e|e<;>rw[e,hk]<;>rfl
 have okc: ∀k:ab,k.ok->k.canon.ok:=fun k hk=>by unfold ab.canon;split;exact hk.rev;exact hk
 have ec:l.canon=m.canon:=SJ (okc l hl) (okc m hm) (Cl hl) (Cl hm) (cval l h1) (cval m h2) (by
  rcases cdir l with e1|e1<;>rcases cdir m with e2|e2<;>rw[e1,e2]
  ·exact cr
  ·rw[kA,cr];rfl
  ·rw[eE,kA,eE,cr];rfl
  ·rw[kA,eE,kA,eE,cr];rfl)
 have hdir:l.dir=m.dir\/l.dir=bc m.dir:=by
  have e1:=cdir l;have e2:=cdir m;rw[ec] at e1;rcases e1 with e1|e1<;>rcases e2 with e2|e2
  ·exact .inl (e1.symm.trans e2)
  ·exact .inr (e1.symm.trans e2)
  ·right;rw[<-e2,e1,wk]
  ·left;rw[<-wk l.dir,<-e1,e2,wk]
 have hP:ck l.dir=ck m.dir\/ck l.dir=bc (ck m.dir):=by
  rcases hdir with e|e
  ·exact .inl (by rw[e])
  ·exact .inr (by rw[e,VX])
 have hn:=po zpm;have h3:=fq zpm;have key:d=ck m.dir\/d=bc (ck m.dir):=by
  rcases hd with rfl|rfl<;>rcases hP with e|e
  ·exact .inl e
  ·exact .inr e
  ·exact .inr (by rw[e])
  ·exact .inl (by rw[e,wk])
 rcases key with rfl|rfl<;>rcases he with rfl|rfl
 ·rfl
 ·exfalso;omega
 ·exfalso;omega
 ·rfl
def MK{t:Tr}(ht:t.all ab.ok)(p:aa):(gz (jh t p)).Pairwise cd/\r8 (gz (jh t p))/\ ∀y,y∈gz (jh t p)↔y∈jh t p:=by
 have h2: ∀y,y∈gz (jh t p)->y∈jh t p:=fun y hy=>by
  rcases wD cA hy with h|h
  ·exact h
  ·cases h
 have h3: ∀y,y∈jh t p->y∈gz (jh t p):=fun y hy=>by
  obtain⟨e,e1,e2⟩:=zT cA (o:=[]) hy;rcases e2 with rfl|e2
  ·exact e1
  ·obtain⟨l,k1,k2⟩:=pO.1 hy
   obtain⟨m,k3,k4⟩:=pO.1 (h2 e e1);obtain⟨a1,a2⟩:=ot k1;obtain⟨b1,b2⟩:=ot k3;rw[<-FZ (q6 ht _ b1) (q6 ht _ a1) b2 a2 k4 k2 e2];exact e1
 refine⟨wo _,⟨fun d hd=>?_,fun d hd=>?_⟩,fun y=>⟨h2 y,h3 y⟩⟩
 ·obtain⟨l,k1,k2⟩:=pO.1 (h2 d hd)
  have z:=sE (q6 ht _ (ot k1).1);have z2:(ck l.dir).half≠0:=by rw[yq z];exact z
  rcases k2 with rfl|rfl
  ·exact z2
  ·exact Uy z2
 ·obtain⟨l,k1,k2⟩:=pO.1 (h2 d hd)
  refine h3 _ (pO.2 ⟨l,k1,?_⟩);rcases k2 with rfl|rfl
  ·exact .inr J
  ·exact .inl (wk _)
def JD{t:Tr}(ht:t.all ab.ok){p v:aa}(hv:v∈eG (gz (jh t p))):Gn (kd t p) p v:=by
 obtain⟨h1,h2,h3⟩:=MK ht p;have key:(∀d∈gz (jh t p),d.cross v≠0)->Gn (kd t p) p v:=fun k l hl hz e=>by
  have z:=sE (q6 ht _ (ot hl).1);obtain⟨a,a1,a2⟩:=u5 z;refine k _ ((h3 _).2 (pO.2 ⟨l,hl, .inl J⟩)) ?_;rw[<-uv] at e;have:(ck l.dir).cross v=a*l.dir.cross v:=by rw[a2];unfold aa.cross;grind
  rw[this,e];grind
 generalize gz (jh t p)=ds at*;unfold eG at hv;split at hv
 ·rename_i hn
  refine key fun d hd=>?_;rw[List.length_eq_zero_iff.1 hn] at hd;cases hd
 ·obtain⟨i,hi,rfl⟩:=bK.1 hv
  rw[fV] at hi;have hj:(i+1)%ds.length<ds.length:=cS _ (by omega);have hx:=GH h1 h2 hi hj;have mu:=gL hi;have mw:=gL hj;have hp:=hx.pos h2 mu mw;refine key ?_;unfold jp;rw[x8 hi,x8 hj];split
  ·rename_i k
   have hc:=(jD _).1 k;rw[MP];exact hx.gen h2 mu mw (by grind) (by decide) (by decide)
  ·rename_i k
   exact hx.turn h2 mu mw (by have: ¬0<ds[i].cross ds[(i+1)%ds.length]:=fun e=>k ((jD _).2 e);grind)
def K3{t:Tr}(ht:t.all ab.ok){p x:aa}(hx:Gn (kd t p) p x): ∃v∈eG (gz (jh t p)),(gi t p v).1=(gi t p x).1:=by
 obtain⟨h1,h2,h3⟩:=MK ht p;have cr: ∀l∈kd t p,∃a:Rat,0<a/\ ∀y,(ck l.dir).cross y=a*l.nor.dot y:=fun l hl=>by
  obtain⟨a,a1,a2⟩:=u5 (sE (q6 ht _ (ot hl).1));exact⟨a,a1,fun y=>by rw[a2,<-uv];unfold aa.cross;grind⟩
 by_cases hn:gz (jh t p)=[]
 ·refine⟨⟨1,0⟩,by unfold eG;rw[if_pos (by rw[hn];rfl)];exact aQ,?_⟩
  rw[wJ fun l hl=>?_];have:=(h3 _).2 (pO.2 ⟨l,hl, .inl J⟩);rw[hn] at this;cases this
 ·obtain⟨i,hi,hs⟩:=Xk h1 h2 hn (x:=x) fun d hd=>by
   obtain⟨l,k1,k2⟩:=pO.1 ((h3 d).1 hd);obtain⟨a,a1,a2⟩:=cr l k1;have hz:=hx l k1 (ot k1).2;have e:(ck l.dir).cross x≠0:=by rw[a2];grind
   rcases k2 with rfl|rfl
   ·exact e
   ·intro q;apply e;unfold aa.cross bc at*;grind
  refine⟨jp (gz (jh t p)) i,?_,?_⟩
  ·unfold eG
   rw[if_neg (by omega)];exact bK.2 ⟨i,fV.2 hi,J⟩
  ·rw[wJ fun l hl=>?_]
   have:=hs _ ((h3 _).2 (pO.2 ⟨l,hl, .inl J⟩));obtain⟨a,a1,a2⟩:=cr l hl;rw[a2,a2] at this;have sg: ∀z:Rat,Int.sign (a*z).num=Int.sign z.num:=fun z=>by
    rcases dF z with k|k|k
    ·subst k;rw[show a*0=0 by grind]
    ·rw[(iH _).2 k,(iH _).2 (bj a1 k)]
    ·rw[rx k,rx (by have:=bj (a:=a) (b:= -z) a1 (by grind);grind)]
   rw[sg,sg] at this;exact this.symm
def uH(t:Tr)(p:aa):Bool:=(eG (gz (jh t p))).any fun v=>(gi t p v).1
def Br(t:Tr)(p:aa):Bool:=(eG (gz (jh t p))).all fun v=>(gi t p v).1
def kH(t:Tr)(p:aa):Int:=if uH t p&&Br t p then 2 else if uH t p then 1 else 0
def CS{t:Tr}(ht:t.all ab.ok){p:aa}:uH t p=true↔qm t p true:=by
 unfold uH;rw[jQ];constructor
 ·rintro ⟨v,h1,h2⟩;exact⟨v,JD ht h1,h2⟩
 ·rintro ⟨x,h1,h2⟩
  obtain⟨v,k1,k2⟩:=K3 ht h1;exact⟨v,k1,by rw[k2,h2]⟩
def Ha{t:Tr}(ht:t.all ab.ok){p:aa}:Br t p=true↔ ¬qm t p false:=by
 unfold Br;rw[cM];constructor
 ·rintro h ⟨x,h1,h2⟩
  obtain⟨v,k1,k2⟩:=K3 ht h1;have:=h v k1;rw[k2,h2] at this;cases this
 ·intro h v hv
  cases hb:(gi t p v).1 with
  |true=>rfl
  |false=>exact absurd ⟨v,JD ht hv,hb⟩ h
def Hz(t:Tr)(p:aa):kH t p=0\/kH t p=1\/kH t p=2:=by
 unfold kH;split
 ·exact .inr (.inr J)
 ·split
  ·exact .inr (.inl J)
  ·exact .inl J
def zy{t:Tr}(ht:t.all ab.ok){p:aa}:kH t p=2↔ ¬qm t p false:=by
 unfold kH;constructor
 ·intro h
  split at h
  ·rename_i k;rw[aM] at k;exact(Ha ht).1 k.2
  ·split at h<;>exact absurd h (by decide)
 ·intro h
  have h1:=(Ha ht).2 h;have h2:=(CS ht).2 ((O' ht p).resolve_right h);rw[h1,h2];rfl
def xJ{t:Tr}(ht:t.all ab.ok){p:aa}:kH t p=0↔ ¬qm t p true:=by
 unfold kH;constructor
 ·intro h k
  rw[(CS ht).2 k] at h;split at h
  ·exact absurd h (by decide)
  ·exact absurd h (by decide)
 ·intro h
  have h1:uH t p=false:=by
   cases e:uH t p with
   |false=>rfl
   |true=>exact absurd ((CS ht).1 e) h
  rw[h1];rfl
def q7(u:aa): ¬cd u u:=by
 rintro (h|⟨_,h⟩)
 ·omega
 ·have:u.cross u=0:=by unfold aa.cross;grind
  rw[this] at h;exact absurd h (by decide)
def vq{u v:aa}(h:cd u v)(k:cd v u):False:=q7 u (uE h k)
def J0{x y:aa}(h: ¬cd x y)(k: ¬cd y x):cA x y=0:=by
 rw[<-o9] at h k;unfold cA at*;split at h<;>try omega
 split at h<;>try omega
 split at k<;>try omega
 rw[show y.cross x= -(x.cross y) by unfold aa.cross;grind,lW,Int.sign_neg] at k;omega
def sW(l:List aa):gn 6 (l.map eZ):=fun d hd=>by
 obtain⟨x,_,rfl⟩:=bK.1 hd;exact⟨J,J⟩
instance aw.negp (p:aa) (i:Nat) [h:aw p i]:aw (bc p) i:=⟨inferInstanceAs (BQ (-p.x) i),inferInstanceAs (BQ (-p.y) i)⟩
instance aw.prip (l:ab) [LB l]:aw (ck l.dir) 500:=by
 have h:=(inferInstance:aw (l.dir.scale (rgcd l.dir.x l.dir.y)⁻¹) _);exact⟨h.x.mono (by decide),h.y.mono (by decide)⟩
def KE{p:aa}{i:Nat}[h:aw p i](hi:i<=900000000:=by decide):PF GB prog 196 [eZ p] (eZ (bc p)):=by
 refine fn func196 J J ntmps196 J J (fun C=>?_);refine cl J (sd (q:=p.x) (i:=i) hi) J<|cl J (sd (q:=p.y) (i:=i) hi) J<|?_;exact rz J J
def II{p:aa}{i:Nat}[h:aw p i](hi:i<=900000000:=by decide):PF GB prog 194 [eZ p] (eZ (fG p)):=by
 refine fn func194 J J ntmps194 J J (fun C=>?_);refine cl J (sd (q:=p.y) (i:=i) hi) J<|?_;exact rz J J
def PU{p:aa}{i:Nat}[h:aw p i](hi:i<=1000000:=by decide):PF GB prog 195 [eZ p] (eZ (ck p)):=by
 refine fn func195 J J ntmps195 J J (fun C=>?_);refine cl J (vD (p:=p.x) (q:=p.y) (i:=i) (j:=i) (by omega) (by omega)) J<|cl J (yX (q:=rgcd p.x p.y) (i:=i+i+(i+i)) (by omega)) J<|?_;refine cl J (vA (p:=p) (c:=(rgcd p.x p.y)⁻¹) (i:=i) (j:=i+i+(i+i)) (by omega) (by omega)) J<|?_;exact rz J J
def KZ{q:Rat}{i:Nat}[h:BQ q i](hi:i<=400000000:=by decide):PF GB prog 92 [eR q] (eF q):=by
 haveI:BN q.num.natAbs i:=⟨h.hn⟩;haveI:BN q.den i:=⟨h.hd⟩;refine fn func92 J J ntmps92 J J (fun C=>?_);refine cl (fu:=⟨0⟩) J (s8 (n:=decide (q.num<0)) (a:=q.num.natAbs) (d:=q.den) (i:=i) (j:=i) (by omega) (by omega)) J<|?_;refine ak 7 (.d (eF q)) J (by rw[kl,Rat.mkRat_self]) ?_;refine gx J<|?_;exact rz J J
def vu{p:aa}{i:Nat}[h:aw p i](hi:i<=400000000:=by decide):PF GB prog 46 [jI p] (eZ p):=by
 refine fn func46 J J ntmps46 J J (fun C=>?_);refine cl J (KZ (q:=p.x) (i:=i) hi) J<|cl J (KZ (q:=p.y) (i:=i) hi) J<|?_;exact rz J J
def V0(G:Gh)(y:Value)(h:Is G (.sl [.ag [vI (dz 1),vI (du 1),dl 1,vI 0,vI 0, .v (.pointer none)]]) y):Is G (.sl ((eG []).map eZ)) y:=by
 obtain⟨s,x,es,rfl,h1,h2⟩:=jb.1 h;obtain⟨v,m,rfl,k,h3⟩:=cb.1 h2
 cases cF.1 h3
 refine jb.2 ⟨s,x,_,J,h1, .cons ?_ .nil⟩;obtain⟨m4,rfl,g4⟩:=e8.1 k;obtain⟨v1,m1,rfl,k1,g1⟩:=cb.1 g4;obtain⟨v2,m2,rfl,k2,g2⟩:=cb.1 g1;obtain⟨v3,m3,rfl,k3,g3⟩:=cb.1 g2;obtain⟨m5,q5,g5⟩:=e8.1 (uh _ _ (e8.2 ⟨m3,rfl,g3⟩))
 cases q5
 exact e8.2 ⟨_,J, .cons k1 (.cons k2 (.cons k3 g5))⟩
def KT{ds:List aa}{k:Nat}{u w:aa}(h1:ds[k]? =some u)(h2:ds[(k+1)%ds.length]? =some w):jp ds k=if 0<Int.sign (u.cross w).num then u.add w else fG u:=by
 unfold jp;rw[aJ,aJ,h1,h2];rfl
def JW(ds:List aa)(k:Nat):(List.range (k+1)).map (jp ds)=(List.range k).map (jp ds)++[jp ds k]:=by rw[List.range_succ,gX];rfl
def Ts:PF GB prog 142 [.sl []] (.sl ((eG []).map eZ)):=by
 refine fn (fu:=⟨10⟩) func142 J J ntmps142 J J (fun C=>?_);refine lB J (by rfl) J<|cl J (xn (by omega)) J<|rf J J<|?_;exact je J V0
def WP{ds:List aa}{i:Nat}(h0:0<ds.length)(hb: ∀d∈ds,aw d i)(hn:ds.length<=10000000)(hi:i<=1000000:=by decide):PF GB prog 142 [.sl (ds.map eZ)] (.sl ((eG ds).map eZ)):=by
 have hml:(ds.map eZ).length=ds.length:=aK ..;refine fn (fu:=⟨10⟩) func142 J J ntmps142 J J (fun C=>?_);refine ak 8 (.d (vI (ds.length:Nat))) J (by rw[hml]<;>rfl) ?_;refine gx (fu:=⟨0⟩) J<|ij (fu:=⟨15⟩) J (by show some (decide _)=some false;rw[decide_eq_false (by omega)]) J<|?_;refine ak 14 (.d (vI (ds.length:Nat))) J (by rw[hml]<;>rfl) ?_;refine gx J<|?_;refine nr 3 3 103 6 J J J ?_;refine lp (X:=List aa×Nat) (fun⟨acc,k⟩=>[(15, .d (vI (k:Nat))),(3, .rw 3)]) (fun⟨acc,k⟩=>[(3,some (.b 103 6 (acc.map eZ) true))]) (fun⟨acc,k⟩=>acc=(List.range k).map (jp ds)/\k<=ds.length) (fun⟨acc,k⟩=>ds.length-k) ⟨[],0⟩ J ⟨J,cK _⟩ (fun _=>J) (fun⟨acc,k⟩ hk=>?_)
 try dsimp only at hk⊢
 obtain⟨h1,h2⟩:=hk;have hal:acc.length=k:=by rw[h1,aK,pL]
 have ham:(acc.map eZ).length=acc.length:=aK ..;refine br J J J (fun hc16=>?_) (fun hc16=>?_)
 .
  obtain⟨u,hx⟩: ∃u,ds[k]? =some u:=⟨_,aX (by omega)⟩;obtain⟨w,hw⟩: ∃w,ds[(k+1)%ds.length]? =some w:=⟨_,aX (cS _ (by omega))⟩;haveI:=hb u (bJ hx);haveI:=hb w (bJ hw);refine ix (fu:=⟨13⟩) _ J (f9 hx) J<|?_;refine ak 24 (.d (vI (ds.length:Nat))) J (by rw[hml]<;>rfl) ?_;refine gx (fu:=⟨1⟩) J<|?_;refine ak 25 (.d (vI (((k+1)%ds.length:Nat):Int))) J J ?_;refine gx J<|ix _ J (f9 hw) J<|cl J (LU (p:=u) (q:=w) (by omega) (by omega)) J<|cl J (lz (q:=u.cross w) (by omega)) J<|?_;refine br J J J (fun hc32=>?_) (fun hc32=>?_)
  .
   refine cl J (yG (p:=u) (q:=w) (by omega) (by omega)) J<|rf J J<|ap ((acc++[u.add w]).map eZ) J (by rw[gX]<;>rfl) (sW [u.add w]) J<|?_;refine mt 38 3 J ?_;exact at_ ⟨acc++[u.add w],k+1⟩ (by dsimp only;exact⟨⟨by rw[JW,KT hx hw,if_pos hc32,<-h1],by omega⟩,(by omega)⟩)
  .
   refine cl J (II (p:=u) (by omega)) J<|rf J J<|ap ((acc++[fG u]).map eZ) J (by rw[gX]<;>rfl) (sW [fG u]) J<|?_;refine mt 43 3 J ?_;exact at_ ⟨acc++[fG u],k+1⟩ (by dsimp only;exact⟨⟨by rw[JW,KT hx hw,if_neg hc32,<-h1],by omega⟩,(by omega)⟩)
 .
  obtain rfl:k=ds.length:=by omega
  have hS:eG ds=acc:=by unfold eG;rw[if_neg (by omega),h1]
  refine n7 3 J ?_;exact rz J (by rw[hS];rfl)
def Wm{ds:List aa}{i:Nat}(hb: ∀d∈ds,aw d i)(hn:ds.length<=10000000)(hi:i<=1000000:=by decide):PF GB prog 142 [.sl (ds.map eZ)] (.sl ((eG ds).map eZ)):=by
 cases ds with
 |nil=>exact Ts
 |cons d ds=>exact WP (i:=i) (Nat.zero_lt_succ _) hb hn hi
def aC(a b p:aa):Rat:=(b.x-a.x)*(p.y-a.y)-(b.y-a.y)*(p.x-a.x)
def gy(v w p:aa):Int:=(if v.y<=p.y/\ ¬w.y<=p.y/\0<aC v w p then 1 else 0)-(if¬v.y<=p.y/\w.y<=p.y/\aC v w p<0 then 1 else 0)
def mP(v w q p:aa):Prop:= ∀s t:Rat,0<=s->s<=1->0<=t->t<=1->aD v w s≠aD q p t
def uW{a b:Rat}(h0:0<=a)(h1:a<=b)(hb:0<b):0<=a/b/\a/b<=1/\a/b*b=a:=by
 have e:a/b*b=a:=by grind
 generalize a/b=q at*;refine⟨?_,?_,e⟩
 ·exact(gO hb).1 (by rw[e];exact h0)
 ·have:=(gO (s:=1-q) hb).1 (by grind)
  grind
def RG{q p x:aa}(hy:q.y<p.y)(h:aC q p x=0)(h1:q.y<=x.y)(h2:x.y<=p.y): ∃t,0<=t/\t<=1/\x=aD q p t:=by
 obtain⟨a1,a2,a3⟩:=uW (a:=x.y-q.y) (b:=p.y-q.y) (by grind) (by grind) (by grind);refine⟨_,a1,a2,?_⟩;generalize (x.y-q.y)/(p.y-q.y)=t at*;obtain⟨X,Y⟩:=x;unfold aC at h;unfold aD;simp only at*;have e:X=q.x+t*(p.x-q.x):=by
  have h3:(p.y-q.y)*(X-q.x)=(p.y-q.y)*(t*(p.x-q.x)):=by grind
  have h4:p.y-q.y≠0:=by grind
  have:=bR.1 (show(p.y-q.y)*(X-q.x-t*(p.x-q.x))=0 by grind);rcases this with h5|h5
  ·exact absurd h5 h4
  ·grind
 rw[e];congr 1;grind
def Ra(q p v w:aa)(e:Rat):aC q p (aD v w e)=aC q p v+e*(aC q p w-aC q p v):=by
 unfold aC aD;grind
def FO(v w:aa)(a b e:Rat):aD (aD v w a) (aD v w b) e=aD v w (a+e*(b-a)):=by
 unfold aD;simp only[aa.mk.injEq];constructor<;>grind
def An(v w:aa)(e:Rat):(aD v w e).y=v.y+e*(w.y-v.y):=rfl
def CT{a b e lo hi:Rat}(h0:0<=e)(h1:e<=1)(ha:lo<=a)(hb:lo<=b)(ha2:a<=hi)(hb2:b<=hi):lo<=a+e*(b-a)/\a+e*(b-a)<=hi:=by
 have k1:=bE h0 (show 0<=b-lo by grind);have k2:=bE (show 0<=1-e by grind) (show 0<=a-lo by grind);have k3:=bE h0 (show 0<=hi-b by grind);have k4:=bE (show 0<=1-e by grind) (show 0<=hi-a by grind);constructor<;>grind
def Vf{v w q p:aa}(hn:mP v w q p)(hy:q.y<p.y){a b:Rat}(a0:0<=a)(a1:a<=1)(b0:0<=b)(b1:b<=1)(ha:q.y<=(aD v w a).y/\(aD v w a).y<=p.y)(hb:q.y<=(aD v w b).y/\(aD v w b).y<=p.y)(h:aC q p (aD v w a)<0):aC q p (aD v w b)<0:=by
 by_cases k:aC q p (aD v w b)<0
 ·exact k
 ·exfalso
  obtain⟨e0,e1,e2⟩:=uW (a:= -(aC q p (aD v w a))) (b:=aC q p (aD v w b)-aC q p (aD v w a)) (by grind) (by grind) (by grind);generalize-(aC q p (aD v w a))/(aC q p (aD v w b)-aC q p (aD v w a))=e at*;have hz:aC q p (aD v w (a+e*(b-a)))=0:=by rw[<-FO,Ra];grind
  have hh:=CT e0 e1 ha.1 hb.1 ha.2 hb.2;rw[<-An,FO] at hh;obtain⟨t,t0,t1,ht⟩:=RG hy hz hh.1 hh.2;have h01:=CT e0 e1 a0 b0 a1 b1;exact hn _ t h01.1 h01.2 t0 t1 ht
def TX{v w q p:aa}(hn:mP v w q p)(hy:q.y<p.y): ∃r:Bool,∀s,0<=s->s<=1->q.y<=(aD v w s).y->(aD v w s).y<=p.y->(aC q p (aD v w s)<0↔r=true):=by
 by_cases h: ∃s,0<=s/\s<=1/\(q.y<=(aD v w s).y/\(aD v w s).y<=p.y)/\aC q p (aD v w s)<0
 ·obtain⟨s,s0,s1,s2,s3⟩:=h
  exact⟨true,fun t t0 t1 h1 h2=>⟨fun _=>J,fun _=>Vf hn hy s0 s1 t0 t1 s2 ⟨h1,h2⟩ s3⟩⟩
 ·exact⟨false,fun t t0 t1 h1 h2=>⟨fun k=>absurd ⟨t,t0,t1,⟨h1,h2⟩,k⟩ h,fun k=>by cases k⟩⟩
def Df(v w:aa):aD v w 0=v:=by unfold aD;cases v;simp only[aa.mk.injEq];constructor<;>grind
def xP(v w:aa):aD v w 1=w:=by unfold aD;cases w;simp only[aa.mk.injEq];constructor<;>grind
def Ds{v w:aa}{y:Rat}(h:(v.y<=y/\ ¬w.y<=y)\/(¬v.y<=y/\w.y<=y)): ∃s,0<=s/\s<=1/\(aD v w s).y=y:=by
 rcases h with⟨h1,h2⟩|⟨h1,h2⟩
 ·obtain⟨a1,a2,a3⟩:=uW (a:=y-v.y) (b:=w.y-v.y) (by grind) (by grind) (by grind)
  refine⟨_,a1,a2,?_⟩;rw[An];grind
 ·obtain⟨a1,a2,a3⟩:=uW (a:=v.y-y) (b:=v.y-w.y) (by grind) (by grind) (by grind)
  refine⟨_,a1,a2,?_⟩;rw[An];grind
def Ho{v w p:aa}{s:Rat}(h:(aD v w s).y=p.y):aC v w p=(w.y-v.y)*((aD v w s).x-p.x):=by
 unfold aC;unfold aD at*;simp only at*;rw[<-h];grind
def ud{a b:Rat}(ha:0<a):0<a*b↔0<b:=by rw[Rat.mul_comm];exact eO ha
def De{a b:Rat}(ha:a<0):a*b<0↔0<b:=by
 have:=ud (a:= -a) (b:=b) (by grind);constructor
 ·intro h;exact this.1 (by grind)
 ·intro h;have:=this.2 h;grind
def bI(b:Prop)[Decidable b]:Int:=if b then 1 else 0
def ya{v w p:aa}{r:Prop}[Decidable r](h: ∀s,0<=s->s<=1->(aD v w s).y=p.y->(p.x<(aD v w s).x↔r)):gy v w p=if r then bI (v.y<=p.y)-bI (w.y<=p.y) else 0:=by
 unfold gy bI;by_cases h1:v.y<=p.y<;>by_cases h2:w.y<=p.y
 ·simp[h1,h2]
 ·obtain⟨s,s0,s1,s2⟩:=Ds (.inl ⟨h1,h2⟩)
  have e:=Ho s2;have k:=h s s0 s1 s2;have m:=ud (a:=w.y-v.y) (b:=(aD v w s).x-p.x) (by grind);rw[<-e] at m;have m2:0<aC v w p↔r:=by rw[m,<-k];grind
  simp only[h1,h2,m2];by_cases q:r<;>simp[q]
 ·obtain⟨s,s0,s1,s2⟩:=Ds (.inr ⟨h1,h2⟩)
  have e:=Ho s2;have k:=h s s0 s1 s2;have m:=De (a:=w.y-v.y) (b:=(aD v w s).x-p.x) (by grind);rw[<-e] at m;have m2:aC v w p<0↔r:=by rw[m,<-k];grind
  simp only[h1,h2,m2];by_cases q:r<;>simp[q]
 ·simp[h1,h2]
def qI(q p u:aa):Int:=if q.y<u.y/\u.y<=p.y/\aC q p u<0 then 1 else 0
def Hn{v w q p:aa}(hn:mP v w q p)(hy:q.y<p.y):gy v w p-gy v w q=qI q p v-qI q p w:=by
 obtain⟨r,hr⟩:=TX hn hy;have ep:=ya (v:=v) (w:=w) (p:=p) (r:=r=true) fun s s0 s1 s2=>by
  rw[<-hr s s0 s1 (by grind) (by grind)];have m:=ud (a:=p.y-q.y) (b:=(aD v w s).x-p.x) (by grind);have:aC q p (aD v w s)= -((p.y-q.y)*((aD v w s).x-p.x)):=by unfold aC;rw[s2];grind
  rw[this];generalize (p.y-q.y)*((aD v w s).x-p.x)=z at*;constructor
  ·intro k;have:=m.2 (by grind);grind
  ·intro k;have:=m.1 (by grind);grind
 have eq:=ya (v:=v) (w:=w) (p:=q) (r:=r=true) fun s s0 s1 s2=>by
  rw[<-hr s s0 s1 (by grind) (by grind)];have m:=ud (a:=p.y-q.y) (b:=(aD v w s).x-q.x) (by grind);have:aC q p (aD v w s)= -((p.y-q.y)*((aD v w s).x-q.x)):=by unfold aC;rw[s2];grind
  rw[this];generalize (p.y-q.y)*((aD v w s).x-q.x)=z at*;constructor
  ·intro k;have:=m.2 (by grind);grind
  ·intro k;have:=m.1 (by grind);grind
 have fv:qI q p v=if r=true then bI (v.y<=p.y)-bI (v.y<=q.y) else 0:=by
  have h:=hr 0 (by decide) (by decide);rw[Df] at h;unfold qI bI;by_cases h1:v.y<=p.y<;>by_cases h2:v.y<=q.y
  ·have: ¬q.y<v.y:=by grind
   simp[h1,h2,this]
  ·have h3:q.y<v.y:=by grind
   have:=h (by grind) h1;simp only[h1,h2,h3,this];by_cases q:r=true<;>simp[q]
  ·exfalso;grind
  ·simp[h1,h2]
 have fw:qI q p w=if r=true then bI (w.y<=p.y)-bI (w.y<=q.y) else 0:=by
  have h:=hr 1 (by decide) (by decide);rw[xP] at h;unfold qI bI;by_cases h1:w.y<=p.y<;>by_cases h2:w.y<=q.y
  ·have: ¬q.y<w.y:=by grind
   simp[h1,h2,this]
  ·have h3:q.y<w.y:=by grind
   have:=h (by grind) h1;simp only[h1,h2,h3,this];by_cases q:r=true<;>simp[q]
  ·exfalso;grind
  ·simp[h1,h2]
 rw[ep,eq,fv,fw];by_cases q:r=true
 ·simp only[if_pos q];omega
 ·simp only[if_neg q]
def O9{v w q p:aa}(hn:mP v w q p)(hy:q.y=p.y):gy v w p=gy v w q:=by
 have key: ∀s,0<=s->s<=1->(aD v w s).y=p.y->(p.x<(aD v w s).x↔q.x<(aD v w s).x):=fun s s0 s1 s2=>by
  have no: ∀a b:Rat,a<=(aD v w s).x->(aD v w s).x<b->((a=q.x/\b=p.x)\/(a=p.x/\b=q.x))->False:=fun a b h1 h2 h3=>by
   obtain⟨a1,a2,a3⟩:=uW (a:=(aD v w s).x-a) (b:=b-a) (by grind) (by grind) (by grind);generalize ((aD v w s).x-a)/(b-a)=t at*;rcases h3 with⟨e1,e2⟩|⟨e1,e2⟩
   ·refine hn s t s0 s1 a1 a2 ?_
    generalize hx:aD v w s=x at*;obtain⟨X,Y⟩:=x;unfold aD;simp only[aa.mk.injEq] at*;subst e1 e2;constructor<;>grind
   ·refine hn s (1-t) s0 s1 (by grind) (by grind) ?_
    generalize hx:aD v w s=x at*;obtain⟨X,Y⟩:=x;unfold aD;simp only[aa.mk.injEq] at*;subst e1 e2;constructor<;>grind
  constructor
  ·intro h
   by_cases k:q.x<(aD v w s).x
   ·exact k
   ·by_cases k2:(aD v w s).x=q.x
    ·exfalso
     refine hn s 0 s0 s1 (by decide) (by decide) ?_;rw[Df];generalize aD v w s=x at*;obtain⟨X,Y⟩:=x;obtain⟨A,B⟩:=q;simp only[aa.mk.injEq] at*;exact⟨k2,by grind⟩
    ·exact(no p.x q.x (by grind) (by grind) (.inr ⟨J,J⟩)).elim
  ·intro h
   by_cases k:p.x<(aD v w s).x
   ·exact k
   ·by_cases k2:(aD v w s).x=p.x
    ·exfalso
     refine hn s 1 s0 s1 (by decide) (by decide) ?_;rw[xP];generalize aD v w s=x at*;obtain⟨X,Y⟩:=x;obtain⟨A,B⟩:=p;simp only[aa.mk.injEq] at*;exact⟨k2,s2⟩
    ·exact(no q.x p.x (by grind) (by grind) (.inl ⟨J,J⟩)).elim
 by_cases hc:(v.y<=p.y/\ ¬w.y<=p.y)\/(¬v.y<=p.y/\w.y<=p.y)
 ·obtain⟨s,s0,s1,s2⟩:=Ds hc
  have uq: ∀t,(aD v w t).y=p.y->t=s:=fun t ht=>by
   rw[An] at ht s2;have h4:w.y-v.y≠0:=by grind
   have:=bR.1 (show(w.y-v.y)*(t-s)=0 by grind);rcases this with h5|h5
   ·exact absurd h5 h4
   ·grind
  rw[ya (p:=p) (r:=p.x<(aD v w s).x) fun t _ _ ht=>by rw[uq t ht],ya (p:=q) (r:=p.x<(aD v w s).x) fun t _ _ ht=>by rw[uq t (by rw[ht,hy])];exact(key s s0 s1 s2).symm,hy]
 ·unfold gy
  rw[hy];by_cases h1:v.y<=p.y<;>by_cases h2:w.y<=p.y<;>simp[h1,h2] at hc⊢
def VL(q p:aa)(t:Rat):aD p q t=aD q p (1-t):=by unfold aD;simp only[aa.mk.injEq];constructor<;>grind
def mP.symm{v w q p:aa}(h:mP v w q p):mP v w p q:=fun s t s0 s1 t0 t1 e=>h s (1-t) s0 s1 (by grind) (by grind) (by rw[e,VL])
def ig(r:List ZP)(p:aa):Nat->Int
 |0=>0
 |k+1=>ig r p k+gy (r.getD k (0,0)).q (ci r k).q p
def sZ(r:List ZP)(q p:aa):Prop:= ∀k,k<r.length->mP (r.getD k (0,0)).q (ci r k).q q p
def GI{r:List ZP}{q p:aa}(h:sZ r q p)(hy:q.y<p.y): ∀k,k<r.length->ig r p k-ig r q k=qI q p (r.getD 0 (0,0)).q-qI q p (r.getD k (0,0)).q
 |0,_=>by simp[ig]
 |k+1,hk=>by
  have ih:=GI h hy k (by omega);have e:=Hn (h k (by omega)) hy;rw[IT (by omega)] at e;rw[ig,ig,IT (by omega)];omega
def KA{r:List ZP}{q p:aa}(h:sZ r q p)(hy:q.y<p.y):ig r p r.length=ig r q r.length:=by
 cases hr:r.length with
 |zero=>rfl
 |succ n=>
  have ih:=GI h hy n (by omega);have e:=Hn (h n (by omega)) hy;rw[L4 (by omega)] at e;rw[ig,ig,L4 (by omega)];omega
def Hf{r:List ZP}{q p:aa}(h:sZ r q p)(hy:q.y=p.y): ∀k,k<=r.length->ig r p k=ig r q k
 |0,_=>rfl
 |k+1,hk=>by rw[ig,ig,Hf h hy k (by omega),O9 (h k (by omega)) hy]
def Oj{r:List ZP}{q p:aa}(h:sZ r q p):ig r p r.length=ig r q r.length:=by
 by_cases h1:q.y<p.y
 ·exact KA h h1
 ·by_cases h2:p.y<q.y
  ·exact(KA (fun k hk=>(h k hk).symm) h2).symm
  ·exact Hf h (by grind) _ (aN _)
def EV(a b c:aa):mG a b c=(aC a b c).num.sign:=by
 unfold mG aC aa.cross aG;congr 2;grind
def DD(a b:Rat):ce a b<=0↔a<=b:=by
 have:=Ai a b;constructor
 ·intro h
  by_cases q:b<a
  ·have:=this.2 q;omega
  ·grind
 ·intro h
  by_cases q:0<ce a b
  ·have:=this.1 q;grind
  ·omega
def UY(v w p:aa):Dl v w p=gy v w p:=by
 unfold Dl gy;simp only[EV,jD,lm,DD]
def s5(r:List ZP)(p:aa): ∀k,vr r p k=ig r p k
 |0=>rfl
 |k+1=>by rw[vr,ig,s5 r p k,UY]
def JP{r:List ZP}{q p:aa}(h:sZ r q p):im r p=im r q:=by
 unfold im;rw[s5,s5,Oj h]
def XO(R:Rat)(p:aa):Prop:=p.x< -R\/R<p.x\/p.y< -R\/R<p.y
structure IvB (v:aA):Prop where
 lo:BQ v.lo 1200
 hi:BQ v.hi 1200
def Yx(l:List aA)(k:Nat):List Rat:=kO (l.take k)
def ZA(o:List Rat)(v:aA)(j:Nat):List Rat:=if j=0 then o else if j=1 then(if v.nl then o else mH v.lo o) else ni o v
def aF5(v:aA)(j:Nat):Rat:=if j=0 then v.lo else v.hi
def Yz(v:aA)(j:Nat):Bool:=if j=0 then v.nl else v.nh
def Zd(l m:ab)(side:Int):DV:= .tp [.sl ((tq l m side).map eV),vB (s7 l m)]
def XS(f:aP):DV:= .ag [.v (.bool (decide (f.l.a<0))),dN f.l.a.natAbs, .v (.bool (decide (f.l.b<0))),dN f.l.b.natAbs, .v (.bool (decide (f.l.c<0))),dN f.l.c.natAbs, .v (.bool (decide (f.v.lo.num<0))),dN f.v.lo.num.natAbs,dD f.v.lo.den, .v (.bool (decide (f.v.hi.num<0))),dN f.v.hi.num.natAbs,dD f.v.hi.den, .v (.bool f.v.nl), .v (.bool f.v.nh)]
theorem zW{p:ZP}(h:ZP.le 100 p):aw p.q 12:=by
 haveI:BI p.1 11:=ph (by have:=h.1;omega) (by decide);haveI:BI p.2 11:=ph (by have:=h.2;omega) (by decide);exact(inferInstance:aw (iP p.1 p.2) 12)
def XU(v w:aA):aA:=⟨v.lo,w.hi,v.nl,v.nh⟩

section
variable {GB:Gh} {C:az} {n:Nat} {Q0:Exit->Act->World->Prop} {fr fr':au} {own own':aB} {cf cf':Cf} {vc:List Prop}
def XH{lk:LK}{bk:BM}{dst:Option Nat}{t ty':TypeId}{pos:String}{af:Array Edge}{gd:Option (Nat×Bool)}{x y:Operand}{e len s nm off:Nat}{k:IntKind}{i:Nat}(hu:prog.underlying t=some (.array len e))(hs:(prog.info? e).map (·.size)=some s)
  (e1:aE lk x=some (.ov nm off))(e2:aE lk y=some (.d (.v (.int k (i:Nat)))))(hi:i<len):bF prog GB C n lk bk ⟨dst, .indexAddr t x y,ty',pos,af,gd⟩ (.ov nm (off+i*s)) [] []:= .yd fun ρ G ov a w r=>by
 obtain⟨p,h1,h2⟩:=r.ev e1;obtain⟨q,h3,h4⟩:=r.ev e2;rw[cI] at h4;subst h4;obtain⟨b,hb,rfl⟩:=h2;refine⟨_,⟨b,hb,J⟩,?_⟩;obtain⟨j,hj,hjs⟩: ∃j,prog.info? e=some j/\j.size=s:=by
  cases h:prog.info? e with
  |none=>rw[h] at hs;cases hs
  |some j=>rw[h] at hs;exact⟨j,J,by simpa using hs⟩
 intro a' w' hf hh;simp only[execOp,bh hf h1,bh hf h3];have:(Instr.indexAt t (.pointer (some ⟨b,off,none⟩)) (.int k (i:Nat))).run prog w'= .ok (.pointer (some ⟨b,off+i*s,none⟩)) w':=by
  unfold Instr.indexAt;show(underlying t>>=_).run prog w'=_;rw[aH (nB hu w')];show(underlying t>>=_).run prog w'=_;rw[aH (nB hu w')];have h0:0<=((i:Nat):Int):=Int.natCast_nonneg i;have h1:((i:Nat):Int)<((len:Nat):Int):=by omega
  simp only[h0,h1,and_self,if_true];show(sizeOf e>>=_).run prog w'=_;rw[aH (rM hj w'),oO,hjs,bT];rfl
 exact cO this
def Hu(fr:au)(cf:Cf):Option (TypeId×Nat×Nat×Int):=match bH fr cf with
 |some ⟨_, .indexAddr t x y,_,_,_,_⟩=>match aE (bm fr cf) x with
  |some (.ov nm off)=>match aE (bm fr cf) y with
   |some (.d (.v (.int _ i)))=>some (t,nm,off,i)
   |_=>none
  |_=>none
 |_=>none
def xN[fu:Fu](i:Nat){t nm off e len s:Nat}(h:Hu fr cf=some (t,nm,off,((i:Nat):Int)))(hu:prog.underlying t=some (.array len e))(hs:(prog.info? e).map (·.size)=some s)(hi:i<len)
  (hgo:cv tt n fu.n fr own cf (.ov nm (off+i*s)) [] []=⟨vc,fr',own',cf'⟩)(k:ao prog GB C n Q0 fr' own' cf')
  (hv:ah vc:=by first|exact trivial|(simp only[ah];kernel_rfl)|(simp only[ah];omega)):ao prog GB C n Q0 fr own cf:=by
 unfold Hu at h;split at h<;>try (cases h;done)
 rename_i hh;split at h<;>try (cases h;done)
 rename_i hx;split at h<;>cases h;rename_i hy;exact us hh (XH hu hs hx hy hi) hgo hv k
def Yt(fr:au)(cf:Cf):Option (Nat×List FX):=match bH fr cf with
 |some ⟨some d, .build t ⟨ps⟩,_,_,_,_⟩=>match cG tt t with
  |some ⟨.st fo,_,some zx,_⟩=>match sr (bm fr cf) fo zx ps with
   |some l=>some (d,l)
   |none=>none
  |_=>none
 |_=>none
end
def ZN(f:aP)(m:ab)(k:Nat):List aP:=if k=0 then [] else lI f m 1
def Zn(f:aP)(m:ab)(k:Nat):List aP:=if k<=1 then [] else lI f m (-1)
def pe(p:ZP):DV:=eP p.q
def qo(r:List ZP):DV:= .sl (r.map pe)
def z8{r:List ZP}{i:Nat}(h:i<r.length):(r.map pe)[((i:Nat):Int).toNat]? =some (pe (r.getD i (0,0))):=by
 rw[bT,fS,aJ,aX h];rfl
def Jd{r:List ZP}{i:Nat}(h:i<r.length):(r.map pe)[(((i+1)%r.length:Nat):Int).toNat]? =some (pe (ci r i)):=z8 (cS _ (by omega))
def A2(rs:List (List ZP)):List ab:=(bz rs).map aP.l
def ZZ(rs:List (List ZP))(fill:Int):DV:= .ag [.sl (rs.map qo), .v (.int .i64 fill), .sl ((o5 (A2 rs)).map eL)]
def lD(r:List ZP):DV:= .sl ((r.map ZP.q).map jI)
def Qj(l:List (List ZP)):gn 1 (l.map lD):=fun d hd=>by
 obtain⟨u,_,rfl⟩:=bK.1 hd;exact⟨rfl,rfl⟩
theorem W4{r:List ZP}(h: ∀p∈r,ZP.le 100 p): ∀p∈r.map ZP.q,aw p 1200:=fun p hp=>by
 obtain⟨z,hz,rfl⟩:=bK.1 hp;have:=zW (h z hz);exact⟨BQ.mono this.x (by decide),BQ.mono this.y (by decide)⟩
def NJ(r:List ZP):DV.sl ((r.map ZP.q).map eP)=qo r:=by unfold qo;rw[List.map_map];rfl
def WC{rs:List (List ZP)}{k:Nat}{r:List ZP}(h:rs[k]? =some r):bz (rs.take (k+1))=bz (rs.take k)++i4 r:=by
 unfold bz;rw[fX,h,List.flatMap_append];simp
def GU{rs:List (List ZP)}(h: ∀r∈rs,cB r)(k:Nat):(bz (rs.take k)).length<=6*k:=by
 have:=(qq (rs:=rs.take k) (fun r hr=>h r (gN hr))).1;have h2:(rs.take k).length<=k:=by rw[cW];omega
 omega
def Dm{rs:List (List ZP)}(h: ∀r∈rs,cB r)(hn:rs.length<=100):PF GB prog 18 [.sl (rs.map qo)] (.sl (rs.map lD)):=by
 have hm:=Aa qo rs;refine fn (fu:=⟨15⟩) func18 J J ntmps18 J J (fun C=>?_);refine ak 7 (.d (vI (rs.length:Nat))) J (by rw[hm]<;>rfl) ?_;refine gx J<|?_;refine nr 3 3 113 1 J J J ?_;refine lp (X:=Nat) (fun k=>[(8, .d (vI (k:Nat))),(3, .rw 3)]) (fun k=>[(3,some (.b 113 1 ((rs.take k).map lD) true))]) (fun k=>k<=rs.length) (fun k=>rs.length-k) 0 J (cK _) (fun _=>J) (fun k hk=>?_);have hml:((rs.take k).map lD).length<=k:=by rw[aK,cW];omega
 refine br J J J (fun hc9=>?_) (fun hc9=>?_)
 .
  obtain⟨r,hz⟩: ∃s,rs[k]? =some s:=⟨_,aX (by omega)⟩;have hr:=h r (bJ hz);refine ix (fu:=⟨1⟩) _ J (f9 hz) J<|?_;refine ak 11 (.d (.sl ((r.map ZP.q).map eP))) J (by rw[NJ]) ?_;refine gx J<|cl J (Lj (ps:=r.map ZP.q) (W4 hr.le) (by rw[aK];have:=hr.n6;omega)) J<|rf J J<|ap ((rs.take (k+1)).map lD) J (LA hz) (Qj [r]) J<|?_;refine mt 16 3 J ?_;exact at_ (k+1) ⟨(by omega),(by omega)⟩
 .
  obtain rfl:k=rs.length:=by omega
  refine n7 3 J ?_;exact rz J (by rw[fJ];rfl)

def p7:aa:=⟨mkRat 1 7,mkRat 1 5⟩
structure LP (l:ab):Prop where
 s:LS l
 p:0<l.value p7
def BJ(es:List Int):Nat->Nat->List ab×Nat
 |0,a=>([],a)
 |i+1,a=>((lF es a).1::(BJ es i (lF es a).2).1,(BJ es i (lF es a).2).2)
def J1(es:List Int)(most a:Nat):List ab×Nat:=BJ es (aj es ((most:Int)+1) a).1 (aj es ((most:Int)+1) a).2
def M7(l:ab):ab:=if(l.value p7).num.sign<0 then l.rev else l
def ZB(xs:List ab)(i:Nat):List ab:=(xs.take i).map M7++xs.drop i
def Yb(es:List Int)(a:Nat):List ab×Nat:=((J1 es 3 a).1.map M7,(J1 es 3 a).2)

def Rt(ds:List Int):gn 1 (ds.map vI):=fun d hd=>by
 obtain⟨n,_,rfl⟩:=bK.1 hd;exact⟨rfl,rfl⟩
def UO(es:List Int):(es.map vI).take (min es.length 400)=(es.take 400).map vI:=by
 rw[List.map_take];rcases Nat.le_total es.length 400 with h|h
 ·rw[fT h,aL (by simp),aL (by simpa using h)]
 ·rw[Nat.min_eq_right h]
def No{es:List Int}(hb:es.length<=1125899906842624):PN GB prog 10 [.sl (es.map vI)] 89 Unit (fun _=>[.sl ((es.take 400).map vI), .v (.int .i64 (0:Nat))]):=by
 have hel:(es.map vI).length=es.length:=by simp
 refine Nm func10 J J ntmps10 J J (fun C hmb=>?_);refine zU 0 (min es.length 400) ((es.take 400).map vI) J J (by rw[hel];show(if _ then _ else _:Int)=_;split<;>omega) (UO es) (Rt _) (by omega) (by omega) J<|?_;exact T' () J J J J J



def Fb:DV:= .v (.pointer none)
def WK(l:ab)(p q:DV):List DV:=[.v (.bool false), .v (.bool false), .v (.bool (decide (l.a<0))),dN l.a.natAbs, .v (.bool (decide (l.b<0))),dN l.b.natAbs, .v (.bool (decide (l.c<0))),dN l.c.natAbs,p,q]
inductive RF (ns:List RN):Int->(Nat->Bool)->DV->Bool->(Nat->Bool)->Prop where
 |leaf (b:Bool) (f:Nat->Bool):RF ns (zR b) f (eT (.leaf b)) true f
 |lE (rt:Int) (f:Nat->Bool) (h1:rt≠ -1) (h2:rt≠ -2) (h:rt<0\/(ns.length:Int)<=rt\/(∃k:Nat,rt=k/\k<ns.length/\f k=true)):RF ns rt f Fb false f
 |line (k:Nat) (n:RN) (f:Nat->Bool) (h:ns[k]? =some n) (hf:f k=false) (hl:n.g.ln=none):RF ns (k:Int) f Fb false (tD f k)
 |left (k:Nat) (n:RN) (l:ab) (f f2:Nat->Bool) (p:DV) (h:ns[k]? =some n) (hf:f k=false) (hl:n.g.ln=some l) (h1:RF ns n.l (tD f k) p false f2):RF ns (k:Int) f Fb false f2
 |node (k:Nat) (n:RN) (l:ab) (f f2 f3:Nat->Bool) (p q:DV) (ok:Bool) (h:ns[k]? =some n) (hf:f k=false) (hl:n.g.ln=some l) (h1:RF ns n.l (tD f k) p true f2) (h2:RF ns n.r f2 q ok f3):RF ns (k:Int) f (.pt (WK l p q)) ok f3
def Z6(n:Nat)(f:Nat->Bool):Bool:=(List.range n).all f
def QX:ab:=⟨0,1,0⟩
def Yw:Tr:= .node QX (.leaf true) (.leaf false)
structure Z5 (k:Nat) (t:Tr):Prop where
 o:Qz k t
 s:t.size<=3000
def Y6(es:List Int)(a:Nat):(Tr×Tr)×Nat:=
 let x:=qi es 0 a
 let y:=qi es 0 x.2
 let k:=aj es 3 y.2
 let u:=if(k.1:Int)=0 then kz es 3 k.2 else(x.1,k.2)
 let j:=aj es 3 u.2
 let v:=if(j.1:Int)=0 then kz es 3 j.2 else(y.1,j.2)
 ((u.1,v.1),v.2)
def X2(es:List Int)(a:Nat):(Tr×Tr)×Nat:=
 let x:=qi es 0 a
 let y:=qi es 0 x.2
 let k:=aj es 6 y.2
 if(k.1:Int)=0 then((x.1, .node (lF es k.2).1 x.1 x.1),(lF es k.2).2)
 else if(k.1:Int)=1 then((x.1,y.1.mergeQ 1 x.1 []),k.2)
 else if(k.1:Int)=2 then((x.1,y.1.mergeQ 3 x.1 []),k.2)
 else if(k.1:Int)=3 then((x.1,(kz es 3 k.2).1),(kz es 3 k.2).2)
 else((x.1,y.1),k.2)
def Ms(es:List Int):Nat->Nat->List Tr×Nat
 |0,a=>([],a)
 |n+1,a=>((qi es 0 a).1::(Ms es n (qi es 0 a).2).1,(Ms es n (qi es 0 a).2).2)
def gr(r:List ZP)(i k:Nat):Bool:=decide (k=i)||decide (k=(i+1)%r.length)||decide (0<mG (r.getD i (0,0)).q (ci r i).q (r.getD k (0,0)).q)
def yN(r:List ZP):Bool:=(List.range r.length).all fun i=>(List.range r.length).all fun k=>gr r i k
def Ke{r:List ZP}{i k:Nat}(hi:i<r.length)(hk:k<r.length)(h:gr r i k=false):yN r=false:=by
 rw[nR];intro e;have:=(cM.1 ((cM.1 e) i (fV.2 hi))) k (fV.2 hk);rw[h] at this;cases this
def Mi{r:List ZP}(h: ∀i,i<r.length-> ∀k,k<r.length->gr r i k=true):yN r=true:=
 cM.2 fun i hi=>cM.2 fun k hk=>h i (fV.1 hi) k (fV.1 hk)
def Es(a b c:ZP):mG a.q b.q c.q=(gE (b.1-a.1,b.2-a.2) (c.1-a.1,c.2-a.2)).sign:=by
 have e:aa.cross (aG b.q a.q (-1)) (aG c.q a.q (-1))=((gE (b.1-a.1,b.2-a.2) (c.1-a.1,c.2-a.2):Int):Rat):=by
  unfold aa.cross aG gE ZP.q iP;push_cast;grind
 unfold mG;rw[e,oN]
def AY{a:Int}:0<a.sign↔0<a:=by
 rcases kX a 0 with h|h|h
 ·rw[dV h];omega
 ·subst h;simp
 ·rw[dT h];omega
def V8{p u v:ZP}:yN (fp p u v)=decide (0<gE u v):=by
 obtain⟨p1,p2⟩:=p;obtain⟨u1,u2⟩:=u;obtain⟨v1,v2⟩:=v;have e1:gr (fp (p1,p2) (u1,u2) (v1,v2)) 0 2=decide (0<gE (u1,u2) (v1,v2)):=by
  unfold gr ci fp lA;simp only[bS,iZ,lZ,gT,Nat.reduceAdd,Nat.reduceMod,Es,AY];simp[gE];congr 2
  all_goals (first|omega|grind)
 have e2:gr (fp (p1,p2) (u1,u2) (v1,v2)) 1 0=decide (0<gE (u1,u2) (v1,v2)):=by
  unfold gr ci fp lA;simp only[bS,iZ,lZ,gT,Nat.reduceAdd,Nat.reduceMod,Es,AY];simp[gE];constructor<;>intro h<;>grind
 have e3:gr (fp (p1,p2) (u1,u2) (v1,v2)) 2 1=decide (0<gE (u1,u2) (v1,v2)):=by
  unfold gr ci fp lA;simp only[bS,iZ,lZ,gT,Nat.reduceAdd,Nat.reduceMod,Es,AY];simp[gE];constructor<;>intro h<;>grind
 by_cases h:0<gE (u1,u2) (v1,v2)
 ·rw[decide_eq_true h] at e1 e2 e3⊢
  refine Mi fun i hi k hk=>?_;have hl:(fp (p1,p2) (u1,u2) (v1,v2)).length=3:=J;rw[hl] at hi hk;have hs: ∀j,gr (fp (p1,p2) (u1,u2) (v1,v2)) j j=true:=fun j=>by unfold gr;simp
  have hn: ∀j,gr (fp (p1,p2) (u1,u2) (v1,v2)) j ((j+1)%3)=true:=fun j=>by unfold gr;simp[hl]
  have h1:i=0\/i=1\/i=2:=by omega
  have h2:k=0\/k=1\/k=2:=by omega
  rcases h1 with rfl|rfl|rfl<;>rcases h2 with rfl|rfl|rfl<;>first|assumption|exact hs _|exact hn _
 ·rw[decide_eq_false h] at e1⊢
  exact Ke (i:=0) (k:=2) (by simp[fp]) (by simp[fp]) e1
def S4{r:List ZP}(hle: ∀p∈r,ZP.le 100 p)(h6:r.length<=6):PF GB prog 55 [.sl (r.map pe)] (vB (yN r)):=by
 have hm:=Aa pe r;refine fn (fu:=⟨9⟩) func55 J J ntmps55 J J (fun C=>?_);refine ak 7 (.d (vI (r.length:Nat))) J (by rw[hm]<;>rfl) ?_;refine gx (fu:=⟨8⟩) J<|?_;refine ak 9 (.d (vI (r.length:Nat))) J (by rw[hm]<;>rfl) ?_;refine gx J<|?_;refine lp (X:=Nat) (fun i=>[(10, .d (vI (i:Nat)))]) (fun i=>[]) (fun i=>i<=r.length/\ ∀j,j<i-> ∀q,q<r.length->gr r j q=true) (fun i=>r.length-i) 0 J ⟨cK _,fun j hj=>absurd hj (by omega)⟩ (fun _=>J) (fun i hk=>?_);obtain⟨i1,i2⟩:=hk;refine br (fu1:=⟨14⟩) J J J (fun hc11=>?_) (fun hc11=>?_)
 .
  have hir:i<r.length:=by omega
  refine ak 14 (.d (vI (r.length:Nat))) J (by rw[hm]<;>rfl) ?_;refine gx J<|?_;refine lp (X:=Nat) (fun k=>[(15, .d (vI (k:Nat)))]) (fun k=>[]) (fun k=>k<=r.length/\ ∀q,q<k->gr r i q=true) (fun k=>r.length-k) 0 J ⟨cK _,fun j hj=>absurd hj (by omega)⟩ (fun _=>J) (fun k hk=>?_);obtain⟨k1,k2⟩:=hk;refine br (fu1:=⟨14⟩) J J J (fun hc16=>?_) (fun hc16=>?_)
  .
   have hkr:k<r.length:=by omega
   haveI hvb:aw (r.getD i (0,0)).q 12:=zW (hle _ (rm hir));haveI hwb:aw (ci r i).q 12:=zW (hle _ (vo hir));haveI hub:aw (r.getD k (0,0)).q 12:=zW (hle _ (rm hkr));refine yP (fu1:=⟨6⟩) (v2:=fun hg20=>by simp only[ah];exact⟨by kernel_rfl,by omega⟩) J J J J (fun hg20=>?_) (fun hg20=>?_)
   .
    refine ak 26 (.d (vI ((i+1)%r.length:Nat))) J (by rfl) ?_;refine gx (fu:=⟨0⟩) J<|?_;refine yP (v2:=fun hg27=>by simp only[ah];exact⟨by kernel_rfl,by omega⟩) J J J J (fun hg27=>?_) (fun hg27=>?_)
    .
     refine ix (fu:=⟨6⟩) _ J (z8 hir) J<|?_;refine ak 38 (.d (vI ((i+1)%r.length:Nat))) J (by rfl) ?_;refine gx J<|ix _ J (Jd hir) J<|ix _ J (z8 hkr) J<|cl J (H' (a:=(r.getD i (0,0)).q) (b:=(ci r i).q) (c:=(r.getD k (0,0)).q) (i:=12) (j:=12) (k:=12)) J<|?_;refine br J J J (fun hc47=>?_) (fun hc47=>?_)
     .
      have hcv:gr r i k=false:=by unfold gr;rw[decide_eq_false (show¬k=i by omega),decide_eq_false (show¬k=(i+1)%r.length by omega),decide_eq_false (show¬0<(mG (r.getD i (0,0)).q (ci r i).q (r.getD k (0,0)).q) by omega)];rfl
      exact rz J (by rw[Ke hir hkr hcv];rfl)
     .
      have hcv:gr r i k=true:=by unfold gr;rw[decide_eq_true (show 0<mG _ _ _ by omega)];simp
      exact at_ (k+1) ⟨⟨by omega,fun q hq=>by by_cases e:q=k;(subst e;exact hcv);exact k2 q (by omega)⟩,(by omega)⟩
    .
     have hcv:gr r i k=true:=by unfold gr;rw[decide_eq_true (show k=(i+1)%r.length by omega)];simp
     exact at_ (k+1) ⟨⟨by omega,fun q hq=>by by_cases e:q=k;(subst e;exact hcv);exact k2 q (by omega)⟩,(by omega)⟩
   .
    have hcv:gr r i k=true:=by unfold gr;rw[decide_eq_true (show k=i by omega)];rfl
    exact at_ (k+1) ⟨⟨by omega,fun q hq=>by by_cases e:q=k;(subst e;exact hcv);exact k2 q (by omega)⟩,(by omega)⟩
  .
   obtain rfl:k=r.length:=by omega
   exact at_ (i+1) ⟨⟨by omega,fun j hj q hq=>by by_cases e:j=i;(subst e;exact k2 q (by omega));exact i2 j (by omega) q hq⟩,(by omega)⟩
 .
  obtain rfl:i=r.length:=by omega
  exact rz J (by rw[Mi fun j hj q hq=>i2 j hj q hq];rfl)
def QC{p u v:ZP}(h1:ZP.le 40 p)(h2:ZP.le 40 u)(h3:ZP.le 40 v): ∀q∈fp p u v,ZP.le 100 q:=fun q hq=>by
 unfold ZP.le at*;simp only[fp,lA,aU,jS,or_false] at hq;rcases hq with rfl|rfl|rfl<;>((try dsimp only);omega)
def Qy{p u v:ZP}(h1:ZP.le 40 p)(h2:ZP.le 40 u)(h3:ZP.le 40 v):PF GB prog 55 [.sl ((fp p u v).map pe)] (vB (decide (0<gE u v))):=by
 have:=S4 (GB:=GB) (r:=fp p u v) (QC h1 h2 h3) (by simp[fp]);rw[V8] at this;exact this
def VO{b:Nat}{es:List Int}(hes:es.length<=400){a:Nat}(ha:a<=es.length):PM GB prog 23 (jB [none] b) b 89 [.sl (es.map vI), .v (.int .i64 (a:Nat))] (qo (gI es a).1) [.sl (es.map vI), .v (.int .i64 ((gI es a).2:Nat))]:=by
 have hk0:=ie (n:=2) ha;have hx1:=ie (n:=3) hk0;have hy1:=ie (n:=3) hx1;have l1:=ir (es:=es) (n:=3) (a:=(aj es 2 a).2) (by decide);have l2:=ir (es:=es) (n:=3) (a:=(aj es 3 (aj es 2 a).2).2) (by decide);refine yz func23 J J ntmps23 J J (fun C b m lo hmb=>?_);refine cm J (fun b=>(l8 (n:=2) hes ha (by decide) (by decide))) J<|?_;refine br J J J (fun hc13=>?_) (fun hc13=>?_)
 .
  have hz1:=ie (n:=2) hy1;have l3:=ir (es:=es) (n:=2) (a:=(aj es 3 (aj es 3 (aj es 2 a).2).2).2) (by decide);have l4:=ir (es:=es) (n:=2) (a:=(aj es 2 (aj es 3 (aj es 3 (aj es 2 a).2).2).2).2) (by decide);refine cm J (fun b=>(l8 (n:=3) hes hk0 (by decide) (by decide))) J<|cm J (fun b=>(l8 (n:=3) hes hx1 (by decide) (by decide))) J<|?_;refine cm J (fun b=>(l8 (n:=2) hes hy1 (by decide) (by decide))) J<|cm J (fun b=>(l8 (n:=2) hes hz1 (by decide) (by decide))) J<|?_;refine cl J (lu (m:=(((aj es 3 (aj es 2 a).2).1:Int)-1)) (n:=(((aj es 3 (aj es 3 (aj es 2 a).2).2).1:Int)-1)) (by omega) (by omega)) J<|?_;refine cl J (lu (m:=(((aj es 3 (aj es 2 a).2).1:Int)-1+1+((aj es 2 (aj es 3 (aj es 3 (aj es 2 a).2).2).2).1:Int))) (n:=(((aj es 3 (aj es 3 (aj es 2 a).2).2).1:Int)-1)) (by omega) (by omega)) J<|?_;refine cl J (lu (m:=(((aj es 3 (aj es 2 a).2).1:Int)-1+1+((aj es 2 (aj es 3 (aj es 3 (aj es 2 a).2).2).2).1:Int))) (n:=(((aj es 3 (aj es 3 (aj es 2 a).2).2).1:Int)-1+1+((aj es 2 (aj es 2 (aj es 3 (aj es 3 (aj es 2 a).2).2).2).2).1:Int))) (by omega) (by omega)) J<|?_;refine cl J (lu (m:=(((aj es 3 (aj es 2 a).2).1:Int)-1)) (n:=(((aj es 3 (aj es 3 (aj es 2 a).2).2).1:Int)-1+1+((aj es 2 (aj es 2 (aj es 3 (aj es 3 (aj es 2 a).2).2).2).2).1:Int))) (by omega) (by omega)) J<|?_;refine rf J J<|?_;exact pn hmb J J (by rw[show gI es a=_ from if_pos hc13];rfl) (by rw[show gI es a=_ from if_pos hc13];rfl)
 .
  have hu1:=ie (n:=2) hy1;have hu2:=ie (n:=3) hu1;have hv1:=ie (n:=3) hu2;have m1:=ir (es:=es) (n:=2) (a:=(aj es 3 (aj es 3 (aj es 2 a).2).2).2) (by decide);have m2:=ir (es:=es) (n:=3) (a:=(aj es 2 (aj es 3 (aj es 3 (aj es 2 a).2).2).2).2) (by decide);have m3:=ir (es:=es) (n:=3) (a:=(aj es 3 (aj es 2 (aj es 3 (aj es 3 (aj es 2 a).2).2).2).2).2) (by decide);have m4:=ir (es:=es) (n:=2) (a:=(aj es 3 (aj es 3 (aj es 2 (aj es 3 (aj es 3 (aj es 2 a).2).2).2).2).2).2) (by decide);refine cm J (fun b=>(l8 (n:=3) hes hk0 (by decide) (by decide))) J<|cm J (fun b=>(l8 (n:=3) hes hx1 (by decide) (by decide))) J<|?_;refine cl J (lu (m:=(((aj es 3 (aj es 2 a).2).1:Int)-1)) (n:=(((aj es 3 (aj es 3 (aj es 2 a).2).2).1:Int)-1)) (by omega) (by omega)) J<|?_;refine cm J (fun b=>(l8 (n:=2) hes hy1 (by decide) (by decide))) J<|cm J (fun b=>(l8 (n:=3) hes hu1 (by decide) (by decide))) J<|?_;refine cl J (lu (m:=(1+((aj es 2 (aj es 3 (aj es 3 (aj es 2 a).2).2).2).1:Int))) (n:=(((aj es 3 (aj es 2 (aj es 3 (aj es 3 (aj es 2 a).2).2).2).2).1:Int)-1)) (by omega) (by omega)) J<|?_;refine cm J (fun b=>(l8 (n:=3) hes hu2 (by decide) (by decide))) J<|cm J (fun b=>(l8 (n:=2) hes hv1 (by decide) (by decide))) J<|?_;refine cl J (lu (m:=(((aj es 3 (aj es 3 (aj es 2 (aj es 3 (aj es 3 (aj es 2 a).2).2).2).2).2).1:Int)-1)) (n:=(1+((aj es 2 (aj es 3 (aj es 3 (aj es 2 (aj es 3 (aj es 3 (aj es 2 a).2).2).2).2).2).2).1:Int))) (by omega) (by omega)) J<|?_;refine cl J (tW (n:=1) (by decide) (by decide)) J<|cl J (IB (m:=(((aj es 3 (aj es 2 a).2).1:Int)-1)) (n:=(((aj es 3 (aj es 3 (aj es 2 a).2).2).1:Int)-1)) (m':=(1+((aj es 2 (aj es 3 (aj es 3 (aj es 2 a).2).2).2).1:Int))) (n':=(((aj es 3 (aj es 2 (aj es 3 (aj es 3 (aj es 2 a).2).2).2).2).1:Int)-1)) (k:=1) (by omega) (by omega) (by omega) (by omega) (by decide)) J<|?_
  refine cl J (tW (n:=1) (by decide) (by decide)) J<|cl J (IB (m:=(((aj es 3 (aj es 2 a).2).1:Int)-1)) (n:=(((aj es 3 (aj es 3 (aj es 2 a).2).2).1:Int)-1)) (m':=(((aj es 3 (aj es 3 (aj es 2 (aj es 3 (aj es 3 (aj es 2 a).2).2).2).2).2).1:Int)-1)) (n':=(1+((aj es 2 (aj es 3 (aj es 3 (aj es 2 (aj es 3 (aj es 3 (aj es 2 a).2).2).2).2).2).2).1:Int))) (k:=1) (by omega) (by omega) (by omega) (by omega) (by decide)) J<|?_;refine rf J J<|cl J (Qy (p:=((((aj es 3 (aj es 2 a).2).1:Int)-1),(((aj es 3 (aj es 3 (aj es 2 a).2).2).1:Int)-1))) (u:=((1+((aj es 2 (aj es 3 (aj es 3 (aj es 2 a).2).2).2).1:Int)),(((aj es 3 (aj es 2 (aj es 3 (aj es 3 (aj es 2 a).2).2).2).2).1:Int)-1))) (v:=((((aj es 3 (aj es 3 (aj es 2 (aj es 3 (aj es 3 (aj es 2 a).2).2).2).2).2).1:Int)-1),(1+((aj es 2 (aj es 3 (aj es 3 (aj es 2 (aj es 3 (aj es 3 (aj es 2 a).2).2).2).2).2).2).1:Int)))) ⟨by omega,by omega⟩ ⟨by omega,by omega⟩ ⟨by omega,by omega⟩) J<|?_;refine bb J J J (fun hc76=>?_) (fun hc76=>?_)
  .
   refine cl J (lu (m:=0) (n:=0) (by decide) (by decide)) J<|cl J (lu (m:=1) (n:=0) (by decide) (by decide)) J<|cl J (lu (m:=0) (n:=1) (by decide) (by decide)) J<|?_;refine rf J J<|?_;exact pn hmb J J (by rw[show gI es a=_ from(if_neg hc13).trans (congrArg (fun r=>(r,(aj es 2 (aj es 3 (aj es 3 (aj es 2 (aj es 3 (aj es 3 (aj es 2 a).2).2).2).2).2).2).2)) (if_neg (by simpa using hc76)))];rfl) (by rw[show gI es a=_ from if_neg hc13])
  .
   exact pn hmb J J (by rw[show gI es a=_ from(if_neg hc13).trans (congrArg (fun r=>(r,(aj es 2 (aj es 3 (aj es 3 (aj es 2 (aj es 3 (aj es 3 (aj es 2 a).2).2).2).2).2).2).2)) (if_pos (by simpa using hc76)))];rfl) (by rw[show gI es a=_ from if_neg hc13])
section
variable {GB:Gh} {C:az} {n:Nat} {Q0:Exit->Act->World->Prop} {fr fr' fr1 fr2:au} {own own' own1 own2:aB} {cf cf' cf1 cf2:Cf} {vc vc1 vc2:List Prop}
def aGr(fr:au)(cf:Cf):Option Int:=match bH fr cf with
 |some ⟨_, .binOp .and _ x (.const (.int .i64 3)) _,_,_,_,_⟩=>match aE (bm fr cf) x with
  |some (.d (.v (.int .i64 p)))=>some p
  |_=>none
 |_=>none
end
def Us{es0 es:List Int}(hb:es0.length<=1125899906842624)(he:es=es0.take 400):PN GB prog 10 [.sl (es0.map vI)] 89 Unit (fun _=>[.sl (es.map vI), .v (.int .i64 (0:Nat))]):=by
 subst he;exact No hb
def Yo(a b:Tr):DV:= .ag [eU a,eU b]
def YS:DV:= .ag [.v (.pointer none), .v (.pointer none)]
def Z1(a:ab)(t:List ab):List Rat:=t.filterMap fun b=>if crossI a b=0 then none else some (jr a b).x
def aGt(l:List ab)(x:Rat):List aa:=(lx (Dz (Fx l x))).map fun y=>⟨x,y⟩
def F9:Tr->aa->Bool
 | .leaf _,_=>true
 | .node l x y,p=>if(l.value p).num.sign=1 then F9 x p else if(l.value p).num.sign= -1 then F9 y p else false
structure Z8 (a b:Tr):Prop where
 ga:a.gd
 gb:b.gd
 sa:a.size<=3000
 sb:b.size<=3000
def YU(x y:Bool):Bool:=x&&!y
def YR(x y:Bool):Bool:=y&&!x
def Yq(x y:Bool):Bool:=x&&y
def Zf(x y:Bool):Bool:=!x&&!y
def anK(f:Bool->Bool->Bool)(a b:Tr)(k:Nat):Bool:=((EW a b).take k).any fun p=>f (rP a p) (rP b p)
def Mc:Tr->List ab->List (List ab×Bool)
 | .leaf b,c=>if Kl c then [(p9 c,b)] else []
 | .node l x y,c=>if Kl c then Mc x (p9 c++[l])++Mc y (p9 c++[l.rev]) else []
def Qw(c:List ab)(p:aa):Bool:=c.all fun l=>decide (0<Int.sign (l.value p).num)
def X5(c:List ab):Option aa:=(Jm (o5 c)).find? (Qw c)
def Ze(c:bw):Prop:=(c.map fun s=>s.l.dir).Pairwise cd
def Z7(c:List ab):Prop:=(c.map ab.dir).Pairwise cd
def Qs(c:bw):Bool:=!c.isEmpty&&c.all fun s=>!s.v.nl&&!s.v.nh
def UH(c:List ab)(v:aa):Bool:=c.all fun l=>decide (0<=Int.sign (l.dir.cross v).num)
def ZJ(c:List ab):Bool:=!c.isEmpty&&(c.flatMap fun l=>[l.dir,bc l.dir]).all fun v=>!UH c v
def Qv(k:Rat):0<=Int.sign k.num↔0<=k:=by
 have h1:=lm k;constructor<;>intro h
 ·by_cases q:0<=k
  ·exact q
  ·exact absurd (h1.2 (by grind)) (by omega)
 ·by_cases q:0<=Int.sign k.num
  ·exact q
  ·exact absurd (h1.1 (by omega)) (by grind)
def oH:ab:=⟨1,0,0⟩
def O2(c:List ab)(i:Nat):List aa:=
 if 0<Int.sign ((c.getD i oH).dir.cross (c.getD ((i+1)%c.length) oH).dir).num then [jr (c.getD i oH) (c.getD ((i+1)%c.length) oH)] else []
def Au(c:List ab):List aa:=(List.range c.length).flatMap (O2 c)
def Ol(v:List aa)(i:Nat):List aa:=[v.getD 0 ⟨0,0⟩,v.getD (i+1) ⟨0,0⟩,v.getD (i+2) ⟨0,0⟩]
def Gw(v:List aa):List (List aa):=(List.range (v.length-2)).map (Ol v)
def ZW(cs:List (List ab)):List (List aa):=cs.flatMap fun c=>Gw (Au c)
end Go.Sx
end
