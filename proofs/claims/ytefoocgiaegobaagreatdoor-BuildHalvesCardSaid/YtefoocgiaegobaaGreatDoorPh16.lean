import Derived.Test.YtefoocgiaegobaaGreatDoorPh15
set_option linter.all false
set_option maxRecDepth 100000
section
namespace Go.Sx
open Go Go.Proofs Tryz
variable {GB:Gh}
instance BQ.m1':BQ (((-1:Int):Int):Rat) 2:=⟨by decide,by decide⟩
instance BQ.m1:BQ (-1:Rat) 2:=⟨by decide,by decide⟩
def KL{q:Rat}{i:Nat}[h:BQ q i](hi:i<=400000000:=by decide):PF GB prog 106 [eQ q] (eR q):=by
 refine fn func106 J J ntmps106 J J (fun C=>?_);refine cl J (Zh (z:=q.num) hi) J<|cl J (nq (q:=q)) J<|cl J (HR (a:=q.den) hi) J<|?_;exact rz J J
def zV{p:aa}{i:Nat}[h:aG p i](hi:i<=20000:=by decide):PF GB prog 35 [eP p] (kG p):=by
 refine fn func35 J J ntmps35 J J (fun C=>?_);refine cl J (KL (q:=p.x) (i:=i) (by omega)) J<|cl J (KL (q:=p.y) (i:=i) (by omega)) J<|?_;exact rz J J
def Iu{α:Type}(f:α->DV)(l:List α):(l.map f).length=l.length:=aJ ..
def Tb(ps:List aa):fm 6 (ps.map kG):=fun d hd=>by
 obtain⟨u,_,rfl⟩:=bW.1 hd;exact⟨rfl,rfl⟩
def Wa{ps:List aa}(hb: ∀p∈ps,aG p 1200)(hn:ps.length<=1000000):PF GB prog 32 [.sl (ps.map eP)] (.sl (ps.map kG)):=by
 have hm:=Iu eP ps;refine fn (fu:=⟨15⟩) func32 J J ntmps32 J J (fun C=>?_);refine aA 7 (.d (vI (ps.length:Nat))) J (by rw[hm]<;>rfl) ?_;refine gx J<|?_;refine nr 3 3 73 6 J J J ?_;refine lp (X:=Nat) (fun k=>[(8, .d (vI (k:Nat))),(3, .rw 3)]) (fun k=>[(3,some (.b 73 6 ((ps.take k).map kG) true))]) (fun k=>k<=ps.length) (fun k=>ps.length-k) 0 J (cJ _) (fun _=>J) (fun k hk=>?_);have hml:=Iu kG (ps.take k);rw[cK] at hml;refine br J J J (fun hc9=>?_) (fun hc9=>?_)
 .
  obtain⟨z,hz⟩: ∃s,ps[k]? =some s:=⟨_,aX (by omega)⟩;have hzm:=bU hz;refine ix _ J (ge hz) J<|cl J (zV (p:=z) (h:=hb z hzm)) J<|rf J J<|ap ((ps.take (k+1)).map kG) J (V5 hz) (Tb [z]) J<|?_;refine pe 16 3 J ?_;exact at_ (k+1) ⟨(by omega),(by omega)⟩
 .
  obtain rfl:k=ps.length:=by omega
  refine qi 3 J ?_;exact rz J (by rw[iQ];rfl)
def Nd{p q:aa}{i j:Nat}[hp:aG p i][hq:aG q j](hi:i<=100000:=by decide)(hj:j<=100000:=by decide):PF GB prog 154 [eP p,eP q] (eP (cd p q (-1))):=by
 refine fn func154 J J ntmps154 J J (fun C=>?_);refine cl J (zS (n:= -1) (by decide) (by decide)) J<|cl J (Th (p:=p) (q:=q) (c:=((-1:Int):Rat)) (i:=i) (j:=j) (k:=2) (by omega) (by omega)) J<|?_;exact rz J (by rw[show((-1:Int):Rat)= -1 from J];rfl)
def awG{a b c:aa}{i j k:Nat}[ha:aG a i][hb:aG b j][hc:aG c k](hi:i<=80000:=by decide)(hj:j<=80000:=by decide)(hk:k<=80000:=by decide):PF GB prog 62 [eP a,eP b,eP c] (vI (mF a b c)):=by
 refine fn func62 J J ntmps62 J J (fun C=>?_);refine cl J (Nd (p:=b) (q:=a) (i:=j) (j:=i) (by omega) (by omega)) J<|cl J (Nd (p:=c) (q:=a) (i:=k) (j:=i) (by omega) (by omega)) J<|?_;refine cl J (Yr (p:=cd b a (-1)) (q:=cd c a (-1)) (by omega) (by omega)) J<|cl J (HI (q:=(cd b a (-1)).cross (cd c a (-1)))) J<|?_;exact rz J J
def aIh(p q:aa):Int:=if cp p.x q.x≠0 then cp p.x q.x else cp p.y q.y
def uT(l:ab):Bool:=decide (l.a<0\/(l.a=0/\l.b<0))
def ab.canon(l:ab):ab:=if uT l then l.rev else l
instance LB.canon (l:ab) [h:LB l]:LB l.canon:=by unfold ab.canon;split;exact LB.rev h;exact h
def aGP{α β:Type}(c:β->β->Int)(g:α->β)(l:List α)(k:Nat):List β:=D6 c ((l.take k).map g)
section
variable {α β:Type} {c:β->β->Int} {g:α->β} {l:List α} {k:Nat}
end
def yZ(ls:List ab):List ab:=D6 Qo (ls.map ab.canon)
def Y8(l:ab)(p:aa):l.canon.value p=l.value p\/l.canon.value p= -l.value p:=by
 unfold ab.canon;split
 ·exact .inr (fI l p)
 ·exact .inl J
def DF(a b:Tr):List aa:=NL (yZ (a.lns++b.lns))
def eqR(a b:Tr):Bool:=(DF a b).all fun p=>s5 a p==s5 b p
def aI1(f:Bool->Bool->Bool)(a b:Tr):Bool:=(DF a b).any fun p=>f (s5 a p) (s5 b p)
def aHR(v:Bool)(t:Tr):Bool:=decide ((t.restrict []).isLeaf=true/\(t.restrict []).code=v)
def KJ{α:Type}{c:α->α->Int}(hT: ∀u v w,c u v<0->c v w<0->c u w<0)(hA: ∀u v,¬c u v<0->c u v≠0->c v u<0){x:α}: ∀{xs:List α},xs.Pairwise (fun a b=>c a b<0)->(kB c x xs).Pairwise (fun a b=>c a b<0)
 |[],_=>by rw[kB];exact List.pairwise_singleton _ _
 |u::t,h=>by
  obtain⟨h1,h2⟩:=bY.1 h;rw[kB];split
  ·rename_i hu
   refine bY.2 ⟨fun y hy=>?_,KJ hT hA h2⟩;rcases Dv c hy with rfl|hy
   ·exact hu
   ·exact h1 y hy
  ·rename_i hu
   split
   ·exact h
   ·rename_i hz
    have hx:=hA u x hu hz;refine bY.2 ⟨fun y hy=>?_,h⟩;rcases aU.1 hy with rfl|hy
    ·exact hx
    ·exact hT _ _ _ hx (h1 y hy)
def Iq{α:Type}{c:α->α->Int}(hT: ∀u v w,c u v<0->c v w<0->c u w<0)(hA: ∀u v,¬c u v<0->c u v≠0->c v u<0): ∀{l o:List α},o.Pairwise (fun a b=>c a b<0)->(l.foldl (fun out x=>kB c x out) o).Pairwise (fun a b=>c a b<0)
 |[],o,h=>h
 |x::l,o,h=>Iq (l:=l) (o:=kB c x o) hT hA (KJ hT hA h)
def T7(L:List ab)(p:aa):List aa:=L.flatMap fun l=>if Int.sign (l.value p).num=0 then [l.dir,bO l.dir] else []
def Q1{u v:aa}:0<di u v↔c7 v u:=by
 unfold di c7;split
 ·rename_i h;exact⟨fun e=>absurd e (by decide),fun e=>by omega⟩
 ·rename_i h
  split
  ·rename_i h2;exact⟨fun _=> .inl h2,fun _=>by decide⟩
  ·rename_i h2
   have e:v.half=u.half:=by omega
   rw[gp u v];constructor
   ·intro k
    have:Int.sign (u.cross v).num<0:=by omega
    rw[kD] at this;exact .inr ⟨e,by grind⟩
   ·rintro (k|⟨_,k⟩)
    ·omega
    ·have:Int.sign (u.cross v).num<0:=(kD _).2 (by grind)
     omega
def c7.trans{u v w:aa}(hu:u.half≠0)(hv:v.half≠0)(hw:w.half≠0)(h:c7 u v)(k:c7 v w):c7 u w:=by
 rcases h with h|⟨h,h'⟩<;>rcases k with k|⟨k,k'⟩
 ·exact .inl (by omega)
 ·exact .inl (by omega)
 ·exact .inl (by omega)
 ·refine .inr ⟨h.trans k,?_⟩
  have id1:u.cross w*v.y=u.cross v*w.y+v.cross w*u.y:=by unfold aa.cross;grind
  rcases kl v with⟨x,q⟩|⟨x,q⟩|⟨x,q⟩
  ·rw[x] at h k
   have qu:=uv.1 h;have qw:=uv.1 k.symm;rcases q with q|⟨q,q'⟩
   ·rw[<-iH q,id1]
    have wy:0<=w.y:=by grind
    have uy:0<=u.y:=by grind
    have a1:=er (fQ h') wy;rcases qu with qu|⟨qu,qu'⟩
    ·have:=b9 k' qu;grind
    ·rcases qw with qw|⟨qw,qw'⟩
     ·have:=b9 h' qw;rw[qu];grind
     ·exfalso
      have hx:v.cross w= -(w.x*v.y):=by unfold aa.cross;rw[qw];grind
      have:=b9 qw' q;grind
   ·exfalso
    have hx:u.cross v= -(v.x*u.y):=by unfold aa.cross;rw[q];grind
    have:=er (a:=v.x) (b:=u.y) (fQ q') (by grind);grind
  ·rw[x] at h k
   have qu:=uZ.1 h;have qw:=uZ.1 k.symm;rcases q with q|⟨q,q'⟩
   ·have e1:u.cross w* -v.y=u.cross v* -w.y+v.cross w* -u.y:=by grind
    rw[<-iH (k:= -v.y) (by grind),e1];have a1:=er (a:=u.cross v) (b:= -w.y) (fQ h') (by grind);rcases qu with qu|⟨qu,qu'⟩
    ·have:=b9 (a:=v.cross w) (b:= -u.y) k' (by grind);grind
    ·rcases qw with qw|⟨qw,qw'⟩
     ·have:=b9 (a:=u.cross v) (b:= -w.y) h' (by grind);rw[qu];grind
     ·exfalso
      have hx:v.cross w= -(-w.x* -v.y):=by unfold aa.cross;rw[qw];grind
      have:=b9 (a:= -w.x) (b:= -v.y) (by grind) (by grind);grind
   ·exfalso
    have hx:u.cross v= -(-v.x* -u.y):=by unfold aa.cross;rw[q];grind
    have:=er (a:= -v.x) (b:= -u.y) (by grind) (by grind);grind
  ·exact absurd x hv
def Ff(S:List aa)(x:aa):Nat->Nat
 |0=>0
 |k+1=>if 0<di (S.getD k ⟨0,0⟩) x then Ff S x k else k+1
def PK(S:List aa)(x:aa):List aa:=S.take (Ff S x S.length)++x::S.drop (Ff S x S.length)
def U4(ds:List aa):List aa:=ds.foldl PK []
structure aJa (L:List ab):Prop where
 ok: ∀l∈L,l.ok
 cn: ∀l∈L,uT l=false
 nd:L.Pairwise (fun a b=>a≠b)
def I5{l:ab}(h:l.ok):uT l.canon=false:=by
 have hn:=h.ne;unfold ab.Ne at hn;unfold ab.canon;split
 ·rename_i k
  unfold uT at*;rw[decide_eq_true_eq] at k;rw[decide_eq_false_iff_not];show¬(-l.a<0\/(-l.a=0/\ -l.b<0));omega
 ·rename_i k;simpa using k
def zf{l:ab}(h:l.ok):l.dir.half≠0:=fun e=>by
 have hn:=h.ne;unfold ab.Ne at hn;rcases kl l.dir with⟨k,_⟩|⟨k,_⟩|⟨_,k1,k2⟩
 ·rw[k] at e;cases e
 ·rw[k] at e;cases e
 ·unfold ab.dir at k1 k2
  simp only at k1 k2;apply hn;refine⟨?_,dV.1 k2⟩;have:(l.a:Rat)=0:=by grind
  exact dV.1 this
def VR{d:aa}(h:d.half≠0):(bO d).half≠0:=by rw[sA h];have:=jG h;omega
def zb(d:aa):bO (bO d)=d:=by unfold bO;cases d;simp
def Vg{l m:ab}(hl:l.ok)(hm:m.ok)(cl:uT l=false)(cm:uT m=false){p:aa}(h1:l.value p=0)(h2:m.value p=0)(hc:l.dir.cross m.dir=0):l=m:=by
 have key: ∀t,l.value (m.at t)=0:=fun t=>by
  obtain⟨s,rfl⟩:=yj hm.ne h2;rw[mr] at h1⊢;have hk:m.cutK l=0:=by
   unfold ab.cutK;rw[<-tZ];exact hc
  rw[hk] at h1⊢;grind
 rcases Cs hl hm key with e|e
 ·exact e
 ·exfalso
  have hn:=hm.ne;unfold ab.Ne at hn;rw[e] at cl;unfold uT at cl cm;rw[decide_eq_false_iff_not] at cl cm;have cl: ¬(-m.a<0\/(-m.a=0/\ -m.b<0)):=cl;omega
def Lx{ds:List aa}(h:ds.Pairwise c7)(hd:tU ds){i:Nat}(hi:i<ds.length)(hj:(i+1)%ds.length<ds.length):pj ds ds[i] ds[(i+1)%ds.length]:=by
 have hp:=pS.1 h;have irr: ∀{u v:aa},c7 u v-> ¬c7 v u:=fun{u v} a b=>by
  unfold c7 at a b;rw[gp u v] at b;rcases a with a|⟨a,a'⟩<;>rcases b with b|⟨b,b'⟩
  ·omega
  ·omega
  ·omega
  ·grind
 have ord: ∀{j k:Nat} (a:j<ds.length) (b:k<ds.length),c7 ds[j] ds[k]->j<k:=fun{j k} a b q=>by
  rcases rQ j k with e|e|e
  ·exact e
  ·subst e;exact absurd q (irr q)
  ·exact absurd (hp k j b a e) (irr q)
 by_cases hl:i+1<ds.length
 ·have e:(i+1)%ds.length=i+1:=fK hl
  simp only[e];refine .inl ⟨hp i (i+1) hi hl (by omega),fun d hd' ⟨q1,q2⟩=>?_⟩;obtain⟨j,hj',rfl⟩:=qX hd';have:=ord hi hj' q1;have:=ord hj' hl q2;omega
 ·have e:(i+1)%ds.length=0:=by rw[show i+1=ds.length by omega];exact Nat.mod_self _
  simp only[e];refine .inr ⟨fun d hd' q=>?_,fun d hd' q=>?_⟩
  ·obtain⟨j,hj',rfl⟩:=qX hd'
   have:=ord hi hj' q;omega
  ·obtain⟨j,hj',rfl⟩:=qX hd'
   have:=ord hj' (by omega) q;omega
def H7(v:aa):Nat:=Nat.gcd (v.x.num.natAbs*v.y.den) (v.y.num.natAbs*v.x.den)
def NN(n:Int)(d g:Nat):Int:=if n<0 then-((n.natAbs*d/g:Nat):Int) else((n.natAbs*d/g:Nat):Int)
def N9(v:aa):aa:=if v.half=0 then⟨0,0⟩ else⟨(NN v.x.num v.y.den (H7 v):Int),(NN v.y.num v.x.den (H7 v):Int)⟩
def WE(ds:List aa)(i:Nat):List aa:=
 if di (ds.getD i ⟨0,0⟩) (ds.getD ((i+1)%ds.length) ⟨0,0⟩)=0/\2<ds.length then []
 else if Int.sign ((ds.getD i ⟨0,0⟩).cross (ds.getD ((i+1)%ds.length) ⟨0,0⟩)).num=0 then [jl (ds.getD i ⟨0,0⟩)]
 else [cd (N9 (ds.getD i ⟨0,0⟩)) (N9 (ds.getD ((i+1)%ds.length) ⟨0,0⟩)) 1]
def ZA(ds:List aa):List aa:=if ds.length=0 then [⟨1,0⟩] else(List.range ds.length).flatMap (WE ds)
def LO(L:List ab)(p:aa):List aa:=ZA (U4 (T7 L p))
def zF{ds:List aa}{i:Nat}(h:i<ds.length):ds.getD i ⟨0,0⟩=ds[i]:=by
 rw[aK,aX h,jT]
def TE(t:Tr)(p:aa):Bool:=(LO (yZ t.lns) p).any fun v=>(eG t p v).1
def Qs(t:Tr)(p:aa):Bool:=(LO (yZ t.lns) p).all fun v=>(eG t p v).1
def rx{z:Rat}(h:z<0):Int.sign z.num= -1:=by
 have:=(kD _).2 h;rcases lK z.num 0 with q|q|q
 ·exact dY q
 ·rw[q] at this;simp at this
 ·rw[dS q] at this;simp at this
def ki:Tr->aa->List ab
 | .leaf _,_=>[]
 | .node l x y,p=>(if Int.sign (l.value p).num=0 then [l] else [])++((if 0<=Int.sign (l.value p).num then ki x p else [])++(if Int.sign (l.value p).num<=0 then ki y p else []))
def nA: ∀{t:Tr} {p:aa} {l:ab},l∈ki t p->l∈t.lns/\l.value p=0
 | .leaf _,p,l,h=>by cases h
 | .node m x y,p,l,h=>by
  rw[ki,bV,bV] at h;rcases h with h|h|h
  ·split at h
   ·rw[aV] at h;subst h
    rename_i k;exact⟨aQ,(ke _).1 k⟩
   ·cases h
  ·split at h
   ·have:=nA h;exact⟨aZ _ (bJ _ this.1),this.2⟩
   ·cases h
  ·split at h
   ·have:=nA h;exact⟨aZ _ (cZ _ this.1),this.2⟩
   ·cases h
def To{t:Tr}{p v:aa}(h:Gn t.lns p v):Gn (ki t p) p v:=fun l hl hz=>h l (nA hl).1 hz
def xR: ∀{t:Tr} {p v w:aa},(∀l∈ki t p,Int.sign (l.nor.dot v).num=Int.sign (l.nor.dot w).num)->eG t p v=eG t p w
 | .leaf _,_,_,_,_=>rfl
 | .node l x y,p,v,w,h=>by
  have hx:0<=Int.sign (l.value p).num->eG x p v=eG x p w:=fun k=>xR fun m hm=>h m (by rw[ki,bV,bV,if_pos k];exact .inr (.inl hm));have hy:Int.sign (l.value p).num<=0->eG y p v=eG y p w:=fun k=>xR fun m hm=>h m (by rw[ki,bV,bV,if_pos k];exact .inr (.inr hm));rw[eG,eG,tZ,tZ];by_cases k:Int.sign (l.value p).num=0
  ·rw[if_pos k,if_pos k,<-h l (by rw[ki,if_pos k];exact aQ),hx (by omega),hy (by omega)]
  ·rw[if_neg k,if_neg k]
   generalize Int.sign (l.value p).num=s at*;split
   ·exact hx (by decide)
   ·exact hy (by decide)
   ·rfl
def EV{L M:List ab}{p v:aa}(hM: ∀l∈M,l.ok)(hL:Gn L p v): ∃w,Gn M p w/\ ∀l∈L,l.value p=0->Int.sign (l.nor.dot v).num=Int.sign (l.nor.dot w).num:=by
 have e2: ∀l:ab,l.value p=0->l.value (cd p v 1)=l.nor.dot v:=fun l hz=>by rw[ie,hz];grind
 have hp':bH ((L.filter fun l=>decide (l.value p=0)).map fun l=>(⟨if 0<l.value (cd p v 1) then l else l.rev,ao.all⟩:aP)) (cd p v 1):=fun s hs=>by
  obtain⟨l,hl,rfl⟩:=bW.1 hs;obtain⟨h1,h2⟩:=kU.1 hl;have h3:=of_decide_eq_true h2;have h0:l.value (cd p v 1)≠0:=by rw[e2 l h3];exact hL l h1 h3
  simp only;split
  ·assumption
  ·rw[fI];grind
 obtain⟨q,q1,q2⟩:=Bb hp' M hM;have e: ∀l:ab,l.value p=0->l.value q=l.nor.dot ⟨q.x-p.x,q.y-p.y⟩:=fun l hz=>by
  have h1:=ie l p ⟨q.x-p.x,q.y-p.y⟩ 1;rw[hz] at h1;have h2:cd p ⟨q.x-p.x,q.y-p.y⟩ 1=q:=by
   unfold cd
   cases q
   simp only[aa.mk.injEq];constructor<;>grind
  rw[h2] at h1;rw[h1];grind
 refine⟨⟨q.x-p.x,q.y-p.y⟩,fun m hm hz=>?_,fun l hl hz=>?_⟩
 ·rw[<-e m hz];exact q2 m hm
 ·have h1:=q1 _ (bW.2 ⟨l,kU.2 ⟨hl,decide_eq_true hz⟩,J⟩)
  simp only at h1;rw[e2 l hz] at h1;rw[<-e l hz];have h0:=hL l hl hz;split at h1
  ·rename_i k
   rw[(i9 _).2 k,(i9 _).2 h1]
  ·rename_i k
   rw[fI] at h1;rw[rx (by grind),rx (by grind)]
def ri(t:Tr)(p:aa)(b:Bool):Prop:= ∃v,Gn (ki t p) p v/\(eG t p v).1=b
def E5{t:Tr}{p w:aa}(h:Gn t.lns p w):ri t p (eG t p w).1:=⟨w,To h,J⟩
def aAd{t:Tr}{p:aa}{b:Bool}(h:ri t p b){M:List ab}(hM: ∀l∈M,l.ok): ∃w,Gn M p w/\(eG t p w).1=b:=by
 obtain⟨v,h1,h2⟩:=h;obtain⟨w,k1,k2⟩:=EV hM h1;exact⟨w,k1,by rw[<-h2,xR fun l hl=>k2 l hl (nA hl).2]⟩
def Yv{M:List ab}(hM: ∀l∈M,l.ok)(p:aa): ∃w,Gn M p w:=by
 obtain⟨w,h,_⟩:=EV (L:=[]) (M:=M) (p:=p) (v:=⟨1,0⟩) hM fun l hl=>by cases hl
 exact⟨w,h⟩
def QV{t:Tr}(ht:t.all ab.ok)(p:aa):ri t p true\/ri t p false:=by
 obtain⟨w,h⟩:=Yv (qd ht) p;have:=E5 h
 cases hb:(eG t p w).1 with
 |true=>rw[hb] at this;exact .inl this
 |false=>rw[hb] at this;exact .inr this
def min2{a b:Rat}(ha:0<a)(hb:0<b): ∃d:Rat,0<d/\d<=a/\d<=b:=by
 by_cases k:a<=b
 ·exact⟨a,ha,by grind,k⟩
 ·exact⟨b,hb,by grind,by grind⟩
def MW{t:Tr}{p:aa}{b:Bool}(ht:t.all ab.ok)(h:ri t p b){M:List ab}(hM: ∀l∈M,l.ok){c:aE}(hc:bH c p): ∃q,bH c q/\eB t.lns q/\eB M q/\t.val q=b:=by
 obtain⟨w,k1,k2⟩:=aAd h (M:=t.lns++M) fun l hl=>(bV.1 hl).elim (qd ht l) (hM l);obtain⟨e1,a1,b1⟩:=yK (t:=t) fun l hl=>k1 l (bJ _ hl);obtain⟨e2,a2,b2⟩:=hc.open w;obtain⟨d,c1,c2,c3⟩:=min2 a1 a2;obtain⟨o1,v1⟩:=b1 d c1 c2;obtain⟨q,q1,q2⟩:=Bb (c:=c++t.lns.map fun l=>⟨if 0<l.value (cd p w d) then l else l.rev,ao.all⟩) (p:=cd p w d) (fun s hs=>by
  rcases bV.1 hs with hs|hs
  ·exact b2 d (fQ c1) c3 s hs
  ·obtain⟨l,hl,rfl⟩:=bW.1 hs
   have h0:=o1 l hl;simp only;split
   ·assumption
   ·rw[fI];grind) (t.lns++M) fun l hl=>(bV.1 hl).elim (qd ht l) (hM l)
 refine⟨q,fun s hs=>q1 s (bJ _ hs),(eB.app.1 q2).1,(eB.app.1 q2).2,?_⟩;rw[show t.val q=t.val (cd p w d) from F2 (L:=t.lns) (fun l hl=>?_) fun l hl=>hl,<-k2,v1];have h1:=q1 _ (cZ _ (bW.2 ⟨l,hl,J⟩));have h0:=o1 l hl;simp only at h1;split at h1
 ·rename_i k;exact⟨fun _=>k,fun _=>h1⟩
 ·rename_i k;rw[fI] at h1;exact⟨fun e=>by grind,fun e=>absurd e k⟩
def mO(ds:List aa)(i:Nat):aa:=
 if 0<Int.sign ((ds.getD i ⟨0,0⟩).cross (ds.getD ((i+1)%ds.length) ⟨0,0⟩)).num then(ds.getD i ⟨0,0⟩).add (ds.getD ((i+1)%ds.length) ⟨0,0⟩) else jl (ds.getD i ⟨0,0⟩)
def iF(ds:List aa):List aa:=if ds.length=0 then [⟨1,0⟩] else(List.range ds.length).map (mO ds)
def LM(u w:aa):u.add w=f8 1 1 u w:=by
 unfold aa.add f8;simp only[aa.mk.injEq];constructor<;>grind
def JJ{x:aa}: ∀{S:List aa},S≠[]->(∀d∈S,0<d.cross x)-> ∃u∈S,∀d∈S,0<=d.cross u
 |[],h,_=>absurd J h
 |[d],_,_=>⟨d,aQ,fun e he=>by rw[aV] at he;subst he;rw[Le];exact gS⟩
 |d0::d1::S,_,h=>by
  obtain⟨u,h1,h2⟩:=JJ (S:=d1::S) (by simp) fun d hd=>h d (aZ _ hd);by_cases k:0<=d0.cross u
  ·exact⟨u,aZ _ h1,fun d hd=>(aU.1 hd).elim (fun e=>e▸k) (h2 d)⟩
  ·refine⟨d0,aQ,fun d hd=>(aU.1 hd).elim (fun e=>by rw[e,Le];exact gS) fun hd=>?_⟩
   have p0:=h d0 aQ;have pu:=h u (aZ _ h1);have pd:=h d (aZ _ hd);have k1:=h2 d hd;have k2:0<u.cross d0:=by rw[gp] at k;grind
   have e:d.cross d0*u.cross x=u.cross d0*d.cross x+d.cross u*d0.cross x:=by unfold aa.cross;grind
   have n1:=b9 k2 pd;have n2:=er k1 (fQ p0);generalize d.cross d0=A at*;generalize u.cross x=B at*;by_cases hA:0<=A
   ·exact hA
   ·have:=b9 (a:= -A) (b:=B) (by grind) pu
    grind
def Sy{ds:List aa}(h:ds.Pairwise c7)(hd:tU ds)(hn:ds≠[]){x:aa}(hx: ∀d∈ds,d.cross x≠0): ∃i,i<ds.length/\ ∀d∈ds,Int.sign (d.cross x).num=Int.sign (d.cross (mO ds i)).num:=by
 have hne:(ds.filter fun d=>decide (0<d.cross x))≠[]:=by
  obtain⟨d,r,rfl⟩:=List.exists_cons_of_ne_nil hn;intro e;have h1: ¬0<d.cross x:=fun k=>by
   have:d∈(d::r).filter fun d=>decide (0<d.cross x):=kU.2 ⟨aQ,decide_eq_true k⟩;rw[e] at this;cases this
  have h2:=hx d aQ;have h3:0<(bO d).cross x:=by rw[gp,nj,<-gp];grind
  have:bO d∈(d::r).filter fun d=>decide (0<d.cross x):=kU.2 ⟨hd.neg d aQ,decide_eq_true h3⟩;rw[e] at this;cases this
 obtain⟨u,hu,hl⟩:=JJ hne fun d hd=>of_decide_eq_true (kU.1 hd).2;obtain⟨hu1,hu2⟩:=kU.1 hu;have hux:=of_decide_eq_true hu2;obtain⟨i,hi,rfl⟩:=qX hu1;have hj:(i+1)%ds.length<ds.length:=cN _ (by omega);have hnx:=Lx h hd hi hj;have mw:=jX hj;refine⟨i,hi,?_⟩;have key: ∀d∈ds,0<d.cross x->0<d.cross (mO ds i):=fun d hdm hdx=>by
  have hdu:0<=d.cross ds[i]:=hl d (kU.2 ⟨hdm,decide_eq_true hdx⟩);unfold mO;rw[zF hi,zF hj];generalize ds[(i+1)%ds.length]=w at*;generalize ds[i]=u at*;have hp:=hnx.pos hd hu1 mw;have zd:=hd.nz d hdm;have zu:=hd.nz u hu1;split
  ·rename_i k
   have hc:=(mD _).1 k;rw[LM];have hg:=hnx.gen hd hu1 mw (by grind) (a:=1) (b:=1) (by decide) (by decide) d hdm;have e:d.cross (f8 1 1 u w)=d.cross u+d.cross w:=by unfold aa.cross f8;grind
   rw[e] at hg⊢;by_cases hw:0<=d.cross w
   ·grind
   ·exfalso
    -- -d lies between u and w
    rcases fp (d.cross u) with q|q|q
    ·-- d runs along u
     have hdd:0<d.dot u:=by
      rcases fp (d.dot u) with r|r|r
      ·exact absurd r (A5 zd zu q)
      ·exact r
      ·exfalso
       have q':(bO d).cross u=0:=by unfold aa.cross bO at*;grind
       have r':0<(bO d).dot u:=by unfold aa.dot bO at*;grind
       obtain⟨g,g1,g2⟩:=ta q' r';have:d.cross x= -(g*u.cross x):=by
        have h1:(bO d).x=g*u.x:=by rw[g2]
        have h2:(bO d).y=g*u.y:=by rw[g2]
        unfold bO at h1 h2;simp only at h1 h2;unfold aa.cross;grind
       have:=b9 g1 hux;grind
     obtain⟨g,g1,g2⟩:=ta q hdd;have:d.cross w=g*u.cross w:=by rw[g2];unfold aa.cross;grind
     have:=b9 g1 hc;grind
    ·have hb:bO d=f8 (-(d.cross w)/u.cross w) (d.cross u/u.cross w) u w:=by
      have hz:u.cross w≠0:=by grind
      have e1: -(d.cross w)/u.cross w*u.cross w= -(d.cross w):=by grind
      have e2:d.cross u/u.cross w*u.cross w=d.cross u:=by grind
      unfold bO f8;generalize-(d.cross w)/u.cross w=a at*;generalize d.cross u/u.cross w=b at*;simp only[aa.mk.injEq];have f1:(a*u.x+b*w.x+d.x)*u.cross w=0:=by
       have:(a*u.x+b*w.x+d.x)*u.cross w=a*u.cross w*u.x+b*u.cross w*w.x+d.x*u.cross w:=by grind
       rw[this,e1,e2];unfold aa.cross;grind
      have f2:(a*u.y+b*w.y+d.y)*u.cross w=0:=by
       have:(a*u.y+b*w.y+d.y)*u.cross w=a*u.cross w*u.y+b*u.cross w*w.y+d.y*u.cross w:=by grind
       rw[this,e1,e2];unfold aa.cross;grind
      constructor<;>grind
     refine hnx.none hd hu1 mw (by grind) (a:= -(d.cross w)/u.cross w) (b:=d.cross u/u.cross w) ?_ ?_ (by rw[<-hb];exact hd.neg d hdm)
     ·refine(iH (k:=u.cross w) hc).1 ?_
      have e1: -(d.cross w)/u.cross w*u.cross w= -(d.cross w):=by grind
      rw[e1];grind
     ·refine(iH (k:=u.cross w) hc).1 ?_
      have e1:d.cross u/u.cross w*u.cross w=d.cross u:=by grind
      rw[e1];exact q
    ·grind
  ·rename_i k
   have hc:u.cross w=0:=by have: ¬0<u.cross w:=fun e=>k ((mD _).2 e);grind
   have hg:=hnx.turn hd hu1 mw hc d hdm;rw[MZ] at hg⊢;rcases fp (d.dot u) with r|r|r
   ·exact absurd r hg
   ·exact r
   ·exfalso
    -- all directions run along u
    have hdc:d.cross u=0:=by
     rcases hnx.spec hd hu1 mw with⟨_,h2,_⟩|⟨h1,h2,h3⟩
     ·rw[hc] at h2;exact absurd h2 (by decide)
     ·have zw:=jG (hd.nz w mw)
      have zu':=jG zu;have zd':=jG zd;have hwu: ∃g:Rat,0<g/\w=⟨g*(bO u).x,g*(bO u).y⟩:=by
       refine ta (d:=bO u) (e:=w) (by rw[nj,gp,hc];grind) ?_;rcases fp (w.dot u) with s|s|s
       ·exact absurd s (A5 (hd.nz w mw) zu (by rw[gp,hc];rfl))
       ·exfalso
        obtain⟨g,g1,g2⟩:=ta (d:=u) (e:=w) (by rw[gp,hc];rfl) s;apply h1;rw[g2];rcases kl u with⟨x0,s0⟩|⟨x0,s0⟩|⟨x0,s0⟩
        ·rw[x0]
         refine(uv.2 ?_).symm;rcases s0 with s0|⟨s0,s1⟩
         ·exact .inl (b9 g1 s0)
         ·exact .inr ⟨by show g*u.y=0;rw[s0];grind,b9 g1 s1⟩
        ·rw[x0]
         refine(uZ.2 ?_).symm;rcases s0 with s0|⟨s0,s1⟩
         ·exact .inl (by show g*u.y<0;have:=b9 (a:=g) (b:= -u.y) g1 (by grind);grind)
         ·exact .inr ⟨by show g*u.y=0;rw[s0];grind,by show g*u.x<0;have:=b9 (a:=g) (b:= -u.x) g1 (by grind);grind⟩
        ·exact absurd x0 zu
       ·unfold aa.dot bO at*;grind
      obtain⟨g,g1,g2⟩:=hwu;have cw: ∀e:aa,w.cross e=g* -(u.cross e):=fun e=>by rw[g2];unfold aa.cross bO;grind
      by_cases hh:d.half=u.half
      ·have a1:=h2 d hdm hh
       have a2:=h3 _ (hd.neg d hdm) (by rw[sA zd];omega);rw[cw,nj,gp d u] at a2;rcases fp (d.cross u) with s|s|s
       ·exact s
       ·have:=b9 g1 s;grind
       ·grind
      ·have a1:=h2 _ (hd.neg d hdm) (by rw[sA zd];omega)
       have a2:=h3 d hdm (by omega);rw[cw,gp d u] at a2;have e3:(bO d).cross u= -(d.cross u):=by unfold aa.cross bO;grind
       rw[e3] at a1;rcases fp (d.cross u) with s|s|s
       ·exact s
       ·grind
       ·have:=b9 (a:=g) (b:= -(d.cross u)) g1 (by grind);grind
    have q':(bO d).cross u=0:=by unfold aa.cross bO at*;grind
    have r':0<(bO d).dot u:=by unfold aa.dot bO at*;grind
    obtain⟨g,g1,g2⟩:=ta q' r';have:d.cross x= -(g*u.cross x):=by
     have h1:(bO d).x=g*u.x:=by rw[g2]
     have h2:(bO d).y=g*u.y:=by rw[g2]
     unfold bO at h1 h2;simp only at h1 h2;unfold aa.cross;grind
    have:=b9 g1 hux;grind
 intro d hdm;rcases fp (d.cross x) with k|k|k
 ·exact absurd k (hx d hdm)
 ·rw[(i9 _).2 k,(i9 _).2 (key d hdm k)]
 ·have en: ∀y:aa,(bO d).cross y= -(d.cross y):=fun y=>by unfold aa.cross bO;grind
  have:=key _ (hd.neg d hdm) (by rw[en];grind);rw[en] at this;rw[rx k,rx (by grind)]
def dx(v:aa):aa:=v.scale (rgcd v.x v.y)⁻¹
def dC(t:Tr)(p:aa):List aa:=(ki t p).flatMap fun l=>[dx l.dir,bO (dx l.dir)]
def gr(ds:List aa):List aa:=D6 di ds
def od{t:Tr}{p d:aa}:d∈dC t p↔ ∃l∈ki t p,d=dx l.dir\/d=bO (dx l.dir):=by
 unfold dC;rw[gK];constructor
 ·rintro ⟨l,h1,h2⟩
  refine⟨l,h1,?_⟩;rcases aU.1 h2 with h|h
  ·exact .inl h
  ·exact .inr (aV.1 h)
 ·rintro ⟨l,h1,rfl|rfl⟩
  ·exact⟨l,h1,aQ⟩
  ·exact⟨l,h1,aZ _ aQ⟩
def Zf{x y:Rat}(h:x≠0\/y≠0):0<rgcd x y:=by
 unfold rgcd;have hd:0<x.den*y.den:=iX x.den_pos y.den_pos;have hg:0<Nat.gcd (x.num.natAbs*y.den) (y.num.natAbs*x.den):=by
  rcases h with h|h
  ·exact kS _ (iX (Int.natAbs_pos.2 fun e=>h (kQ.1 e)) y.den_pos)
  ·exact nS _ (iX (Int.natAbs_pos.2 fun e=>h (kQ.1 e)) x.den_pos)
 generalize Nat.gcd (x.num.natAbs*y.den) (y.num.natAbs*x.den)=g at*;generalize x.den*y.den=d at*;rw[<-Ey];have h1:mkRat (g:Int) d=(g:Rat)/(d:Rat):=by rw[lN];rfl
 rw[Ey,h1];have hg':(0:Rat)<(g:Rat):=by exact_mod_cast hg
 have hd':(0:Rat)<(d:Rat):=by exact_mod_cast hd
 have e:(g:Rat)/(d:Rat)*(d:Rat)=(g:Rat):=by grind
 exact(iH (k:=(d:Rat)) hd').1 (by rw[e];exact hg')
def Xw{v:aa}(h:v.half≠0):v.x≠0\/v.y≠0:=by
 rcases kl v with⟨_,k⟩|⟨_,k⟩|⟨k,_⟩
 ·rcases k with k|⟨_,k⟩
  ·exact .inr (by grind)
  ·exact .inl (by grind)
 ·rcases k with k|⟨_,k⟩
  ·exact .inr (by grind)
  ·exact .inl (by grind)
 ·exact absurd k h
def xN{v:aa}(h:v.half≠0): ∃a:Rat,0<a/\dx v=⟨a*v.x,a*v.y⟩:=by
 have hg:=Zf (Xw h);refine⟨(rgcd v.x v.y)⁻¹,?_,?_⟩
 ·generalize rgcd v.x v.y=g at*
  have e:g⁻¹*g=1:=by grind
  exact(iH (k:=g) hg).1 (by rw[e];decide)
 ·unfold dx aa.scale
  simp only[aa.mk.injEq];constructor<;>grind
def ayY(v:aa):dx (bO v)=bO (dx v):=by
 have e:rgcd (-v.x) (-v.y)=rgcd v.x v.y:=by
  unfold rgcd;rw[mU,mU,pJ,pJ,jU,jU]
 unfold dx aa.scale bO;simp only[aa.mk.injEq,e];constructor<;>grind
def Ex{v:aa}(h:v.half≠0):(dx v).half=v.half:=by
 obtain⟨a,a1,e⟩:=xN h;have:=Fa (a:=a) (b:=a) (u:=v) (w:=v) a1 a1 J h;rw[<-this];have h2:dx v=f8 (a*(1/2)) (a*(1/2)) v v:=by rw[e];unfold f8;simp only[aa.mk.injEq];constructor<;>grind
 have h3:=Fa (a:=a*(1/2)) (b:=a*(1/2)) (u:=v) (w:=v) (b9 a1 (by grind)) (b9 a1 (by grind)) J h;rw[h2,h3,this]
def UV{u v:aa}:di u v=0↔u.half=v.half/\u.cross v=0:=by
 unfold di;split
 ·constructor
  ·intro h;exact absurd h (by decide)
  ·intro h;omega
 ·split
  ·constructor
   ·intro h;exact absurd h (by decide)
   ·intro h;omega
  ·constructor
   ·intro h
    exact⟨by omega,(ke _).1 (by omega)⟩
   ·intro h
    rw[(ke _).2 h.2];rfl
def Ad{u v w:aa}(h:c7 u v)(k:c7 v w):c7 u w:=by
 by_cases hu:u.half=0
 ·by_cases hw:w.half=0
  ·have z: ∀x y:aa,x.half=0->x.cross y=0:=fun x y hx=>by
    rcases kl x with⟨e,_⟩|⟨e,_⟩|⟨_,e1,e2⟩
    ·rw[hx] at e;exact absurd e (by decide)
    ·rw[hx] at e;exact absurd e (by decide)
    ·unfold aa.cross;rw[e1,e2];grind
   rcases h with h|⟨h,h'⟩
   ·rcases k with k|⟨k,k'⟩
    ·omega
    ·have hv:v.half≠0:=by omega
     omega
   ·rw[z u v hu] at h';exact absurd h' (by decide)
  ·refine .inl ?_
   have h1:=jG hw;omega
 ·have hv:v.half≠0:=by
   intro e;rcases h with h|⟨h,_⟩
   ·have:=jG hu;omega
   ·omega
  have hw:w.half≠0:=by
   intro e;rcases k with k|⟨k,_⟩
   ·have:=jG hv;omega
   ·omega
  exact c7.trans hu hv hw h k
section
variable {α:Type} (c:α->α->Int)
def Nx{x y:α}: ∀{xs:List α},y∈xs->y∈kB c x xs
 |[],h=>by cases h
 |u::t,h=>by
  rw[kB];split
  ·rcases aU.1 h with rfl|h
   ·exact aQ
   ·exact aZ _ (Nx h)
  ·split
   ·exact h
   ·exact aZ _ h
def LL{x:α}: ∀{xs:List α},∃e∈kB c x xs,e=x\/c e x=0
 |[]=>⟨x,aQ, .inl J⟩
 |u::t=>by
  rw[kB];split
  ·obtain⟨e,h1,h2⟩:=LL (x:=x) (xs:=t)
   exact⟨e,aZ _ h1,h2⟩
  ·split
   ·exact⟨u,aQ, .inr (by assumption)⟩
   ·exact⟨x,aQ, .inl J⟩
def J3{y:α}: ∀{l o:List α},y∈o->y∈l.foldl (fun out x=>kB c x out) o
 |[],o,h=>h
 |x::t,o,h=>J3 (l:=t) (Nx c h)
def Hd{d:α}: ∀{l o:List α},d∈l-> ∃e∈l.foldl (fun out x=>kB c x out) o,e=d\/c e d=0
 |[],o,h=>by cases h
 |x::t,o,h=>by
  rcases aU.1 h with rfl|h
  ·obtain⟨e,h1,h2⟩:=LL c (x:=d) (xs:=o)
   exact⟨e,J3 c (l:=t) h1,h2⟩
  ·exact Hd (l:=t) h
end
def OZ(ds:List aa):(gr ds).Pairwise c7:=by
 have:=Iq (c:=di) (fun u v w h k=>pB.2 (Ad (pB.1 h) (pB.1 k))) (fun u v h k=>pB.2 (Q1.1 (by omega))) (l:=ds) (o:=[]) List.Pairwise.nil;exact this.imp fun h=>pB.1 h
def LU{l m:ab}(hl:l.ok)(hm:m.ok){p:aa}(h1:l.value p=0)(h2:m.value p=0){d e:aa}(hd:d=dx l.dir\/d=bO (dx l.dir))(he:e=dx m.dir\/e=bO (dx m.dir))(h:di d e=0):d=e:=by
 obtain⟨hh,hc⟩:=UV.1 h;have zl:=zf hl;have zm:=zf hm;have zpl:(dx l.dir).half≠0:=by rw[Ex zl];exact zl
 have zpm:(dx m.dir).half≠0:=by rw[Ex zm];exact zm
 have cr:l.dir.cross m.dir=0:=by
  obtain⟨a,a1,e1⟩:=xN zl;obtain⟨b,b1,e2⟩:=xN zm;have c0:(dx l.dir).cross (dx m.dir)=0:=by
   rcases hd with rfl|rfl<;>rcases he with rfl|rfl
   ·exact hc
   ·rw[nj] at hc;grind
   ·rw[gp,nj] at hc;rw[gp];grind
   ·rw[nj,gp,nj] at hc;rw[gp];grind
  have e3:(dx l.dir).cross (dx m.dir)=(a*b)*l.dir.cross m.dir:=by rw[e1,e2];unfold aa.cross;grind
  have hab:=b9 a1 b1;rw[e3] at c0;clear e1 e2 e3;generalize a*b=k at*;generalize l.dir.cross m.dir=z at*;rcases fp z with q|q|q
  ·exact q
  ·have:=b9 hab q;grind
  ·have:=b9 (a:=k) (b:= -z) hab (by grind);grind
 have dirR: ∀k:ab,k.rev.dir=bO k.dir:=fun k=>by
  unfold ab.dir ab.rev bO;simp only[aa.mk.injEq,oL]
  try constructor<;>grind
 have cdir: ∀k:ab,k.canon.dir=k.dir\/k.canon.dir=bO k.dir:=fun k=>by
  unfold ab.canon;split
  ·exact .inr (dirR k)
  ·exact .inl J
 have cval: ∀k:ab,k.value p=0->k.canon.value p=0:=fun k hk=>by rcases Y8 k p with e|e<;>rw[e,hk]<;>rfl
 have okc: ∀k:ab,k.ok->k.canon.ok:=fun k hk=>by unfold ab.canon;split;exact hk.rev;exact hk
 have ec:l.canon=m.canon:=Vg (okc l hl) (okc m hm) (I5 hl) (I5 hm) (cval l h1) (cval m h2) (by
  rcases cdir l with e1|e1<;>rcases cdir m with e2|e2<;>rw[e1,e2]
  ·exact cr
  ·rw[nj,cr];rfl
  ·rw[gp,nj,gp,cr];rfl
  ·rw[nj,gp,nj,gp,cr];rfl)
 have hdir:l.dir=m.dir\/l.dir=bO m.dir:=by
  have e1:=cdir l;have e2:=cdir m;rw[ec] at e1;rcases e1 with e1|e1<;>rcases e2 with e2|e2
  ·exact .inl (e1.symm.trans e2)
  ·exact .inr (e1.symm.trans e2)
  ·right;rw[<-e2,e1,zb]
  ·left;rw[<-zb l.dir,<-e1,e2,zb]
 have hP:dx l.dir=dx m.dir\/dx l.dir=bO (dx m.dir):=by
  rcases hdir with e|e
  ·exact .inl (by rw[e])
  ·exact .inr (by rw[e,ayY])
 have hn:=sA zpm;have h3:=jG zpm;have key:d=dx m.dir\/d=bO (dx m.dir):=by
  rcases hd with rfl|rfl<;>rcases hP with e|e
  ·exact .inl e
  ·exact .inr e
  ·exact .inr (by rw[e])
  ·exact .inl (by rw[e,zb])
 rcases key with rfl|rfl<;>rcases he with rfl|rfl
 ·rfl
 ·exfalso;omega
 ·exfalso;omega
 ·rfl
def I'{t:Tr}(ht:t.all ab.ok)(p:aa):(gr (dC t p)).Pairwise c7/\tU (gr (dC t p))/\ ∀y,y∈gr (dC t p)↔y∈dC t p:=by
 have h2: ∀y,y∈gr (dC t p)->y∈dC t p:=fun y hy=>by
  rcases FP di hy with h|h
  ·exact h
  ·cases h
 have h3: ∀y,y∈dC t p->y∈gr (dC t p):=fun y hy=>by
  obtain⟨e,e1,e2⟩:=Hd di (o:=[]) hy;rcases e2 with rfl|e2
  ·exact e1
  ·obtain⟨l,k1,k2⟩:=od.1 hy
   obtain⟨m,k3,k4⟩:=od.1 (h2 e e1);obtain⟨a1,a2⟩:=nA k1;obtain⟨b1,b2⟩:=nA k3;rw[<-LU (qd ht _ b1) (qd ht _ a1) b2 a2 k4 k2 e2];exact e1
 refine⟨OZ _,⟨fun d hd=>?_,fun d hd=>?_⟩,fun y=>⟨h2 y,h3 y⟩⟩
 ·obtain⟨l,k1,k2⟩:=od.1 (h2 d hd)
  have z:=zf (qd ht _ (nA k1).1);have z2:(dx l.dir).half≠0:=by rw[Ex z];exact z
  rcases k2 with rfl|rfl
  ·exact z2
  ·exact VR z2
 ·obtain⟨l,k1,k2⟩:=od.1 (h2 d hd)
  refine h3 _ (od.2 ⟨l,k1,?_⟩);rcases k2 with rfl|rfl
  ·exact .inr J
  ·exact .inl (zb _)
def If{t:Tr}(ht:t.all ab.ok){p v:aa}(hv:v∈iF (gr (dC t p))):Gn (ki t p) p v:=by
 obtain⟨h1,h2,h3⟩:=I' ht p;have key:(∀d∈gr (dC t p),d.cross v≠0)->Gn (ki t p) p v:=fun k l hl hz e=>by
  have z:=zf (qd ht _ (nA hl).1);obtain⟨a,a1,a2⟩:=xN z;refine k _ ((h3 _).2 (od.2 ⟨l,hl, .inl J⟩)) ?_;rw[<-tZ] at e;have:(dx l.dir).cross v=a*l.dir.cross v:=by rw[a2];unfold aa.cross;grind
  rw[this,e];grind
 generalize gr (dC t p)=ds at*;unfold iF at hv;split at hv
 ·rename_i hn
  refine key fun d hd=>?_;rw[List.length_eq_zero_iff.1 hn] at hd;cases hd
 ·obtain⟨i,hi,rfl⟩:=bW.1 hv
  rw[oZ] at hi;have hj:(i+1)%ds.length<ds.length:=cN _ (by omega);have hx:=Lx h1 h2 hi hj;have mu:=jX hi;have mw:=jX hj;have hp:=hx.pos h2 mu mw;refine key ?_;unfold mO;rw[zF hi,zF hj];split
  ·rename_i k
   have hc:=(mD _).1 k;rw[LM];exact hx.gen h2 mu mw (by grind) (by decide) (by decide)
  ·rename_i k
   exact hx.turn h2 mu mw (by have: ¬0<ds[i].cross ds[(i+1)%ds.length]:=fun e=>k ((mD _).2 e);grind)
def IP{t:Tr}(ht:t.all ab.ok){p x:aa}(hx:Gn (ki t p) p x): ∃v∈iF (gr (dC t p)),(eG t p v).1=(eG t p x).1:=by
 obtain⟨h1,h2,h3⟩:=I' ht p;have cr: ∀l∈ki t p,∃a:Rat,0<a/\ ∀y,(dx l.dir).cross y=a*l.nor.dot y:=fun l hl=>by
  obtain⟨a,a1,a2⟩:=xN (zf (qd ht _ (nA hl).1));exact⟨a,a1,fun y=>by rw[a2,<-tZ];unfold aa.cross;grind⟩
 by_cases hn:gr (dC t p)=[]
 ·refine⟨⟨1,0⟩,by unfold iF;rw[if_pos (by rw[hn];rfl)];exact aQ,?_⟩
  rw[xR fun l hl=>?_];have:=(h3 _).2 (od.2 ⟨l,hl, .inl J⟩);rw[hn] at this;cases this
 ·obtain⟨i,hi,hs⟩:=Sy h1 h2 hn (x:=x) fun d hd=>by
   obtain⟨l,k1,k2⟩:=od.1 ((h3 d).1 hd);obtain⟨a,a1,a2⟩:=cr l k1;have hz:=hx l k1 (nA k1).2;have e:(dx l.dir).cross x≠0:=by rw[a2];grind
   rcases k2 with rfl|rfl
   ·exact e
   ·intro q;apply e;unfold aa.cross bO at*;grind
  refine⟨mO (gr (dC t p)) i,?_,?_⟩
  ·unfold iF
   rw[if_neg (by omega)];exact bW.2 ⟨i,oZ.2 hi,J⟩
  ·rw[xR fun l hl=>?_]
   have:=hs _ ((h3 _).2 (od.2 ⟨l,hl, .inl J⟩));obtain⟨a,a1,a2⟩:=cr l hl;rw[a2,a2] at this;have sg: ∀z:Rat,Int.sign (a*z).num=Int.sign z.num:=fun z=>by
    rcases fp z with k|k|k
    ·subst k;rw[show a*0=0 by grind]
    ·rw[(i9 _).2 k,(i9 _).2 (b9 a1 k)]
    ·rw[rx k,rx (by have:=b9 (a:=a) (b:= -z) a1 (by grind);grind)]
   rw[sg,sg] at this;exact this.symm
def rO(t:Tr)(p:aa):Bool:=(iF (gr (dC t p))).any fun v=>(eG t p v).1
def xi(t:Tr)(p:aa):Bool:=(iF (gr (dC t p))).all fun v=>(eG t p v).1
def mz(t:Tr)(p:aa):Int:=if rO t p&&xi t p then 2 else if rO t p then 1 else 0
def Dm{t:Tr}(ht:t.all ab.ok){p:aa}:rO t p=true↔ri t p true:=by
 unfold rO;rw[jR];constructor
 ·rintro ⟨v,h1,h2⟩;exact⟨v,If ht h1,h2⟩
 ·rintro ⟨x,h1,h2⟩
  obtain⟨v,k1,k2⟩:=IP ht h1;exact⟨v,k1,by rw[k2,h2]⟩
def J8{t:Tr}(ht:t.all ab.ok){p:aa}:xi t p=true↔ ¬ri t p false:=by
 unfold xi;rw[eY];constructor
 ·rintro h ⟨x,h1,h2⟩
  obtain⟨v,k1,k2⟩:=IP ht h1;have:=h v k1;rw[k2,h2] at this;cases this
 ·intro h v hv
  cases hb:(eG t p v).1 with
  |true=>rfl
  |false=>exact absurd ⟨v,If ht hv,hb⟩ h
def Va(t:Tr)(p:aa):mz t p=0\/mz t p=1\/mz t p=2:=by
 unfold mz;split
 ·exact .inr (.inr J)
 ·split
  ·exact .inr (.inl J)
  ·exact .inl J
def Kv{t:Tr}(ht:t.all ab.ok){p:aa}:mz t p=2↔ ¬ri t p false:=by
 unfold mz;constructor
 ·intro h
  split at h
  ·rename_i k;rw[aL] at k;exact(J8 ht).1 k.2
  ·split at h<;>exact absurd h (by decide)
 ·intro h
  have h1:=(J8 ht).2 h;have h2:=(Dm ht).2 ((QV ht p).resolve_right h);rw[h1,h2];rfl
def J7{t:Tr}(ht:t.all ab.ok){p:aa}:mz t p=0↔ ¬ri t p true:=by
 unfold mz;constructor
 ·intro h k
  rw[(Dm ht).2 k] at h;split at h
  ·exact absurd h (by decide)
  ·exact absurd h (by decide)
 ·intro h
  have h1:rO t p=false:=by
   cases e:rO t p with
   |false=>rfl
   |true=>exact absurd ((Dm ht).1 e) h
  rw[h1];rfl
def Az(u:aa): ¬c7 u u:=by
 rintro (h|⟨_,h⟩)
 ·omega
 ·have:u.cross u=0:=by unfold aa.cross;grind
  rw[this] at h;exact absurd h (by decide)
def UN{u v:aa}(h:c7 u v)(k:c7 v u):False:=Az u (Ad h k)
def KO{x y:aa}(h: ¬c7 x y)(k: ¬c7 y x):di x y=0:=by
 rw[<-pB] at h k;unfold di at*;split at h<;>try omega
 split at h<;>try omega
 split at k<;>try omega
 rw[show y.cross x= -(x.cross y) by unfold aa.cross;grind,mU,Int.sign_neg] at k;omega
structure IvB (v:ao):Prop where
 lo:BQ v.lo 1200
 hi:BQ v.hi 1200
def aGR(l:List ao)(k:Nat):List Rat:=gz (l.take k)
def aIq(o:List Rat)(v:ao)(j:Nat):List Rat:=if j=0 then o else if j=1 then(if v.nl then o else eO v.lo o) else il o v
def aIw(v:ao)(j:Nat):Rat:=if j=0 then v.lo else v.hi
def aIX(v:ao)(j:Nat):Bool:=if j=0 then v.nl else v.nh
def aGV(l m:ab)(side:Int):DV:= .tp [.sl ((tD l m side).map eV),vB (tL l m)]
def eFF(f:aP):DV:= .ag [.v (.bool (decide (f.l.a<0))),dN f.l.a.natAbs, .v (.bool (decide (f.l.b<0))),dN f.l.b.natAbs, .v (.bool (decide (f.l.c<0))),dN f.l.c.natAbs, .v (.bool (decide (f.v.lo.num<0))),dN f.v.lo.num.natAbs,dD f.v.lo.den, .v (.bool (decide (f.v.hi.num<0))),dN f.v.hi.num.natAbs,dD f.v.hi.den, .v (.bool f.v.nl), .v (.bool f.v.nh)]
def aGT(v w:ao):ao:=⟨v.lo,w.hi,v.nl,v.nh⟩

section
variable {GB:Gh} {C:aC} {n:Nat} {Q0:Exit->Act->World->Prop} {fr fr':aw} {own own':aH} {cf cf':Cf} {vc:List Prop}
def PG{lk:LK}{bk:BM}{dst:Option Nat}{t ty':TypeId}{pos:String}{af:Array Edge}{gd:Option (Nat×Bool)}{x y:Operand}{e len s nm off:Nat}{k:IntKind}{i:Nat}(hu:prog.underlying t=some (.array len e))(hs:(prog.info? e).map (·.size)=some s)
  (e1:aI lk x=some (.ov nm off))(e2:aI lk y=some (.d (.v (.int k (i:Nat)))))(hi:i<len):bP prog GB C n lk bk ⟨dst, .indexAddr t x y,ty',pos,af,gd⟩ (.ov nm (off+i*s)) [] []:= .yd fun ρ G ov a w r=>by
 obtain⟨p,h1,h2⟩:=r.ev e1;obtain⟨q,h3,h4⟩:=r.ev e2;rw[c8] at h4;subst h4;obtain⟨b,hb,rfl⟩:=h2;refine⟨_,⟨b,hb,J⟩,?_⟩;obtain⟨j,hj,hjs⟩: ∃j,prog.info? e=some j/\j.size=s:=by
  cases h:prog.info? e with
  |none=>rw[h] at hs;cases hs
  |some j=>rw[h] at hs;exact⟨j,J,by simpa using hs⟩
 intro a' w' hf hh;simp only[execOp,bi hf h1,bi hf h3];have:(Instr.indexAt t (.pointer (some ⟨b,off,none⟩)) (.int k (i:Nat))).run prog w'= .ok (.pointer (some ⟨b,off+i*s,none⟩)) w':=by
  unfold Instr.indexAt;show(underlying t>>=_).run prog w'=_;rw[ba (pf hu w')];show(underlying t>>=_).run prog w'=_;rw[ba (pf hu w')];have h0:0<=((i:Nat):Int):=Int.natCast_nonneg i;have h1:((i:Nat):Int)<((len:Nat):Int):=by omega
  simp only[h0,h1,and_self,if_true];show(sizeOf e>>=_).run prog w'=_;rw[ba (s6 hj w'),n7,hjs,aM];rfl
 exact cF this
def JE(fr:aw)(cf:Cf):Option (TypeId×Nat×Nat×Int):=match cb fr cf with
 |some ⟨_, .indexAddr t x y,_,_,_,_⟩=>match aI (bw fr cf) x with
  |some (.ov nm off)=>match aI (bw fr cf) y with
   |some (.d (.v (.int _ i)))=>some (t,nm,off,i)
   |_=>none
  |_=>none
 |_=>none
def Cg[fu:Fu](i:Nat){t nm off e len s:Nat}(h:JE fr cf=some (t,nm,off,((i:Nat):Int)))(hu:prog.underlying t=some (.array len e))(hs:(prog.info? e).map (·.size)=some s)(hi:i<len)
  (hgo:cD tt n fu.n fr own cf (.ov nm (off+i*s)) [] []=⟨vc,fr',own',cf'⟩)(k:ak prog GB C n Q0 fr' own' cf')
  (hv:ah vc:=by first|exact trivial|(simp only[ah];kernel_rfl)|(simp only[ah];omega)):ak prog GB C n Q0 fr own cf:=by
 unfold JE at h;split at h<;>try (cases h;done)
 rename_i hh;split at h<;>try (cases h;done)
 rename_i hx;split at h<;>cases h;rename_i hy;exact us hh (PG hu hs hx hy hi) hgo hv k
def aIH(fr:aw)(cf:Cf):Option (Nat×List FX):=match cb fr cf with
 |some ⟨some d, .build t ⟨ps⟩,_,_,_,_⟩=>match dh tt t with
  |some ⟨.st fo,_,some zx,_⟩=>match sN (bw fr cf) fo zx ps with
   |some l=>some (d,l)
   |none=>none
  |_=>none
 |_=>none
end
def sp1(f:aP)(m:ab)(k:Nat):List aP:=if k=0 then [] else jr f m 1
def sp2(f:aP)(m:ab)(k:Nat):List aP:=if k<=1 then [] else jr f m (-1)
def Vu(p:ZP):DV:=eP p.q
def RT(r:List ZP):DV:= .sl (r.map Vu)
def XI(rs:List (List ZP)):List ab:=(cI rs).map aP.l
def eRR(rs:List (List ZP))(fill:Int):DV:= .ag [.sl (rs.map RT), .v (.int .i64 fill), .sl ((yZ (XI rs)).map eL)]
def ur(r:List ZP):DV:= .sl ((r.map ZP.q).map kG)
def Rv{rs:List (List ZP)}{k:Nat}{r:List ZP}(h:rs[k]? =some r):cI (rs.take (k+1))=cI (rs.take k)++iv r:=by
 unfold cI;rw[iS,h,qJ];simp
def Cn{rs:List (List ZP)}(h: ∀r∈rs,fG r)(k:Nat):(cI (rs.take k)).length<=6*k:=by
 have:=(q7 (rs:=rs.take k) (fun r hr=>h r (gT hr))).1;have h2:(rs.take k).length<=k:=by rw[cK];omega
 omega

def p7:aa:=⟨mkRat 1 7,mkRat 1 5⟩
structure LP (l:ab):Prop where
 s:LS l
 p:0<l.value p7
def CB(es:List Int):Nat->Nat->List ab×Nat
 |0,a=>([],a)
 |i+1,a=>((lF es a).1::(CB es i (lF es a).2).1,(CB es i (lF es a).2).2)
def H6(es:List Int)(most a:Nat):List ab×Nat:=CB es (bh es ((most:Int)+1) a).1 (bh es ((most:Int)+1) a).2
def MY(l:ab):ab:=if(l.value p7).num.sign<0 then l.rev else l
def aG4(xs:List ab)(i:Nat):List ab:=(xs.take i).map MY++xs.drop i
def aH0(es:List Int)(a:Nat):List ab×Nat:=((H6 es 3 a).1.map MY,(H6 es 3 a).2)

def Zn(ds:List Int):fm 1 (ds.map vI):=fun d hd=>by
 obtain⟨n,_,rfl⟩:=bW.1 hd;exact⟨rfl,rfl⟩
def VX(es:List Int):(es.map vI).take (min es.length 400)=(es.take 400).map vI:=by
 rw[rL];rcases Nat.le_total es.length 400 with h|h
 ·rw[fM h,bQ (by simp),bQ (by simpa using h)]
 ·rw[Nat.min_eq_right h]
def Vq{es:List Int}(hb:es.length<=1125899906842624):PN GB prog 15 [.sl (es.map vI)] 126 Unit (fun _=>[.sl ((es.take 400).map vI), .v (.int .i64 (0:Nat))]):=by
 have hel:(es.map vI).length=es.length:=by simp
 refine S2 func15 J J ntmps15 J J (fun C hmb=>?_);refine yi 0 (min es.length 400) ((es.take 400).map vI) J J (by rw[hel];show(if _ then _ else _:Int)=_;split<;>omega) (VX es) (Zn _) (by omega) (by omega) J<|?_;exact YJ () J J J J J



def GF:DV:= .v (.pointer none)
def Uf(l:ab)(p q:DV):List DV:=[.v (.bool false), .v (.bool false), .v (.bool (decide (l.a<0))),dN l.a.natAbs, .v (.bool (decide (l.b<0))),dN l.b.natAbs, .v (.bool (decide (l.c<0))),dN l.c.natAbs,p,q]
inductive RF (ns:List RN):Int->(Nat->Bool)->DV->Bool->(Nat->Bool)->Prop where
 |leaf (b:Bool) (f:Nat->Bool):RF ns (qe b) f (eT (.leaf b)) true f
 |bad (rt:Int) (f:Nat->Bool) (h1:rt≠ -1) (h2:rt≠ -2) (h:rt<0\/(ns.length:Int)<=rt\/(∃k:Nat,rt=k/\k<ns.length/\f k=true)):RF ns rt f GF false f
 |line (k:Nat) (n:RN) (f:Nat->Bool) (h:ns[k]? =some n) (hf:f k=false) (hl:n.g.ln=none):RF ns (k:Int) f GF false (kz f k)
 |left (k:Nat) (n:RN) (l:ab) (f f2:Nat->Bool) (p:DV) (h:ns[k]? =some n) (hf:f k=false) (hl:n.g.ln=some l) (h1:RF ns n.l (kz f k) p false f2):RF ns (k:Int) f GF false f2
 |node (k:Nat) (n:RN) (l:ab) (f f2 f3:Nat->Bool) (p q:DV) (ok:Bool) (h:ns[k]? =some n) (hf:f k=false) (hl:n.g.ln=some l) (h1:RF ns n.l (kz f k) p true f2) (h2:RF ns n.r f2 q ok f3):RF ns (k:Int) f (.pt (Uf l p q)) ok f3
def aI3(n:Nat)(f:Nat->Bool):Bool:=(List.range n).all f
def RN.of(n:NQ):RN:=⟨⟨decide (n.l.a<0),dg n.l.a.natAbs,decide (n.l.b<0),dg n.l.b.natAbs,decide (n.l.c<0),dg n.l.c.natAbs⟩,n.a,n.b⟩
def Q4(ns:List NQ):ns.map eN=(ns.map RN.of).map RN.d:=by
 rw[List.map_map];rfl
def QS(t:Tr):eA t=vm (t.num 0) ((t.wr 0).map RN.of):=by
 unfold eA vm;rw[Q4];rfl
def TA(a:Int):qt (decide (a<0)) (dg a.natAbs)=a:=by
 unfold qt;rw[(d9 _).1];split
 ·rename_i h;have:=of_decide_eq_true h;omega
 ·rename_i h;have: ¬a<0:=fun e=>h (decide_eq_true e);omega
def Dn(a:Int):ld (decide (a<0)) (dg a.natAbs):=⟨(d9 _).2.2,fun h=>vt.2 (by have:=of_decide_eq_true h;omega)⟩
def RN.of_l(n:NQ):(RN.of n).g.l=n.l:=by
 unfold RN.of RL.l;simp only[TA]
def RN.of_ln{n:NQ}(h:n.l.ok):(RN.of n).g.ln=some n.l:=by
 unfold RL.ln;rw[if_pos ⟨⟨Dn _,Dn _,Dn _⟩,by rw[RN.of_l];exact h⟩,RN.of_l]
def RN.of_sm{n:NQ}(h:LB n.l):(RN.of n).g.sm:=by
 have key: ∀a:Int,a.natAbs<2^96->bu (dg a.natAbs)/\(dg a.natAbs).length<=3:=fun a ha=>⟨(d9 _).2.1,by have:=ma ha;omega⟩;exact⟨key _ h.bl.a,key _ h.bl.b,key _ h.bl.c⟩
def Ai(b:Bool)(k:Nat):qe b≠(k:Int):=by cases b<;>(unfold qe;simp)
def RR.det{ns:List RN}{rt:Int}{s s1:RS}{t1:Tr}(h:RR ns rt s t1 s1): ∀{s2:RS} {t2:Tr},RR ns rt s t2 s2->t1=t2/\s1=s2:=by
 induction h with
 |leaf b s=>
  intro s2 t2 h;generalize hr:qe b=r at h
  cases h with
  |leaf b' s=>
   have:b=b':=by cases b<;>cases b'<;>first|rfl|(simp[qe] at hr)
   subst this;exact⟨J,J⟩
  |bad rt s h1 h2 h=>cases b<;>simp[qe] at hr<;>omega
  |line k=>exact absurd hr (Ai _ _)
  |node k=>exact absurd hr (Ai _ _)
 |bad rt s h1 h2 h=>
  intro s2 t2 h'
  cases h' with
  |leaf b s=>cases b<;>simp[qe] at h1 h2
  |bad=>exact⟨J,J⟩
  |line k n s hn hf=>
   have:=(aS.1 hn).1;rcases h with h|h|⟨j,e,_,hj⟩
   ·omega
   ·omega
   ·have:j=k:=by omega
    subst this;rw[hf] at hj;cases hj
  |node k n l s s2 s3 x y hn hf=>
   have:=(aS.1 hn).1;rcases h with h|h|⟨j,e,_,hj⟩
   ·omega
   ·omega
   ·have:j=k:=by omega
    subst this;rw[hf] at hj;cases hj
 |line k n s hn hf hl=>
  intro s2 t2 h';generalize hr:(k:Int)=r at h'
  cases h' with
  |leaf b s=>exact absurd hr.symm (Ai _ _)
  |bad rt s h1 h2 h=>
   have:=(aS.1 hn).1;rcases h with h|h|⟨j,e,_,hj⟩
   ·omega
   ·omega
   ·have:j=k:=by omega
    subst this;rw[hf] at hj;cases hj
  |line k' n' s hn' hf' hl'=>
   have:k=k':=by omega
   subst this;exact⟨J,J⟩
  |node k' n' l s s2 s3 x y hn' hf' hl'=>
   have:k=k':=by omega
   subst this;rw[hn] at hn';cases hn';rw[hl] at hl';cases hl'
 |node k n l s s2 s3 x y hn hf hl h1 h2 i1 i2=>
  intro s4 t4 h';generalize hr:(k:Int)=r at h'
  cases h' with
  |leaf b s=>exact absurd hr.symm (Ai _ _)
  |bad rt s h1 h2 h=>
   have:=(aS.1 hn).1;rcases h with h|h|⟨j,e,_,hj⟩
   ·omega
   ·omega
   ·have:j=k:=by omega
    subst this;rw[hf] at hj;cases hj
  |line k' n' s hn' hf' hl'=>
   have:k=k':=by omega
   subst this;rw[hn] at hn';cases hn';rw[hl] at hl';cases hl'
  |node k' n' l' s s2' s3' x' y' hn' hf' hl' h1' h2'=>
   have:k=k':=by omega
   subst this;rw[hn] at hn';cases hn';rw[hl] at hl';cases hl';obtain⟨rfl,rfl⟩:=i1 h1';obtain⟨rfl,rfl⟩:=i2 h2';exact⟨J,J⟩
def n5(ns:List NQ):Tr->Int->List Nat->Prop
 | .leaf b,rt,L=>rt=qe b/\L=[]
 | .node l x y,rt,L=> ∃(k:Nat) (a b:Int) (L1 L2:List Nat),rt=(k:Int)/\ns[k]? =some ⟨l,a,b⟩/\n5 ns x a L1/\n5 ns y b L2/\L=k::(L1++L2)
def n5.rr{ns:List NQ}: ∀{t:Tr} {rt:Int} {L:List Nat} {s:RS},n5 ns t rt L->t.all ab.ok->L.Nodup->(∀j∈L,s.f j=false)-> ∃f,RR (ns.map RN.of) rt s t ⟨f,s.c+t.size,s.b⟩/\ ∀j,j∉L->f j=s.f j
 | .leaf b,rt,L,s,⟨e,e2⟩,_,_,_=>by
  subst e e2;exact⟨s.f, .leaf b s,fun _ _=>J⟩
 | .node l x y,rt,L,s,⟨k,a,b,L1,L2,e,hk,hx,hy,e2⟩,⟨h0,h1,h2⟩,hnd,hf=>by
  subst e e2;obtain⟨hkn,hnd⟩:=List.nodup_cons.1 hnd;obtain⟨hd1,hd2,hdis⟩:=List.nodup_append.1 hnd;have hfk:=hf k aQ;have hn1: ∀j∈L1,j≠k:=fun j hj e=>hkn (e▸bJ _ hj);have hn2: ∀j∈L2,j≠k:=fun j hj e=>hkn (e▸cZ _ hj);obtain⟨f1,r1,g1⟩:=n5.rr (s:=⟨kz s.f k,s.c+1,s.b⟩) hx h1 hd1 (fun j hj=>by simp only;rw[yr (hn1 j hj)];exact hf j (aZ _ (bJ _ hj)));simp only at r1 g1;obtain⟨f2,r2,g2⟩:=n5.rr (s:=⟨f1,s.c+1+x.size,s.b⟩) hy h2 hd2 (fun j hj=>by
   simp only;rw[g1 j (fun h=>hdis _ h _ hj J),yr (hn2 j hj)];exact hf j (aZ _ (cZ _ hj)))
  simp only at r2 g2;have hc:s.c+(Tr.node l x y).size=s.c+1+x.size+y.size:=by simp only[Tr.size];omega
  rw[hc];refine⟨f2, .node k (RN.of ⟨l,a,b⟩) l s _ _ x y (by rw[fR,hk];rfl) hfk (RN.of_ln h0) r1 r2,fun j hj=>?_⟩;simp only[aU,bV,not_or] at hj;rw[g2 j hj.2.2,g1 j hj.2.1,yr hj.1]
def n5.len{ns:List NQ}: ∀{t:Tr} {rt:Int} {L:List Nat},n5 ns t rt L->L.length=t.size
 | .leaf _,_,_,⟨_,h⟩=>by rw[h];rfl
 | .node l x y,_,_,⟨k,a,b,L1,L2,_,_,h1,h2,h⟩=>by
  rw[h,bK,aT,n5.len h1,n5.len h2];simp only[Tr.size];omega
def WW(ns:List NQ)(t:Tr)(rt:Int):Prop:= ∃L,n5 ns t rt L/\L.Nodup/\L.length=ns.length
def W5{ns:List NQ}{t:Tr}{rt:Int}(h:WW ns t rt)(ho:t.all ab.ok):uE (ns.map RN.of) rt=some t:=by
 obtain⟨L,h1,h2,h3⟩:=h;obtain⟨f,r,_⟩:=h1.rr (s:=py) ho h2 (fun _ _=>rfl);have hr:=AT (ns:=ns.map RN.of) (m:=(ns.map RN.of).length+1) (rt:=rt) (s:=py) (by have:=Du (ns.map RN.of).length py.f;omega);obtain⟨e1,e2⟩:=hr.1.det r;unfold uE;simp only;rw[e2,e1,if_pos ⟨J,by show py.c+t.size=_;rw[aJ,<-h3,h1.len];show 0+_=_;omega⟩]
def CZ{ns:List NQ}: ∀{t:Tr} {n:Nat},(∀i,i<t.size->ns[n+i]? =(t.wr n)[i]?)->n5 ns t (t.num n) (List.range' n t.size)
 | .leaf b,n,_=>⟨J,J⟩
 | .node l x y,n,h=>by
  have hsz:(Tr.node l x y).size=1+x.size+y.size:=J;have hw:(Tr.node l x y).wr n=⟨l,x.num (n+1),y.num (n+1+x.size)⟩::(x.wr (n+1)++y.wr (n+1+x.size)):=by simp[Tr.wr]
  have hx:=x.wr_len (n+1);have hy:=y.wr_len (n+1+x.size);refine⟨n,x.num (n+1),y.num (n+1+x.size),List.range' (n+1) x.size,List.range' (n+1+x.size) y.size,J,?_,CZ fun i hi=>?_,CZ fun i hi=>?_,?_⟩
  ·have:=h 0 (by omega)
   rw[hw,eK] at this;rw[this];rfl
  ·have:=h (1+i) (by omega)
   rw[hw,lX 1 i,List.getElem?_cons_succ,eX (by omega)] at this;rw[show n+1+i=n+(i+1) by omega];exact this
  ·have:=h (1+x.size+i) (by omega)
   rw[hw,show 1+x.size+i=(x.size+i)+1 by omega,List.getElem?_cons_succ,fT (by omega),hx,Nat.add_sub_cancel_left] at this;rw[show n+1+x.size+i=n+(x.size+i+1) by omega];exact this
  ·rw[hsz,show 1+x.size+y.size=(x.size+y.size)+1 by omega,List.range'_succ,List.range'_append_1]
def Xc{t:Tr}(ho:t.all ab.ok):uE ((t.wr 0).map RN.of) (t.num 0)=some t:=
 W5 ⟨_,CZ (n:=0) (fun i _=>by rw[dR]),List.nodup_range',by rw[List.length_range',t.wr_len]⟩ ho
def Qg{t:Tr}(hb:t.all LB): ∀n∈(t.wr 0).map RN.of,n.g.sm:=fun n hn=>by
 obtain⟨m,hm,rfl⟩:=bW.1 hn;exact RN.of_sm (Tr.all_wr 0 hb m hm)
def Qb{t:Tr}(hs:t.size<=65536):((t.wr 0).map RN.of).length<=65536:=by rw[aJ,t.wr_len];exact hs
def YM:ab:=⟨0,1,0⟩
def t00:Tr:= .node YM (.leaf true) (.leaf false)
def m9.red_size{k:Nat}{t:Tr}(h:m9 k t)(hr:t.Red []):t.size<=k*(1+k):=by
 obtain⟨K,h1,h2,h3⟩:=h.am;exact dT (Tr.size_le h2 hr h.gd.ok dG.nil h3) (kV h1 (by omega))
structure pA (k:Nat) (t:Tr):Prop where
 o:m9 k t
 s:t.size<=3000
def pA.lb{k:Nat}{t:Tr}(h:pA k t):t.all LB:=h.o.gd.lb
def pA.ok{k:Nat}{t:Tr}(h:pA k t):t.all ab.ok:=h.o.gd.ok
def m9.x{k:Nat}{t:Tr}(h:m9 k t)(hr:t.Red [])(hk:k<=54):pA k t:=
 ⟨h,dT (h.red_size hr) (dT (kV hk (show 1+k<=55 by omega)) (by decide))⟩
def Tn(rs:List (List ZP))(fill:Int):(kt rs fill).Red []:=Tr.restrict_red _ _
def aHf(es:List Int)(a:Nat):(Tr×Tr)×Nat:=
 let x:=qO es 0 a
 let y:=qO es 0 x.2
 let k:=bh es 3 y.2
 let u:=if(k.1:Int)=0 then lD es 3 k.2 else(x.1,k.2)
 let j:=bh es 3 u.2
 let v:=if(j.1:Int)=0 then lD es 3 j.2 else(y.1,j.2)
 ((u.1,v.1),v.2)
def aGO(es:List Int)(a:Nat):(Tr×Tr)×Nat:=
 let x:=qO es 0 a
 let y:=qO es 0 x.2
 let k:=bh es 6 y.2
 if(k.1:Int)=0 then((x.1, .node (lF es k.2).1 x.1 x.1),(lF es k.2).2)
 else if(k.1:Int)=1 then((x.1,y.1.mergeQ 1 x.1 []),k.2)
 else if(k.1:Int)=2 then((x.1,y.1.mergeQ 3 x.1 []),k.2)
 else if(k.1:Int)=3 then((x.1,(lD es 3 k.2).1),(lD es 3 k.2).2)
 else((x.1,y.1),k.2)
def JS(es:List Int):Nat->Nat->List Tr×Nat
 |0,a=>([],a)
 |n+1,a=>((qO es 0 a).1::(JS es n (qO es 0 a).2).1,(JS es n (qO es 0 a).2).2)
def Xn(r:List ZP)(i k:Nat):Bool:=decide (k=i)||decide (k=(i+1)%r.length)||decide (0<mF (r.getD i (0,0)).q (fe r i).q (r.getD k (0,0)).q)
def aEX(r:List ZP):Bool:=(List.range r.length).all fun i=>(List.range r.length).all fun k=>Xn r i k
section
variable {GB:Gh} {C:aC} {n:Nat} {Q0:Exit->Act->World->Prop} {fr fr' fr1 fr2:aw} {own own' own1 own2:aH} {cf cf' cf1 cf2:Cf} {vc vc1 vc2:List Prop}
def aIT(fr:aw)(cf:Cf):Option Int:=match cb fr cf with
 |some ⟨_, .binOp .and _ x (.const (.int .i64 3)) _,_,_,_,_⟩=>match aI (bw fr cf) x with
  |some (.d (.v (.int .i64 p)))=>some p
  |_=>none
 |_=>none
end
def Sv{es0 es:List Int}(hb:es0.length<=1125899906842624)(he:es=es0.take 400):PN GB prog 15 [.sl (es0.map vI)] 126 Unit (fun _=>[.sl (es.map vI), .v (.int .i64 (0:Nat))]):=by
 subst he;exact Vq hb
def aIA(cs:List RL):Option (List ab):=if cs.all (fun r=>r.ln.isSome) then some (cs.filterMap RL.ln) else none
def aI8:Option (List ab)->DV
 |some ls=> .tp [.sl (ls.map d8),vB true]
 |none=> .tp [.sl [],vB false]
def aIR:Option aE->DV
 |some c=> .tp [.sl (c.map bj),vB true]
 |none=> .tp [.sl [],vB false]
def aGY(ai al:Addr)(more:Nat):Option Tr->DV
 |none=> .tp [.v (.pointer none),tE ai]
 |some t=>if 1024<t.depth+more then .tp [.v (.pointer none),tE al] else .tp [eU t, .v .nilIface]
def aIc(ai:Addr)(f:Tr->Tr):Option Tr->Tr ⊕ Addr
 |some t=> .inl (f t)
 |none=> .inr ai
def aHU(ai ae:Addr):Option Tr->Option (List ab)->Tr ⊕ Addr
 |some t,some ls=>(match pg ls [] with
  |some c=> .inl (t.restrict c)
  |none=> .inr ae)
 |_,_=> .inr ai
def aIg(ai:Addr):Option ab->Option Tr->DV
 |some m,some t=> .tp [eA (t.restrict (bF [] m)),eA (t.restrict (bF [] m.rev)), .v .nilIface]
 |_,_=> .tp [Ek,Ek,tE ai]

def ePr(a b:Tr):DV:= .ag [eU a,eU b]
def prZ:DV:= .ag [.v (.pointer none), .v (.pointer none)]
def Xe{k:Nat}{t:Tr}(h:pA k t):PF GB prog 129 [eA t] (.tp [eU t,vB true]):=by
 have:=Vd (GB:=GB) (rt:=t.num 0) (Qg h.lb) (Qb (by have:=h.s;omega)) (Xc h.ok);rw[<-QS] at this;exact this
def mtQ(a:ab)(t:List ab):List Rat:=t.filterMap fun b=>if crossI a b=0 then none else some (io a b).x
def aIU(l:List ab)(x:Rat):List aa:=(gv (DD (Jz l x))).map fun y=>⟨x,y⟩
def Ki:Tr->aa->Bool
 | .leaf _,_=>true
 | .node l x y,p=>if(l.value p).num.sign=1 then Ki x p else if(l.value p).num.sign= -1 then Ki y p else false
structure Two (a b:Tr):Prop where
 ga:a.gd
 gb:b.gd
 sa:a.size<=3000
 sb:b.size<=3000
def f1R(x y:Bool):Bool:=x&&!y
def f2R(x y:Bool):Bool:=y&&!x
def f3R(x y:Bool):Bool:=x&&y
def f4R(x y:Bool):Bool:=!x&&!y
def anK(f:Bool->Bool->Bool)(a b:Tr)(k:Nat):Bool:=((DF a b).take k).any fun p=>f (s5 a p) (s5 b p)
def MI:Tr->List ab->List (List ab×Bool)
 | .leaf b,c=>if MO c then [(rp c,b)] else []
 | .node l x y,c=>if MO c then MI x (rp c++[l])++MI y (rp c++[l.rev]) else []
def P4(c:List ab)(p:aa):Bool:=c.all fun l=>decide (0<Int.sign (l.value p).num)
def aIG(c:List ab):Option aa:=(NL (yZ c)).find? (P4 c)
def aIy(c:aE):Prop:=(c.map fun s=>s.l.dir).Pairwise c7
def aID(c:List ab):Prop:=(c.map ab.dir).Pairwise c7
def Zu(c:aE):Bool:=!c.isEmpty&&c.all fun s=>!s.v.nl&&!s.v.nh
def OC(c:List ab)(v:aa):Bool:=c.all fun l=>decide (0<=Int.sign (l.dir.cross v).num)
def aIu(c:List ab):Bool:=!c.isEmpty&&(c.flatMap fun l=>[l.dir,bO l.dir]).all fun v=>!OC c v
def Bq:ab:=⟨1,0,0⟩
def RD(c:List ab)(i:Nat):List aa:=
 if 0<Int.sign ((c.getD i Bq).dir.cross (c.getD ((i+1)%c.length) Bq).dir).num then [io (c.getD i Bq) (c.getD ((i+1)%c.length) Bq)] else []
def uU(c:List ab):List aa:=(List.range c.length).flatMap (RD c)
def ZF(v:List aa)(i:Nat):List aa:=[v.getD 0 ⟨0,0⟩,v.getD (i+1) ⟨0,0⟩,v.getD (i+2) ⟨0,0⟩]
def OS(v:List aa):List (List aa):=(List.range (v.length-2)).map (ZF v)
def aG2(cs:List (List ab)):List (List aa):=cs.flatMap fun c=>OS (uU c)
end Go.Sx
end
