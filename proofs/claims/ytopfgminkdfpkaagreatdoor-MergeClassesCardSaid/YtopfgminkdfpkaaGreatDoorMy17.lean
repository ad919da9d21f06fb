/- Part 17 of a proof. -/
import Derived.Test.YtopfgminkdfpkaaGreatDoorMy16
set_option linter.unusedSimpArgs false
set_option maxHeartbeats 4000000
set_option maxRecDepth 100000
set_option linter.unusedVariables false
section
namespace Go.Sx
open Go Go.Proofs Tryz
variable {GB:Gh}
/-! ### lists in order -/
theorem aoP{α:Type}{c:α→α→Int}(hT: ∀u v w,c u v<0→c v w<0→c u w<0)(hA: ∀u v,¬c u v<0→c u v≠0→c v u<0){x:α}: ∀{xs:List α},xs.Pairwise (fun a b=>c a b<0)→(adE c x xs).Pairwise (fun a b=>c a b<0)
 |[],_=>by rw[adE];exact List.pairwise_singleton _ _
 |u::t,h=>by
  obtain⟨h1,h2⟩:=bR.1 h
  rw[adE]
  split
  ·rename_i hu
   refine bR.2 ⟨fun y hy=>?_,aoP hT hA h2⟩
   rcases alb c hy with rfl|hy
   ·exact hu
   ·exact h1 y hy
  ·rename_i hu
   split
   ·exact h
   ·rename_i hz
    have hx:=hA u x hu hz
    refine bR.2 ⟨fun y hy=>?_,h⟩
    rcases aU.1 hy with rfl|hy
    ·exact hx
    ·exact hT _ _ _ hx (h1 y hy)
theorem am5{α:Type}{c:α→α→Int}(hT: ∀u v w,c u v<0→c v w<0→c u w<0)(hA: ∀u v,¬c u v<0→c u v≠0→c v u<0): ∀{l o:List α},o.Pairwise (fun a b=>c a b<0)→(l.foldl (fun out x=>adE c x out) o).Pairwise (fun a b=>c a b<0)
 |[],o,h=>h
 |x::l,o,h=>am5 (l:=l) (o:=adE c x o) hT hA (aoP hT hA h)
/-! ### directions -/
def aEG(L:List LnQ)(p:PtQ):List PtQ:=L.flatMap fun l=>if Int.sign (l.value p).num=0 then [l.dir,ach l.dir] else []
theorem aAq{u v:PtQ}:0<aaC u v↔Bef v u:=by
 unfold aaC Bef
 split
 ·rename_i h;exact⟨fun e=>absurd e (by decide),fun e=>by omega⟩
 ·rename_i h
  split
  ·rename_i h2;exact⟨fun _=> .inl h2,fun _=>by decide⟩
  ·rename_i h2
   have e:v.half=u.half:=by omega
   rw[aay u v]
   constructor
   ·intro k
    have:Int.sign (u.cross v).num<0:=by omega
    rw[agj] at this
    exact .inr ⟨e,by grind⟩
   ·rintro (k|⟨_,k⟩)
    ·omega
    ·have:Int.sign (u.cross v).num<0:=(agj _).2 (by grind)
     omega
theorem Bef.trans{u v w:PtQ}(hu:u.half≠0)(hv:v.half≠0)(hw:w.half≠0)(h:Bef u v)(k:Bef v w):Bef u w:=by
 rcases h with h|⟨h,h'⟩<;>rcases k with k|⟨k,k'⟩
 ·exact .inl (by omega)
 ·exact .inl (by omega)
 ·exact .inl (by omega)
 ·refine .inr ⟨h.trans k,?_⟩
  have id1:u.cross w*v.y=u.cross v*w.y+v.cross w*u.y:=by unfold PtQ.cross;grind
  rcases aaT v with⟨x,q⟩|⟨x,q⟩|⟨x,q⟩
  ·rw[x] at h k
   have qu:=aeX.1 h
   have qw:=aeX.1 k.symm
   rcases q with q|⟨q,q'⟩
   ·rw[←aaz q,id1]
    have wy:0≤w.y:=by grind
    have uy:0≤u.y:=by grind
    have a1:=aak (gS h') wy
    rcases qu with qu|⟨qu,qu'⟩
    ·have:=aad k' qu;grind
    ·rcases qw with qw|⟨qw,qw'⟩
     ·have:=aad h' qw;rw[qu];grind
     ·exfalso
      have hx:v.cross w= -(w.x*v.y):=by unfold PtQ.cross;rw[qw];grind
      have:=aad qw' q
      grind
   ·exfalso
    have hx:u.cross v= -(v.x*u.y):=by unfold PtQ.cross;rw[q];grind
    have:=aak (a:=v.x) (b:=u.y) (gS q') (by grind)
    grind
  ·rw[x] at h k
   have qu:=aeR.1 h
   have qw:=aeR.1 k.symm
   rcases q with q|⟨q,q'⟩
   ·have e1:u.cross w* -v.y=u.cross v* -w.y+v.cross w* -u.y:=by grind
    rw[←aaz (k:= -v.y) (by grind),e1]
    have a1:=aak (a:=u.cross v) (b:= -w.y) (gS h') (by grind)
    rcases qu with qu|⟨qu,qu'⟩
    ·have:=aad (a:=v.cross w) (b:= -u.y) k' (by grind);grind
    ·rcases qw with qw|⟨qw,qw'⟩
     ·have:=aad (a:=u.cross v) (b:= -w.y) h' (by grind);rw[qu];grind
     ·exfalso
      have hx:v.cross w= -(-w.x* -v.y):=by unfold PtQ.cross;rw[qw];grind
      have:=aad (a:= -w.x) (b:= -v.y) (by grind) (by grind)
      grind
   ·exfalso
    have hx:u.cross v= -(-v.x* -u.y):=by unfold PtQ.cross;rw[q];grind
    have:=aak (a:= -v.x) (b:= -u.y) (by grind) (by grind)
    grind
  ·exact absurd x hv
def aD3(S:List PtQ)(x:PtQ):Nat→Nat
 |0=>0
 |k+1=>if 0<aaC (S.getD k ⟨0,0⟩) x then aD3 S x k else k+1
def aFZ(S:List PtQ)(x:PtQ):List PtQ:=S.take (aD3 S x S.length)++x::S.drop (aD3 S x S.length)
def aET(ds:List PtQ):List PtQ:=ds.foldl aFZ []
structure aGV (L:List LnQ):Prop where
 ok: ∀l∈L,l.ok
 cn: ∀l∈L,arj l=false
 nd:L.Pairwise (fun a b=>a≠b)
theorem amY{l:LnQ}(h:l.ok):arj l.canon=false:=by
 have hn:=h.ne
 unfold LnQ.Ne at hn
 unfold LnQ.canon
 split
 ·rename_i k
  unfold arj at*
  rw[decide_eq_true_eq] at k
  rw[decide_eq_false_iff_not]
  show¬(-l.a<0∨(-l.a=0∧ -l.b<0))
  omega
 ·rename_i k;simpa using k
theorem am9{l:LnQ}(h:l.ok):l.dir.half≠0:=fun e=>by
 have hn:=h.ne
 unfold LnQ.Ne at hn
 rcases aaT l.dir with⟨k,_⟩|⟨k,_⟩|⟨_,k1,k2⟩
 ·rw[k] at e;cases e
 ·rw[k] at e;cases e
 ·unfold LnQ.dir at k1 k2
  simp only at k1 k2
  apply hn
  refine⟨?_,cY.1 k2⟩
  have:(l.a:Rat)=0:=by grind
  exact cY.1 this
theorem azk{d:PtQ}(h:d.half≠0):(ach d).half≠0:=by rw[adV h];have:=abW h;omega
theorem aft(d:PtQ):ach (ach d)=d:=by unfold ach;cases d;simp
theorem ay9{l m:LnQ}(hl:l.ok)(hm:m.ok)(cl:arj l=false)(cm:arj m=false){p:PtQ}(h1:l.value p=0)(h2:m.value p=0)(hc:l.dir.cross m.dir=0):l=m:=by
 have key: ∀t,l.value (m.at t)=0:=fun t=>by
  obtain⟨s,rfl⟩:=avx hm.ne h2
  rw[afo] at h1⊢
  have hk:m.cutK l=0:=by
   unfold LnQ.cutK
   rw[←adO];exact hc
  rw[hk] at h1⊢
  grind
 rcases ag5 hl hm key with e|e
 ·exact e
 ·exfalso
  have hn:=hm.ne
  unfold LnQ.Ne at hn
  rw[e] at cl
  unfold arj at cl cm
  rw[decide_eq_false_iff_not] at cl cm
  have cl: ¬(-m.a<0∨(-m.a=0∧ -m.b<0)):=cl
  omega
theorem axS{ds:List PtQ}(h:ds.Pairwise Bef)(hd:axI ds){i:Nat}(hi:i<ds.length)(hj:(i+1)%ds.length<ds.length):Nxt ds ds[i] ds[(i+1)%ds.length]:=by
 have hp:=List.pairwise_iff_getElem.1 h
 have irr: ∀{u v:PtQ},Bef u v→ ¬Bef v u:=fun{u v} a b=>by
  unfold Bef at a b
  rw[aay u v] at b
  rcases a with a|⟨a,a'⟩<;>rcases b with b|⟨b,b'⟩
  ·omega
  ·omega
  ·omega
  ·grind
 have ord: ∀{j k:Nat} (a:j<ds.length) (b:k<ds.length),Bef ds[j] ds[k]→j<k:=fun{j k} a b q=>by
  rcases qW j k with e|e|e
  ·exact e
  ·subst e;exact absurd q (irr q)
  ·exact absurd (hp k j b a e) (irr q)
 by_cases hl:i+1<ds.length
 ·have e:(i+1)%ds.length=i+1:=fQ hl
  simp only[e]
  refine .inl ⟨hp i (i+1) hi hl (by omega),fun d hd' ⟨q1,q2⟩=>?_⟩
  obtain⟨j,hj',rfl⟩:=pW hd'
  have:=ord hi hj' q1
  have:=ord hj' hl q2
  omega
 ·have e:(i+1)%ds.length=0:=by rw[show i+1=ds.length by omega];exact Nat.mod_self _
  simp only[e]
  refine .inr ⟨fun d hd' q=>?_,fun d hd' q=>?_⟩
  ·obtain⟨j,hj',rfl⟩:=pW hd'
   have:=ord hi hj' q
   omega
  ·obtain⟨j,hj',rfl⟩:=pW hd'
   have:=ord hj' (by omega) q
   omega
def aCD(v:PtQ):Nat:=Nat.gcd (v.x.num.natAbs*v.y.den) (v.y.num.natAbs*v.x.den)
def aBf(n:Int)(d g:Nat):Int:=if n<0 then-((n.natAbs*d/g:Nat):Int) else((n.natAbs*d/g:Nat):Int)
def aCz(v:PtQ):PtQ:=if v.half=0 then⟨0,0⟩ else⟨(aBf v.x.num v.y.den (aCD v):Int),(aBf v.y.num v.x.den (aCD v):Int)⟩
def aGh(ds:List PtQ)(i:Nat):List PtQ:=
 if aaC (ds.getD i ⟨0,0⟩) (ds.getD ((i+1)%ds.length) ⟨0,0⟩)=0∧2<ds.length then []
 else if Int.sign ((ds.getD i ⟨0,0⟩).cross (ds.getD ((i+1)%ds.length) ⟨0,0⟩)).num=0 then [ae8 (ds.getD i ⟨0,0⟩)]
 else [adH (aCz (ds.getD i ⟨0,0⟩)) (aCz (ds.getD ((i+1)%ds.length) ⟨0,0⟩)) 1]
def aEq(ds:List PtQ):List PtQ:=if ds.length=0 then [⟨1,0⟩] else(List.range ds.length).flatMap (aGh ds)
def aDg(L:List LnQ)(p:PtQ):List PtQ:=aEq (aET (aEG L p))
theorem ala{ds:List PtQ}{i:Nat}(h:i<ds.length):ds.getD i ⟨0,0⟩=ds[i]:=by
 rw[aK,aZ h,kS]
def aGH(t:Tr)(p:PtQ):Bool:=(aDg (adR t.lns) p).any fun v=>(afV t p v).1
def aGP(t:Tr)(p:PtQ):Bool:=(aDg (adR t.lns) p).all fun v=>(afV t p v).1
/-! ### witnesses -/
theorem ajy{z:Rat}(h:z<0):Int.sign z.num= -1:=by
 have:=(agj _).2 h
 rcases kY z.num 0 with q|q|q
 ·exact dT q
 ·rw[q] at this;simp at this
 ·rw[eJ q] at this;simp at this
def al6:Tr→PtQ→List LnQ
 | .leaf _,_=>[]
 | .node l x y,p=>(if Int.sign (l.value p).num=0 then [l] else [])++((if 0≤Int.sign (l.value p).num then al6 x p else [])++(if Int.sign (l.value p).num≤0 then al6 y p else []))
theorem acf: ∀{t:Tr} {p:PtQ} {l:LnQ},l∈al6 t p→l∈t.lns∧l.value p=0
 | .leaf _,p,l,h=>by cases h
 | .node m x y,p,l,h=>by
  rw[al6,bV,bV] at h
  rcases h with h|h|h
  ·split at h
   ·rw[aS] at h;subst h
    rename_i k;exact⟨aQ,(aby _).1 k⟩
   ·cases h
  ·split at h
   ·have:=acf h;exact⟨aX _ (bS _ this.1),this.2⟩
   ·cases h
  ·split at h
   ·have:=acf h;exact⟨aX _ (bN _ this.1),this.2⟩
   ·cases h
theorem aDk{t:Tr}{p v:PtQ}(h:Gn t.lns p v):Gn (al6 t p) p v:=fun l hl hz=>h l (acf hl).1 hz
theorem agA: ∀{t:Tr} {p v w:PtQ},(∀l∈al6 t p,Int.sign (l.nor.dot v).num=Int.sign (l.nor.dot w).num)→afV t p v=afV t p w
 | .leaf _,_,_,_,_=>rfl
 | .node l x y,p,v,w,h=>by
  have hx:0≤Int.sign (l.value p).num→afV x p v=afV x p w:=fun k=>agA fun m hm=>h m (by rw[al6,bV,bV,if_pos k];exact .inr (.inl hm))
  have hy:Int.sign (l.value p).num≤0→afV y p v=afV y p w:=fun k=>agA fun m hm=>h m (by rw[al6,bV,bV,if_pos k];exact .inr (.inr hm))
  rw[afV,afV,adO,adO]
  by_cases k:Int.sign (l.value p).num=0
  ·rw[if_pos k,if_pos k,←h l (by rw[al6,if_pos k];exact aQ),hx (by omega),hy (by omega)]
  ·rw[if_neg k,if_neg k]
   generalize Int.sign (l.value p).num=s at*
   split
   ·exact hx (by decide)
   ·exact hy (by decide)
   ·rfl
theorem ap4{L M:List LnQ}{p v:PtQ}(hM: ∀l∈M,l.ok)(hL:Gn L p v): ∃w,Gn M p w∧ ∀l∈L,l.value p=0→Int.sign (l.nor.dot v).num=Int.sign (l.nor.dot w).num:=by
 have e2: ∀l:LnQ,l.value p=0→l.value (adH p v 1)=l.nor.dot v:=fun l hz=>by rw[abM,hz];grind
 have hp':InD ((L.filter fun l=>decide (l.value p=0)).map fun l=>(⟨if 0<l.value (adH p v 1) then l else l.rev,IvQ.all⟩:FrQ)) (adH p v 1):=fun s hs=>by
  obtain⟨l,hl,rfl⟩:=bL.1 hs
  obtain⟨h1,h2⟩:=jN.1 hl
  have h3:=of_decide_eq_true h2
  have h0:l.value (adH p v 1)≠0:=by rw[e2 l h3];exact hL l h1 h3
  simp only
  split
  ·assumption
  ·rw[aaX];grind
 obtain⟨q,q1,q2⟩:=aqr hp' M hM
 have e: ∀l:LnQ,l.value p=0→l.value q=l.nor.dot ⟨q.x-p.x,q.y-p.y⟩:=fun l hz=>by
  have h1:=abM l p ⟨q.x-p.x,q.y-p.y⟩ 1
  rw[hz] at h1
  have h2:adH p ⟨q.x-p.x,q.y-p.y⟩ 1=q:=by
   unfold adH
   cases q
   simp only[PtQ.mk.injEq]
   constructor<;>grind
  rw[h2] at h1
  rw[h1];grind
 refine⟨⟨q.x-p.x,q.y-p.y⟩,fun m hm hz=>?_,fun l hl hz=>?_⟩
 ·rw[←e m hz];exact q2 m hm
 ·have h1:=q1 _ (bL.2 ⟨l,jN.2 ⟨hl,decide_eq_true hz⟩,rfl⟩)
  simp only at h1
  rw[e2 l hz] at h1
  rw[←e l hz]
  have h0:=hL l hl hz
  split at h1
  ·rename_i k
   rw[(ac0 _).2 k,(ac0 _).2 h1]
  ·rename_i k
   rw[aaX] at h1
   rw[ajy (by grind),ajy (by grind)]
def apE(t:Tr)(p:PtQ)(b:Bool):Prop:= ∃v,Gn (al6 t p) p v∧(afV t p v).1=b
theorem auO{t:Tr}{p w:PtQ}(h:Gn t.lns p w):apE t p (afV t p w).1:=⟨w,aDk h,rfl⟩
theorem aAg{t:Tr}{p:PtQ}{b:Bool}(h:apE t p b){M:List LnQ}(hM: ∀l∈M,l.ok): ∃w,Gn M p w∧(afV t p w).1=b:=by
 obtain⟨v,h1,h2⟩:=h
 obtain⟨w,k1,k2⟩:=ap4 hM h1
 exact⟨w,k1,by rw[←h2,agA fun l hl=>k2 l hl (acf hl).2]⟩
theorem aEV{M:List LnQ}(hM: ∀l∈M,l.ok)(p:PtQ): ∃w,Gn M p w:=by
 obtain⟨w,h,_⟩:=ap4 (L:=[]) (M:=M) (p:=p) (v:=⟨1,0⟩) hM fun l hl=>by cases hl
 exact⟨w,h⟩
theorem awo{t:Tr}(ht:t.all LnQ.ok)(p:PtQ):apE t p true∨apE t p false:=by
 obtain⟨w,h⟩:=aEV (adB ht) p
 have:=auO h
 cases hb:(afV t p w).1 with
 |true=>rw[hb] at this;exact .inl this
 |false=>rw[hb] at this;exact .inr this
theorem min2{a b:Rat}(ha:0<a)(hb:0<b): ∃d:Rat,0<d∧d≤a∧d≤b:=by
 by_cases k:a≤b
 ·exact⟨a,ha,by grind,k⟩
 ·exact⟨b,hb,by grind,by grind⟩
theorem aBT{m a b:Tr}{f:Bool→Bool→Bool}(hm:m.all LnQ.ok)(ha:a.all LnQ.ok)(hb:b.all LnQ.ok)(hf: ∀q,Off m.lns q→Off a.lns q→Off b.lns q→m.val q=f (a.val q) (b.val q)){p:PtQ}{c:Bool}(h:apE m p c): ∃x y,apE a p x∧apE b p y∧f x y=c:=by
 obtain⟨w,k1,k2⟩:=aAg h (M:=m.lns++(a.lns++b.lns)) fun l hl=>(bV.1 hl).elim (adB hm l) fun hl=>(bV.1 hl).elim (adB ha l) (adB hb l)
 have gm:Gn m.lns p w:=fun l hl=>k1 l (bS _ hl)
 have ga:Gn a.lns p w:=fun l hl=>k1 l (bN _ (bS _ hl))
 have gb:Gn b.lns p w:=fun l hl=>k1 l (bN _ (bN _ hl))
 obtain⟨e1,a1,b1⟩:=agB gm
 obtain⟨e2,a2,b2⟩:=agB ga
 obtain⟨e3,a3,b3⟩:=agB gb
 obtain⟨d1,c1,c2,c3⟩:=min2 a1 a2
 obtain⟨d,c4,c5,c6⟩:=min2 c1 a3
 obtain⟨o1,v1⟩:=b1 d c4 (by grind)
 obtain⟨o2,v2⟩:=b2 d c4 (by grind)
 obtain⟨o3,v3⟩:=b3 d c4 (by grind)
 refine⟨_,_,auO ga,auO gb,?_⟩
 rw[v2,v3,←hf _ o1 o2 o3,←k2,v1]
/-! ### sectors -/
def aqT(ds:List PtQ)(i:Nat):PtQ:=
 if 0<Int.sign ((ds.getD i ⟨0,0⟩).cross (ds.getD ((i+1)%ds.length) ⟨0,0⟩)).num then(ds.getD i ⟨0,0⟩).add (ds.getD ((i+1)%ds.length) ⟨0,0⟩) else ae8 (ds.getD i ⟨0,0⟩)
def ae4(ds:List PtQ):List PtQ:=if ds.length=0 then [⟨1,0⟩] else(List.range ds.length).map (aqT ds)
theorem arC(u w:PtQ):u.add w=btw 1 1 u w:=by
 unfold PtQ.add btw
 simp only[PtQ.mk.injEq]
 constructor<;>grind
theorem apR{x:PtQ}: ∀{S:List PtQ},S≠[]→(∀d∈S,0<d.cross x)→ ∃u∈S,∀d∈S,0≤d.cross u
 |[],h,_=>absurd rfl h
 |[d],_,_=>⟨d,aQ,fun e he=>by rw[aS] at he;subst he;rw[akz];exact kU⟩
 |d0::d1::S,_,h=>by
  obtain⟨u,h1,h2⟩:=apR (S:=d1::S) (by simp) fun d hd=>h d (aX _ hd)
  by_cases k:0≤d0.cross u
  ·exact⟨u,aX _ h1,fun d hd=>(aU.1 hd).elim (fun e=>e▸k) (h2 d)⟩
  ·refine⟨d0,aQ,fun d hd=>(aU.1 hd).elim (fun e=>by rw[e,akz];exact kU) fun hd=>?_⟩
   have p0:=h d0 aQ
   have pu:=h u (aX _ h1)
   have pd:=h d (aX _ hd)
   have k1:=h2 d hd
   have k2:0<u.cross d0:=by rw[aay] at k;grind
   have e:d.cross d0*u.cross x=u.cross d0*d.cross x+d.cross u*d0.cross x:=by unfold PtQ.cross;grind
   have n1:=aad k2 pd
   have n2:=aak k1 (gS p0)
   generalize d.cross d0=A at*
   generalize u.cross x=B at*
   by_cases hA:0≤A
   ·exact hA
   ·have:=aad (a:= -A) (b:=B) (by grind) pu
    grind
theorem avC{ds:List PtQ}(h:ds.Pairwise Bef)(hd:axI ds)(hn:ds≠[]){x:PtQ}(hx: ∀d∈ds,d.cross x≠0): ∃i,i<ds.length∧ ∀d∈ds,Int.sign (d.cross x).num=Int.sign (d.cross (aqT ds i)).num:=by
 have hne:(ds.filter fun d=>decide (0<d.cross x))≠[]:=by
  obtain⟨d,r,rfl⟩:=List.exists_cons_of_ne_nil hn
  intro e
  have h1: ¬0<d.cross x:=fun k=>by
   have:d∈(d::r).filter fun d=>decide (0<d.cross x):=jN.2 ⟨aQ,decide_eq_true k⟩
   rw[e] at this;cases this
  have h2:=hx d aQ
  have h3:0<(ach d).cross x:=by rw[aay,abH,←aay];grind
  have:ach d∈(d::r).filter fun d=>decide (0<d.cross x):=jN.2 ⟨hd.neg d aQ,decide_eq_true h3⟩
  rw[e] at this;cases this
 obtain⟨u,hu,hl⟩:=apR hne fun d hd=>of_decide_eq_true (jN.1 hd).2
 obtain⟨hu1,hu2⟩:=jN.1 hu
 have hux:=of_decide_eq_true hu2
 obtain⟨i,hi,rfl⟩:=pW hu1
 have hj:(i+1)%ds.length<ds.length:=dQ _ (by omega)
 have hnx:=axS h hd hi hj
 have mw:=cJ hj
 refine⟨i,hi,?_⟩
 have key: ∀d∈ds,0<d.cross x→0<d.cross (aqT ds i):=fun d hdm hdx=>by
  have hdu:0≤d.cross ds[i]:=hl d (jN.2 ⟨hdm,decide_eq_true hdx⟩)
  unfold aqT
  rw[ala hi,ala hj]
  generalize ds[(i+1)%ds.length]=w at*
  generalize ds[i]=u at*
  have hp:=hnx.pos hd hu1 mw
  have zd:=hd.nz d hdm
  have zu:=hd.nz u hu1
  split
  ·rename_i k
   have hc:=(ac3 _).1 k
   rw[arC]
   have hg:=hnx.gen hd hu1 mw (by grind) (a:=1) (b:=1) (by decide) (by decide) d hdm
   have e:d.cross (btw 1 1 u w)=d.cross u+d.cross w:=by unfold PtQ.cross btw;grind
   rw[e] at hg⊢
   by_cases hw:0≤d.cross w
   ·grind
   ·exfalso
    -- -d lies between u and w
    rcases aaY (d.cross u) with q|q|q
    ·-- d runs along u
     have hdd:0<d.dot u:=by
      rcases aaY (d.dot u) with r|r|r
      ·exact absurd r (ao5 zd zu q)
      ·exact r
      ·exfalso
       have q':(ach d).cross u=0:=by unfold PtQ.cross ach at*;grind
       have r':0<(ach d).dot u:=by unfold PtQ.dot ach at*;grind
       obtain⟨g,g1,g2⟩:=ahM q' r'
       have:d.cross x= -(g*u.cross x):=by
        have h1:(ach d).x=g*u.x:=by rw[g2]
        have h2:(ach d).y=g*u.y:=by rw[g2]
        unfold ach at h1 h2
        simp only at h1 h2
        unfold PtQ.cross;grind
       have:=aad g1 hux
       grind
     obtain⟨g,g1,g2⟩:=ahM q hdd
     have:d.cross w=g*u.cross w:=by rw[g2];unfold PtQ.cross;grind
     have:=aad g1 hc
     grind
    ·have hb:ach d=btw (-(d.cross w)/u.cross w) (d.cross u/u.cross w) u w:=by
      have hz:u.cross w≠0:=by grind
      have e1: -(d.cross w)/u.cross w*u.cross w= -(d.cross w):=by grind
      have e2:d.cross u/u.cross w*u.cross w=d.cross u:=by grind
      unfold ach btw
      generalize-(d.cross w)/u.cross w=a at*
      generalize d.cross u/u.cross w=b at*
      simp only[PtQ.mk.injEq]
      have f1:(a*u.x+b*w.x+d.x)*u.cross w=0:=by
       have:(a*u.x+b*w.x+d.x)*u.cross w=a*u.cross w*u.x+b*u.cross w*w.x+d.x*u.cross w:=by grind
       rw[this,e1,e2];unfold PtQ.cross;grind
      have f2:(a*u.y+b*w.y+d.y)*u.cross w=0:=by
       have:(a*u.y+b*w.y+d.y)*u.cross w=a*u.cross w*u.y+b*u.cross w*w.y+d.y*u.cross w:=by grind
       rw[this,e1,e2];unfold PtQ.cross;grind
      constructor<;>grind
     refine hnx.none hd hu1 mw (by grind) (a:= -(d.cross w)/u.cross w) (b:=d.cross u/u.cross w) ?_ ?_ (by rw[←hb];exact hd.neg d hdm)
     ·refine(aaz (k:=u.cross w) hc).1 ?_
      have e1: -(d.cross w)/u.cross w*u.cross w= -(d.cross w):=by grind
      rw[e1];grind
     ·refine(aaz (k:=u.cross w) hc).1 ?_
      have e1:d.cross u/u.cross w*u.cross w=d.cross u:=by grind
      rw[e1];exact q
    ·grind
  ·rename_i k
   have hc:u.cross w=0:=by have: ¬0<u.cross w:=fun e=>k ((ac3 _).2 e);grind
   have hg:=hnx.turn hd hu1 mw hc d hdm
   rw[akG] at hg⊢
   rcases aaY (d.dot u) with r|r|r
   ·exact absurd r hg
   ·exact r
   ·exfalso
    -- all directions run along u
    have hdc:d.cross u=0:=by
     rcases hnx.spec hd hu1 mw with⟨_,h2,_⟩|⟨h1,h2,h3⟩
     ·rw[hc] at h2;exact absurd h2 (by decide)
     ·have zw:=abW (hd.nz w mw)
      have zu':=abW zu
      have zd':=abW zd
      have hwu: ∃g:Rat,0<g∧w=⟨g*(ach u).x,g*(ach u).y⟩:=by
       refine ahM (d:=ach u) (e:=w) (by rw[abH,aay,hc];grind) ?_
       rcases aaY (w.dot u) with s|s|s
       ·exact absurd s (ao5 (hd.nz w mw) zu (by rw[aay,hc];rfl))
       ·exfalso
        obtain⟨g,g1,g2⟩:=ahM (d:=u) (e:=w) (by rw[aay,hc];rfl) s
        apply h1
        rw[g2]
        rcases aaT u with⟨x0,s0⟩|⟨x0,s0⟩|⟨x0,s0⟩
        ·rw[x0]
         refine(aeX.2 ?_).symm
         rcases s0 with s0|⟨s0,s1⟩
         ·exact .inl (aad g1 s0)
         ·exact .inr ⟨by show g*u.y=0;rw[s0];grind,aad g1 s1⟩
        ·rw[x0]
         refine(aeR.2 ?_).symm
         rcases s0 with s0|⟨s0,s1⟩
         ·exact .inl (by show g*u.y<0;have:=aad (a:=g) (b:= -u.y) g1 (by grind);grind)
         ·exact .inr ⟨by show g*u.y=0;rw[s0];grind,by show g*u.x<0;have:=aad (a:=g) (b:= -u.x) g1 (by grind);grind⟩
        ·exact absurd x0 zu
       ·unfold PtQ.dot ach at*;grind
      obtain⟨g,g1,g2⟩:=hwu
      have cw: ∀e:PtQ,w.cross e=g* -(u.cross e):=fun e=>by rw[g2];unfold PtQ.cross ach;grind
      by_cases hh:d.half=u.half
      ·have a1:=h2 d hdm hh
       have a2:=h3 _ (hd.neg d hdm) (by rw[adV zd];omega)
       rw[cw,abH,aay d u] at a2
       rcases aaY (d.cross u) with s|s|s
       ·exact s
       ·have:=aad g1 s;grind
       ·grind
      ·have a1:=h2 _ (hd.neg d hdm) (by rw[adV zd];omega)
       have a2:=h3 d hdm (by omega)
       rw[cw,aay d u] at a2
       have e3:(ach d).cross u= -(d.cross u):=by unfold PtQ.cross ach;grind
       rw[e3] at a1
       rcases aaY (d.cross u) with s|s|s
       ·exact s
       ·grind
       ·have:=aad (a:=g) (b:= -(d.cross u)) g1 (by grind);grind
    have q':(ach d).cross u=0:=by unfold PtQ.cross ach at*;grind
    have r':0<(ach d).dot u:=by unfold PtQ.dot ach at*;grind
    obtain⟨g,g1,g2⟩:=ahM q' r'
    have:d.cross x= -(g*u.cross x):=by
     have h1:(ach d).x=g*u.x:=by rw[g2]
     have h2:(ach d).y=g*u.y:=by rw[g2]
     unfold ach at h1 h2
     simp only at h1 h2
     unfold PtQ.cross;grind
    have:=aad g1 hux
    grind
 intro d hdm
 rcases aaY (d.cross x) with k|k|k
 ·exact absurd k (hx d hdm)
 ·rw[(ac0 _).2 k,(ac0 _).2 (key d hdm k)]
 ·have en: ∀y:PtQ,(ach d).cross y= -(d.cross y):=fun y=>by unfold PtQ.cross ach;grind
  have:=key _ (hd.neg d hdm) (by rw[en];grind)
  rw[en] at this
  rw[ajy k,ajy (by grind)]
def aeg(v:PtQ):PtQ:=v.scale (rgcd v.x v.y)⁻¹
def abu(t:Tr)(p:PtQ):List PtQ:=(al6 t p).flatMap fun l=>[aeg l.dir,ach (aeg l.dir)]
def ah0(ds:List PtQ):List PtQ:=ajP aaC ds
theorem abQ{t:Tr}{p d:PtQ}:d∈abu t p↔ ∃l∈al6 t p,d=aeg l.dir∨d=ach (aeg l.dir):=by
 unfold abu
 rw[pX]
 constructor
 ·rintro ⟨l,h1,h2⟩
  refine⟨l,h1,?_⟩
  rcases aU.1 h2 with h|h
  ·exact .inl h
  ·exact .inr (aS.1 h)
 ·rintro ⟨l,h1,rfl|rfl⟩
  ·exact⟨l,h1,aQ⟩
  ·exact⟨l,h1,aX _ aQ⟩
theorem axc{x y:Rat}(h:x≠0∨y≠0):0<rgcd x y:=by
 unfold rgcd
 have hd:0<x.den*y.den:=iY x.den_pos y.den_pos
 have hg:0<Nat.gcd (x.num.natAbs*y.den) (y.num.natAbs*x.den):=by
  rcases h with h|h
  ·exact nS _ (iY (Int.natAbs_pos.2 fun e=>h (lK.1 e)) y.den_pos)
  ·exact nJ _ (iY (Int.natAbs_pos.2 fun e=>h (lK.1 e)) x.den_pos)
 generalize Nat.gcd (x.num.natAbs*y.den) (y.num.natAbs*x.den)=g at*
 generalize x.den*y.den=d at*
 rw[←alk]
 have h1:mkRat (g:Int) d=(g:Rat)/(d:Rat):=by rw[nR];rfl
 rw[alk,h1]
 have hg':(0:Rat)<(g:Rat):=by exact_mod_cast hg
 have hd':(0:Rat)<(d:Rat):=by exact_mod_cast hd
 have e:(g:Rat)/(d:Rat)*(d:Rat)=(g:Rat):=by grind
 exact(aaz (k:=(d:Rat)) hd').1 (by rw[e];exact hg')
theorem aAv{v:PtQ}(h:v.half≠0):v.x≠0∨v.y≠0:=by
 rcases aaT v with⟨_,k⟩|⟨_,k⟩|⟨k,_⟩
 ·rcases k with k|⟨_,k⟩
  ·exact .inr (by grind)
  ·exact .inl (by grind)
 ·rcases k with k|⟨_,k⟩
  ·exact .inr (by grind)
  ·exact .inl (by grind)
 ·exact absurd k h
theorem ajg{v:PtQ}(h:v.half≠0): ∃a:Rat,0<a∧aeg v=⟨a*v.x,a*v.y⟩:=by
 have hg:=axc (aAv h)
 refine⟨(rgcd v.x v.y)⁻¹,?_,?_⟩
 ·generalize rgcd v.x v.y=g at*
  have e:g⁻¹*g=1:=by grind
  exact(aaz (k:=g) hg).1 (by rw[e];decide)
 ·unfold aeg PtQ.scale
  simp only[PtQ.mk.injEq]
  constructor<;>grind
theorem ayE(v:PtQ):aeg (ach v)=ach (aeg v):=by
 have e:rgcd (-v.x) (-v.y)=rgcd v.x v.y:=by
  unfold rgcd
  rw[lS,lS,oR,oR,iS,iS]
 unfold aeg PtQ.scale ach
 simp only[PtQ.mk.injEq,e]
 constructor<;>grind
theorem alh{v:PtQ}(h:v.half≠0):(aeg v).half=v.half:=by
 obtain⟨a,a1,e⟩:=ajg h
 have:=ak1 (a:=a) (b:=a) (u:=v) (w:=v) a1 a1 rfl h
 rw[←this]
 have h2:aeg v=btw (a*(1/2)) (a*(1/2)) v v:=by rw[e];unfold btw;simp only[PtQ.mk.injEq];constructor<;>grind
 have h3:=ak1 (a:=a*(1/2)) (b:=a*(1/2)) (u:=v) (w:=v) (aad a1 (by grind)) (aad a1 (by grind)) rfl h
 rw[h2,h3,this]
theorem awm{u v:PtQ}:aaC u v=0↔u.half=v.half∧u.cross v=0:=by
 unfold aaC
 split
 ·constructor
  ·intro h;exact absurd h (by decide)
  ·intro h;omega
 ·split
  ·constructor
   ·intro h;exact absurd h (by decide)
   ·intro h;omega
  ·constructor
   ·intro h
    exact⟨by omega,(aby _).1 (by omega)⟩
   ·intro h
    rw[(aby _).2 h.2];rfl
theorem agK{u v w:PtQ}(h:Bef u v)(k:Bef v w):Bef u w:=by
 by_cases hu:u.half=0
 ·by_cases hw:w.half=0
  ·have z: ∀x y:PtQ,x.half=0→x.cross y=0:=fun x y hx=>by
    rcases aaT x with⟨e,_⟩|⟨e,_⟩|⟨_,e1,e2⟩
    ·rw[hx] at e;exact absurd e (by decide)
    ·rw[hx] at e;exact absurd e (by decide)
    ·unfold PtQ.cross;rw[e1,e2];grind
   rcases h with h|⟨h,h'⟩
   ·rcases k with k|⟨k,k'⟩
    ·omega
    ·have hv:v.half≠0:=by omega
     omega
   ·rw[z u v hu] at h';exact absurd h' (by decide)
  ·refine .inl ?_
   have h1:=abW hw
   omega
 ·have hv:v.half≠0:=by
   intro e
   rcases h with h|⟨h,_⟩
   ·have:=abW hu;omega
   ·omega
  have hw:w.half≠0:=by
   intro e
   rcases k with k|⟨k,_⟩
   ·have:=abW hv;omega
   ·omega
  exact Bef.trans hu hv hw h k
section
variable {α:Type} (c:α→α→Int)
theorem arr{x y:α}: ∀{xs:List α},y∈xs→y∈adE c x xs
 |[],h=>by cases h
 |u::t,h=>by
  rw[adE]
  split
  ·rcases aU.1 h with rfl|h
   ·exact aQ
   ·exact aX _ (arr h)
  ·split
   ·exact h
   ·exact aX _ h
theorem asu{x:α}: ∀{xs:List α},∃e∈adE c x xs,e=x∨c e x=0
 |[]=>⟨x,aQ, .inl rfl⟩
 |u::t=>by
  rw[adE]
  split
  ·obtain⟨e,h1,h2⟩:=asu (x:=x) (xs:=t)
   exact⟨e,aX _ h1,h2⟩
  ·split
   ·exact⟨u,aQ, .inr (by assumption)⟩
   ·exact⟨x,aQ, .inl rfl⟩
theorem amK{y:α}: ∀{l o:List α},y∈o→y∈l.foldl (fun out x=>adE c x out) o
 |[],o,h=>h
 |x::t,o,h=>amK (l:=t) (arr c h)
theorem akX{d:α}: ∀{l o:List α},d∈l→ ∃e∈l.foldl (fun out x=>adE c x out) o,e=d∨c e d=0
 |[],o,h=>by cases h
 |x::t,o,h=>by
  rcases aU.1 h with rfl|h
  ·obtain⟨e,h1,h2⟩:=asu c (x:=d) (xs:=o)
   exact⟨e,amK c (l:=t) h1,h2⟩
  ·exact akX (l:=t) h
end
theorem aqg(ds:List PtQ):(ah0 ds).Pairwise Bef:=by
 have:=am5 (c:=aaC) (fun u v w h k=>aeb.2 (agK (aeb.1 h) (aeb.1 k))) (fun u v h k=>aeb.2 (aAq.1 (by omega))) (l:=ds) (o:=[]) List.Pairwise.nil
 exact this.imp fun h=>aeb.1 h
theorem ayk{l m:LnQ}(hl:l.ok)(hm:m.ok){p:PtQ}(h1:l.value p=0)(h2:m.value p=0){d e:PtQ}(hd:d=aeg l.dir∨d=ach (aeg l.dir))(he:e=aeg m.dir∨e=ach (aeg m.dir))(h:aaC d e=0):d=e:=by
 obtain⟨hh,hc⟩:=awm.1 h
 have zl:=am9 hl
 have zm:=am9 hm
 have zpl:(aeg l.dir).half≠0:=by rw[alh zl];exact zl
 have zpm:(aeg m.dir).half≠0:=by rw[alh zm];exact zm
 have cr:l.dir.cross m.dir=0:=by
  obtain⟨a,a1,e1⟩:=ajg zl
  obtain⟨b,b1,e2⟩:=ajg zm
  have c0:(aeg l.dir).cross (aeg m.dir)=0:=by
   rcases hd with rfl|rfl<;>rcases he with rfl|rfl
   ·exact hc
   ·rw[abH] at hc;grind
   ·rw[aay,abH] at hc;rw[aay];grind
   ·rw[abH,aay,abH] at hc;rw[aay];grind
  have e3:(aeg l.dir).cross (aeg m.dir)=(a*b)*l.dir.cross m.dir:=by rw[e1,e2];unfold PtQ.cross;grind
  have hab:=aad a1 b1
  rw[e3] at c0
  clear e1 e2 e3
  generalize a*b=k at*
  generalize l.dir.cross m.dir=z at*
  rcases aaY z with q|q|q
  ·exact q
  ·have:=aad hab q;grind
  ·have:=aad (a:=k) (b:= -z) hab (by grind);grind
 have dirR: ∀k:LnQ,k.rev.dir=ach k.dir:=fun k=>by
  unfold LnQ.dir LnQ.rev ach
  simp only[PtQ.mk.injEq,oZ]
  try constructor<;>grind
 have cdir: ∀k:LnQ,k.canon.dir=k.dir∨k.canon.dir=ach k.dir:=fun k=>by
  unfold LnQ.canon
  split
  ·exact .inr (dirR k)
  ·exact .inl rfl
 have cval: ∀k:LnQ,k.value p=0→k.canon.value p=0:=fun k hk=>by rcases aro k p with e|e<;>rw[e,hk]<;>rfl
 have okc: ∀k:LnQ,k.ok→k.canon.ok:=fun k hk=>by unfold LnQ.canon;split;exact hk.rev;exact hk
 have ec:l.canon=m.canon:=ay9 (okc l hl) (okc m hm) (amY hl) (amY hm) (cval l h1) (cval m h2) (by
  rcases cdir l with e1|e1<;>rcases cdir m with e2|e2<;>rw[e1,e2]
  ·exact cr
  ·rw[abH,cr];rfl
  ·rw[aay,abH,aay,cr];rfl
  ·rw[abH,aay,abH,aay,cr];rfl)
 have hdir:l.dir=m.dir∨l.dir=ach m.dir:=by
  have e1:=cdir l
  have e2:=cdir m
  rw[ec] at e1
  rcases e1 with e1|e1<;>rcases e2 with e2|e2
  ·exact .inl (e1.symm.trans e2)
  ·exact .inr (e1.symm.trans e2)
  ·right;rw[←e2,e1,aft]
  ·left;rw[←aft l.dir,←e1,e2,aft]
 have hP:aeg l.dir=aeg m.dir∨aeg l.dir=ach (aeg m.dir):=by
  rcases hdir with e|e
  ·exact .inl (by rw[e])
  ·exact .inr (by rw[e,ayE])
 have hn:=adV zpm
 have h3:=abW zpm
 have key:d=aeg m.dir∨d=ach (aeg m.dir):=by
  rcases hd with rfl|rfl<;>rcases hP with e|e
  ·exact .inl e
  ·exact .inr e
  ·exact .inr (by rw[e])
  ·exact .inl (by rw[e,aft])
 rcases key with rfl|rfl<;>rcases he with rfl|rfl
 ·rfl
 ·exfalso;omega
 ·exfalso;omega
 ·rfl
theorem anE{t:Tr}(ht:t.all LnQ.ok)(p:PtQ):(ah0 (abu t p)).Pairwise Bef∧axI (ah0 (abu t p))∧ ∀y,y∈ah0 (abu t p)↔y∈abu t p:=by
 have h2: ∀y,y∈ah0 (abu t p)→y∈abu t p:=fun y hy=>by
  rcases afk aaC hy with h|h
  ·exact h
  ·cases h
 have h3: ∀y,y∈abu t p→y∈ah0 (abu t p):=fun y hy=>by
  obtain⟨e,e1,e2⟩:=akX aaC (o:=[]) hy
  rcases e2 with rfl|e2
  ·exact e1
  ·obtain⟨l,k1,k2⟩:=abQ.1 hy
   obtain⟨m,k3,k4⟩:=abQ.1 (h2 e e1)
   obtain⟨a1,a2⟩:=acf k1
   obtain⟨b1,b2⟩:=acf k3
   rw[←ayk (adB ht _ b1) (adB ht _ a1) b2 a2 k4 k2 e2]
   exact e1
 refine⟨aqg _,⟨fun d hd=>?_,fun d hd=>?_⟩,fun y=>⟨h2 y,h3 y⟩⟩
 ·obtain⟨l,k1,k2⟩:=abQ.1 (h2 d hd)
  have z:=am9 (adB ht _ (acf k1).1)
  have z2:(aeg l.dir).half≠0:=by rw[alh z];exact z
  rcases k2 with rfl|rfl
  ·exact z2
  ·exact azk z2
 ·obtain⟨l,k1,k2⟩:=abQ.1 (h2 d hd)
  refine h3 _ (abQ.2 ⟨l,k1,?_⟩)
  rcases k2 with rfl|rfl
  ·exact .inr rfl
  ·exact .inl (aft _)
theorem atV{t:Tr}(ht:t.all LnQ.ok){p v:PtQ}(hv:v∈ae4 (ah0 (abu t p))):Gn (al6 t p) p v:=by
 obtain⟨h1,h2,h3⟩:=anE ht p
 have key:(∀d∈ah0 (abu t p),d.cross v≠0)→Gn (al6 t p) p v:=fun k l hl hz e=>by
  have z:=am9 (adB ht _ (acf hl).1)
  obtain⟨a,a1,a2⟩:=ajg z
  refine k _ ((h3 _).2 (abQ.2 ⟨l,hl, .inl rfl⟩)) ?_
  rw[←adO] at e
  have:(aeg l.dir).cross v=a*l.dir.cross v:=by rw[a2];unfold PtQ.cross;grind
  rw[this,e];grind
 generalize ah0 (abu t p)=ds at*
 unfold ae4 at hv
 split at hv
 ·rename_i hn
  refine key fun d hd=>?_
  rw[List.length_eq_zero_iff.1 hn] at hd;cases hd
 ·obtain⟨i,hi,rfl⟩:=bL.1 hv
  rw[oT] at hi
  have hj:(i+1)%ds.length<ds.length:=dQ _ (by omega)
  have hx:=axS h1 h2 hi hj
  have mu:=cJ hi
  have mw:=cJ hj
  have hp:=hx.pos h2 mu mw
  refine key ?_
  unfold aqT
  rw[ala hi,ala hj]
  split
  ·rename_i k
   have hc:=(ac3 _).1 k
   rw[arC]
   exact hx.gen h2 mu mw (by grind) (by decide) (by decide)
  ·rename_i k
   exact hx.turn h2 mu mw (by have: ¬0<ds[i].cross ds[(i+1)%ds.length]:=fun e=>k ((ac3 _).2 e);grind)
theorem amf{t:Tr}(ht:t.all LnQ.ok){p x:PtQ}(hx:Gn (al6 t p) p x): ∃v∈ae4 (ah0 (abu t p)),(afV t p v).1=(afV t p x).1:=by
 obtain⟨h1,h2,h3⟩:=anE ht p
 have cr: ∀l∈al6 t p,∃a:Rat,0<a∧ ∀y,(aeg l.dir).cross y=a*l.nor.dot y:=fun l hl=>by
  obtain⟨a,a1,a2⟩:=ajg (am9 (adB ht _ (acf hl).1))
  exact⟨a,a1,fun y=>by rw[a2,←adO];unfold PtQ.cross;grind⟩
 by_cases hn:ah0 (abu t p)=[]
 ·refine⟨⟨1,0⟩,by unfold ae4;rw[if_pos (by rw[hn];rfl)];exact aQ,?_⟩
  rw[agA fun l hl=>?_]
  have:=(h3 _).2 (abQ.2 ⟨l,hl, .inl rfl⟩)
  rw[hn] at this;cases this
 ·obtain⟨i,hi,hs⟩:=avC h1 h2 hn (x:=x) fun d hd=>by
   obtain⟨l,k1,k2⟩:=abQ.1 ((h3 d).1 hd)
   obtain⟨a,a1,a2⟩:=cr l k1
   have hz:=hx l k1 (acf k1).2
   have e:(aeg l.dir).cross x≠0:=by rw[a2];grind
   rcases k2 with rfl|rfl
   ·exact e
   ·intro q;apply e;unfold PtQ.cross ach at*;grind
  refine⟨aqT (ah0 (abu t p)) i,?_,?_⟩
  ·unfold ae4
   rw[if_neg (by omega)]
   exact bL.2 ⟨i,oT.2 hi,rfl⟩
  ·rw[agA fun l hl=>?_]
   have:=hs _ ((h3 _).2 (abQ.2 ⟨l,hl, .inl rfl⟩))
   obtain⟨a,a1,a2⟩:=cr l hl
   rw[a2,a2] at this
   have sg: ∀z:Rat,Int.sign (a*z).num=Int.sign z.num:=fun z=>by
    rcases aaY z with k|k|k
    ·subst k;rw[show a*0=0 by grind]
    ·rw[(ac0 _).2 k,(ac0 _).2 (aad a1 k)]
    ·rw[ajy k,ajy (by have:=aad (a:=a) (b:= -z) a1 (by grind);grind)]
   rw[sg,sg] at this
   exact this.symm
def inP(t:Tr)(p:PtQ):Bool:=(ae4 (ah0 (abu t p))).any fun v=>(afV t p v).1
def alP(t:Tr)(p:PtQ):Bool:=(ae4 (ah0 (abu t p))).all fun v=>(afV t p v).1
def abl(t:Tr)(p:PtQ):Int:=if inP t p&&alP t p then 2 else if inP t p then 1 else 0
theorem arE{t:Tr}(ht:t.all LnQ.ok){p:PtQ}:inP t p=true↔apE t p true:=by
 unfold inP
 rw[kN]
 constructor
 ·rintro ⟨v,h1,h2⟩;exact⟨v,atV ht h1,h2⟩
 ·rintro ⟨x,h1,h2⟩
  obtain⟨v,k1,k2⟩:=amf ht h1
  exact⟨v,k1,by rw[k2,h2]⟩
theorem ax1{t:Tr}(ht:t.all LnQ.ok){p:PtQ}:alP t p=true↔ ¬apE t p false:=by
 unfold alP
 rw[fM]
 constructor
 ·rintro h ⟨x,h1,h2⟩
  obtain⟨v,k1,k2⟩:=amf ht h1
  have:=h v k1
  rw[k2,h2] at this;cases this
 ·intro h v hv
  cases hb:(afV t p v).1 with
  |true=>rfl
  |false=>exact absurd ⟨v,atV ht hv,hb⟩ h
theorem aoj(t:Tr)(p:PtQ):abl t p=0∨abl t p=1∨abl t p=2:=by
 unfold abl
 split
 ·exact .inr (.inr rfl)
 ·split
  ·exact .inr (.inl rfl)
  ·exact .inl rfl
theorem aix{t:Tr}(ht:t.all LnQ.ok){p:PtQ}:abl t p=2↔ ¬apE t p false:=by
 unfold abl
 constructor
 ·intro h
  split at h
  ·rename_i k;rw[cX] at k;exact(ax1 ht).1 k.2
  ·split at h<;>exact absurd h (by decide)
 ·intro h
  have h1:=(ax1 ht).2 h
  have h2:=(arE ht).2 ((awo ht p).resolve_right h)
  rw[h1,h2];rfl
theorem ahs{t:Tr}(ht:t.all LnQ.ok){p:PtQ}:abl t p=0↔ ¬apE t p true:=by
 unfold abl
 constructor
 ·intro h k
  rw[(arE ht).2 k] at h
  split at h
  ·exact absurd h (by decide)
  ·exact absurd h (by decide)
 ·intro h
  have h1:inP t p=false:=by
   cases e:inP t p with
   |false=>rfl
   |true=>exact absurd ((arE ht).1 e) h
  rw[h1];rfl
theorem aon{p v:PtQ}: ∀{u:Tr},Off u.lns p→(afV u p v).1=u.val p
 | .leaf b,_=>rfl
 | .node l x y,ho=>by
  have h0:=ho.l
  rw[afV,if_neg (fun e=>h0 ((aby _).1 e))]
  by_cases k:0<l.value p
  ·rw[(ac0 _).2 k,Tr.val_pos k];exact aon ho.x
  ·rw[ajy (by grind),Tr.val_neg k];exact aon ho.y
theorem aun{t:Tr}(ht:t.all LnQ.ok){p:PtQ}(h:Off t.lns p):abl t p=if t.val p then 2 else 0:=by
 have key: ∀b,apE t p b→t.val p=b:=fun b ⟨v,_,h2⟩=>by rw[←h2,aon h]
 cases hb:t.val p with
 |true=>exact(aix ht).2 fun k=>by have:=key _ k;rw[hb] at this;cases this
 |false=>exact(ahs ht).2 fun k=>by have:=key _ k;rw[hb] at this;cases this
theorem aob{a b:Tr}(ha:a.all LnQ.ok)(hb:b.all LnQ.ok)(op:Int){p:PtQ}(h1:abl a p≠1)(h2:abl b p≠1):abl (a.mergeQ op b []) p=if opB op (decide (abl a p=2)) (decide (abl b p=2)) then 2 else 0:=by
 have hm:(a.mergeQ op b []).all LnQ.ok:=Tr.mergeQ_all LnQ.ok op hb a [] ha
 have hc: ∀{t:Tr},t.all LnQ.ok→abl t p≠1→ ∀x,apE t p x→x=decide (abl t p=2):=fun{t} ht h1 x hx=>by
  rcases aoj t p with e|e|e
  ·have:=(ahs ht).1 e
   rw[e]
   cases x with
   |true=>exact absurd hx this
   |false=>rfl
  ·exact absurd e h1
  ·have:=(aix ht).1 e
   rw[e]
   cases x with
   |true=>rfl
   |false=>exact absurd hx this
 have key: ∀c,apE (a.mergeQ op b []) p c→c=opB op (decide (abl a p=2)) (decide (abl b p=2)):=fun c hc'=>by
  obtain⟨x,y,k1,k2,k3⟩:=aBT (f:=opB op) hm ha hb (fun q _ o2 o3=>Tr.val_merge op b hb a [] q ha ab5.nil (asc q) o2 o3) hc'
  rw[←k3,hc ha h1 x k1,hc hb h2 y k2]
 generalize opB op (decide (abl a p=2)) (decide (abl b p=2))=r at*
 cases r with
 |true=>exact(aix hm).2 fun k=>by have:=key _ k;cases this
 |false=>exact(ahs hm).2 fun k=>by have:=key _ k;cases this
theorem an0{ls:List LnQ}(hb: ∀p∈ls,LB p)(hn:ls.length≤100000):PR GB prog 32 [.sl (ls.map eL)] 6 88 ((adR ls).map eL):=by
 have hm':=aaJ eL ls
 refine fnR (fu:=⟨15⟩) func32 J J ntmps32 J J (fun C hmb=>?_)
 refine eqF 8 (.d (vI (ls.length:Nat))) rfl (by rw[hm']<;>rfl) ?_
 refine gx rfl<|?_
 refine nr 3 3 88 6 J J J ?_
 refine lp (X:=List LnQ×Nat) (fun⟨xs,k⟩=>[(9, .d (vI (k:Nat))),(3, .rw 3)]) (fun⟨xs,k⟩=>[(3,some (.b 88 6 (xs.map eL) true))]) (fun⟨xs,k⟩=>xs=aji ael LnQ.canon ls k∧k≤ls.length) (fun⟨xs,k⟩=>ls.length-k) ⟨[],0⟩ rfl ⟨rfl,bK _⟩ (fun _=>rfl) (fun⟨xs,k⟩ hk=>?_)
 try dsimp only at hk⊢
 obtain⟨hS,hkl⟩:=hk
 refine br J J J (fun hc10=>?_) (fun hc10=>?_)
 ·
  have hk:k<ls.length:=by omega
  obtain⟨z,hm⟩: ∃m,m=ls[k]:=⟨_,rfl⟩
  have hz:ls[k]? =some z:=by rw[hm];exact aZ hk
  haveI hzb:LB z:=hm▸hb _ (cJ hk)
  obtain⟨m,hmc⟩: ∃m,m=z.canon:=⟨_,rfl⟩
  haveI hmb:LB m:=by rw[hmc];infer_instance
  have hxl:=aaJ eL xs
  have hxn:xs.length≤k:=by rw[hS];exact aiD
  have hxb: ∀q∈xs,LB q:=fun q hq=>by rw[hS] at hq;obtain⟨z,hz,rfl⟩:=aju hq;haveI:=hb z hz;infer_instance
  refine ix (fu:=⟨1⟩) _ rfl (ab0 hk) rfl<|?_
  refine eqF 12 (.d (eL z)) rfl (by rw[hm];rfl) ?_
  refine gx rfl<|cl (fu:=⟨2⟩) rfl (aoZ (l:=z)) rfl<|?_
  refine eqF 16 (.d (eL m)) rfl (by rw[hmc]) ?_
  refine gx (fu:=⟨10⟩) rfl<|?_
  refine mg (fu:=⟨0⟩) (X:=Nat) (fun n=>[(6, .d (vI (n:Nat)))]) (fun n=>[]) (fun n=>akA ael m xs=n) [6] [] rfl ?_ (fun _=>rfl) (fun n hnx=>?_)
  ·
   refine gx rfl<|?_
   refine lp (fu:=⟨6⟩) (X:=Nat) (fun n=>[(6, .d (vI (n:Nat)))]) (fun n=>[]) (fun n=>n≤xs.length∧ ∀j (h:j<xs.length),j<n→ael xs[j] m<0) (fun n=>xs.length-n) 0 rfl ⟨bK _,fun j _ hj=>absurd hj (by omega)⟩ (fun _=>rfl) (fun n hk=>?_)
   obtain⟨n1,n2⟩:=hk
   refine csS (v2:=fun hg21=>by simp only[aai];kernel_rfl) J J J J (fun hg21=>?_) (fun hg21=>?_)
   ·
    refine lb _ rfl (ab0 (by omega)) rfl<|cl rfl (aiE (l:=xs[n]'(by omega)) (m:=m) (hl:=hxb _ (cJ (by omega))) (hm:=hmb)) rfl<|?_
    refine br J J J (fun hc30=>?_) (fun hc30=>?_)
    ·
     exact at_ (n+1) ⟨⟨by omega,fun j h hj=>by by_cases q:j=n;(subst q;exact hc30);exact n2 j h (by omega)⟩,(by omega)⟩
    ·
     exact at_ n (aee ael n1 n2 (fun h=>hc30))
   ·
    exact at_ n (aee ael n1 n2 (fun h=>absurd h (by omega)))
  ·
   have hnl:n≤xs.length:=by rw[←hnx];exact aiB _ _ _
   rcases(show n=xs.length∨(∃h:n<xs.length,ael xs[n] m≠0)∨ ∃h:n<xs.length,ael xs[n] m=0 by by_cases q:n<xs.length;(by_cases q2:ael xs[n] m=0;exact .inr (.inr ⟨q,q2⟩);exact .inr (.inl ⟨q,q2⟩));exact .inl (by omega)) with hq|⟨hq,hq2⟩|⟨hq,hq2⟩
   ·
    have hnew: ∀h:n<xs.length,ael xs[n] m≠0:=fun h=>absurd h (by omega)
    obtain⟨ys,hys⟩: ∃ys,ys=xs.take n++m::xs.drop n:=⟨_,rfl⟩
    have hin:adE ael m xs=ys:=by rw[hys];exact acM ael hnx hnew
    have hyl:ys.length≤xs.length+1:=by rw[hys];simp;omega
    refine fzC 3 rfl ?_
    refine gx (fu:=⟨5⟩) rfl<|knT rfl (by show some (decide _)=some true;rw[decide_eq_true (by rw[hxl];omega)]) rfl<|s3 n _ J J J J (abI _) (by rw[hxl];exact hnl) rfl<|?_
    refine ro J J<|sc' n xs.length _ J J (by rw[hxl]) rfl (abI _) hnl (by omega) rfl<|ap _ J J (slD abI _ _ _) rfl<|ap (hv:=by simp only[aai];exact⟨by kernel_rfl,by omega⟩) (ho:=fun _=>⟨slT abI _ _,by simp⟩) (ys.map eL) rfl (by rw[hys,bU,bW,gV,iM,aT (l:=xs.map eL) (i:=xs.length) (by simp)];rfl) (slI abI _ _ _ _) rfl<|?_
    refine rnE 56 3 rfl ?_
    exact at_ ⟨ys,k+1⟩ (by dsimp only;exact⟨⟨by rw[aca hz,←hS,←hmc];exact hin.symm,by omega⟩,(by omega)⟩)
   ·
    have hnew: ∀h:n<xs.length,ael xs[n] m≠0:=fun h=>hq2
    obtain⟨ys,hys⟩: ∃ys,ys=xs.take n++m::xs.drop n:=⟨_,rfl⟩
    have hin:adE ael m xs=ys:=by rw[hys];exact acM ael hnx hnew
    have hyl:ys.length≤xs.length+1:=by rw[hys];simp;omega
    refine fzC 3 rfl ?_
    refine gx (fu:=⟨5⟩) rfl<|knF rfl (by show some (decide _)=some false;rw[decide_eq_false (by rw[hxl];omega)]) rfl<|ix _ rfl (ab0 hq) rfl<|cl (fu:=⟨0⟩) rfl (aiE (l:=xs[n]'(by omega)) (m:=m) (hl:=hxb _ (cJ (by omega))) (hm:=hmb)) rfl<|?_
    refine knT rfl (by show some (decide _)=some true;rw[decide_eq_true (by assumption)]) rfl<|s3 n _ J J J J (abI _) (by rw[hxl];exact hnl) rfl<|?_
    refine ro J J<|sc' n xs.length _ J J (by rw[hxl]) rfl (abI _) hnl (by omega) rfl<|ap _ J J (slD abI _ _ _) rfl<|ap (hv:=by simp only[aai];exact⟨by kernel_rfl,by omega⟩) (ho:=fun _=>⟨slT abI _ _,by simp⟩) (ys.map eL) rfl (by rw[hys,bU,bW,gV,iM,aT (l:=xs.map eL) (i:=xs.length) (by simp)];rfl) (slI abI _ _ _ _) rfl<|?_
    refine rnE 56 3 rfl ?_
    exact at_ ⟨ys,k+1⟩ (by dsimp only;exact⟨⟨by rw[aca hz,←hS,←hmc];exact hin.symm,by omega⟩,(by omega)⟩)
   ·
    have hin:adE ael m xs=xs:=afE ael hnx hq hq2
    refine gx (fu:=⟨5⟩) rfl<|knF rfl (by show some (decide _)=some false;rw[decide_eq_false (by rw[hxl];omega)]) rfl<|lb _ rfl (ab0 hq) rfl<|cl (fu:=⟨0⟩) rfl (aiE (l:=xs[n]'(by omega)) (m:=m) (hl:=hxb _ (cJ (by omega))) (hm:=hmb)) rfl<|?_
    refine knF (hv:=by simp only[aai];exact⟨by kernel_rfl,by omega⟩) rfl (by show some (decide _)=some false;rw[decide_eq_false (fun h=>h hq2)]) rfl<|?_
    exact at_ ⟨xs,k+1⟩ (by dsimp only;exact⟨⟨by rw[aca hz,←hS,←hmc];exact hin.symm,by omega⟩,(by omega)⟩)
 ·
  have hfin:adR ls=xs:=by rw[hS,aiF (by omega)];rfl
  exact rzR J J J (by rw[hfin])
theorem awb{t:Tr}(hb:t.all LB)(hs:t.size≤100000):PR GB prog 33 [eT t] 6 88 ((adR t.lns).map eL):=by
 refine fnR func33 J J ntmps33 J J (fun C hmb=>?_)
 refine cr rfl (aom hs) rfl<|fz 4 J J<|cr rfl (an0 (act.1 hb) (by rw[af9];exact hs)) rfl<|?_
 exact rzR J J J J
theorem aFd{op:Int}{x y:Bool}:PF GB prog 35 [vI op,vB x,vB y] (vB (opB op x y)):=by
 refine fn func35 J J ntmps35 J J (fun C=>?_)
 refine br J J J (fun hc8=>?_) (fun hc8=>?_)
 ·
  refine csb 11 J J J (fun hg11=>?_) (fun hg11=>?_)
  ·
   exact rz rfl (by unfold opB;rw[if_pos hc8,hg11];rfl)
  ·
   exact rz rfl (by unfold opB;rw[if_pos hc8,hg11];rfl)
 ·
  refine br J J J (fun hc14=>?_) (fun hc14=>?_)
  ·
   refine csb 17 J J J (fun hg17=>?_) (fun hg17=>?_)
   ·
    exact rz rfl (by unfold opB;rw[if_neg hc8,if_pos hc14,hg17];rfl)
   ·
    exact rz rfl (by unfold opB;rw[if_neg hc8,if_pos hc14,hg17];rfl)
  ·
   refine br J J J (fun hc20=>?_) (fun hc20=>?_)
   ·
    refine csb 23 J J J (fun hg23=>?_) (fun hg23=>?_)
    ·
     exact rz rfl (by unfold opB;rw[if_neg hc8,if_neg hc14,if_pos hc20,hg23];rfl)
    ·
     exact rz rfl (by unfold opB;rw[if_neg hc8,if_neg hc14,if_pos hc20,hg23];rfl)
   ·
    exact rz rfl (by unfold opB;rw[if_neg hc8,if_neg hc14,if_neg hc20];rfl)
def RN.of(n:NQ):RN:=⟨⟨decide (n.l.a<0),dg n.l.a.natAbs,decide (n.l.b<0),dg n.l.b.natAbs,decide (n.l.c<0),dg n.l.c.natAbs⟩,n.a,n.b⟩
theorem aEY(ns:List NQ):ns.map eN=(ns.map RN.of).map RN.d:=by
 rw[List.map_map];rfl
theorem avb(t:Tr):eA t=eRT (t.num 0) ((t.wr 0).map RN.of):=by
 unfold eA eRT
 rw[aEY];rfl
theorem awx(a:Int):ahz (decide (a<0)) (dg a.natAbs)=a:=by
 unfold ahz
 rw[(aaK _).1]
 split
 ·rename_i h;have:=of_decide_eq_true h;omega
 ·rename_i h;have: ¬a<0:=fun e=>h (decide_eq_true e);omega
theorem anT(a:Int):anO (decide (a<0)) (dg a.natAbs):=⟨(aaK _).2.2,fun h=>ahw.2 (by have:=of_decide_eq_true h;omega)⟩
theorem RN.of_l(n:NQ):(RN.of n).g.l=n.l:=by
 unfold RN.of RL.l
 simp only[awx]
theorem RN.of_ln{n:NQ}(h:n.l.ok):(RN.of n).g.ln=some n.l:=by
 unfold RL.ln
 rw[if_pos ⟨⟨anT _,anT _,anT _⟩,by rw[RN.of_l];exact h⟩,RN.of_l]
theorem RN.of_sm{n:NQ}(h:LB n.l):(RN.of n).g.sm:=by
 have key: ∀a:Int,a.natAbs<2^96→DOk (dg a.natAbs)∧(dg a.natAbs).length≤3:=fun a ha=>⟨(aaK _).2.1,by have:=aa6 ha;omega⟩
 exact⟨key _ h.bl.a,key _ h.bl.b,key _ h.bl.c⟩
theorem aeW(b:Bool)(k:Nat):ac6 b≠(k:Int):=by cases b<;>(unfold ac6;simp)
theorem RR.det{ns:List RN}{rt:Int}{s s1:RS}{t1:Tr}(h:RR ns rt s t1 s1): ∀{s2:RS} {t2:Tr},RR ns rt s t2 s2→t1=t2∧s1=s2:=by
 induction h with
 |leaf b s=>
  intro s2 t2 h
  generalize hr:ac6 b=r at h
  cases h with
  |leaf b' s=>
   have:b=b':=by cases b<;>cases b'<;>first|rfl|(simp[ac6] at hr)
   subst this;exact⟨rfl,rfl⟩
  |bad rt s h1 h2 h=>cases b<;>simp[ac6] at hr<;>omega
  |line k=>exact absurd hr (aeW _ _)
  |node k=>exact absurd hr (aeW _ _)
 |bad rt s h1 h2 h=>
  intro s2 t2 h'
  cases h' with
  |leaf b s=>cases b<;>simp[ac6] at h1 h2
  |bad=>exact⟨rfl,rfl⟩
  |line k n s hn hf=>
   have:=(bQ.1 hn).1
   rcases h with h|h|⟨j,e,_,hj⟩
   ·omega
   ·omega
   ·have:j=k:=by omega
    subst this;rw[hf] at hj;cases hj
  |node k n l s s2 s3 x y hn hf=>
   have:=(bQ.1 hn).1
   rcases h with h|h|⟨j,e,_,hj⟩
   ·omega
   ·omega
   ·have:j=k:=by omega
    subst this;rw[hf] at hj;cases hj
 |line k n s hn hf hl=>
  intro s2 t2 h'
  generalize hr:(k:Int)=r at h'
  cases h' with
  |leaf b s=>exact absurd hr.symm (aeW _ _)
  |bad rt s h1 h2 h=>
   have:=(bQ.1 hn).1
   rcases h with h|h|⟨j,e,_,hj⟩
   ·omega
   ·omega
   ·have:j=k:=by omega
    subst this;rw[hf] at hj;cases hj
  |line k' n' s hn' hf' hl'=>
   have:k=k':=by omega
   subst this;exact⟨rfl,rfl⟩
  |node k' n' l s s2 s3 x y hn' hf' hl'=>
   have:k=k':=by omega
   subst this;rw[hn] at hn';cases hn';rw[hl] at hl';cases hl'
 |node k n l s s2 s3 x y hn hf hl h1 h2 i1 i2=>
  intro s4 t4 h'
  generalize hr:(k:Int)=r at h'
  cases h' with
  |leaf b s=>exact absurd hr.symm (aeW _ _)
  |bad rt s h1 h2 h=>
   have:=(bQ.1 hn).1
   rcases h with h|h|⟨j,e,_,hj⟩
   ·omega
   ·omega
   ·have:j=k:=by omega
    subst this;rw[hf] at hj;cases hj
  |line k' n' s hn' hf' hl'=>
   have:k=k':=by omega
   subst this;rw[hn] at hn';cases hn';rw[hl] at hl';cases hl'
  |node k' n' l' s s2' s3' x' y' hn' hf' hl' h1' h2'=>
   have:k=k':=by omega
   subst this;rw[hn] at hn';cases hn';rw[hl] at hl';cases hl'
   obtain⟨rfl,rfl⟩:=i1 h1'
   obtain⟨rfl,rfl⟩:=i2 h2'
   exact⟨rfl,rfl⟩
def RT'(ns:List NQ):Tr→Int→List Nat→Prop
 | .leaf b,rt,L=>rt=ac6 b∧L=[]
 | .node l x y,rt,L=> ∃(k:Nat) (a b:Int) (L1 L2:List Nat),rt=(k:Int)∧ns[k]? =some ⟨l,a,b⟩∧RT' ns x a L1∧RT' ns y b L2∧L=k::(L1++L2)
theorem RT'.rr{ns:List NQ}: ∀{t:Tr} {rt:Int} {L:List Nat} {s:RS},RT' ns t rt L→t.all LnQ.ok→L.Nodup→(∀j∈L,s.f j=false)→ ∃f,RR (ns.map RN.of) rt s t ⟨f,s.c+t.size,s.b⟩∧ ∀j,j∉L→f j=s.f j
 | .leaf b,rt,L,s,⟨e,e2⟩,_,_,_=>by
  subst e e2
  exact⟨s.f, .leaf b s,fun _ _=>rfl⟩
 | .node l x y,rt,L,s,⟨k,a,b,L1,L2,e,hk,hx,hy,e2⟩,⟨h0,h1,h2⟩,hnd,hf=>by
  subst e e2
  obtain⟨hkn,hnd⟩:=List.nodup_cons.1 hnd
  obtain⟨hd1,hd2,hdis⟩:=List.nodup_append.1 hnd
  have hfk:=hf k aQ
  have hn1: ∀j∈L1,j≠k:=fun j hj e=>hkn (e▸bS _ hj)
  have hn2: ∀j∈L2,j≠k:=fun j hj e=>hkn (e▸bN _ hj)
  obtain⟨f1,r1,g1⟩:=RT'.rr (s:=⟨amu s.f k,s.c+1,s.b⟩) hx h1 hd1 (fun j hj=>by simp only;rw[aiU (hn1 j hj)];exact hf j (aX _ (bS _ hj)))
  simp only at r1 g1
  obtain⟨f2,r2,g2⟩:=RT'.rr (s:=⟨f1,s.c+1+x.size,s.b⟩) hy h2 hd2 (fun j hj=>by
   simp only
   rw[g1 j (fun h=>hdis _ h _ hj rfl),aiU (hn2 j hj)]
   exact hf j (aX _ (bN _ hj)))
  simp only at r2 g2
  have hc:s.c+(Tr.node l x y).size=s.c+1+x.size+y.size:=by simp only[Tr.size];omega
  rw[hc]
  refine⟨f2, .node k (RN.of ⟨l,a,b⟩) l s _ _ x y (by rw[dR,hk];rfl) hfk (RN.of_ln h0) r1 r2,fun j hj=>?_⟩
  simp only[aU,bV,not_or] at hj
  rw[g2 j hj.2.2,g1 j hj.2.1,aiU hj.1]
theorem RT'.len{ns:List NQ}: ∀{t:Tr} {rt:Int} {L:List Nat},RT' ns t rt L→L.length=t.size
 | .leaf _,_,_,⟨_,h⟩=>by rw[h];rfl
 | .node l x y,_,_,⟨k,a,b,L1,L2,_,_,h1,h2,h⟩=>by
  rw[h,bZ,aV,RT'.len h1,RT'.len h2]
  simp only[Tr.size]
  omega
def RD'(ns:List NQ)(t:Tr)(rt:Int):Prop:= ∃L,RT' ns t rt L∧L.Nodup∧L.length=ns.length
theorem aBr{ns:List NQ}{t:Tr}{rt:Int}(h:RD' ns t rt)(ho:t.all LnQ.ok):ofQ (ns.map RN.of) rt=some t:=by
 obtain⟨L,h1,h2,h3⟩:=h
 obtain⟨f,r,_⟩:=h1.rr (s:=rs0) ho h2 (fun _ _=>rfl)
 have hr:=ang (ns:=ns.map RN.of) (m:=(ns.map RN.of).length+1) (rt:=rt) (s:=rs0) (by have:=ags (ns.map RN.of).length rs0.f;omega)
 obtain⟨e1,e2⟩:=hr.1.det r
 unfold ofQ
 simp only
 rw[e2,e1,if_pos ⟨rfl,by show rs0.c+t.size=_;rw[aJ,←h3,h1.len];show 0+_=_;omega⟩]
theorem azd{ns:List NQ}: ∀{t:Tr} {n:Nat},(∀i,i<t.size→ns[n+i]? =(t.wr n)[i]?)→RT' ns t (t.num n) (List.range' n t.size)
 | .leaf b,n,_=>⟨rfl,rfl⟩
 | .node l x y,n,h=>by
  have hsz:(Tr.node l x y).size=1+x.size+y.size:=rfl
  have hw:(Tr.node l x y).wr n=⟨l,x.num (n+1),y.num (n+1+x.size)⟩::(x.wr (n+1)++y.wr (n+1+x.size)):=by simp[Tr.wr]
  have hx:=x.wr_len (n+1)
  have hy:=y.wr_len (n+1+x.size)
  refine⟨n,x.num (n+1),y.num (n+1+x.size),List.range' (n+1) x.size,List.range' (n+1+x.size) y.size,rfl,?_,azd fun i hi=>?_,azd fun i hi=>?_,?_⟩
  ·have:=h 0 (by omega)
   rw[hw,dW] at this
   rw[this];rfl
  ·have:=h (1+i) (by omega)
   rw[hw,jQ 1 i,List.getElem?_cons_succ,fX (by omega)] at this
   rw[show n+1+i=n+(i+1) by omega];exact this
  ·have:=h (1+x.size+i) (by omega)
   rw[hw,show 1+x.size+i=(x.size+i)+1 by omega,List.getElem?_cons_succ,fV (by omega),hx,Nat.add_sub_cancel_left] at this
   rw[show n+1+x.size+i=n+(x.size+i+1) by omega];exact this
  ·rw[hsz,show 1+x.size+y.size=(x.size+y.size)+1 by omega,List.range'_succ,List.range'_append_1]
theorem ap2{t:Tr}(ho:t.all LnQ.ok):ofQ ((t.wr 0).map RN.of) (t.num 0)=some t:=
 aBr ⟨_,azd (n:=0) (fun i _=>by rw[dJ]),List.nodup_range',by rw[List.length_range',t.wr_len]⟩ ho
theorem axg{t:Tr}(hb:t.all LB): ∀n∈(t.wr 0).map RN.of,n.g.sm:=fun n hn=>by
 obtain⟨m,hm,rfl⟩:=bL.1 hn
 exact RN.of_sm (Tr.all_wr 0 hb m hm)
def aGK(cs:List RL):Option (List LnQ):=if cs.all (fun r=>r.ln.isSome) then some (cs.filterMap RL.ln) else none
def aGz:Option (List LnQ)→DV
 |some ls=> .tp [.sl (ls.map eLn),vB true]
 |none=> .tp [.sl [],vB false]
def aGR:Option aan→DV
 |some c=> .tp [.sl (c.map eFr),vB true]
 |none=> .tp [.sl [],vB false]
def aGk(ai al:Addr)(more:Nat):Option Tr→DV
 |none=> .tp [.v (.pointer none),azg ai]
 |some t=>if 1024<t.depth+more then .tp [.v (.pointer none),azg al] else .tp [eU t, .v .nilIface]
def aGM(ai:Addr)(f:Tr→Tr):Option Tr→Tr ⊕ Addr
 |some t=> .inl (f t)
 |none=> .inr ai
def aGd(ai ae:Addr):Option Tr→Option (List LnQ)→Tr ⊕ Addr
 |some t,some ls=>(match afv ls [] with
  |some c=> .inl (t.restrict c)
  |none=> .inr ae)
 |_,_=> .inr ai
def aGx(ai:Addr):Option LnQ→Option Tr→DV
 |some m,some t=> .tp [eA (t.restrict (aaR [] m)),eA (t.restrict (aaR [] m.rev)), .v .nilIface]
 |_,_=> .tp [trZ,trZ,azg ai]

section
variable {GB:Gh} {C:Ctx} {n:Nat} {Q0:Exit→Act→World→Prop} {fr fr':FrX} {own own':OwX} {cf cf':Cf} {vc:List Prop}
theorem avk{lk:LK}{bk:BM}{fo:Operand}{args:Array Operand}{tys:Array TypeId}{f:FuncId}{nm d:Nat}{l:List (Option DV)}{s:Nat}{ty ty0:TypeId}{pos:String}{af:Array Edge}{gd:Option (Nat×Bool)}{dsi dso:List DV}{lo:Bool}(hne:Nat.beq nm d=false)
  (ha:amh lk fo args=some (f,nm,l))(hb:bk nm=some (.b ty0 s dsi lo))(hF:PB GB prog f (mkB l) s ty0 dsi (fun w=> .v (.slice w.a w.n w.c)) dso):OpR prog GB C n lk bk ⟨some d, .call ⟨.value fo,args,tys⟩,ty,pos,af,gd⟩ (.rw d) [(nm,none),(d,some (.b ty0 s dso lo))] [d]:=by
 intro hd tl tb K' s1 s2 hf hk
 refine⟨fun ρ G ov a w r Q=>?_⟩
 have r1:=r.mono s1 s2
 unfold amh at ha
 split at ha<;>try (cases ha;done)
 rename_i h1
 split at ha<;>cases ha
 rename_i h2
 obtain⟨y,hy,hy'⟩:=r1.ev h1
 rw[(aaP (G:=G)).1 hy'] at hy
 obtain⟨B,g1,g2⟩:=r1.bx _ _ hb
 have hB:aba G ⟨ρ nm,s,ty0,dsi,lo⟩ B:=g1
 obtain⟨vs,h7,h8⟩:=ai1 r1 (z:=ρ nm) h2 (fun nm e=>by cases e;rfl)
 have hp: ∃rest,ov.Perm (B++rest)∧ ∀o∈ov,(∀o'∈B,o.b≠o'.b)→o∈rest:=by
  rcases hB with⟨vs',⟨_,_,e⟩|⟨b0,r0,lo0,_,e,_⟩,_⟩
  ·rw[e];exact⟨ov,List.Perm.refl _,fun o ho _=>ho⟩
  ·rw[e] at g2⊢
   obtain⟨l1,l2,e2⟩:=kX (g2 _ aQ)
   rw[e2]
   refine⟨l1++l2,mQ,fun o ho hno=>?_⟩
   rcases bV.1 ho with ho|ho
   ·exact bS _ ho
   ·rcases aU.1 ho with rfl|ho
    ·exact absurd rfl (hno _ aQ)
    ·exact bN _ ho
 obtain⟨rest,h5,h6⟩:=hp
 refine ad0 (M:=B) (rest:=rest) hy h7 h5 (hF G (ρ nm) vs B r.gb hB.weak h8) hd (fun v own1 G' hG hK a' w' rl=>?_) a w Q ⟨r.h,r.sz,aaQ a,r.df⟩
 obtain⟨z,hr,vs',k1,k2,k3,k4⟩:=hK
 have k1':=k1.relo (flM B)
 have e2:lo=true→ ∀o∈own1.map (relo (flM B)),o.lo=true:=fun hl o ho=>by
  obtain⟨o',_,rfl⟩:=bL.1 ho
  obtain⟨_,_,_,_,hlo⟩:=hB
  exact agZ _ (hlo hl)
 generalize own1.map (relo (flM B))=B' at rl e2 k1'
 have rl':Rel C n (Sx.put (frA a) (some d) v) (B'++rest) G' a' w':=rl
 have hdis:=(gJ.1 rl'.h.nd).2.2
 have r2:=r.dropB nm
 have hnn:nm≠d:=fun e=>by subst e;rw[nQ] at hne;cases hne
 have hf2:acQ [d] (some d) tl (Sx.upB tb [(nm,none)]):=fun q hq=>by
  obtain⟨f1,f2⟩:=hf q hq
  refine⟨f1,fun k B e1 e=>?_⟩
  simp only[Sx.upB] at e
  split at e
  ·cases e
  ·exact f2 k B e1 e
 have hsep: ∀q B0,Sx.upB tb [(nm,none)] q=some B0→ ∀o∈ov,(ρ q).a=some ⟨o.b,0,none⟩→o∈rest:=fun q B0 e o ho hbq=>by
  simp only[Sx.upB] at e
  split at e
  ·cases e
  ·rename_i hqn
   refine h6 o ho fun o' ho' he=>?_
   exact r.dj nm q _ _ (s2 _ _ hb) e (Ne.symm hqn) o'.b (g1.blk ho') (by rw[hbq,he])
 rw[aaP.1 hr] at rl'
 have r3:=r2.new' (x:=z) (B':= .b ty0 s dso lo) (os:=B') (ov':=B'++rest) (f:= .rw d) (y:= .slice z.a z.n z.c) hf2 hG.le rl'.h ⟨vs',by simpa using k1',k2,k3,e2⟩ (fun o ho=>bS _ ho)
  (fun q B0 hq e o ho hbq=>⟨bN _ (hsep q B0 e o ho hbq),fun hc=>by
   have hx: ∃o1∈B',o1.b=o.b:=by
    rcases k1' with⟨_,h,_⟩|⟨b0,rest0,lo0,h,hB,_⟩
    ·rw[show z=_ from h] at hc;cases hc
    ·rw[show z=_ from h] at hc;cases hc;exact⟨⟨_,aag vs'++rest0,_,lo0⟩,by rw[hB];exact aQ,rfl⟩
   obtain⟨o1,ho1,he1⟩:=hx
   exact hdis o1 ho1 o (hsep q B0 e o ho hbq) he1⟩) (by simp[IsX]) (abg rl')
 exact hk.run _ G' _ a' w' r3
theorem cq[fu:Fu]{f:FuncId}{nm d:Nat}{l:List (Option DV)}{ty:TypeId}{s:Nat}{dsi dso:List DV}{lo:Bool}(dso':List DV)(ha:aDB fr own cf=some ⟨f,nm,l,ty,s,dsi,lo,d⟩)(hF:PB GB prog f (mkB l) s ty dsi (fun w=> .v (.slice w.a w.n w.c)) dso)(he:dso=dso')
  (hgo:goA tt n fu.n fr own cf (.rw d) [(nm,none),(d,some (.b ty s dso' lo))] [d]=⟨vc,fr',own',cf'⟩)(k:CfS prog GB C n Q0 fr' own' cf')
  (hv:aai vc:=by first|exact trivial|(simp only[aai];kernel_rfl)|(simp only[aai];omega)|(simp only[aai,aJ,aR,aW];omega)):CfS prog GB C n Q0 fr own cf:=by
 subst he
 unfold aDB at ha
 split at ha<;>try (cases ha;done)
 rename_i hh
 split at ha<;>try (cases ha;done)
 rename_i h1
 split at ha<;>try (cases ha;done)
 rename_i h2
 rw[cond_eq_ite] at ha
 split at ha<;>cases ha
 rename_i h3
 exact us hh (avk (by cases hq:Nat.beq nm d with|false=>rfl|true=>exact absurd hq h3) h1 h2 hF) hgo hv k
def arx(C:Ctx)(s:Nat)(ty:TypeId)(dso:List DV):Ending→World→Prop:=afX C (fun v own' G'=> ∃w',Is G' (.v (.slice w'.a w'.n w'.c)) v∧aba G' ⟨w',s,ty,dso,false⟩ own')
theorem fnQ[fu:Fu]{f:FuncId}{fb:Func}{c:Code}{k s:Nat}{l:List (Option DV)}{dsi dso:List DV}{ty:TypeId}(hf:prog.funcs[f]? =some fb)(hb:fb.body=some c)(hn:(fb.name== "runtime.NumGoroutine")=false)(hm:fb.ntmps=k)(hlen:Nat.ble l.length k=true)
  (hgo:go tt k fu.n [] (ajc 0 l) [(NM,some (.b ty s dsi false))] (.code c [])=⟨vc,fr,own,cf⟩)(h: ∀C,CfS prog GB C k (bodyPost prog fb (arx C s ty dso)) fr own cf)
  (hv:aai vc:=by first|exact trivial|(simp only[aai];kernel_rfl)|(simp only[aai];omega)|(simp only[aai,aJ,aR,aW];omega)):PB GB prog f (mkB l) s ty dsi (fun w=> .v (.slice w.a w.n w.c)) dso:=by
 intro G w vs B hg hB hvs
 refine FnO.intro hf hb hn hm (by rw[hvs.len,alp];exact hlen) fun C _ hmb=>?_
 intro a wd rl
 have h1:=gx' (GB:=GB) (C:=C) (Q0:=bodyPost prog fb (arx C s ty dso)) hgo hv (h C)
 refine h1.run (fun _=>w) G (Sx.asB B) a wd ⟨hg,rl.h,rl.sz,rl.df,fun k f e=>?_,fun nm B' e=>?_,fun nm nm' B' B2 e e' hne=>?_⟩
 ·obtain⟨y,⟨j,hj,hy⟩,h2⟩:=aeM (ρ:=fun _=>w) (w:=w) rfl 0 hvs k f e
  refine⟨y,rl.fr k y ?_,h2⟩
  rw[hj];exact acx vs 0 j y hy
 ·rw[aaM] at e
  split at e
  ·cases e;exact⟨Sx.asB B,hB.asB,fun o ho=>ho⟩
  ·cases e
 ·rw[aaM] at e e'
  split at e<;>split at e'
  ·rename_i h2 h3;exact absurd (h2.trans h3.symm) hne
  ·cases e'
  ·cases e
  ·cases e
theorem rzQ{fb:Func}{t d s:Nat}{ty:TypeId}{ds dso:List DV}(hr:fb.results.toList=[.tmp t])(hl:aax fr t=some (.rw d))(hw:aaA own d=some (.b ty s ds false))(ed:ds=dso):
  CfS prog GB C n (bodyPost prog fb (arx C s ty dso)) fr own (.ex .ret []):=by
 subst ed
 refine⟨fun ρ G ov a w r=>?_⟩
 obtain⟨B,g1,g2⟩:=r.bx _ _ hw
 have hB:aba G ⟨ρ d,s,ty,ds,false⟩ B:=g1
 obtain⟨rest,hp⟩:=alt hB g2
 obtain⟨y,hy,hy'⟩:=r.ev (x:= .tmp t) (f:= .rw d) hl
 cases (show y=_ from hy')
 exact aeB (C:=C) (n:=n) (fr:=frA a) (own:=ov) (G:=G) (vs:=[.slice (ρ d).a (ρ d).n (ρ d).c]) (by rw[hr];exact .tmp hy .nil) (B++rest) B hp (nX _ _) ⟨ρ d,aaP.2 rfl,hB⟩ a w ⟨r.h,r.sz,aaQ a,r.df⟩
/-! the same with nil as the row of nothing, the last argument -/
def aAP(lk:LK):List Operand→Option (List (Option DV))
 |[]=>none
 |[x]=>match evX lk x with
  |some .nl=>some [none]
  |_=>none
 |x::t=>match evX lk x,aAP lk t with
  |some f,some l=>match akP f with
   |some d=>some (some d::l)
   |none=>none
  |_,_=>none
def azO(lk:LK)(fo:Operand)(args:Array Operand):Option (FuncId×List (Option DV)):=match evX lk fo with
 |some (.d (.v (.func (.func f) ⟨[]⟩ ⟨[]⟩)))=>match aAP lk args.toList with
  |some l=>some (f,l)
  |_=>none
 |_=>none
theorem arM{lk:LK}{bk:BM}{ρ:NE}{G:Gh}{ov:List Own}{a:Act}{w:World}(r:RlX GB C n lk bk ρ G ov a w): ∀{x:List Operand} {l:List (Option DV)},aAP lk x=some l→ ∃y,af7 (frA a) x=some y∧IsLs G (mkB l ⟨none,0,0⟩) y
 |[],l,e=>by cases e
 |[x],l,e=>by
  simp only[aAP] at e
  split at e<;>cases e
  rename_i h1
  obtain⟨y,h3,h4⟩:=r.ev h1
  cases (show y=_ from h4)
  exact⟨[Value.slice none 0 0],by simp only[af7,h3], .cons ((aaP (G:=G)).2 rfl) .nil⟩
 |x::x2::t,l,e=>by
  simp only[aAP] at e
  split at e
  ·rename_i f l' h1 h2
   cases hd:akP f with
   |none=>rw[hd] at e;cases e
   |some d=>
   rw[hd] at e;cases e
   obtain⟨y,h3,h4⟩:=r.ev h1
   obtain⟨ys,h5,h6⟩:=arM r (x:=x2::t) (by simpa only[aAP] using h2)
   exact⟨y::ys,by simp only[af7,h3] at h5⊢;rw[h5], .cons (acs h4 hd) h6⟩
  ·cases e
theorem ar4{lk:LK}{bk:BM}{fo:Operand}{args:Array Operand}{tys:Array TypeId}{f:FuncId}{d:Nat}{l:List (Option DV)}{s:Nat}{ty ty0:TypeId}{pos:String}{af:Array Edge}{gd:Option (Nat×Bool)}{dso:List DV}
  (ha:azO lk fo args=some (f,l))(hF:PB GB prog f (mkB l) s ty0 [] (fun w=> .v (.slice w.a w.n w.c)) dso):OpR prog GB C n lk bk ⟨some d, .call ⟨.value fo,args,tys⟩,ty,pos,af,gd⟩ (.rw d) [(d,some (.b ty0 s dso true))] [d]:=by
 intro hd tl tb K' s1 s2 hf hk
 refine⟨fun ρ G ov a w r Q=>?_⟩
 have r1:=r.mono s1 s2
 unfold azO at ha
 split at ha<;>try (cases ha;done)
 rename_i h1
 split at ha<;>cases ha
 rename_i h2
 obtain⟨y,hy,hy'⟩:=r1.ev h1
 rw[(aaP (G:=G)).1 hy'] at hy
 obtain⟨vs,h7,h8⟩:=arM r1 h2
 refine ad0 (M:=[]) (rest:=ov) hy h7 (List.Perm.refl _) (hF G ⟨none,0,0⟩ vs [] r.gb ⟨[], .nil _ _, .nil,by simp,fun h=>by cases h⟩ h8) hd (fun v own1 G' hG hK a' w' rl=>?_) a w Q ⟨r.h,r.sz,aaQ a,r.df⟩
 obtain⟨z,hr,vs',k1,k2,k3,k4⟩:=hK
 have k1':=k1.relo (flM [])
 have e2: ∀o∈own1.map (relo (flM [])),o.lo=true:=fun o ho=>by
  obtain⟨o',_,rfl⟩:=bL.1 ho
  rfl
 generalize own1.map (relo (flM []))=B' at rl e2 k1'
 have rl':Rel C n (Sx.put (frA a) (some d) v) (B'++ov) G' a' w':=rl
 have hdis:=(gJ.1 rl'.h.nd).2.2
 rw[aaP.1 hr] at rl'
 have r3:=r.new (x:=z) (B':= .b ty0 s dso true) (os:=B') (ov':=B'++ov) (f:= .rw d) (y:= .slice z.a z.n z.c) hf hG.le rl'.h ⟨vs',by simpa using k1',k2,k3,fun _=>e2⟩ (fun o ho=>bS _ ho) (fun o ho=>bN _ ho)
  (fun o ho hc=>by
   have hx: ∃o1∈B',o1.b=o.b:=by
    rcases k1' with⟨_,h,_⟩|⟨b0,rest0,lo0,h,hB,_⟩
    ·rw[show z=_ from h] at hc;cases hc
    ·rw[show z=_ from h] at hc;cases hc;exact⟨⟨_,aag vs'++rest0,_,lo0⟩,by rw[hB];exact aQ,rfl⟩
   obtain⟨o1,ho1,he1⟩:=hx
   exact hdis o1 ho1 o ho he1) (by simp[IsX]) (abg rl')
 exact hk.run _ G' _ a' w' r3
def aB5(fr:FrX)(cf:Cf):Option (FuncId×List (Option DV)×Nat):=match opC fr cf with
 |some ⟨some d, .call ⟨.value fo,args,_⟩,_,_,_,_⟩=>match azO (lkC fr cf) fo args with
  |some (f,l)=>some (f,l,d)
  |none=>none
 |_=>none
theorem cqn[fu:Fu]{f:FuncId}{d:Nat}{l:List (Option DV)}{ty:TypeId}{s:Nat}{dso:List DV}(dso':List DV)(ha:aB5 fr cf=some (f,l,d))(hF:PB GB prog f (mkB l) s ty [] (fun w=> .v (.slice w.a w.n w.c)) dso)(he:dso=dso')
  (hgo:goA tt n fu.n fr own cf (.rw d) [(d,some (.b ty s dso' true))] [d]=⟨vc,fr',own',cf'⟩)(k:CfS prog GB C n Q0 fr' own' cf')
  (hv:aai vc:=by first|exact trivial|(simp only[aai];kernel_rfl)|(simp only[aai];omega)|(simp only[aai,aJ,aR,aW];omega)):CfS prog GB C n Q0 fr own cf:=by
 subst he
 unfold aB5 at ha
 split at ha<;>try (cases ha;done)
 rename_i hh
 split at ha<;>cases ha
 rename_i h1
 exact us hh (ar4 h1 hF) hgo hv k
end
/-! append to a row that was handed over -/
section
variable {P:Program} {T:TT} {GB:Gh} {C:Ctx} {n:Nat} {lk:LK} {bk:BM} {ρ:NE} {G:Gh} {ov:List Own} {a:Act} {w:World}
variable {dst:Option Nat} {t t' ty':TypeId} {pos:String} {af:Array Edge} {gd:Option (Nat×Bool)} {x y:Operand} {e s by_:Nat}
theorem axh{d nm:Nat}{i:TI}{z:DV}{ds ds2:List DV}[hT:acv P t e s by_][hN:TyN P t'](hi:afh P e=some i)(hz:zeE i=some z)(hs:Nat.beq z.cells.length s=true)(hx:evX lk x=some (.rw nm))(hb:bk nm=some (.b e s ds false))(hy:arK lk bk s y=some ds2)(hk2:adx s ds2)
  (hby:Nat.blt 0 by_=true)(hbd:(ds.length+ds2.length)*by_≤140737488355328)(hnd:Nat.beq nm d=false){ds':List DV}(hds:ds++ds2=ds'):
  OpR P GB C n lk bk ⟨some d, .call ⟨.builtin .append, #[x,y], #[t,t']⟩,ty',pos,af,gd⟩ (.rw d) [(nm,none),(d,some (.b e s ds' false))] [d]:=by
 intro hd tl tb K s1 s2 hf hk
 refine⟨fun ρ G ov a w r Q=>?_⟩
 subst hds
 have r1:=r.mono s1 s2
 obtain⟨v,hz1,hz2,hz3⟩:=air hi hz
 have cz:=((hz2 G).cells hz3).1.len
 replace hs:=aY hs
 rw[oW] at hby
 have hne:nm≠d:=fun e=>by subst e;simp at hnd
 obtain⟨u,hx',hx2⟩:=r1.ev hx
 cases hx2
 obtain⟨B,hB0,hBo⟩:=r1.bx _ _ hb
 have hB1:aba G ⟨ρ nm,s,e,ds,false⟩ B:=hB0
 clear hB0
 obtain⟨vs,hB,hv,hvs,_⟩:=hB1
 simp only[] at hB hv hvs
 obtain⟨w2,us,hy',h2,h3,h4,h5,h6⟩:=am8 (P:=P) r1 hy hk2
 have hus:(aag us).length=us.length*s:=aao us h4
 have hbd':(vs.length+us.length)*by_≤140737488355328:=by rw[hv.len,h3.len];exact hbd
 have hall: ∀v∈vs++us,(aaf v).length=s:=fun v hv=>by
  rcases bV.1 hv with hv|hv
  ·exact hvs v hv
  ·exact h4 v hv
 have rd:=r.dropB nm
 have hf':acQ [d] (some d) tl (Sx.upB tb [(nm,none)]):=fun m hm=>by
  obtain⟨g1,g2⟩:=hf m hm
  refine⟨g1,fun k B' hk e=>g2 k B' hk ?_⟩
  simp only[Sx.upB] at e
  split at e
  ·cases e
  ·exact e
 have hbk: ∀m B',(Sx.upB tb [(nm,none)]) m=some B'→m≠nm∧tb m=some B':=fun m B' e=>by
  simp only[Sx.upB] at e
  split at e
  ·cases e
  ·exact⟨by assumption,e⟩
 have hnew: ∀{z:SV} {ov':List Own} {B1:List Own} {a':Act} {w':World} {dz:List DV},aba G ⟨z,s,e,dz,false⟩ B1→(∀o∈B1,o∈ov')→(∀m B',m≠d→(Sx.upB tb [(nm,none)]) m=some B'→ ∀o∈ov,(ρ m).a=some ⟨o.b,0,none⟩→o∈ov'∧z.a≠some ⟨o.b,0,none⟩)→
   SX GB C n (upL tl (some d) (.rw d)) (Sx.upB (Sx.upB tb [(nm,none)]) [(d,some (.b e s dz false))]) K→Rel C n (Sx.put (frA a) (some d) (.slice z.a z.n z.c)) ov' G a' w'→K a' w':=fun hB1 hos hov hk1 rl=>
  hk1.run _ _ _ _ _ (rd.new' (f:= .rw d) (y:= .slice _ _ _) hf' (GLe.refl _) rl.h (hB1.toBk (by simp)) hos hov (by show _=_;simp) (abg rl))
 have hfin: ∀(b:Nat) (lo1:Bool) (cap':Nat) (rest':List Value) (ov1:List Own) a' w',vs.length+us.length≤cap'→rest'.length+(vs.length+us.length)*s=cap'*s→(∀o∈ov,(ρ nm).a≠some ⟨o.b,0,none⟩→o∈ov1)→
   Rel C n (put (frA a) (some d) (.slice (some ⟨b,0,none⟩) (vs.length+us.length) cap')) (⟨b,aag (vs++us)++rest',e,lo1⟩::ov1) G a' w'→K a' w':=by
  intro b lo1 cap' rest' ov1 a' w' hc hr ho1 rl
  have hnd':=(bR.1 rl.h.nd).1
  refine hnew (z:=⟨some ⟨b,0,none⟩,vs.length+us.length,cap'⟩) (B1:=[⟨b,aag (vs++us)++rest',e,lo1⟩]) ⟨vs++us, .inr ⟨b,rest',lo1,by simp,rfl,aao _ hall,?_,by simpa using hc⟩,hv.app h3,hall,fun h=>by cases h⟩
   (fun o ho=>by rw[aS.1 ho];exact aQ) (fun m B' hm e o ho hmo=>?_) hk rl
  ·rw[aao _ hall,aV]
   simp only[]
   omega
  ·obtain⟨h7,h8⟩:=hbk m B' e
   have ho2:=ho1 o ho fun hc=>r.dj m nm B' _ h8 (s2 _ _ hb) h7 _ hmo hc
   exact⟨aX _ ho2,fun e'=>by cases e';exact hnd' o ho2 rfl⟩
 rcases hB with⟨e1,e2,e3⟩|⟨b,rest,lo',k3,k4,k5,k6,k7⟩
 ·subst e1
  rw[e2] at hx'
  by_cases hne:us=[]
  ·subst hne
   have:ds2=[]:=bT (by rw[←h3.len];rfl)
   subst this
   rw[h2] at hy'
   refine ag7 hx' hy' hd (fun a' w' rl=>?_) a w Q ⟨r.h,r.sz,aaQ a,r.df⟩
   refine hnew (z:=⟨none,0,0⟩) (B1:=[]) ⟨[], .inl ⟨rfl,rfl,rfl⟩,by simpa using hv,by simp,fun h=>by cases h⟩ (fun o ho=>by cases ho) (fun m B' hm e o ho hmo=>⟨ho,fun e'=>by cases e'⟩) hk rl
  ·have hup:0<us.length:=lW.2 hne
   rw[h2] at hy' h6
   refine acj (z:=v) (xs:=[]) (ys:=aag us) hx' hy' ad5 h6 (by show(0:Nat)<0+us.length;omega) hby (by simpa using hbd') hd (fun b cap' hc a' w' rl=>?_) a w Q ⟨r.h,r.sz,aaQ a,r.df⟩
   exact hfin b true cap' (aa2 v (cap'-us.length)) ov a' w' (by simpa using hc) (by rw[abn,cz,hs,←cW];simp at hc⊢;congr 1;omega) (fun o ho _=>ho) (by simpa using rl)
 ·subst k4
  have ha:(ρ nm).a=some ⟨b,0,none⟩:=by rw[k3]
  have hn:(ρ nm).n=vs.length:=by rw[k3]
  rw[ha,hn] at hx'
  rw[h2] at hy' h6
  obtain⟨ov1,o1,o2⟩:=akm.of_mem (hBo _ aQ)
  refine aeH (z:=v) (xs:=aag vs) (ys:=aag us) (rest:=rest) (own1:=ov1) hx' hy' o1 k5 k6 k7 h6 hus h5 hby hbd' (by rw[cz,hs]) hd (fun b' lo2 cap' rest' hc hr a' w' rl=>?_) a w Q ⟨r.h,r.sz,aaQ a,r.df⟩
  rw[←abd] at rl
  exact hfin b' lo2 cap' rest' ov1 a' w' hc hr (fun o ho hne=>o2 o ho fun e'=>hne (by rw[ha,e'])) rl
end
section
variable {GB:Gh} {C:Ctx} {n:Nat} {Q0:Exit→Act→World→Prop} {fr fr':FrX} {own own':OwX} {cf cf':Cf} {vc:List Prop}
def aFx(fr:FrX)(own:OwX)(cf:Cf):Option (Nat×Nat×Nat×Nat×Nat×List DV×List DV):=match opC fr cf with
 |some ⟨some d, .call ⟨.builtin .append,⟨[x,y]⟩,⟨[t,t']⟩⟩,_,_,_,_⟩=>match abi tt t with
  |some ⟨.sl e s b,_,_,_⟩=>match abi tt t' with
   |some ⟨.sl _ _ _,_,_,_⟩=>match abi tt e with
    |some i=>match zeE i with
     |some z=>bif Nat.beq z.cells.length s&&Nat.blt 0 b then(match arK (lkC fr cf) (bkC fr own cf) s y with
      |some ds2=>match evX (lkC fr cf) x with
       |some (.rw nm)=>match bkC fr own cf nm with
        |some (.b e' s' ds false)=>bif (Nat.beq e' e&&Nat.beq s' s)&&!Nat.beq nm d then some (d,nm,e,s,b,ds,ds2) else none
        |_=>none
       |_=>none
      |none=>none) else none
     |none=>none
    |none=>none
   |_=>none
  |_=>none
 |_=>none
theorem apB[fu:Fu]{d nm:Nat}{e s b:Nat}{ds ds2:List DV}(ds':List DV)(h:aFx fr own cf=some (d,nm,e,s,b,ds,ds2))(hds:ds++ds2=ds')(ho2:adx s ds2)(hgo:goA tt n fu.n fr own cf (.rw d) [(nm,none),(d,some (.b e s ds' false))] [d]=⟨vc,fr',own',cf'⟩)(k:CfS prog GB C n Q0 fr' own' cf')
  (hbd:(ds.length+ds2.length)*b≤140737488355328:=by simp;omega)
  (hv:aai vc:=by first|exact trivial|(simp only[aai];kernel_rfl)|(simp only[aai];omega)|(simp only[aai,aJ,aR,aW];omega)):CfS prog GB C n Q0 fr own cf:=by
 unfold aFx at h
 split at h<;>try (cases h;done)
 rename_i hh
 split at h<;>try (cases h;done)
 rename_i hT
 split at h<;>try (cases h;done)
 rename_i hT'
 split at h<;>try (cases h;done)
 rename_i hi
 split at h<;>try (cases h;done)
 rename_i hz
 rw[cond_eq_ite] at h
 split at h<;>try (cases h;done)
 rename_i hc
 simp only[cX] at hc
 split at h<;>try (cases h;done)
 rename_i hy
 have:=ad6 (abJ _ _ hT) rfl
 have hN:TyN prog _:=⟨_,(ad6 (abJ _ _ hT') rfl).un⟩
 split at h<;>try (cases h;done)
 rename_i hx
 split at h<;>try (cases h;done)
 rename_i hb
 rw[cond_eq_ite] at h
 split at h<;>cases h
 rename_i hq
 simp only[cX,fL] at hq
 cases aY hq.1.1
 cases aY hq.1.2
 exact us hh (axh (abJ _ _ hi) hz hc.1 hx hb hy ho2 hc.2 hbd hq.2 hds) hgo hv k
end
def ePa(x:Bool×aan):DV:= .ag [.sl (x.2.map eFr),eU (.leaf x.1)]
def eC(c:aan):DV:= .sl (c.map eFr)
def aFw(ps:List (Bool×aan)):List aan:=(ps.filter (·.1)).map (·.2)
end Go.Sx
end
