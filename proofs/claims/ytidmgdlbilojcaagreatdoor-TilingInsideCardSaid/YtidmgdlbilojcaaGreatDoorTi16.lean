import Derived.Test.YtidmgdlbilojcaaGreatDoorTi15
set_option linter.unusedSimpArgs false
set_option maxHeartbeats 4000000
set_option maxRecDepth 100000
set_option linter.unusedVariables false
section
namespace Go.Sx
open Go Go.Proofs Tryz
variable {GB:Gh}
theorem ak4{z:Rat}(h:z<0):Int.sign z.num= -1:=by
 have:=(ael _).2 h
 rcases lQ z.num 0 with q|q|q
 ·exact dT q
 ·rw[q] at this;simp at this
 ·rw[dS q] at this;simp at this
def am2:Tr→PtQ→List LnQ
 | .leaf _,_=>[]
 | .node l x y,p=>(if Int.sign (l.value p).num=0 then [l] else [])++((if 0≤Int.sign (l.value p).num then am2 x p else [])++(if Int.sign (l.value p).num≤0 then am2 y p else []))
theorem ack: ∀{t:Tr} {p:PtQ} {l:LnQ},l∈am2 t p→l∈t.lns∧l.value p=0
 | .leaf _,p,l,h=>by cases h
 | .node m x y,p,l,h=>by
  rw[am2,bZ,bZ] at h
  rcases h with h|h|h
  ·split at h
   ·rw[aY] at h;subst h
    rename_i k;exact⟨aZ,(abx _).1 k⟩
   ·cases h
  ·split at h
   ·have:=ack h;exact⟨aJ _ (bU _ this.1),this.2⟩
   ·cases h
  ·split at h
   ·have:=ack h;exact⟨aJ _ (bM _ this.1),this.2⟩
   ·cases h
theorem aCZ{t:Tr}{p v:PtQ}(h:Gn t.lns p v):Gn (am2 t p) p v:=fun l hl hz=>h l (ack hl).1 hz
theorem agJ: ∀{t:Tr} {p v w:PtQ},(∀l∈am2 t p,Int.sign (l.nor.dot v).num=Int.sign (l.nor.dot w).num)→af9 t p v=af9 t p w
 | .leaf _,_,_,_,_=>rfl
 | .node l x y,p,v,w,h=>by
  have hx:0≤Int.sign (l.value p).num→af9 x p v=af9 x p w:=fun k=>agJ fun m hm=>h m (by rw[am2,bZ,bZ,if_pos k];exact .inr (.inl hm))
  have hy:Int.sign (l.value p).num≤0→af9 y p v=af9 y p w:=fun k=>agJ fun m hm=>h m (by rw[am2,bZ,bZ,if_pos k];exact .inr (.inr hm))
  rw[af9,af9,ab7,ab7]
  by_cases k:Int.sign (l.value p).num=0
  ·rw[if_pos k,if_pos k,←h l (by rw[am2,if_pos k];exact aZ),hx (by omega),hy (by omega)]
  ·rw[if_neg k,if_neg k]
   generalize Int.sign (l.value p).num=s at*
   split
   ·exact hx (by decide)
   ·exact hy (by decide)
   ·rfl
theorem ara{L M:List LnQ}{p v:PtQ}(hM: ∀l∈M,l.ok)(hL:Gn L p v): ∃w,Gn M p w∧ ∀l∈L,l.value p=0→Int.sign (l.nor.dot v).num=Int.sign (l.nor.dot w).num:=by
 have e2: ∀l:LnQ,l.value p=0→l.value (act p v 1)=l.nor.dot v:=fun l hz=>by rw[abc,hz];grind
 have hp':InD ((L.filter fun l=>decide (l.value p=0)).map fun l=>(⟨if 0<l.value (act p v 1) then l else l.rev,IvQ.all⟩:FrQ)) (act p v 1):=fun s hs=>by
  obtain⟨l,hl,rfl⟩:=bJ.1 hs
  obtain⟨h1,h2⟩:=kX.1 hl
  have h3:=of_decide_eq_true h2
  have h0:l.value (act p v 1)≠0:=by rw[e2 l h3];exact hL l h1 h3
  simp only
  split
  ·assumption
  ·rw[aaI];grind
 obtain⟨q,q1,q2⟩:=aiw hp' M hM
 have e: ∀l:LnQ,l.value p=0→l.value q=l.nor.dot ⟨q.x-p.x,q.y-p.y⟩:=fun l hz=>by
  have h1:=abc l p ⟨q.x-p.x,q.y-p.y⟩ 1
  rw[hz] at h1
  have h2:act p ⟨q.x-p.x,q.y-p.y⟩ 1=q:=by
   unfold act
   cases q
   simp only[PtQ.mk.injEq]
   constructor<;>grind
  rw[h2] at h1
  rw[h1];grind
 refine⟨⟨q.x-p.x,q.y-p.y⟩,fun m hm hz=>?_,fun l hl hz=>?_⟩
 ·rw[←e m hz];exact q2 m hm
 ·have h1:=q1 _ (bJ.2 ⟨l,kX.2 ⟨hl,decide_eq_true hz⟩,rfl⟩)
  simp only at h1
  rw[e2 l hz] at h1
  rw[←e l hz]
  have h0:=hL l hl hz
  split at h1
  ·rename_i k
   rw[(acN _).2 k,(acN _).2 h1]
  ·rename_i k
   rw[aaI] at h1
   rw[ak4 (by grind),ak4 (by grind)]
def azp(t:Tr)(p:PtQ)(b:Bool):Prop:= ∃v,Gn (am2 t p) p v∧(af9 t p v).1=b
theorem aEg{t:Tr}{p w:PtQ}(h:Gn t.lns p w):azp t p (af9 t p w).1:=⟨w,aCZ h,rfl⟩
theorem az1{t:Tr}{p:PtQ}{b:Bool}(h:azp t p b){M:List LnQ}(hM: ∀l∈M,l.ok): ∃w,Gn M p w∧(af9 t p w).1=b:=by
 obtain⟨v,h1,h2⟩:=h
 obtain⟨w,k1,k2⟩:=ara hM h1
 exact⟨w,k1,by rw[←h2,agJ fun l hl=>k2 l hl (ack hl).2]⟩
theorem aGE{M:List LnQ}(hM: ∀l∈M,l.ok)(p:PtQ): ∃w,Gn M p w:=by
 obtain⟨w,h,_⟩:=ara (L:=[]) (M:=M) (p:=p) (v:=⟨1,0⟩) hM fun l hl=>by cases hl
 exact⟨w,h⟩
theorem awU{t:Tr}(ht:t.all LnQ.ok)(p:PtQ):azp t p true∨azp t p false:=by
 obtain⟨w,h⟩:=aGE (aeE ht) p
 have:=aEg h
 cases hb:(af9 t p w).1 with
 |true=>rw[hb] at this;exact .inl this
 |false=>rw[hb] at this;exact .inr this
theorem min2{a b:Rat}(ha:0<a)(hb:0<b): ∃d:Rat,0<d∧d≤a∧d≤b:=by
 by_cases k:a≤b
 ·exact⟨a,ha,by grind,k⟩
 ·exact⟨b,hb,by grind,by grind⟩
theorem aCa{t:Tr}{p:PtQ}{b:Bool}(ht:t.all LnQ.ok)(h:azp t p b){M:List LnQ}(hM: ∀l∈M,l.ok){c:aah}(hc:InD c p): ∃q,InD c q∧Off t.lns q∧Off M q∧t.val q=b:=by
 obtain⟨w,k1,k2⟩:=az1 h (M:=t.lns++M) fun l hl=>(bZ.1 hl).elim (aeE ht l) (hM l)
 obtain⟨e1,a1,b1⟩:=al7 (t:=t) fun l hl=>k1 l (bU _ hl)
 obtain⟨e2,a2,b2⟩:=hc.open w
 obtain⟨d,c1,c2,c3⟩:=min2 a1 a2
 obtain⟨o1,v1⟩:=b1 d c1 c2
 obtain⟨q,q1,q2⟩:=aiw (c:=c++t.lns.map fun l=>⟨if 0<l.value (act p w d) then l else l.rev,IvQ.all⟩) (p:=act p w d) (fun s hs=>by
  rcases bZ.1 hs with hs|hs
  ·exact b2 d (cM c1) c3 s hs
  ·obtain⟨l,hl,rfl⟩:=bJ.1 hs
   have h0:=o1 l hl
   simp only
   split
   ·assumption
   ·rw[aaI];grind) (t.lns++M) fun l hl=>(bZ.1 hl).elim (aeE ht l) (hM l)
 refine⟨q,fun s hs=>q1 s (bU _ hs),(Off.app.1 q2).1,(Off.app.1 q2).2,?_⟩
 rw[show t.val q=t.val (act p w d) from amp (L:=t.lns) (fun l hl=>?_) fun l hl=>hl,←k2,v1]
 have h1:=q1 _ (bM _ (bJ.2 ⟨l,hl,rfl⟩))
 have h0:=o1 l hl
 simp only at h1
 split at h1
 ·rename_i k;exact⟨fun _=>k,fun _=>h1⟩
 ·rename_i k;rw[aaI] at h1;exact⟨fun e=>by grind,fun e=>absurd e k⟩
def ars(ds:List PtQ)(i:Nat):PtQ:=
 if 0<Int.sign ((ds.getD i ⟨0,0⟩).cross (ds.getD ((i+1)%ds.length) ⟨0,0⟩)).num then(ds.getD i ⟨0,0⟩).add (ds.getD ((i+1)%ds.length) ⟨0,0⟩) else aem (ds.getD i ⟨0,0⟩)
def afa(ds:List PtQ):List PtQ:=if ds.length=0 then [⟨1,0⟩] else(List.range ds.length).map (ars ds)
theorem as9(u w:PtQ):u.add w=btw 1 1 u w:=by
 unfold PtQ.add btw
 simp only[PtQ.mk.injEq]
 constructor<;>grind
theorem aq0{x:PtQ}: ∀{S:List PtQ},S≠[]→(∀d∈S,0<d.cross x)→ ∃u∈S,∀d∈S,0≤d.cross u
 |[],h,_=>absurd rfl h
 |[d],_,_=>⟨d,aZ,fun e he=>by rw[aY] at he;subst he;rw[akL];exact fW⟩
 |d0::d1::S,_,h=>by
  obtain⟨u,h1,h2⟩:=aq0 (S:=d1::S) (by simp) fun d hd=>h d (aJ _ hd)
  by_cases k:0≤d0.cross u
  ·exact⟨u,aJ _ h1,fun d hd=>(aU.1 hd).elim (fun e=>e▸k) (h2 d)⟩
  ·refine⟨d0,aZ,fun d hd=>(aU.1 hd).elim (fun e=>by rw[e,akL];exact fW) fun hd=>?_⟩
   have p0:=h d0 aZ
   have pu:=h u (aJ _ h1)
   have pd:=h d (aJ _ hd)
   have k1:=h2 d hd
   have k2:0<u.cross d0:=by rw[aal] at k;grind
   have e:d.cross d0*u.cross x=u.cross d0*d.cross x+d.cross u*d0.cross x:=by unfold PtQ.cross;grind
   have n1:=aab k2 pd
   have n2:=aac k1 (cM p0)
   generalize d.cross d0=A at*
   generalize u.cross x=B at*
   by_cases hA:0≤A
   ·exact hA
   ·have:=aab (a:= -A) (b:=B) (by grind) pu
    grind
theorem awC{ds:List PtQ}(h:ds.Pairwise Bef)(hd:ayy ds)(hn:ds≠[]){x:PtQ}(hx: ∀d∈ds,d.cross x≠0): ∃i,i<ds.length∧ ∀d∈ds,Int.sign (d.cross x).num=Int.sign (d.cross (ars ds i)).num:=by
 have hne:(ds.filter fun d=>decide (0<d.cross x))≠[]:=by
  obtain⟨d,r,rfl⟩:=List.exists_cons_of_ne_nil hn
  intro e
  have h1: ¬0<d.cross x:=fun k=>by
   have:d∈(d::r).filter fun d=>decide (0<d.cross x):=kX.2 ⟨aZ,decide_eq_true k⟩
   rw[e] at this;cases this
  have h2:=hx d aZ
  have h3:0<(abR d).cross x:=by rw[aal,aa5,←aal];grind
  have:abR d∈(d::r).filter fun d=>decide (0<d.cross x):=kX.2 ⟨hd.neg d aZ,decide_eq_true h3⟩
  rw[e] at this;cases this
 obtain⟨u,hu,hl⟩:=aq0 hne fun d hd=>of_decide_eq_true (kX.1 hd).2
 obtain⟨hu1,hu2⟩:=kX.1 hu
 have hux:=of_decide_eq_true hu2
 obtain⟨i,hi,rfl⟩:=qJ hu1
 have hj:(i+1)%ds.length<ds.length:=cY _ (by omega)
 have hnx:=ayL h hd hi hj
 have mw:=cZ hj
 refine⟨i,hi,?_⟩
 have key: ∀d∈ds,0<d.cross x→0<d.cross (ars ds i):=fun d hdm hdx=>by
  have hdu:0≤d.cross ds[i]:=hl d (kX.2 ⟨hdm,decide_eq_true hdx⟩)
  unfold ars
  rw[alw hi,alw hj]
  generalize ds[(i+1)%ds.length]=w at*
  generalize ds[i]=u at*
  have hp:=hnx.pos hd hu1 mw
  have zd:=hd.nz d hdm
  have zu:=hd.nz u hu1
  split
  ·rename_i k
   have hc:=(abW _).1 k
   rw[as9]
   have hg:=hnx.gen hd hu1 mw (by grind) (a:=1) (b:=1) (by decide) (by decide) d hdm
   have e:d.cross (btw 1 1 u w)=d.cross u+d.cross w:=by unfold PtQ.cross btw;grind
   rw[e] at hg⊢
   by_cases hw:0≤d.cross w
   ·grind
   ·exfalso
    -- -d lies between u and w
    rcases aaR (d.cross u) with q|q|q
    ·-- d runs along u
     have hdd:0<d.dot u:=by
      rcases aaR (d.dot u) with r|r|r
      ·exact absurd r (aqt zd zu q)
      ·exact r
      ·exfalso
       have q':(abR d).cross u=0:=by unfold PtQ.cross abR at*;grind
       have r':0<(abR d).dot u:=by unfold PtQ.dot abR at*;grind
       obtain⟨g,g1,g2⟩:=aid q' r'
       have:d.cross x= -(g*u.cross x):=by
        have h1:(abR d).x=g*u.x:=by rw[g2]
        have h2:(abR d).y=g*u.y:=by rw[g2]
        unfold abR at h1 h2
        simp only at h1 h2
        unfold PtQ.cross;grind
       have:=aab g1 hux
       grind
     obtain⟨g,g1,g2⟩:=aid q hdd
     have:d.cross w=g*u.cross w:=by rw[g2];unfold PtQ.cross;grind
     have:=aab g1 hc
     grind
    ·have hb:abR d=btw (-(d.cross w)/u.cross w) (d.cross u/u.cross w) u w:=by
      have hz:u.cross w≠0:=by grind
      have e1: -(d.cross w)/u.cross w*u.cross w= -(d.cross w):=by grind
      have e2:d.cross u/u.cross w*u.cross w=d.cross u:=by grind
      unfold abR btw
      generalize-(d.cross w)/u.cross w=a at*
      generalize d.cross u/u.cross w=b at*
      simp only[PtQ.mk.injEq]
      have f1:(a*u.x+b*w.x+d.x)*u.cross w=0:=by
       have:(a*u.x+b*w.x+d.x)*u.cross w=a*u.cross w*u.x+b*u.cross w*w.x+d.x*u.cross w:=by grind
       rw[this,e1,e2];unfold PtQ.cross;grind
      have f2:(a*u.y+b*w.y+d.y)*u.cross w=0:=by
       have:(a*u.y+b*w.y+d.y)*u.cross w=a*u.cross w*u.y+b*u.cross w*w.y+d.y*u.cross w:=by grind
       rw[this,e1,e2];unfold PtQ.cross;grind
      constructor<;>grind
     refine hnx.none hd hu1 mw (by grind) (a:= -(d.cross w)/u.cross w) (b:=d.cross u/u.cross w) ?_ ?_ (by rw[←hb];exact hd.neg d hdm)
     ·refine(aai (k:=u.cross w) hc).1 ?_
      have e1: -(d.cross w)/u.cross w*u.cross w= -(d.cross w):=by grind
      rw[e1];grind
     ·refine(aai (k:=u.cross w) hc).1 ?_
      have e1:d.cross u/u.cross w*u.cross w=d.cross u:=by grind
      rw[e1];exact q
    ·grind
  ·rename_i k
   have hc:u.cross w=0:=by have: ¬0<u.cross w:=fun e=>k ((abW _).2 e);grind
   have hg:=hnx.turn hd hu1 mw hc d hdm
   rw[akg] at hg⊢
   rcases aaR (d.dot u) with r|r|r
   ·exact absurd r hg
   ·exact r
   ·exfalso
    -- all directions run along u
    have hdc:d.cross u=0:=by
     rcases hnx.spec hd hu1 mw with⟨_,h2,_⟩|⟨h1,h2,h3⟩
     ·rw[hc] at h2;exact absurd h2 (by decide)
     ·have zw:=aaY (hd.nz w mw)
      have zu':=aaY zu
      have zd':=aaY zd
      have hwu: ∃g:Rat,0<g∧w=⟨g*(abR u).x,g*(abR u).y⟩:=by
       refine aid (d:=abR u) (e:=w) (by rw[aa5,aal,hc];grind) ?_
       rcases aaR (w.dot u) with s|s|s
       ·exact absurd s (aqt (hd.nz w mw) zu (by rw[aal,hc];rfl))
       ·exfalso
        obtain⟨g,g1,g2⟩:=aid (d:=u) (e:=w) (by rw[aal,hc];rfl) s
        apply h1
        rw[g2]
        rcases aaM u with⟨x0,s0⟩|⟨x0,s0⟩|⟨x0,s0⟩
        ·rw[x0]
         refine(abv.2 ?_).symm
         rcases s0 with s0|⟨s0,s1⟩
         ·exact .inl (aab g1 s0)
         ·exact .inr ⟨by show g*u.y=0;rw[s0];grind,aab g1 s1⟩
        ·rw[x0]
         refine(acz.2 ?_).symm
         rcases s0 with s0|⟨s0,s1⟩
         ·exact .inl (by show g*u.y<0;have:=aab (a:=g) (b:= -u.y) g1 (by grind);grind)
         ·exact .inr ⟨by show g*u.y=0;rw[s0];grind,by show g*u.x<0;have:=aab (a:=g) (b:= -u.x) g1 (by grind);grind⟩
        ·exact absurd x0 zu
       ·unfold PtQ.dot abR at*;grind
      obtain⟨g,g1,g2⟩:=hwu
      have cw: ∀e:PtQ,w.cross e=g* -(u.cross e):=fun e=>by rw[g2];unfold PtQ.cross abR;grind
      by_cases hh:d.half=u.half
      ·have a1:=h2 d hdm hh
       have a2:=h3 _ (hd.neg d hdm) (by rw[adA zd];omega)
       rw[cw,aa5,aal d u] at a2
       rcases aaR (d.cross u) with s|s|s
       ·exact s
       ·have:=aab g1 s;grind
       ·grind
      ·have a1:=h2 _ (hd.neg d hdm) (by rw[adA zd];omega)
       have a2:=h3 d hdm (by omega)
       rw[cw,aal d u] at a2
       have e3:(abR d).cross u= -(d.cross u):=by unfold PtQ.cross abR;grind
       rw[e3] at a1
       rcases aaR (d.cross u) with s|s|s
       ·exact s
       ·grind
       ·have:=aab (a:=g) (b:= -(d.cross u)) g1 (by grind);grind
    have q':(abR d).cross u=0:=by unfold PtQ.cross abR at*;grind
    have r':0<(abR d).dot u:=by unfold PtQ.dot abR at*;grind
    obtain⟨g,g1,g2⟩:=aid q' r'
    have:d.cross x= -(g*u.cross x):=by
     have h1:(abR d).x=g*u.x:=by rw[g2]
     have h2:(abR d).y=g*u.y:=by rw[g2]
     unfold abR at h1 h2
     simp only at h1 h2
     unfold PtQ.cross;grind
    have:=aab g1 hux
    grind
 intro d hdm
 rcases aaR (d.cross x) with k|k|k
 ·exact absurd k (hx d hdm)
 ·rw[(acN _).2 k,(acN _).2 (key d hdm k)]
 ·have en: ∀y:PtQ,(abR d).cross y= -(d.cross y):=fun y=>by unfold PtQ.cross abR;grind
  have:=key _ (hd.neg d hdm) (by rw[en];grind)
  rw[en] at this
  rw[ak4 k,ak4 (by grind)]
def aeo(v:PtQ):PtQ:=v.scale (rgcd v.x v.y)⁻¹
def aby(t:Tr)(p:PtQ):List PtQ:=(am2 t p).flatMap fun l=>[aeo l.dir,abR (aeo l.dir)]
def aij(ds:List PtQ):List PtQ:=alc aay ds
theorem abT{t:Tr}{p d:PtQ}:d∈aby t p↔ ∃l∈am2 t p,d=aeo l.dir∨d=abR (aeo l.dir):=by
 unfold aby
 rw[iQ]
 constructor
 ·rintro ⟨l,h1,h2⟩
  refine⟨l,h1,?_⟩
  rcases aU.1 h2 with h|h
  ·exact .inl h
  ·exact .inr (aY.1 h)
 ·rintro ⟨l,h1,rfl|rfl⟩
  ·exact⟨l,h1,aZ⟩
  ·exact⟨l,h1,aJ _ aZ⟩
theorem av4{x y:Rat}(h:x≠0∨y≠0):0<rgcd x y:=by
 unfold rgcd
 have hd:0<x.den*y.den:=iL x.den_pos y.den_pos
 have hg:0<Nat.gcd (x.num.natAbs*y.den) (y.num.natAbs*x.den):=by
  rcases h with h|h
  ·exact lL _ (iL (Int.natAbs_pos.2 fun e=>h (lN.1 e)) y.den_pos)
  ·exact nN _ (iL (Int.natAbs_pos.2 fun e=>h (lN.1 e)) x.den_pos)
 generalize Nat.gcd (x.num.natAbs*y.den) (y.num.natAbs*x.den)=g at*
 generalize x.den*y.den=d at*
 rw[←aly]
 have h1:mkRat (g:Int) d=(g:Rat)/(d:Rat):=by rw[oW];rfl
 rw[aly,h1]
 have hg':(0:Rat)<(g:Rat):=by exact_mod_cast hg
 have hd':(0:Rat)<(d:Rat):=by exact_mod_cast hd
 have e:(g:Rat)/(d:Rat)*(d:Rat)=(g:Rat):=by grind
 exact(aai (k:=(d:Rat)) hd').1 (by rw[e];exact hg')
theorem aAx{v:PtQ}(h:v.half≠0):v.x≠0∨v.y≠0:=by
 rcases aaM v with⟨_,k⟩|⟨_,k⟩|⟨k,_⟩
 ·rcases k with k|⟨_,k⟩
  ·exact .inr (by grind)
  ·exact .inl (by grind)
 ·rcases k with k|⟨_,k⟩
  ·exact .inr (by grind)
  ·exact .inl (by grind)
 ·exact absurd k h
theorem aiL{v:PtQ}(h:v.half≠0): ∃a:Rat,0<a∧aeo v=⟨a*v.x,a*v.y⟩:=by
 have hg:=av4 (aAx h)
 refine⟨(rgcd v.x v.y)⁻¹,?_,?_⟩
 ·generalize rgcd v.x v.y=g at*
  have e:g⁻¹*g=1:=by grind
  exact(aai (k:=g) hg).1 (by rw[e];decide)
 ·unfold aeo PtQ.scale
  simp only[PtQ.mk.injEq]
  constructor<;>grind
theorem aBs(v:PtQ):aeo (abR v)=abR (aeo v):=by
 have e:rgcd (-v.x) (-v.y)=rgcd v.x v.y:=by
  unfold rgcd
  rw[mK,mK,pW,pW,jX,jX]
 unfold aeo PtQ.scale abR
 simp only[PtQ.mk.injEq,e]
 constructor<;>grind
theorem al1{v:PtQ}(h:v.half≠0):(aeo v).half=v.half:=by
 obtain⟨a,a1,e⟩:=aiL h
 have:=ame (a:=a) (b:=a) (u:=v) (w:=v) a1 a1 rfl h
 rw[←this]
 have h2:aeo v=btw (a*(1/2)) (a*(1/2)) v v:=by rw[e];unfold btw;simp only[PtQ.mk.injEq];constructor<;>grind
 have h3:=ame (a:=a*(1/2)) (b:=a*(1/2)) (u:=v) (w:=v) (aab a1 (by grind)) (aab a1 (by grind)) rfl h
 rw[h2,h3,this]
theorem aqj{u v:PtQ}:aay u v=0↔u.half=v.half∧u.cross v=0:=by
 unfold aay
 split
 ·constructor
  ·intro h;exact absurd h (by decide)
  ·intro h;omega
 ·split
  ·constructor
   ·intro h;exact absurd h (by decide)
   ·intro h;omega
  ·constructor
   ·intro h
    exact⟨by omega,(abx _).1 (by omega)⟩
   ·intro h
    rw[(abx _).2 h.2];rfl
theorem adq{u v w:PtQ}(h:Bef u v)(k:Bef v w):Bef u w:=by
 by_cases hu:u.half=0
 ·by_cases hw:w.half=0
  ·have z: ∀x y:PtQ,x.half=0→x.cross y=0:=fun x y hx=>by
    rcases aaM x with⟨e,_⟩|⟨e,_⟩|⟨_,e1,e2⟩
    ·rw[hx] at e;exact absurd e (by decide)
    ·rw[hx] at e;exact absurd e (by decide)
    ·unfold PtQ.cross;rw[e1,e2];grind
   rcases h with h|⟨h,h'⟩
   ·rcases k with k|⟨k,k'⟩
    ·omega
    ·have hv:v.half≠0:=by omega
     omega
   ·rw[z u v hu] at h';exact absurd h' (by decide)
  ·refine .inl ?_
   have h1:=aaY hw
   omega
 ·have hv:v.half≠0:=by
   intro e
   rcases h with h|⟨h,_⟩
   ·have:=aaY hu;omega
   ·omega
  have hw:w.half≠0:=by
   intro e
   rcases k with k|⟨k,_⟩
   ·have:=aaY hv;omega
   ·omega
  exact Bef.trans hu hv hw h k
section
variable {α:Type} (c:α→α→Int)
theorem atH{x y:α}: ∀{xs:List α},y∈xs→y∈ad6 c x xs
 |[],h=>by cases h
 |u::t,h=>by
  rw[ad6]
  split
  ·rcases aU.1 h with rfl|h
   ·exact aZ
   ·exact aJ _ (atH h)
  ·split
   ·exact h
   ·exact aJ _ h
theorem atj{x:α}: ∀{xs:List α},∃e∈ad6 c x xs,e=x∨c e x=0
 |[]=>⟨x,aZ, .inl rfl⟩
 |u::t=>by
  rw[ad6]
  split
  ·obtain⟨e,h1,h2⟩:=atj (x:=x) (xs:=t)
   exact⟨e,aJ _ h1,h2⟩
  ·split
   ·exact⟨u,aZ, .inr (by assumption)⟩
   ·exact⟨x,aZ, .inl rfl⟩
theorem am9{y:α}: ∀{l o:List α},y∈o→y∈l.foldl (fun out x=>ad6 c x out) o
 |[],o,h=>h
 |x::t,o,h=>am9 (l:=t) (atH c h)
theorem ale{d:α}: ∀{l o:List α},d∈l→ ∃e∈l.foldl (fun out x=>ad6 c x out) o,e=d∨c e d=0
 |[],o,h=>by cases h
 |x::t,o,h=>by
  rcases aU.1 h with rfl|h
  ·obtain⟨e,h1,h2⟩:=atj c (x:=d) (xs:=o)
   exact⟨e,am9 c (l:=t) h1,h2⟩
  ·exact ale (l:=t) h
end
theorem aq8(ds:List PtQ):(aij ds).Pairwise Bef:=by
 have:=an3 (c:=aay) (fun u v w h k=>acB.2 (adq (acB.1 h) (acB.1 k))) (fun u v h k=>acB.2 (az5.1 (by omega))) (l:=ds) (o:=[]) List.Pairwise.nil
 exact this.imp fun h=>acB.1 h
theorem azu{l m:LnQ}(hl:l.ok)(hm:m.ok){p:PtQ}(h1:l.value p=0)(h2:m.value p=0){d e:PtQ}(hd:d=aeo l.dir∨d=abR (aeo l.dir))(he:e=aeo m.dir∨e=abR (aeo m.dir))(h:aay d e=0):d=e:=by
 obtain⟨hh,hc⟩:=aqj.1 h
 have zl:=ah2 hl
 have zm:=ah2 hm
 have zpl:(aeo l.dir).half≠0:=by rw[al1 zl];exact zl
 have zpm:(aeo m.dir).half≠0:=by rw[al1 zm];exact zm
 have cr:l.dir.cross m.dir=0:=by
  obtain⟨a,a1,e1⟩:=aiL zl
  obtain⟨b,b1,e2⟩:=aiL zm
  have c0:(aeo l.dir).cross (aeo m.dir)=0:=by
   rcases hd with rfl|rfl<;>rcases he with rfl|rfl
   ·exact hc
   ·rw[aa5] at hc;grind
   ·rw[aal,aa5] at hc;rw[aal];grind
   ·rw[aa5,aal,aa5] at hc;rw[aal];grind
  have e3:(aeo l.dir).cross (aeo m.dir)=(a*b)*l.dir.cross m.dir:=by rw[e1,e2];unfold PtQ.cross;grind
  have hab:=aab a1 b1
  rw[e3] at c0
  clear e1 e2 e3
  generalize a*b=k at*
  generalize l.dir.cross m.dir=z at*
  rcases aaR z with q|q|q
  ·exact q
  ·have:=aab hab q;grind
  ·have:=aab (a:=k) (b:= -z) hab (by grind);grind
 have dirR: ∀k:LnQ,k.rev.dir=abR k.dir:=fun k=>by
  unfold LnQ.dir LnQ.rev abR
  simp only[PtQ.mk.injEq,oN]
  try constructor<;>grind
 have cdir: ∀k:LnQ,k.canon.dir=k.dir∨k.canon.dir=abR k.dir:=fun k=>by
  unfold LnQ.canon
  split
  ·exact .inr (dirR k)
  ·exact .inl rfl
 have cval: ∀k:LnQ,k.value p=0→k.canon.value p=0:=fun k hk=>by rcases avg k p with e|e<;>rw[e,hk]<;>rfl
 have okc: ∀k:LnQ,k.ok→k.canon.ok:=fun k hk=>by unfold LnQ.canon;split;exact hk.rev;exact hk
 have ec:l.canon=m.canon:=aBu (okc l hl) (okc m hm) (anb hl) (anb hm) (cval l h1) (cval m h2) (by
  rcases cdir l with e1|e1<;>rcases cdir m with e2|e2<;>rw[e1,e2]
  ·exact cr
  ·rw[aa5,cr];rfl
  ·rw[aal,aa5,aal,cr];rfl
  ·rw[aa5,aal,aa5,aal,cr];rfl)
 have hdir:l.dir=m.dir∨l.dir=abR m.dir:=by
  have e1:=cdir l
  have e2:=cdir m
  rw[ec] at e1
  rcases e1 with e1|e1<;>rcases e2 with e2|e2
  ·exact .inl (e1.symm.trans e2)
  ·exact .inr (e1.symm.trans e2)
  ·right;rw[←e2,e1,afk]
  ·left;rw[←afk l.dir,←e1,e2,afk]
 have hP:aeo l.dir=aeo m.dir∨aeo l.dir=abR (aeo m.dir):=by
  rcases hdir with e|e
  ·exact .inl (by rw[e])
  ·exact .inr (by rw[e,aBs])
 have hn:=adA zpm
 have h3:=aaY zpm
 have key:d=aeo m.dir∨d=abR (aeo m.dir):=by
  rcases hd with rfl|rfl<;>rcases hP with e|e
  ·exact .inl e
  ·exact .inr e
  ·exact .inr (by rw[e])
  ·exact .inl (by rw[e,afk])
 rcases key with rfl|rfl<;>rcases he with rfl|rfl
 ·rfl
 ·exfalso;omega
 ·exfalso;omega
 ·rfl
theorem amM{t:Tr}(ht:t.all LnQ.ok)(p:PtQ):(aij (aby t p)).Pairwise Bef∧ayy (aij (aby t p))∧ ∀y,y∈aij (aby t p)↔y∈aby t p:=by
 have h2: ∀y,y∈aij (aby t p)→y∈aby t p:=fun y hy=>by
  rcases agV aay hy with h|h
  ·exact h
  ·cases h
 have h3: ∀y,y∈aby t p→y∈aij (aby t p):=fun y hy=>by
  obtain⟨e,e1,e2⟩:=ale aay (o:=[]) hy
  rcases e2 with rfl|e2
  ·exact e1
  ·obtain⟨l,k1,k2⟩:=abT.1 hy
   obtain⟨m,k3,k4⟩:=abT.1 (h2 e e1)
   obtain⟨a1,a2⟩:=ack k1
   obtain⟨b1,b2⟩:=ack k3
   rw[←azu (aeE ht _ b1) (aeE ht _ a1) b2 a2 k4 k2 e2]
   exact e1
 refine⟨aq8 _,⟨fun d hd=>?_,fun d hd=>?_⟩,fun y=>⟨h2 y,h3 y⟩⟩
 ·obtain⟨l,k1,k2⟩:=abT.1 (h2 d hd)
  have z:=ah2 (aeE ht _ (ack k1).1)
  have z2:(aeo l.dir).half≠0:=by rw[al1 z];exact z
  rcases k2 with rfl|rfl
  ·exact z2
  ·exact aCp z2
 ·obtain⟨l,k1,k2⟩:=abT.1 (h2 d hd)
  refine h3 _ (abT.2 ⟨l,k1,?_⟩)
  rcases k2 with rfl|rfl
  ·exact .inr rfl
  ·exact .inl (afk _)
theorem atq{t:Tr}(ht:t.all LnQ.ok){p v:PtQ}(hv:v∈afa (aij (aby t p))):Gn (am2 t p) p v:=by
 obtain⟨h1,h2,h3⟩:=amM ht p
 have key:(∀d∈aij (aby t p),d.cross v≠0)→Gn (am2 t p) p v:=fun k l hl hz e=>by
  have z:=ah2 (aeE ht _ (ack hl).1)
  obtain⟨a,a1,a2⟩:=aiL z
  refine k _ ((h3 _).2 (abT.2 ⟨l,hl, .inl rfl⟩)) ?_
  rw[←ab7] at e
  have:(aeo l.dir).cross v=a*l.dir.cross v:=by rw[a2];unfold PtQ.cross;grind
  rw[this,e];grind
 generalize aij (aby t p)=ds at*
 unfold afa at hv
 split at hv
 ·rename_i hn
  refine key fun d hd=>?_
  rw[List.length_eq_zero_iff.1 hn] at hd;cases hd
 ·obtain⟨i,hi,rfl⟩:=bJ.1 hv
  rw[kL] at hi
  have hj:(i+1)%ds.length<ds.length:=cY _ (by omega)
  have hx:=ayL h1 h2 hi hj
  have mu:=cZ hi
  have mw:=cZ hj
  have hp:=hx.pos h2 mu mw
  refine key ?_
  unfold ars
  rw[alw hi,alw hj]
  split
  ·rename_i k
   have hc:=(abW _).1 k
   rw[as9]
   exact hx.gen h2 mu mw (by grind) (by decide) (by decide)
  ·rename_i k
   exact hx.turn h2 mu mw (by have: ¬0<ds[i].cross ds[(i+1)%ds.length]:=fun e=>k ((abW _).2 e);grind)
theorem an2{t:Tr}(ht:t.all LnQ.ok){p x:PtQ}(hx:Gn (am2 t p) p x): ∃v∈afa (aij (aby t p)),(af9 t p v).1=(af9 t p x).1:=by
 obtain⟨h1,h2,h3⟩:=amM ht p
 have cr: ∀l∈am2 t p,∃a:Rat,0<a∧ ∀y,(aeo l.dir).cross y=a*l.nor.dot y:=fun l hl=>by
  obtain⟨a,a1,a2⟩:=aiL (ah2 (aeE ht _ (ack hl).1))
  exact⟨a,a1,fun y=>by rw[a2,←ab7];unfold PtQ.cross;grind⟩
 by_cases hn:aij (aby t p)=[]
 ·refine⟨⟨1,0⟩,by unfold afa;rw[if_pos (by rw[hn];rfl)];exact aZ,?_⟩
  rw[agJ fun l hl=>?_]
  have:=(h3 _).2 (abT.2 ⟨l,hl, .inl rfl⟩)
  rw[hn] at this;cases this
 ·obtain⟨i,hi,hs⟩:=awC h1 h2 hn (x:=x) fun d hd=>by
   obtain⟨l,k1,k2⟩:=abT.1 ((h3 d).1 hd)
   obtain⟨a,a1,a2⟩:=cr l k1
   have hz:=hx l k1 (ack k1).2
   have e:(aeo l.dir).cross x≠0:=by rw[a2];grind
   rcases k2 with rfl|rfl
   ·exact e
   ·intro q;apply e;unfold PtQ.cross abR at*;grind
  refine⟨ars (aij (aby t p)) i,?_,?_⟩
  ·unfold afa
   rw[if_neg (by omega)]
   exact bJ.2 ⟨i,kL.2 hi,rfl⟩
  ·rw[agJ fun l hl=>?_]
   have:=hs _ ((h3 _).2 (abT.2 ⟨l,hl, .inl rfl⟩))
   obtain⟨a,a1,a2⟩:=cr l hl
   rw[a2,a2] at this
   have sg: ∀z:Rat,Int.sign (a*z).num=Int.sign z.num:=fun z=>by
    rcases aaR z with k|k|k
    ·subst k;rw[show a*0=0 by grind]
    ·rw[(acN _).2 k,(acN _).2 (aab a1 k)]
    ·rw[ak4 k,ak4 (by have:=aab (a:=a) (b:= -z) a1 (by grind);grind)]
   rw[sg,sg] at this
   exact this.symm
def inP(t:Tr)(p:PtQ):Bool:=(afa (aij (aby t p))).any fun v=>(af9 t p v).1
def alP(t:Tr)(p:PtQ):Bool:=(afa (aij (aby t p))).all fun v=>(af9 t p v).1
def akH(t:Tr)(p:PtQ):Int:=if inP t p&&alP t p then 2 else if inP t p then 1 else 0
theorem aDf{t:Tr}(ht:t.all LnQ.ok){p:PtQ}:inP t p=true↔azp t p true:=by
 unfold inP
 rw[jS]
 constructor
 ·rintro ⟨v,h1,h2⟩;exact⟨v,atq ht h1,h2⟩
 ·rintro ⟨x,h1,h2⟩
  obtain⟨v,k1,k2⟩:=an2 ht h1
  exact⟨v,k1,by rw[k2,h2]⟩
theorem ayM{t:Tr}(ht:t.all LnQ.ok){p:PtQ}:alP t p=true↔ ¬azp t p false:=by
 unfold alP
 rw[fK]
 constructor
 ·rintro h ⟨x,h1,h2⟩
  obtain⟨v,k1,k2⟩:=an2 ht h1
  have:=h v k1
  rw[k2,h2] at this;cases this
 ·intro h v hv
  cases hb:(af9 t p v).1 with
  |true=>rfl
  |false=>exact absurd ⟨v,atq ht hv,hb⟩ h
theorem avG{t:Tr}(ht:t.all LnQ.ok){p:PtQ}:akH t p=2↔ ¬azp t p false:=by
 unfold akH
 constructor
 ·intro h
  split at h
  ·rename_i k;rw[cX] at k;exact(ayM ht).1 k.2
  ·split at h<;>exact absurd h (by decide)
 ·intro h
  have h1:=(ayM ht).2 h
  have h2:=(aDf ht).2 ((awU ht p).resolve_right h)
  rw[h1,h2];rfl
theorem aef(u:PtQ): ¬Bef u u:=by
 rintro (h|⟨_,h⟩)
 ·omega
 ·have:u.cross u=0:=by unfold PtQ.cross;grind
  rw[this] at h;exact absurd h (by decide)
theorem afD{u v:PtQ}(h:Bef u v)(k:Bef v u):False:=aef u (adq h k)
theorem alK{x y:PtQ}(h: ¬Bef x y)(k: ¬Bef y x):aay x y=0:=by
 rw[←acB] at h k
 unfold aay at*
 split at h<;>try omega
 split at h<;>try omega
 split at k<;>try omega
 rw[show y.cross x= -(x.cross y) by unfold PtQ.cross;grind,mK,Int.sign_neg] at k
 omega
theorem ar2(vs:List IvQ):adn 8 (vs.map eV):=fun d hd=>by
 obtain⟨u,_,rfl⟩:=bJ.1 hd;exact⟨rfl,rfl⟩
theorem adZ(qs:List Rat):adn 3 (qs.map eQ):=fun d hd=>by
 obtain⟨u,_,rfl⟩:=bJ.1 hd;exact⟨rfl,rfl⟩
theorem aDY(bs:List Bool):adn 1 (bs.map vB):=fun d hd=>by
 obtain⟨u,_,rfl⟩:=bJ.1 hd;exact⟨rfl,rfl⟩
theorem aw7{l:List IvQ}{k:Nat}{v:IvQ}{t:Rat}{a b:Int}(h:l[k]? =some v)(ha:a=if v.nl then 1 else abg t v.lo)(hb:b=if v.nh then-1 else abg t v.hi):
  avO (l.drop k) t=if 0<a∧b<0 then 2 else if(a=0∧b≤0)∨(b=0∧0≤a) then 1 else avO (l.drop (k+1)) t:=by
 obtain⟨hk,rfl⟩:=aL.1 h
 rw[bQ hk,avO,ha,hb]
structure IvB (v:IvQ):Prop where
 lo:BQ v.lo 1200
 hi:BQ v.hi 1200
theorem awB{l:List IvQ}{t:Rat}{i:Nat}[ht:BQ t i](hb: ∀v∈l,IvB v)(hn:l.length≤100000)(hi:i≤20000:=by decide):PF GB prog 298 [.sl (l.map eV),eQ t] (vI (avO l t)):=by
 have hm:=aaG eV l
 refine fn (fu:=⟨11⟩) func298 J J ntmps298 J J (fun C=>?_)
 refine eqF 10 (.d (vI (l.length:Nat))) rfl (by rw[hm]<;>rfl) ?_
 refine gx rfl<|?_
 refine lp (X:=Nat) (fun k=>[(11, .d (vI (k:Nat)))]) (fun k=>[]) (fun k=>k≤l.length∧avO (l.drop k) t=avO l t) (fun k=>l.length-k) 0 rfl ⟨bX _,rfl⟩ (fun _=>rfl) (fun k hk=>?_)
 obtain⟨h1,h2⟩:=hk
 refine br J J J (fun hc12=>?_) (fun hc12=>?_)
 ·
  obtain⟨v,hz⟩: ∃s,l[k]? =some s:=⟨_,aQ (by omega)⟩
  have hv:=hb v (aS hz)
  haveI:=hv.lo
  haveI:=hv.hi
  refine ix (fu:=⟨12⟩) _ rfl (aaq hz) rfl<|?_
  refine mg (fu:=⟨1⟩) (X:=Int) (fun a=>[(7, .d (vI a))]) (fun a=>[]) (fun a=>a=if v.nl then 1 else abg t v.lo) [7] [] rfl ?_ (fun _=>rfl) (fun a ha=>?_)
  ·
   refine gx rfl<|?_
   refine bb J J J (fun hc17=>?_) (fun hc17=>?_)
   ·
    refine cl rfl (q_C (a:=t) (b:=v.lo) (i:=i) (by omega)) rfl<|?_
    exact at_ (abg t v.lo) (by rw[if_neg (by simpa using hc17)])
   ·
    exact at_ 1 (by rw[if_pos (by simpa using hc17)])
  ·
   refine mg (X:=Int) (fun b=>[(8, .d (vI b))]) (fun b=>[]) (fun b=>b=if v.nh then-1 else abg t v.hi) [8] [] rfl ?_ (fun _=>rfl) (fun b hb'=>?_)
   ·
    refine gx rfl<|?_
    refine bb J J J (fun hc24=>?_) (fun hc24=>?_)
    ·
     refine cl rfl (q_C (a:=t) (b:=v.hi) (i:=i) (by omega)) rfl<|?_
     exact at_ (abg t v.hi) (by rw[if_neg (by simpa using hc24)])
    ·
     exact at_ (-1) (by rw[if_pos (by simpa using hc24)])
   ·
    have hst:=aw7 hz ha hb'
    refine cs 31 J J J (fun hg31=>?_) (fun hg31=>?_)
    ·
     refine br J J J (fun hc34=>?_) (fun hc34=>?_)
     ·
      exact rz rfl (by first|(rw[←h2,dR];rfl)|(rw[←h2,hst,if_pos (by omega)];rfl)|(rw[←h2,hst,if_neg (by omega),if_pos (by omega)];rfl))
     ·
      refine cs 37 J J J (fun hg37=>?_) (fun hg37=>?_)
      ·
       refine cs 41 J J J (fun hg41=>?_) (fun hg41=>?_)
       ·
        exact rz rfl (by first|(rw[←h2,dR];rfl)|(rw[←h2,hst,if_pos (by omega)];rfl)|(rw[←h2,hst,if_neg (by omega),if_pos (by omega)];rfl))
       ·
        refine cs 44 J J J (fun hg44=>?_) (fun hg44=>?_)
        ·
         refine br J J J (fun hc48=>?_) (fun hc48=>?_)
         ·
          exact rz rfl (by first|(rw[←h2,dR];rfl)|(rw[←h2,hst,if_pos (by omega)];rfl)|(rw[←h2,hst,if_neg (by omega),if_pos (by omega)];rfl))
         ·
          exact at_ (k+1) ⟨⟨by omega,by rw[←h2,hst,if_neg (by omega),if_neg (by omega)]⟩,(by omega)⟩
        ·
         exact at_ (k+1) ⟨⟨by omega,by rw[←h2,hst,if_neg (by omega),if_neg (by omega)]⟩,(by omega)⟩
      ·
       refine cs 44 J J J (fun hg44=>?_) (fun hg44=>?_)
       ·
        refine br J J J (fun hc48=>?_) (fun hc48=>?_)
        ·
         exact rz rfl (by first|(rw[←h2,dR];rfl)|(rw[←h2,hst,if_pos (by omega)];rfl)|(rw[←h2,hst,if_neg (by omega),if_pos (by omega)];rfl))
        ·
         exact at_ (k+1) ⟨⟨by omega,by rw[←h2,hst,if_neg (by omega),if_neg (by omega)]⟩,(by omega)⟩
       ·
        exact at_ (k+1) ⟨⟨by omega,by rw[←h2,hst,if_neg (by omega),if_neg (by omega)]⟩,(by omega)⟩
    ·
     refine cs 37 J J J (fun hg37=>?_) (fun hg37=>?_)
     ·
      refine cs 41 J J J (fun hg41=>?_) (fun hg41=>?_)
      ·
       exact rz rfl (by first|(rw[←h2,dR];rfl)|(rw[←h2,hst,if_pos (by omega)];rfl)|(rw[←h2,hst,if_neg (by omega),if_pos (by omega)];rfl))
      ·
       refine cs 44 J J J (fun hg44=>?_) (fun hg44=>?_)
       ·
        refine br J J J (fun hc48=>?_) (fun hc48=>?_)
        ·
         exact rz rfl (by first|(rw[←h2,dR];rfl)|(rw[←h2,hst,if_pos (by omega)];rfl)|(rw[←h2,hst,if_neg (by omega),if_pos (by omega)];rfl))
        ·
         exact at_ (k+1) ⟨⟨by omega,by rw[←h2,hst,if_neg (by omega),if_neg (by omega)]⟩,(by omega)⟩
       ·
        exact at_ (k+1) ⟨⟨by omega,by rw[←h2,hst,if_neg (by omega),if_neg (by omega)]⟩,(by omega)⟩
     ·
      refine cs 44 J J J (fun hg44=>?_) (fun hg44=>?_)
      ·
       refine br J J J (fun hc48=>?_) (fun hc48=>?_)
       ·
        exact rz rfl (by first|(rw[←h2,dR];rfl)|(rw[←h2,hst,if_pos (by omega)];rfl)|(rw[←h2,hst,if_neg (by omega),if_pos (by omega)];rfl))
       ·
        exact at_ (k+1) ⟨⟨by omega,by rw[←h2,hst,if_neg (by omega),if_neg (by omega)]⟩,(by omega)⟩
      ·
       exact at_ (k+1) ⟨⟨by omega,by rw[←h2,hst,if_neg (by omega),if_neg (by omega)]⟩,(by omega)⟩
 ·
  obtain rfl:k=l.length:=by omega
  exact rz rfl (by first|(rw[←h2,dR];rfl)|(rw[←h2,hst,if_pos (by omega)];rfl)|(rw[←h2,hst,if_neg (by omega),if_pos (by omega)];rfl))
theorem aDE{l:List IvQ}{t:Rat}{i:Nat}[ht:BQ t i](hb: ∀v∈l,IvB v)(hn:l.length≤100000)(hi:i≤20000:=by decide):PF GB prog 281 [.sl (l.map eV),eQ t] (vB (acn l t)):=by
 refine fn func281 J J ntmps281 J J (fun C=>?_)
 refine cl rfl (awB (l:=l) (t:=t) hb hn hi) rfl<|?_
 exact rz J J
theorem amE: ∀{l:List Rat} {i:Nat} {a b:Rat},l[i]? =some a→l[i+1]? =some b→adV (l.take (i+2))=adV (l.take (i+1))++[(a+b)/2]
 |[],i,a,b,h,_=>by simp at h
 |[_],i,a,b,h,k=>by simp at k
 |c::d::t,0,a,b,h,k=>by
  simp at h k;subst h;subst k
  simp[adV]
 |c::d::t,i+1,a,b,h,k=>by
  have:=amE (l:=d::t) (i:=i) (by simpa using h) (by simpa using k)
  rw[show(c::d::t).take (i+1+2)=c::d::t.take (i+1) by simp,show(c::d::t).take (i+1+1)=c::d::t.take i by simp,adV,adV,jR]
  congr 1
theorem ajN: ∀l:List Rat,(adV l).length≤l.length
 |[]=>aM _
 |[_]=>bX _
 |a::b::t=>by rw[adV,bY,bY];exact Nat.succ_le_succ (ajN (b::t))
theorem auQ{a:Rat}{t:List Rat}{z:Rat}(h:(a::t)[t.length]? =some z):acd (a::t)=(a-1)::(adV (a::t)++[z+1]):=by
 rw[acd]
 have:(a::t).getLast (by simp)=z:=by
  rw[List.getLast_eq_getElem]
  have:=aL.1 h
  obtain⟨h1,h2⟩:=this
  rw[←h2];congr 1
 rw[this]
theorem axW{cuts:List Rat}(hb: ∀q∈cuts,BQ q 1200)(hn:cuts.length≤100000):PF GB prog 280 [.sl (cuts.map eQ)] (.sl ((acd cuts).map eQ)):=by
 have hm:=aaG eQ cuts
 refine fn (fu:=⟨10⟩) func280 J J ntmps280 J J (fun C=>?_)
 refine eqF 6 (.d (vI (cuts.length:Nat))) rfl (by rw[hm]<;>rfl) ?_
 refine gx rfl<|?_
 refine br J J J (fun hc7=>?_) (fun hc7=>?_)
 ·
  obtain rfl:cuts=[]:=bS (by omega)
  refine rf J J<|?_
  exact rz rfl (by rw[acd];show DV.sl [_]=DV.sl [_];rw[avz])
 ·
  obtain⟨a,ct,rfl⟩: ∃a t,cuts=a::t:=by cases cuts with|nil=>exact absurd rfl hc7|cons a t=>exact⟨a,t,rfl⟩
  haveI hab:=hb a aZ
  have hcl:ct.length+1≤100000:=hn
  refine ix _ J J J<|cl rfl (aoo (n:=1) (by decide) (by decide)) rfl<|cl (fu:=⟨0⟩) rfl (alh (a:=a) (b:=((1:Int):Rat))) rfl<|?_
  refine eqF 14 (.d (eQ (a-1))) J J ?_
  refine gx rfl<|ro J J<|?_
  refine lp (fu:=⟨6⟩) (X:=Nat) (fun i=>[(4, .d (vI ((i+1:Nat):Int))),(3, .rw 15)]) (fun i=>[(15,some (.b 48 3 (((a-1)::adV ((a::ct).take (i+1))).map eQ) true))]) (fun i=>i≤ct.length) (fun i=>ct.length-i) 0 rfl (bX _) (fun _=>rfl) (fun i hk=>?_)
  have hm2:=aaG eQ (a::ct)
  have hml:=ajN (a::ct.take i)
  rw[bY,cJ] at hml
  have hml2:=ajN (a::ct)
  rw[bY] at hml2
  refine eqF 18 (.d (vI ((ct.length+1:Nat):Int))) rfl (by rw[hm2]<;>rfl) ?_
  refine gx rfl<|?_
  refine br (fu2:=⟨11⟩) J J J (fun hc19=>?_) (fun hc19=>?_)
  ·
   obtain⟨u,hu⟩: ∃s,(a::ct)[i]? =some s:=⟨_,aQ (by simp;omega)⟩
   obtain⟨w,hw⟩: ∃s,(a::ct)[i+1]? =some s:=⟨_,aQ (by simp;omega)⟩
   haveI:=hb u (aS hu)
   haveI:=hb w (aS hw)
   refine ix _ rfl (by rw[show((((i+1:Nat):Int))-1).toNat=i by omega,cV,hu];rfl) rfl<|ix _ rfl (by rw[bK,cV,hw];rfl) rfl<|?_
   refine cl rfl (aCt (a:=u) (b:=w)) rfl<|rf J J<|ap (hv:=by simp only[aaj];exact⟨by kernel_rfl,by omega⟩) (((a-1)::adV ((a::ct).take (i+1+1))).map eQ) rfl (by rw[amE hu hw,←jR,bV];rfl) (adZ [(u+w)/2]) rfl<|?_
   refine rnE 34 15 rfl ?_
   exact at_ (i+1) ⟨(by omega),(by omega)⟩
  ·
   obtain rfl:i=ct.length:=by omega
   obtain⟨z,hz⟩: ∃s,(a::ct)[ct.length]? =some s:=⟨_,aQ (by simp)⟩
   haveI:=hb z (aS hz)
   rw[show(a::ct).take (ct.length+1)=a::ct from fY (l:=a::ct)]
   refine eqF 38 (.d (vI ((ct.length+1:Nat):Int))) rfl (by rw[hm2]<;>rfl) ?_
   refine gx rfl<|ix _ rfl (by rw[show((((ct.length+1:Nat):Int))-1).toNat=ct.length by omega,cV,hz];rfl) rfl<|cl rfl (aoo (n:=1) (by decide) (by decide)) rfl<|?_
   refine cl rfl (ae7 (a:=z) (b:=((1:Int):Rat))) rfl<|rf J J<|ap ((acd (a::ct)).map eQ) rfl (by rw[auQ hz,←jR,bV];rfl) (adZ [z+1]) rfl<|?_
   refine fzE 45 rfl ?_
   exact rz J J
theorem apU(o:List Rat)(s:IvQ):(amy o s).length≤o.length+2:=by
 unfold amy
 have h:=fun(x:Rat) (l:List Rat)=>amx (x:=x) (l:=l)▸aiD abg x l
 have h1:=h s.lo o
 have h2:=h s.hi o
 have h3:=h s.hi (aos s.lo o)
 split<;>split<;>omega
def ajV(l:List IvQ)(k:Nat):List Rat:=adh (l.take k)
theorem ako{l:List IvQ}{k:Nat}{v:IvQ}(h:l[k]? =some v):ajV l (k+1)=amy (ajV l k) v:=by
 unfold ajV adh;rw[gR,h,rW];rfl
theorem agB(l:List IvQ): ∀k,(ajV l k).length≤2*k
 |0=>aM _
 |k+1=>by
  cases h:l[k]? with
  |none=>
   have:=agB l k
   unfold ajV at*
   rw[gR,h];simp;omega
  |some v=>rw[ako h];have:=agB l k;have:=apU (ajV l k) v;omega
theorem aqi{l:List IvQ}(hb: ∀v∈l,IvB v){k:Nat}: ∀y∈ajV l k,BQ y 1200:=fun y hy=>by
 obtain⟨s,hs,h⟩:=(ahR _).2 y hy
 have:=hb s (dZ hs)
 rcases h with⟨_,rfl⟩|⟨_,rfl⟩
 ·exact this.lo
 ·exact this.hi
def avN(o:List Rat)(v:IvQ)(j:Nat):List Rat:=if j=0 then o else if j=1 then(if v.nl then o else aos v.lo o) else amy o v
def aE9(v:IvQ)(j:Nat):Rat:=if j=0 then v.lo else v.hi
def avo(v:IvQ)(j:Nat):Bool:=if j=0 then v.nl else v.nh
theorem adm{o:List Rat}{v:IvQ}{j:Nat}(hj:j<2):avN o v (j+1)=if avo v j then avN o v j else ad6 abg (aE9 v j) (avN o v j):=by
 have:j=0∨j=1:=by omega
 rcases this with rfl|rfl
 ·simp[avN,avo,aE9,amx]
 ·simp[avN,avo,aE9,amy,amx]
theorem aya{o:List Rat}{v:IvQ}{j:Nat}(hj:j≤2):(avN o v j).length≤o.length+2:=by
 unfold avN
 have:=apU o v
 have h:=amx (x:=v.lo) (l:=o)▸aiD abg v.lo o
 split
 ·omega
 ·split
  ·split<;>omega
  ·exact this
theorem azQ{o:List Rat}(ho: ∀q∈o,BQ q 1200){v:IvQ}(hv:IvB v){j:Nat}(hj:j≤2): ∀q∈avN o v j,BQ q 1200:=fun q hq=>by
 unfold avN amy at hq
 have lo:=hv.lo
 have hi:=hv.hi
 split at hq
 ·exact ho q hq
 ·split at hq
  ·split at hq
   ·exact ho q hq
   ·rcases acX.1 hq with rfl|hq
    ·exact lo
    ·exact ho q hq
  ·split at hq
   ·split at hq
    ·exact ho q hq
    ·rcases acX.1 hq with rfl|hq
     ·exact lo
     ·exact ho q hq
   ·rcases acX.1 hq with rfl|hq
    ·exact hi
    ·split at hq
     ·exact ho q hq
     ·rcases acX.1 hq with rfl|hq
      ·exact lo
      ·exact ho q hq
theorem aFc{l:List IvQ}(hb: ∀v∈l,IvB v)(hn:l.length≤10000):PF GB prog 279 [.sl (l.map eV)] (.sl ((adh l).map eQ)):=by
 have hm:=aaG eV l
 refine fn (fu:=⟨15⟩) func279 J J ntmps279 J J (fun C=>?_)
 refine eqF 10 (.d (vI (l.length:Nat))) rfl (by rw[hm]<;>rfl) ?_
 refine gx rfl<|?_
 refine nlC 3 rfl ?_
 refine lp (X:=List Rat×Nat) (fun⟨o,k⟩=>[(11, .d (vI (k:Nat))),(3, .d (.sl (o.map eQ)))]) (fun⟨o,k⟩=>[]) (fun⟨o,k⟩=>o=ajV l k∧k≤l.length) (fun⟨o,k⟩=>l.length-k) ([],0) rfl ⟨rfl,bX _⟩ (fun _=>rfl) (fun⟨o,k⟩ hk=>?_)
 dsimp only at hk⊢
 obtain⟨h1,h2⟩:=hk
 refine br J J J (fun hc12=>?_) (fun hc12=>?_)
 ·
  obtain⟨v,hz⟩: ∃s,l[k]? =some s:=⟨_,aQ (by omega)⟩
  have hv:=hb v (aS hz)
  haveI:=hv.lo
  haveI:=hv.hi
  have hob:=aqi hb (k:=k)
  have hol:=agB l k
  rw[←h1] at hob hol
  refine ix _ rfl (aaq hz) rfl<|rf J J<|?_
  refine lp (X:=List Rat×Nat) (fun⟨xs,j⟩=>[(21, .d (vI (j:Nat))),(3, .d (.sl (xs.map eQ)))]) (fun⟨xs,j⟩=>[]) (fun⟨xs,j⟩=>xs=avN o v j∧j≤2) (fun⟨xs,j⟩=>2-j) (o,0) rfl ⟨rfl,by omega⟩ (fun _=>rfl) (fun⟨xs,j⟩ hk=>?_)
  dsimp only at hk⊢
  obtain⟨g1,g2⟩:=hk
  refine br J J J (fun hc22=>?_) (fun hc22=>?_)
  ·
   have hj2:j<2:=by have:=hc22;simp only[bY,fU] at this;omega
   obtain⟨m,hm2⟩: ∃m,m=aE9 v j:=⟨_,rfl⟩
   haveI hmb:BQ m 1200:=by rw[hm2];unfold aE9;split;exact hv.lo;exact hv.hi
   have hxl:=aaG eQ xs
   have hxn:xs.length≤2*k+2:=by rw[g1];have:=aya (o:=o) (v:=v) (j:=j) g2;omega
   have hxb: ∀q∈xs,BQ q 1200:=by rw[g1];exact azQ hob hv g2
   refine ix (fu:=⟨10⟩) _ rfl (by rw[bK];exact(show([v.lo,v.hi].map eQ)[j]? =some (eQ m) by rw[hm2];have:j=0∨j=1:=(by omega);rcases this with rfl|rfl<;>rfl)) rfl<|?_
   rcases(show j=0∨j=1 by omega) with rfl|rfl
   ·
    refine knT J J J<|?_
    refine csb (fu2:=⟨1⟩) 32 J J J (fun hg32=>?_) (fun hg32=>?_)
    ·
     exact at_ (xs,0+1) (by dsimp only;exact⟨⟨by rw[adm (by decide),if_pos (by simpa[avo] using hg32),←g1],by omega⟩,(by omega)⟩)
    ·
     refine knF (fu:=⟨16⟩) J J J<|?_
     refine mg (fu:=⟨5⟩) (X:=Nat) (fun n=>[(8, .d (vI (n:Nat)))]) (fun n=>[]) (fun n=>amm abg m xs=n) [8] [] rfl ?_ (fun _=>rfl) (fun n hnx=>?_)
     ·
      refine gx rfl<|?_
      refine lp (fu:=⟨6⟩) (X:=Nat) (fun n=>[(8, .d (vI (n:Nat)))]) (fun n=>[]) (fun n=>n≤xs.length∧ ∀j (h:j<xs.length),j<n→abg xs[j] m<0) (fun n=>xs.length-n) 0 rfl ⟨bX _,fun j _ hj=>absurd hj (by omega)⟩ (fun _=>rfl) (fun n hk=>?_)
      obtain⟨n1,n2⟩:=hk
      refine csS (v2:=fun hg43=>by simp only[aaj];kernel_rfl) J J J J (fun hg43=>?_) (fun hg43=>?_)
      ·
       refine ix _ rfl (ac7 (by omega)) rfl<|cl rfl (q_C (a:=xs[n]'(by omega)) (b:=m) (ha:=hxb _ (cZ (by omega))) (hb:=hmb)) rfl<|?_
       refine br J J J (fun hc52=>?_) (fun hc52=>?_)
       ·
        exact at_ (n+1) ⟨⟨by omega,fun j h hj=>by by_cases q:j=n;(subst q;exact hc52);exact n2 j h (by omega)⟩,(by omega)⟩
       ·
        exact at_ n (afh abg n1 n2 (fun h=>hc52))
      ·
       exact at_ n (afh abg n1 n2 (fun h=>absurd h (by omega)))
     ·
      have hnl:n≤xs.length:=by rw[←hnx];exact ami _ _ _
      refine csS (v1:=fun hg58=>by simp only[aaj];kernel_rfl) J J J J (fun hg58=>?_) (fun hg58=>?_)
      ·
       have hnew: ∀h:n<xs.length,abg xs[n] m≠0:=fun h=>absurd h (by omega)
       obtain⟨ys,hys⟩: ∃ys,ys=xs.take n++m::xs.drop n:=⟨_,rfl⟩
       have hin:ad6 abg m xs=ys:=by rw[hys];exact adB abg hnx hnew
       have hyl:ys.length≤xs.length+1:=by rw[hys];simp;omega
       refine s3 n _ J J J J (adZ _) (by rw[hxl];exact hnl) rfl<|ro J J<|sc' n xs.length _ J J (by rw[hxl]) rfl (adZ _) hnl (by omega) rfl<|?_
       refine ap _ J J (slD adZ _ _ _) rfl<|apf (hv:=by simp only[aaj];exact⟨by kernel_rfl,by omega⟩) (ho:=fun _=>⟨slT adZ _ _,by simp⟩) (ys.map eQ) rfl (by rw[hys,bV,cK,gX,iK,aR (l:=xs.map eQ) (i:=xs.length) (by simp)];rfl) (slI adZ _ _ _ _) rfl<|?_
       exact at_ (ys,0+1) (by dsimp only;exact⟨⟨by rw[adm (by decide),if_neg (by simpa[avo] using hg32),←g1,←hm2,hin],by omega⟩,(by omega)⟩)
      ·
       refine ix _ rfl (ac7 (by omega)) rfl<|cl rfl (q_C (a:=xs[n]'(by omega)) (b:=m) (ha:=hxb _ (cZ (by omega))) (hb:=hmb)) rfl<|?_
       refine br (fu2:=⟨7⟩) J J J (fun hc67=>?_) (fun hc67=>?_)
       ·
        have hnew: ∀h:n<xs.length,abg xs[n] m≠0:=fun h=>hc67
        obtain⟨ys,hys⟩: ∃ys,ys=xs.take n++m::xs.drop n:=⟨_,rfl⟩
        have hin:ad6 abg m xs=ys:=by rw[hys];exact adB abg hnx hnew
        have hyl:ys.length≤xs.length+1:=by rw[hys];simp;omega
        refine s3 n _ J J J J (adZ _) (by rw[hxl];exact hnl) rfl<|ro J J<|sc' n xs.length _ J J (by rw[hxl]) rfl (adZ _) hnl (by omega) rfl<|?_
        refine ap _ J J (slD adZ _ _ _) rfl<|apf (hv:=by simp only[aaj];exact⟨by kernel_rfl,by omega⟩) (ho:=fun _=>⟨slT adZ _ _,by simp⟩) (ys.map eQ) rfl (by rw[hys,bV,cK,gX,iK,aR (l:=xs.map eQ) (i:=xs.length) (by simp)];rfl) (slI adZ _ _ _ _) rfl<|?_
        exact at_ (ys,0+1) (by dsimp only;exact⟨⟨by rw[adm (by decide),if_neg (by simpa[avo] using hg32),←g1,←hm2,hin],by omega⟩,(by omega)⟩)
       ·
        have hin:ad6 abg m xs=xs:=agF abg hnx (by omega) (Decidable.not_not.1 hc67)
        exact at_ (xs,0+1) (by dsimp only;exact⟨⟨by rw[adm (by decide),if_neg (by simpa[avo] using hg32),←g1,←hm2,hin],by omega⟩,(by omega)⟩)
   ·
    refine knF (fu:=⟨6⟩) J J J<|knT J J J<|?_
    refine bb (fu2:=⟨8⟩) J J J (fun hc39=>?_) (fun hc39=>?_)
    ·
     exact at_ (xs,1+1) (by dsimp only;exact⟨⟨by rw[adm (by decide),if_pos (by simpa[avo] using hc39),←g1],by omega⟩,(by omega)⟩)
    ·
     refine mg (fu:=⟨5⟩) (X:=Nat) (fun n=>[(8, .d (vI (n:Nat)))]) (fun n=>[]) (fun n=>amm abg m xs=n) [8] [] rfl ?_ (fun _=>rfl) (fun n hnx=>?_)
     ·
      refine gx rfl<|?_
      refine lp (fu:=⟨6⟩) (X:=Nat) (fun n=>[(8, .d (vI (n:Nat)))]) (fun n=>[]) (fun n=>n≤xs.length∧ ∀j (h:j<xs.length),j<n→abg xs[j] m<0) (fun n=>xs.length-n) 0 rfl ⟨bX _,fun j _ hj=>absurd hj (by omega)⟩ (fun _=>rfl) (fun n hk=>?_)
      obtain⟨n1,n2⟩:=hk
      refine csS (v2:=fun hg43=>by simp only[aaj];kernel_rfl) J J J J (fun hg43=>?_) (fun hg43=>?_)
      ·
       refine ix _ rfl (ac7 (by omega)) rfl<|cl rfl (q_C (a:=xs[n]'(by omega)) (b:=m) (ha:=hxb _ (cZ (by omega))) (hb:=hmb)) rfl<|?_
       refine br J J J (fun hc52=>?_) (fun hc52=>?_)
       ·
        exact at_ (n+1) ⟨⟨by omega,fun j h hj=>by by_cases q:j=n;(subst q;exact hc52);exact n2 j h (by omega)⟩,(by omega)⟩
       ·
        exact at_ n (afh abg n1 n2 (fun h=>hc52))
      ·
       exact at_ n (afh abg n1 n2 (fun h=>absurd h (by omega)))
     ·
      have hnl:n≤xs.length:=by rw[←hnx];exact ami _ _ _
      refine csS (v1:=fun hg58=>by simp only[aaj];kernel_rfl) J J J J (fun hg58=>?_) (fun hg58=>?_)
      ·
       have hnew: ∀h:n<xs.length,abg xs[n] m≠0:=fun h=>absurd h (by omega)
       obtain⟨ys,hys⟩: ∃ys,ys=xs.take n++m::xs.drop n:=⟨_,rfl⟩
       have hin:ad6 abg m xs=ys:=by rw[hys];exact adB abg hnx hnew
       have hyl:ys.length≤xs.length+1:=by rw[hys];simp;omega
       refine s3 n _ J J J J (adZ _) (by rw[hxl];exact hnl) rfl<|ro J J<|sc' n xs.length _ J J (by rw[hxl]) rfl (adZ _) hnl (by omega) rfl<|?_
       refine ap _ J J (slD adZ _ _ _) rfl<|apf (hv:=by simp only[aaj];exact⟨by kernel_rfl,by omega⟩) (ho:=fun _=>⟨slT adZ _ _,by simp⟩) (ys.map eQ) rfl (by rw[hys,bV,cK,gX,iK,aR (l:=xs.map eQ) (i:=xs.length) (by simp)];rfl) (slI adZ _ _ _ _) rfl<|?_
       exact at_ (ys,1+1) (by dsimp only;exact⟨⟨by rw[adm (by decide),if_neg (by simpa[avo] using hc39),←g1,←hm2,hin],by omega⟩,(by omega)⟩)
      ·
       refine ix _ rfl (ac7 (by omega)) rfl<|cl rfl (q_C (a:=xs[n]'(by omega)) (b:=m) (ha:=hxb _ (cZ (by omega))) (hb:=hmb)) rfl<|?_
       refine br J J J (fun hc67=>?_) (fun hc67=>?_)
       ·
        have hnew: ∀h:n<xs.length,abg xs[n] m≠0:=fun h=>hc67
        obtain⟨ys,hys⟩: ∃ys,ys=xs.take n++m::xs.drop n:=⟨_,rfl⟩
        have hin:ad6 abg m xs=ys:=by rw[hys];exact adB abg hnx hnew
        have hyl:ys.length≤xs.length+1:=by rw[hys];simp;omega
        refine s3 n _ J J J J (adZ _) (by rw[hxl];exact hnl) rfl<|ro J J<|sc' n xs.length _ J J (by rw[hxl]) rfl (adZ _) hnl (by omega) rfl<|?_
        refine ap _ J J (slD adZ _ _ _) rfl<|apf (hv:=by simp only[aaj];exact⟨by kernel_rfl,by omega⟩) (ho:=fun _=>⟨slT adZ _ _,by simp⟩) (ys.map eQ) rfl (by rw[hys,bV,cK,gX,iK,aR (l:=xs.map eQ) (i:=xs.length) (by simp)];rfl) (slI adZ _ _ _ _) rfl<|?_
        exact at_ (ys,1+1) (by dsimp only;exact⟨⟨by rw[adm (by decide),if_neg (by simpa[avo] using hc39),←g1,←hm2,hin],by omega⟩,(by omega)⟩)
       ·
        have hin:ad6 abg m xs=xs:=agF abg hnx (by omega) (Decidable.not_not.1 hc67)
        exact at_ (xs,1+1) (by dsimp only;exact⟨⟨by rw[adm (by decide),if_neg (by simpa[avo] using hc39),←g1,←hm2,hin],by omega⟩,(by omega)⟩)
  ·
   have hj2: ¬j<2:=by have:=hc22;simp only[bY,fU] at this;omega
   exact at_ (xs,k+1) (by dsimp only;exact⟨⟨by rw[ako hz,←h1,g1,show j=2 by omega];rfl,by omega⟩,(by omega)⟩)
 ·
  have hfin:adh l=o:=by rw[h1,show k=l.length by omega];unfold ajV;rw[fY]
  exact rz rfl (by rw[hfin];rfl)
theorem avU(t:Rat):eV ⟨t,0,false,true⟩= .ag [.v (.bool (decide (t.num<0))),dN t.num.natAbs,dD t.den, .v (.bool false), .sl [], .sl [], .v (.bool false), .v (.bool true)]:=by
 unfold eV dD
 simp only[show(0:Rat).num=0 from rfl,show(0:Rat).den=1 from rfl,kK,adt];rfl
theorem awe(t:Rat):eV ⟨0,t,true,false⟩= .ag [.v (.bool false), .sl [], .sl [], .v (.bool (decide (t.num<0))),dN t.num.natAbs,dD t.den, .v (.bool true), .v (.bool false)]:=by
 unfold eV dD
 simp only[show(0:Rat).num=0 from rfl,show(0:Rat).den=1 from rfl,kK,adt];rfl
def asf(l m:LnQ)(side:Int):DV:= .tp [.sl ((adO l m side).map eV),vB (onB l m)]
theorem aom{l m:LnQ}(h:crossI l m≠0):onB l m=false:=by unfold onB;rw[decide_eq_false];exact fun e=>h e.1
theorem atl{l m:LnQ}(h:crossI l m=0):onB l m=decide ((m.value l.base).num.sign=0):=by unfold onB;simp[h]
theorem asu{l m:LnQ}{side:Int}[hl:LB l][hm:LB m](hlo:l.ok)(hmo:m.ok)(hs:side=1∨side= -1):PF GB prog 238 [eL l,eL m,vI side] (asf l m side):=by
 refine fn func238 J J ntmps238 J J (fun C=>?_)
 refine cl rfl (azs (l:=l) (m:=m)) rfl<|?_
 refine bb J J J (fun hc19=>?_) (fun hc19=>?_)
 ·
  have hc:crossI l m=0:=by simpa using hc19
  refine cl rfl (avE hlo.ne) rfl<|cl rfl (aqC (l:=m) (p:=l.base)) rfl<|?_
  refine br J J J (fun hc26=>?_) (fun hc26=>?_)
  ·
   refine cl rfl azo rfl<|rf J J<|?_
   exact rz rfl (by unfold asf adO;rw[if_pos hc,if_pos hc26,atl hc];rfl)
  ·
   exact rz rfl (by unfold asf adO;rw[if_pos hc,if_neg hc26,atl hc];rfl)
 ·
  have hc:crossI l m≠0:=by simpa using hc19
  haveI hpb:=aim (l:=l) (m:=m) hlo.ne hc
  obtain⟨t,ht⟩: ∃t,t=abB l (abS l m):=⟨_,rfl⟩
  refine cl (fu:=⟨0⟩) rfl (amn (l:=l) (p:=abS l m) hlo.ne) rfl<|?_
  refine eqF 35 (.d (eQ t)) rfl (by rw[ht]) ?_
  rw[←ht] at hpb
  refine gx rfl<|cl rfl (aoo (n:=1) (by decide) (by decide)) rfl<|cl rfl (ae7 (a:=t) (b:=((1:Int):Rat))) rfl<|cl rfl (aHP (l:=l) (t:=t+((1:Int):Rat)) hlo.ne) rfl<|?_
  refine cl rfl (aqC (l:=m) (p:=l.at (t+((1:Int):Rat)))) rfl<|?_
  refine br J J J (fun hc44=>?_) (fun hc44=>?_)
  ·
   refine rf J J<|?_
   exact rz rfl (by unfold asf adO;rw[if_neg hc,←ht,if_pos (show(m.value (l.at (t+1))).num.sign=side from hc44),aom hc,cK,avU];rfl)
  ·
   refine rf J J<|?_
   exact rz rfl (by unfold asf adO;rw[if_neg hc,←ht,if_neg (show¬(m.value (l.at (t+1))).num.sign=side from hc44),aom hc,cK,awe];rfl)
def eFF(f:FrQ):DV:= .ag [.v (.bool (decide (f.l.a<0))),dN f.l.a.natAbs, .v (.bool (decide (f.l.b<0))),dN f.l.b.natAbs, .v (.bool (decide (f.l.c<0))),dN f.l.c.natAbs, .v (.bool (decide (f.v.lo.num<0))),dN f.v.lo.num.natAbs,dD f.v.lo.den, .v (.bool (decide (f.v.hi.num<0))),dN f.v.hi.num.natAbs,dD f.v.hi.den, .v (.bool f.v.nl), .v (.bool f.v.nh)]
theorem akm(fs:List FrQ):adn 14 (fs.map eFF):=fun d hd=>by
 obtain⟨u,_,rfl⟩:=bJ.1 hd;exact⟨rfl,rfl⟩
theorem bpZ{p:ZP}(h:ZP.le 100 p):BPt p.q 12:=by
 haveI:BI p.1 11:=biC (by have:=h.1;omega) (by decide)
 haveI:BI p.2 11:=biC (by have:=h.2;omega) (by decide)
 exact(inferInstance:BPt (iP p.1 p.2) 12)
theorem atK{v w:ZP}(hv:ZP.le 100 v)(hw:ZP.le 100 w)(h:v≠w):PF GB prog 175 [eP v.q,eP w.q] (.tp [eFF (afc v w),vB true]):=by
 have hne: ¬(w.1=v.1∧w.2=v.2):=fun e=>h (Prod.ext e.1.symm e.2.symm)
 obtain⟨hlb,hlo⟩:=azr (m:=v.1) (n:=v.2) (p:=w.1) (q:=w.2) (by have:=hv.1;omega) (by have:=hv.2;omega) (by have:=hw.1;omega) (by have:=hw.2;omega) hne
 haveI:=hlb
 haveI:=bpZ hv
 haveI:=bpZ hw
 refine fn func175 J J ntmps175 J J (fun C=>?_)
 refine cl (fu:=⟨3⟩) rfl (at3 (m:=v.1) (n:=v.2) (m':=w.1) (n':=w.2) (by have:=hv.1;omega) (by have:=hv.2;omega) (by have:=hw.1;omega) (by have:=hw.2;omega) (fun e=>hne ⟨e.1.symm,e.2.symm⟩)) rfl<|?_
 refine kbT 13 rfl ?_
 refine gx rfl<|cl rfl (amn (l:=aop v.1 v.2 w.1 w.2) (p:=v.q) hlo.ne) rfl<|cl rfl (amn (l:=aop v.1 v.2 w.1 w.2) (p:=w.q) hlo.ne) rfl<|?_
 exact rz J J
theorem aGy(a b:Bool):eV ⟨0,0,a,b⟩= .ag [.v (.bool false), .sl [], .sl [], .v (.bool false), .sl [], .sl [], .v (.bool a), .v (.bool b)]:=by
 unfold eV dD
 simp only[show(0:Rat).num=0 from rfl,show(0:Rat).den=1 from rfl,kK,adt];rfl
theorem aEu(t:Rat)(a b:Bool):eV ⟨t,0,a,b⟩= .ag [.v (.bool (decide (t.num<0))),dN t.num.natAbs,dD t.den, .v (.bool false), .sl [], .sl [], .v (.bool a), .v (.bool b)]:=by
 unfold eV dD
 simp only[show(0:Rat).num=0 from rfl,show(0:Rat).den=1 from rfl,kK,adt];rfl
theorem aGO(t:Rat)(a b:Bool):eV ⟨0,t,a,b⟩= .ag [.v (.bool false), .sl [], .sl [], .v (.bool (decide (t.num<0))),dN t.num.natAbs,dD t.den, .v (.bool a), .v (.bool b)]:=by
 unfold eV dD
 simp only[show(0:Rat).num=0 from rfl,show(0:Rat).den=1 from rfl,kK,adt];rfl
theorem aAV{cuts:List Rat}{i:Nat}(h:i=0)(k: ¬i<cuts.length):adX cuts i=⟨0,0,decide (i=0),decide (i=cuts.length)⟩:=by unfold adX;rw[if_pos h,if_neg k]
theorem aA0{cuts:List Rat}{i:Nat}{y:Rat}(h:i=0)(k:cuts[i]? =some y):adX cuts i=⟨0,y,decide (i=0),decide (i=cuts.length)⟩:=by
 unfold adX;rw[if_pos h,if_pos (aL.1 k).1,aX,k];rfl
theorem aAU{cuts:List Rat}{i:Nat}{x:Rat}(h: ¬i=0)(k:cuts[i-1]? =some x)(k2: ¬i<cuts.length):adX cuts i=⟨x,0,decide (i=0),decide (i=cuts.length)⟩:=by
 unfold adX;rw[if_neg h,if_neg k2,aX,k];rfl
theorem aBC{cuts:List Rat}{i:Nat}{x y:Rat}(h: ¬i=0)(k:cuts[i-1]? =some x)(k2:cuts[i]? =some y):adX cuts i=⟨x,y,decide (i=0),decide (i=cuts.length)⟩:=by
 unfold adX;rw[if_neg h,if_pos (aL.1 k2).1,aX,k,aX,k2];rfl
theorem av0{cuts:List Rat}{marks:List Bool}{k:Nat}(h:marks[k]? =some false):acp cuts marks (k+1)=acp cuts marks k:=by
 rw[acp,aX,h];rfl
theorem aho{cuts:List Rat}{marks:List Bool}{k:Nat}(h:marks[k]? =some true)(hp: ¬(0<k∧marks[k-1]? =some true)):acp cuts marks (k+1)=acp cuts marks k++[adX cuts k]:=by
 rw[acp,aX,h]
 show(if 0<k∧_ then _ else _)=_
 rw[if_neg]
 rintro ⟨h1,h2⟩
 rw[aX] at h2
 cases e:marks[k-1]? with
 |none=>rw[e] at h2;cases h2
 |some b=>rw[e] at h2;exact hp ⟨h1,by rw[e];simp at h2;rw[h2]⟩
theorem aqm{cuts:List Rat}{marks:List Bool}{k:Nat}(h:marks[k]? =some true):acp cuts marks (k+1)≠[]:=by
 rw[acp,aX,h]
 show(if 0<k∧_ then _ else _)≠[]
 split
 ·split<;>simp
 ·simp
theorem akn{cuts:List Rat}{marks:List Bool}{k:Nat}{xs:List IvQ}{v:IvQ}(hk:0<k)(h:marks[k]? =some true)(hp:marks[k-1]? =some true)(hx:acp cuts marks k=xs)(hv:xs[xs.length-1]? =some v):acp cuts marks (k+1)=xs.set (xs.length-1) (amA v (adX cuts k)):=by
 rw[acp,aX,h]
 show(if 0<k∧_ then _ else _)=_
 rw[if_pos ⟨hk,by rw[aX,hp];rfl⟩,hx,lK,hv]
 have hn:0<xs.length:=by
  have:=(aL.1 hv).1;omega
 show xs.dropLast++[_]=_
 apply jM
 intro i
 rw[pX]
 by_cases hi:i<xs.length-1
 ·rw[eJ (by rw[gL];exact hi),rV,if_pos hi,if_neg (by omega)]
 ·by_cases hi2:i=xs.length-1
  ·subst hi2
   rw[gJ (by rw[gL];exact aM _),gL,Nat.sub_self,if_pos rfl,if_pos (by omega)];rfl
  ·rw[cN (by rw[aV,gL];simp;omega),if_neg (by omega),cN (by omega)]
theorem afV{α:Type}{f:α→DV}{l:List α}{k:Nat}{x:α}(hk:0<k)(h:l[k-1]? =some x):(l.map f)[(((k:Nat):Int)-1).toNat]? =some (f x):=by
 rw[show(((k:Nat):Int)-1).toNat=k-1 by omega,cV,h];rfl
theorem avR{k n:Nat}:decide (k=n)=decide (((k:Nat):Int)=((n:Nat):Int)):=decide_eq_decide.2 (by omega)
def aH9(v w:IvQ):IvQ:=⟨v.lo,w.hi,v.nl,v.nh⟩
theorem aEV{cuts:List Rat}{marks:List Bool}(hn:cuts.length≤100000)(hmk:marks.length≤cuts.length+1):PF GB prog 282 [.sl (cuts.map eQ), .sl (marks.map vB)] (.sl ((anV cuts marks).map eV)):=by
 have hm:=aaG vB marks
 have hmc:=aaG eQ cuts
 refine fn (fu:=⟨15⟩) func282 J J ntmps282 J J (fun C=>?_)
 refine eqF 11 (.d (vI (marks.length:Nat))) rfl (by rw[hm]<;>rfl) ?_
 refine gx rfl<|?_
 refine nr 5 5 223 8 J J J ?_
 refine lp (X:=List IvQ×Nat) (fun⟨xs,k⟩=>[(12, .d (vI (k:Nat))),(5, .rw 5)]) (fun⟨xs,k⟩=>[(5,some (.b 223 8 (xs.map eV) true))]) (fun⟨xs,k⟩=>xs=acp cuts marks k∧k≤marks.length) (fun⟨xs,k⟩=>marks.length-k) ([],0) rfl ⟨rfl,bX _⟩ (fun _=>rfl) (fun⟨xs,k⟩ hk=>?_)
 dsimp only at hk⊢
 obtain⟨h1,h2⟩:=hk
 have hml:=aaG eV xs
 have hxl:xs.length≤k:=by rw[h1];exact ajv
 refine br J J J (fun hc13=>?_) (fun hc13=>?_)
 ·
  obtain⟨b,hz⟩: ∃s,marks[k]? =some s:=⟨_,aQ (by omega)⟩
  refine ix (fu:=⟨8⟩) _ rfl (aaq hz) rfl<|?_
  cases b
  ·
   refine knF (fu:=⟨12⟩) J J J<|?_
   exact at_ (xs,k+1) (by dsimp only;exact⟨⟨by rw[av0 hz,←h1],by omega⟩,(by omega)⟩)
  ·
   refine knT (fu:=⟨13⟩) J J J<|?_
   rcases(show(k=0∧k<cuts.length)∨(k=0∧ ¬k<cuts.length)∨(0<k∧k<cuts.length)∨(0<k∧ ¬k<cuts.length) by omega) with⟨c1,c2⟩|⟨c1,c2⟩|⟨c1,c2⟩|⟨c1,c2⟩
   ·
    obtain⟨y,hy⟩: ∃s,cuts[k]? =some s:=⟨_,aQ (by omega)⟩
    have hgap:=aA0 (cuts:=cuts) (i:=k) c1 hy
    have hnp: ¬(0<k∧marks[k-1]? =some true):=fun e=>by omega
    refine eqF 23 (.d (vI (cuts.length:Nat))) rfl (by rw[hmc]<;>rfl) ?_
    refine gx (fu:=⟨10⟩) rfl<|knF (fu:=⟨11⟩) rfl (by show some (decide _)=some false;rw[decide_eq_false (by omega)]) rfl<|?_
    refine eqF 36 (.d (vI (cuts.length:Nat))) rfl (by rw[hmc]<;>rfl) ?_
    refine gx (fu:=⟨0⟩) rfl<|knT rfl (by show some (decide _)=some true;rw[decide_eq_true (by omega)]) rfl<|ix (fu:=⟨10⟩) _ rfl (aaq hy) rfl<|?_
    refine eqF 44 (.d (vI (xs.length:Nat))) rfl (by rw[hml]<;>rfl) ?_
    refine gx (fu:=⟨6⟩) rfl<|knF (fu:=⟨19⟩) rfl (by show some (decide _)=some false;rw[decide_eq_false (by omega)]) rfl<|?_
    refine eqF 73 (.d (eV (adX cuts k))) rfl (by rw[hgap,aGO,avR (k:=k) (n:=0),avR (k:=k) (n:=cuts.length)]<;>rfl) ?_
    refine gx rfl<|rf J J<|ap (fu:=⟨12⟩) ((xs++[adX cuts k]).map eV) rfl (by rw[bV];rfl) (ar2 [adX cuts k]) rfl<|?_
    refine rnE 75 5 rfl ?_
    exact at_ (xs++[adX cuts k],k+1) (by dsimp only;exact⟨⟨by rw[aho hz hnp,←h1],by omega⟩,(by omega)⟩)
   ·
    have hgap:=aAV (cuts:=cuts) (i:=k) c1 c2
    have hnp: ¬(0<k∧marks[k-1]? =some true):=fun e=>by omega
    refine eqF 23 (.d (vI (cuts.length:Nat))) rfl (by rw[hmc]<;>rfl) ?_
    refine gx (fu:=⟨10⟩) rfl<|knF (fu:=⟨11⟩) rfl (by show some (decide _)=some false;rw[decide_eq_false (by omega)]) rfl<|?_
    refine eqF 36 (.d (vI (cuts.length:Nat))) rfl (by rw[hmc]<;>rfl) ?_
    refine gx (fu:=⟨0⟩) rfl<|knF (fu:=⟨10⟩) rfl (by show some (decide _)=some false;rw[decide_eq_false (by omega)]) rfl<|?_
    refine eqF 44 (.d (vI (xs.length:Nat))) rfl (by rw[hml]<;>rfl) ?_
    refine gx (fu:=⟨6⟩) rfl<|knF (fu:=⟨19⟩) rfl (by show some (decide _)=some false;rw[decide_eq_false (by omega)]) rfl<|?_
    refine eqF 73 (.d (eV (adX cuts k))) rfl (by rw[hgap,aGy,avR (k:=k) (n:=0),avR (k:=k) (n:=cuts.length)]<;>rfl) ?_
    refine gx rfl<|rf J J<|ap (fu:=⟨12⟩) ((xs++[adX cuts k]).map eV) rfl (by rw[bV];rfl) (ar2 [adX cuts k]) rfl<|?_
    refine rnE 75 5 rfl ?_
    exact at_ (xs++[adX cuts k],k+1) (by dsimp only;exact⟨⟨by rw[aho hz hnp,←h1],by omega⟩,(by omega)⟩)
   ·
    obtain⟨x,hx⟩: ∃s,cuts[k-1]? =some s:=⟨_,aQ (by omega)⟩
    obtain⟨pb,hpb⟩: ∃s,marks[k-1]? =some s:=⟨_,aQ (by omega)⟩
    obtain⟨y,hy⟩: ∃s,cuts[k]? =some s:=⟨_,aQ (by omega)⟩
    have hgap:=aBC (cuts:=cuts) (i:=k) (by omega) hx hy
    refine eqF 23 (.d (vI (cuts.length:Nat))) rfl (by rw[hmc]<;>rfl) ?_
    refine gx (fu:=⟨10⟩) rfl<|knT rfl (by show some (decide _)=some true;rw[decide_eq_true (by omega)]) rfl<|ix (fu:=⟨11⟩) _ rfl (afV (by omega) hx) rfl<|?_
    refine eqF 36 (.d (vI (cuts.length:Nat))) rfl (by rw[hmc]<;>rfl) ?_
    refine gx (fu:=⟨0⟩) rfl<|knT rfl (by show some (decide _)=some true;rw[decide_eq_true (by omega)]) rfl<|ix (fu:=⟨10⟩) _ rfl (aaq hy) rfl<|?_
    refine eqF 44 (.d (vI (xs.length:Nat))) rfl (by rw[hml]<;>rfl) ?_
    refine gx (fu:=⟨6⟩) rfl<|knT rfl (by show some (decide _)=some true;rw[decide_eq_true (by omega)]) rfl<|ix _ rfl (afV (by omega) hpb) rfl<|?_
    refine csb (fu1:=⟨1⟩) (fu2:=⟨11⟩) 54 J J J (fun hg54=>?_) (fun hg54=>?_)
    ·
     have hpb':marks[k-1]? =some true:=by rw[hpb];congr 1
     have hxn:0<xs.length:=by rw[h1];have:=aqm (cuts:=cuts) hpb';rw[show k-1+1=k by omega] at this;exact mQ.2 this
     obtain⟨w,hw⟩: ∃s,xs[xs.length-1]? =some s:=⟨_,aQ (by omega)⟩
     refine knT rfl (by show some (decide _)=some true;rw[decide_eq_true (by omega)]) rfl<|sb (eV w) ((xs.set (xs.length-1) (⟨w.lo,y,w.nl,w.nh⟩:IvQ)).map eV) rfl (afV hxn hw) rfl (by rw[show(((xs.length:Nat):Int)-1).toNat=xs.length-1 by omega,kQ];rfl) rfl<|?_
     refine sb (hv:=by simp only[aaj];exact⟨by kernel_rfl,by omega⟩) (eV (⟨w.lo,y,w.nl,w.nh⟩:IvQ)) ((xs.set (xs.length-1) (amA w (adX cuts k))).map eV) rfl (by rw[show(((xs.length:Nat):Int)-1).toNat=xs.length-1 by omega,kQ,mX (by rw[hml];omega)]) rfl (by rw[show(((xs.length:Nat):Int)-1).toNat=xs.length-1 by omega,kQ,List.set_set,kQ,hgap];unfold amA;dsimp only;rw[avR (k:=k) (n:=cuts.length)]<;>rfl) rfl<|?_
     exact at_ (xs.set (xs.length-1) (amA w (adX cuts k)),k+1) (by dsimp only;exact⟨⟨(akn (by omega) hz hpb' h1.symm hw).symm,by omega⟩,(by omega)⟩)
    ·
     have hnp: ¬(0<k∧marks[k-1]? =some true):=fun e=>by rw[hpb,hg54] at e;simpa using e.2
     refine eqF 73 (.d (eV (adX cuts k))) rfl (by rw[hgap];unfold eV;dsimp only;rw[avR (k:=k) (n:=0),avR (k:=k) (n:=cuts.length)]<;>rfl) ?_
     refine gx rfl<|rf J J<|ap (fu:=⟨12⟩) ((xs++[adX cuts k]).map eV) rfl (by rw[bV];rfl) (ar2 [adX cuts k]) rfl<|?_
     refine rnE 75 5 rfl ?_
     exact at_ (xs++[adX cuts k],k+1) (by dsimp only;exact⟨⟨by rw[aho hz hnp,←h1],by omega⟩,(by omega)⟩)
   ·
    obtain⟨x,hx⟩: ∃s,cuts[k-1]? =some s:=⟨_,aQ (by omega)⟩
    obtain⟨pb,hpb⟩: ∃s,marks[k-1]? =some s:=⟨_,aQ (by omega)⟩
    have hgap:=aAU (cuts:=cuts) (i:=k) (by omega) hx c2
    refine eqF 23 (.d (vI (cuts.length:Nat))) rfl (by rw[hmc]<;>rfl) ?_
    refine gx (fu:=⟨10⟩) rfl<|knT rfl (by show some (decide _)=some true;rw[decide_eq_true (by omega)]) rfl<|ix (fu:=⟨11⟩) _ rfl (afV (by omega) hx) rfl<|?_
    refine eqF 36 (.d (vI (cuts.length:Nat))) rfl (by rw[hmc]<;>rfl) ?_
    refine gx (fu:=⟨0⟩) rfl<|knF (fu:=⟨10⟩) rfl (by show some (decide _)=some false;rw[decide_eq_false (by omega)]) rfl<|?_
    refine eqF 44 (.d (vI (xs.length:Nat))) rfl (by rw[hml]<;>rfl) ?_
    refine gx (fu:=⟨6⟩) rfl<|knT rfl (by show some (decide _)=some true;rw[decide_eq_true (by omega)]) rfl<|ix _ rfl (afV (by omega) hpb) rfl<|?_
    refine csb (fu1:=⟨1⟩) (fu2:=⟨11⟩) 54 J J J (fun hg54=>?_) (fun hg54=>?_)
    ·
     have hpb':marks[k-1]? =some true:=by rw[hpb];congr 1
     have hxn:0<xs.length:=by rw[h1];have:=aqm (cuts:=cuts) hpb';rw[show k-1+1=k by omega] at this;exact mQ.2 this
     obtain⟨w,hw⟩: ∃s,xs[xs.length-1]? =some s:=⟨_,aQ (by omega)⟩
     refine knT rfl (by show some (decide _)=some true;rw[decide_eq_true (by omega)]) rfl<|sb (eV w) ((xs.set (xs.length-1) (⟨w.lo,0,w.nl,w.nh⟩:IvQ)).map eV) rfl (afV hxn hw) rfl (by rw[show(((xs.length:Nat):Int)-1).toNat=xs.length-1 by omega,kQ,aEu];rfl) rfl<|?_
     refine sb (hv:=by simp only[aaj];exact⟨by kernel_rfl,by omega⟩) (eV (⟨w.lo,0,w.nl,w.nh⟩:IvQ)) ((xs.set (xs.length-1) (amA w (adX cuts k))).map eV) rfl (by rw[show(((xs.length:Nat):Int)-1).toNat=xs.length-1 by omega,kQ,mX (by rw[hml];omega)]) rfl (by rw[show(((xs.length:Nat):Int)-1).toNat=xs.length-1 by omega,kQ,List.set_set,kQ,hgap];unfold amA;dsimp only;rw[avR (k:=k) (n:=cuts.length)]<;>rfl) rfl<|?_
     exact at_ (xs.set (xs.length-1) (amA w (adX cuts k)),k+1) (by dsimp only;exact⟨⟨(akn (by omega) hz hpb' h1.symm hw).symm,by omega⟩,(by omega)⟩)
    ·
     have hnp: ¬(0<k∧marks[k-1]? =some true):=fun e=>by rw[hpb,hg54] at e;simpa using e.2
     refine eqF 73 (.d (eV (adX cuts k))) rfl (by rw[hgap,aEu,avR (k:=k) (n:=0),avR (k:=k) (n:=cuts.length)]<;>rfl) ?_
     refine gx rfl<|rf J J<|ap ((xs++[adX cuts k]).map eV) rfl (by rw[bV];rfl) (ar2 [adX cuts k]) rfl<|?_
     refine rnE 75 5 rfl ?_
     exact at_ (xs++[adX cuts k],k+1) (by dsimp only;exact⟨⟨by rw[aho hz hnp,←h1],by omega⟩,(by omega)⟩)
 ·
  have hfin:anV cuts marks=xs:=by rw[h1,anV,show k=marks.length by omega]
  refine fzE 5 rfl ?_
  exact rz rfl (by rw[hfin];rfl)
theorem aqd{g:Rat}: ∀{l:List Rat},g∈adV l→ ∃a∈l,∃b∈l,g=(a+b)/2
 |[],h=>by cases h
 |[_],h=>by cases h
 |a::b::t,h=>by
  rw[adV] at h
  rcases aU.1 h with rfl|h
  ·exact⟨a,aZ,b,aJ _ aZ,rfl⟩
  ·obtain⟨c,hc,d,hd,e⟩:=aqd h
   exact⟨c,aJ _ hc,d,aJ _ hd,e⟩
theorem aAw{l:List Rat}(h: ∀q∈l,BQ q 1200): ∀g∈acd l,BQ g 2500:=fun g hg=>by
 cases l with
 |nil=>
  rw[acd,aY] at hg;subst hg
  exact BQ.mono (k:=1) ⟨by decide,by decide⟩ (by decide)
 |cons a t=>
  rw[acd] at hg
  rcases aU.1 hg with rfl|hg
  ·haveI:=h a aZ
   exact BQ.mono (inferInstance:BQ (a-1) _) (by omega)
  ·rcases bZ.1 hg with hg|hg
   ·obtain⟨c,hc,d,hd,rfl⟩:=aqd hg
    haveI:=h c hc
    haveI:=h d hd
    exact BQ.mono (inferInstance:BQ ((c+d)/2) _) (by omega)
   ·rw[aY] at hg
    haveI:=h _ (List.getLast_mem (l:=a::t) (by simp))
    subst hg
    exact BQ.mono (inferInstance:BQ ((a::t).getLast (by simp)+1) _) (by omega)
theorem aky(l:List IvQ):ajV l l.length=adh l:=by unfold ajV;rw[fY]
theorem axs{l:List IvQ}(h: ∀v∈l,IvB v): ∀y∈adh l,BQ y 1200:=by rw[←aky];exact aqi h
theorem aja(l:List IvQ):(adh l).length≤2*l.length:=by rw[←aky];exact agB l _
theorem IvB.app{a b:List IvQ}(ha: ∀v∈a,IvB v)(hb: ∀v∈b,IvB v): ∀v∈a++b,IvB v:=fun v hv=>(bZ.1 hv).elim (ha v) (hb v)
theorem an6{a b:List IvQ}(ha: ∀v∈a,IvB v)(hb: ∀v∈b,IvB v)(hna:a.length≤100)(hnb:b.length≤100):PF GB prog 239 [vI 2, .sl (a.map eV), .sl (b.map eV)] (.sl ((ahv 2 a b).map eV)):=by
 obtain⟨cuts,hcu⟩: ∃c,c=adh (a++b):=⟨_,rfl⟩
 have hab:=IvB.app ha hb
 have hcb: ∀q∈cuts,BQ q 1200:=by rw[hcu];exact axs hab
 have hcl:cuts.length≤2*(a.length+b.length):=by rw[hcu];have:=aja (a++b);rw[aV] at this;exact this
 have hgb:=aAw hcb
 have hgl:=afv (l:=cuts)
 have hmp:=aaG eQ (acd cuts)
 refine fn func239 J J ntmps239 J J (fun C=>?_)
 refine ro0 J J<|ap (a.map eV) J J (ar2 _) rfl<|apf ((a++b).map eV) rfl (by rw[bV]) (ar2 b) rfl<|cl (fu:=⟨0⟩) rfl (aFc (l:=a++b) hab (by rw[aV];omega)) rfl<|?_
 refine eqF 19 (.d (.sl (cuts.map eQ))) rfl (by rw[hcu]) ?_
 refine gx rfl<|cl (fu:=⟨1⟩) rfl (axW (cuts:=cuts) hcb (by omega)) rfl<|?_
 refine eqF 22 (.d (vI ((cuts.length+1:Nat):Int))) rfl (by rw[hmp,hgl]<;>rfl) ?_
 refine gx rfl<|?_
 refine nr 8 8 4 1 J J J ?_
 refine lp (X:=Nat) (fun k=>[(23, .d (vI (k:Nat))),(8, .rw 8)]) (fun k=>[(8,some (.b 4 1 ((((acd cuts).map (fun t=>agw 2 (acn a t) (acn b t))).take k).map vB) true))]) (fun k=>k≤cuts.length+1) (fun k=>cuts.length+1-k) 0 rfl (bX _) (fun _=>rfl) (fun k hk=>?_)
 have hml:(((((acd cuts).map (fun t=>agw 2 (acn a t) (acn b t))).take k).map vB)).length=k:=by rw[aK,cJ,aK,hgl];omega
 refine br (fu2:=⟨0⟩) J J J (fun hc24=>?_) (fun hc24=>?_)
 ·
  obtain⟨t,hz⟩: ∃s,(acd cuts)[k]? =some s:=⟨_,aQ (by omega)⟩
  haveI:=hgb t (aS hz)
  have hz2:((acd cuts).map (fun t=>agw 2 (acn a t) (acn b t)))[k]? =some (agw 2 (acn a t) (acn b t)):=by rw[cV,hz];rfl
  refine ix _ rfl (aaq hz) rfl<|cl rfl (aDE (l:=a) (t:=t) ha (by omega)) rfl<|cl (fu:=⟨6⟩) rfl (aDE (l:=b) (t:=t) hb (by omega)) rfl<|?_
  cases hx:acn a t
  ·
   refine knF (fu:=⟨15⟩) J J J<|knT (fu:=⟨5⟩) J J J<|knF J J J<|rf J J<|ap (fu:=⟨8⟩) ((((acd cuts).map (fun t=>agw 2 (acn a t) (acn b t))).take (k+1)).map vB) rfl (by rw[←abt hz2,hx];rfl) (aDY [false]) rfl<|?_
   refine rnE 59 8 rfl ?_
   exact at_ (k+1) ⟨(by omega),(by omega)⟩
  ·
   refine knT (fu:=⟨15⟩) J J J<|knT (fu:=⟨5⟩) J J J<|knT J J J<|rf J J<|ap ((((acd cuts).map (fun t=>agw 2 (acn a t) (acn b t))).take (k+1)).map vB) rfl (by rw[←abt hz2,hx];rfl) (aDY [_]) rfl<|?_
   refine rnE 59 8 rfl ?_
   exact at_ (k+1) ⟨(by omega),(by omega)⟩
 ·
  obtain rfl:k=cuts.length+1:=by omega
  have htk:((acd cuts).map (fun t=>agw 2 (acn a t) (acn b t))).take (cuts.length+1)=(acd cuts).map (fun t=>agw 2 (acn a t) (acn b t)):=aR (by rw[aK,hgl];exact aM _)
  rw[htk]
  refine fzC 8 rfl ?_
  refine gx rfl<|cl rfl (aEV (cuts:=cuts) (marks:=(acd cuts).map (fun t=>agw 2 (acn a t) (acn b t))) (by omega) (by rw[aK,hgl];exact aM _)) rfl<|?_
  exact rz rfl (by unfold ahv;rw[←hcu];rfl)
section
variable {GB:Gh} {C:Ctx} {n:Nat} {Q0:Exit→Act→World→Prop} {fr fr':FrX} {own own':OwX} {cf cf':Cf} {vc:List Prop}
theorem aFd{lk:LK}{bk:BM}{dst:Option Nat}{t ty':TypeId}{pos:String}{af:Array Edge}{gd:Option (Nat×Bool)}{x y:Operand}{e len s nm off:Nat}{k:IntKind}{i:Nat}(hu:prog.underlying t=some (.array len e))(hs:(prog.info? e).map (·.size)=some s)
  (e1:evX lk x=some (.ov nm off))(e2:evX lk y=some (.d (.v (.int k (i:Nat)))))(hi:i<len):OpR prog GB C n lk bk ⟨dst, .indexAddr t x y,ty',pos,af,gd⟩ (.ov nm (off+i*s)) [] []:= .yd fun ρ G ov a w r=>by
 obtain⟨p,h1,h2⟩:=r.ev e1
 obtain⟨q,h3,h4⟩:=r.ev e2
 rw[aaw] at h4;subst h4
 obtain⟨b,hb,rfl⟩:=h2
 refine⟨_,⟨b,hb,rfl⟩,?_⟩
 obtain⟨j,hj,hjs⟩: ∃j,prog.info? e=some j∧j.size=s:=by
  cases h:prog.info? e with
  |none=>rw[h] at hs;cases hs
  |some j=>rw[h] at hs;exact⟨j,rfl,by simpa using hs⟩
 intro a' w' hf hh
 simp only[execOp,aad hf h1,aad hf h3]
 have:(Instr.indexAt t (.pointer (some ⟨b,off,none⟩)) (.int k (i:Nat))).run prog w'= .ok (.pointer (some ⟨b,off+i*s,none⟩)) w':=by
  unfold Instr.indexAt
  show(underlying t>>=_).run prog w'=_
  rw[aaa (aei hu w')]
  show(underlying t>>=_).run prog w'=_
  rw[aaa (aei hu w')]
  have h0:0≤((i:Nat):Int):=Int.natCast_nonneg i
  have h1:((i:Nat):Int)<((len:Nat):Int):=by omega
  simp only[h0,h1,and_self,if_true]
  show(sizeOf e>>=_).run prog w'=_
  rw[aaa (agN hj w'),acx,hjs,bK]
  rfl
 exact aap this
def aHe(fr:FrX)(cf:Cf):Option (TypeId×Nat×Nat×Int):=match opC fr cf with
 |some ⟨_, .indexAddr t x y,_,_,_,_⟩=>match evX (lkC fr cf) x with
  |some (.ov nm off)=>match evX (lkC fr cf) y with
   |some (.d (.v (.int _ i)))=>some (t,nm,off,i)
   |_=>none
  |_=>none
 |_=>none
theorem ixa[fu:Fu](i:Nat){t nm off e len s:Nat}(h:aHe fr cf=some (t,nm,off,((i:Nat):Int)))(hu:prog.underlying t=some (.array len e))(hs:(prog.info? e).map (·.size)=some s)(hi:i<len)
  (hgo:goA tt n fu.n fr own cf (.ov nm (off+i*s)) [] []=⟨vc,fr',own',cf'⟩)(k:CfS prog GB C n Q0 fr' own' cf')
  (hv:aaj vc:=by first|exact trivial|(simp only[aaj];kernel_rfl)|(simp only[aaj];omega)):CfS prog GB C n Q0 fr own cf:=by
 unfold aHe at h
 split at h<;>try (cases h;done)
 rename_i hh
 split at h<;>try (cases h;done)
 rename_i hx
 split at h<;>cases h
 rename_i hy
 exact us hh (aFd hu hs hx hy hi) hgo hv k
theorem aE1{lk:LK}{bk:BM}{d s:Nat}{e t ty':TypeId}{pos:String}{af:Array Edge}{gd:Option (Nat×Bool)}{ps:List (Nat×Operand)}{fo:List (Nat×Nat×Nat)}{i:TI}{z zx:List FX}{k:Nat}{pre post:List DV}(hi:afC prog t=some i)(hk:i.k= .st fo)(hz:i.z=some z)
  (hb:aye lk fo z ps=some zx)(h0:zx[k]? =some .nl)(h1:aej (zx.take k)=some pre)(h2:aej (zx.drop (k+1))=some post):OpR prog GB C n lk bk ⟨some d, .build t ⟨ps⟩,ty',pos,af,gd⟩ (.bx false pre d post) [(d,some (.b e s [] true))] [d]:=by
 intro hd tl tb K' s1 s2 hf hk'
 refine⟨fun ρ G ov a w r Q=>?_⟩
 obtain⟨v,hv,hv'⟩:=alQ hi hz
 have:=ayH hi hk
 have hsp:zx=zx.take k++ .nl::zx.drop (k+1):=by
  obtain⟨hk1,hk2⟩:=aL.1 h0
  conv=>lhs;rw[←jK k zx,bQ hk1,hk2]
 obtain⟨l,h1',h2'⟩:=alS (r.mono s1 s2) (fo:=fo) ps _ _ _ hb (hv' ρ G)
 rw[hsp] at h2'
 obtain⟨m1,m2',rfl,k1,y,m2,rfl,k2,k3⟩:=akz h2'
 cases (show y= .slice none 0 0 from k2)
 have hy:Yd prog C (frA a) ov G ⟨some d, .build t ⟨ps⟩,ty',pos,af,gd⟩ (.agg ⟨m1++Value.slice none 0 0::m2⟩):=ald h1'
 have r3:=r.new' (x:=⟨none,0,0⟩) (B':= .b e s [] true) (os:=[]) (ov':=ov) (f:= .bx false pre d post) (y:= .agg ⟨m1++Value.slice none 0 0::m2⟩) hf (GLe.refl G) r.h
  ⟨[],by simp only[if_true];exact .inl ⟨rfl,rfl,rfl⟩, .nil,by simp,fun _ o ho=>by cases ho⟩ (fun o ho=>by cases ho) (fun m B _ _ o ho _=>⟨ho,by simp⟩)
  ⟨m1,m2,by simp,ac8 k1 h1,ac8 k3 h2⟩ (r.putA _ hd)
 exact abl (hy a w (aaN a) r.h) (hk'.run _ G ov _ w r3)
def aHb(fr:FrX)(cf:Cf):Option (Nat×List FX):=match opC fr cf with
 |some ⟨some d, .build t ⟨ps⟩,_,_,_,_⟩=>match abi tt t with
  |some ⟨.st fo,_,some zx,_⟩=>match aye (lkC fr cf) fo zx ps with
   |some l=>some (d,l)
   |none=>none
  |_=>none
 |_=>none
theorem bzp[fu:Fu]{d:Nat}{zx:List FX}(e s kk:Nat)(pre post:List DV)(h:aHb fr cf=some (d,zx))(h0:zx[kk]? =some .nl)(h1:aej (zx.take kk)=some pre)(h2:aej (zx.drop (kk+1))=some post)(hgo:goA tt n fu.n fr own cf (.bx false pre d post) [(d,some (.b e s [] true))] [d]=⟨vc,fr',own',cf'⟩)(k:CfS prog GB C n Q0 fr' own' cf')
  (hv:aaj vc:=by first|exact trivial|(simp only[aaj];kernel_rfl)|(simp only[aaj];omega)):CfS prog GB C n Q0 fr own cf:=by
 unfold aHb at h
 split at h<;>try (cases h;done)
 rename_i hh
 split at h<;>try (cases h;done)
 rename_i hT
 split at h<;>cases h
 rename_i hb
 exact us hh (aE1 (abM _ _ hT) J J hb h0 h1 h2) hgo hv k
end
def sp1(f:FrQ)(m:LnQ)(k:Nat):List FrQ:=if k=0 then [] else aaZ f m 1
def sp2(f:FrQ)(m:LnQ)(k:Nat):List FrQ:=if k≤1 then [] else aaZ f m (-1)
theorem apG{l m:LnQ}(hl:LB l)(hm:LB m)(hlo:l.ok){side:Int}: ∀v∈adO l m side,IvB v:=fun v hv=>⟨(aoG hl hm hlo v hv).2.1,(aoG hl hm hlo v hv).2.2⟩
theorem agG{l m:LnQ}{side:Int}:(adO l m side).length≤1:=by
 unfold adO;split
 ·split<;>simp
 ·split<;>simp
theorem aqE(op:Int)(a b:List IvQ):(ahv op a b).length≤2*(a.length+b.length)+1:=by
 unfold ahv anV
 refine cR ajv ?_
 rw[aK,afv]
 have:=aja (a++b);rw[aV] at this;omega
theorem aBS{f:FrQ}{m:LnQ}(h:FOk f)[hm:LB m](hmo:m.ok):PF GB prog 177 [eFF f,eL m] (.tp [.sl ((aaZ f m 1).map eFF), .sl ((aaZ f m (-1)).map eFF)]):=by
 haveI:=h.lb
 refine fn func177 J J ntmps177 J J (fun C=>?_)
 refine rf (fu:=⟨1⟩) J J<|?_
 refine eqF 14 (.d (vI (2:Nat))) J J ?_
 refine gx rfl<|?_
 refine nro 6 0 60 225 14 J J J J J ?_
 refine nro 6 1 61 225 14 J J J J J ?_
 refine lp (X:=Nat) (fun k=>[(15, .d (vI (k:Nat))),(6, .ov 6 0)]) (fun k=>[(6,some (.o 347 [.rw 60, .rw 61] true)),(60,some (.b 225 14 ((sp1 f m k).map eFF) true)),(61,some (.b 225 14 ((sp2 f m k).map eFF) true))]) (fun k=>k≤2) (fun k=>2-k) 0 rfl (by omega) (fun _=>rfl) (fun k hk=>?_)
 refine br J J J (fun hc16=>?_) (fun hc16=>?_)
 ·
  rcases(show k=0∨k=1 by omega) with rfl|rfl
  ·
   refine ix _ J J J<|cl (fu:=⟨0⟩) rfl (asu (l:=f.l) (m:=m) (side:=1) h.ok hmo (.inl rfl)) rfl<|?_
   obtain⟨cs,hcs⟩: ∃c,c=ahv 2 [f.v] (adO f.l m 1):=⟨_,rfl⟩
   have hcl:cs.length≤5:=by rw[hcs];have h1:=aqE 2 [f.v] (adO f.l m 1);have h2:=agG (l:=f.l) (m:=m) (side:=1);simp only[gQ] at h1;omega
   refine eqF 25 (.d (.tp [.sl ((adO f.l m 1).map eV),vB (onB f.l m)])) J J ?_
   refine gx rfl<|?_
   refine bb J J J (fun hc28=>?_) (fun hc28=>?_)
   ·
    have hon:onB f.l m=true:=hc28
    exact rz rfl (by first|(unfold aaZ;rw[if_pos hon,if_pos hon];rfl)|rfl)
   ·
    have hon:onB f.l m=false:=by simpa using hc28
    refine rf J J<|cl (fu:=⟨0⟩) rfl (an6 (a:=[f.v]) (b:=adO f.l m 1) (fun v hv=>by rw[aY] at hv;subst hv;exact⟨h.lo,h.hi⟩) (apG h.lb hm h.ok) (by show 1≤100;decide) (by have:=agG (l:=f.l) (m:=m) (side:=1);omega)) rfl<|?_
    refine eqF 33 (.d (.sl (cs.map eV))) rfl (by rw[hcs]) ?_
    refine gx (fu:=⟨1⟩) rfl<|?_
    refine eqF 34 (.d (vI (cs.length:Nat))) rfl (by rw[aaG eV cs]<;>rfl) ?_
    refine gx rfl<|?_
    refine lp (X:=Nat) (fun j=>[(35, .d (vI (j:Nat)))]) (fun j=>[(60,some (.b 225 14 (((cs.take j).map fun v=>(⟨f.l,v⟩:FrQ)).map eFF) true))]) (fun j=>j≤cs.length) (fun j=>cs.length-j) 0 rfl (bX _) (fun _=>rfl) (fun j hk=>?_)
    have hml:(((cs.take j).map fun v=>(⟨f.l,v⟩:FrQ)).map eFF).length≤j:=by rw[aK,aK,cJ];omega
    refine br J J J (fun hc36=>?_) (fun hc36=>?_)
    ·
     obtain⟨z,hz⟩: ∃s,cs[j]? =some s:=⟨_,aQ (by omega)⟩
     refine ix _ rfl (aaq hz) rfl<|ixa 0 (e:=218) (len:=2) (s:=1) rfl (by kernel_rfl) (by kernel_rfl) (by decide) rfl<|rf J J<|?_
     refine ap (((cs.take (j+1)).map fun v=>(⟨f.l,v⟩:FrQ)).map eFF) rfl (by rw[←abt hz,bV];rfl) (akm [⟨f.l,z⟩]) rfl<|ixa (hv:=by simp only[aaj];exact⟨by kernel_rfl,by omega⟩) 0 (e:=218) (len:=2) (s:=1) rfl (by kernel_rfl) (by kernel_rfl) (by decide) rfl<|?_
     refine rnE 48 60 rfl ?_
     exact at_ (j+1) ⟨(by omega),(by omega)⟩
    ·
     obtain rfl:j=cs.length:=by omega
     rw[show(cs.take cs.length).map (fun v=>(⟨f.l,v⟩:FrQ))=aaZ f m 1 from by rw[fY];unfold aaZ;rw[if_neg (by rw[hon];decide),←hcs]]
     exact at_ (0+1) ⟨(by omega),(by omega)⟩
  ·
   refine ix _ J J J<|cl (fu:=⟨0⟩) rfl (asu (l:=f.l) (m:=m) (side:= -1) h.ok hmo (.inr rfl)) rfl<|?_
   obtain⟨cs,hcs⟩: ∃c,c=ahv 2 [f.v] (adO f.l m (-1)):=⟨_,rfl⟩
   have hcl:cs.length≤5:=by rw[hcs];have h1:=aqE 2 [f.v] (adO f.l m (-1));have h2:=agG (l:=f.l) (m:=m) (side:=(-1));simp only[gQ] at h1;omega
   refine eqF 25 (.d (.tp [.sl ((adO f.l m (-1)).map eV),vB (onB f.l m)])) J J ?_
   refine gx rfl<|?_
   refine bb J J J (fun hc28=>?_) (fun hc28=>?_)
   ·
    have hon:onB f.l m=true:=hc28
    exact rz rfl (by first|(unfold aaZ;rw[if_pos hon,if_pos hon];rfl)|rfl)
   ·
    have hon:onB f.l m=false:=by simpa using hc28
    refine rf J J<|cl (fu:=⟨0⟩) rfl (an6 (a:=[f.v]) (b:=adO f.l m (-1)) (fun v hv=>by rw[aY] at hv;subst hv;exact⟨h.lo,h.hi⟩) (apG h.lb hm h.ok) (by show 1≤100;decide) (by have:=agG (l:=f.l) (m:=m) (side:=(-1));omega)) rfl<|?_
    refine eqF 33 (.d (.sl (cs.map eV))) rfl (by rw[hcs]) ?_
    refine gx (fu:=⟨1⟩) rfl<|?_
    refine eqF 34 (.d (vI (cs.length:Nat))) rfl (by rw[aaG eV cs]<;>rfl) ?_
    refine gx rfl<|?_
    refine lp (X:=Nat) (fun j=>[(35, .d (vI (j:Nat)))]) (fun j=>[(61,some (.b 225 14 (((cs.take j).map fun v=>(⟨f.l,v⟩:FrQ)).map eFF) true))]) (fun j=>j≤cs.length) (fun j=>cs.length-j) 0 rfl (bX _) (fun _=>rfl) (fun j hk=>?_)
    have hml:(((cs.take j).map fun v=>(⟨f.l,v⟩:FrQ)).map eFF).length≤j:=by rw[aK,aK,cJ];omega
    refine br J J J (fun hc36=>?_) (fun hc36=>?_)
    ·
     obtain⟨z,hz⟩: ∃s,cs[j]? =some s:=⟨_,aQ (by omega)⟩
     refine ix _ rfl (aaq hz) rfl<|ixa 1 (e:=218) (len:=2) (s:=1) rfl (by kernel_rfl) (by kernel_rfl) (by decide) rfl<|rf J J<|?_
     refine ap (((cs.take (j+1)).map fun v=>(⟨f.l,v⟩:FrQ)).map eFF) rfl (by rw[←abt hz,bV];rfl) (akm [⟨f.l,z⟩]) rfl<|ixa (hv:=by simp only[aaj];exact⟨by kernel_rfl,by omega⟩) 1 (e:=218) (len:=2) (s:=1) rfl (by kernel_rfl) (by kernel_rfl) (by decide) rfl<|?_
     refine rnE 48 61 rfl ?_
     exact at_ (j+1) ⟨(by omega),(by omega)⟩
    ·
     obtain rfl:j=cs.length:=by omega
     rw[show(cs.take cs.length).map (fun v=>(⟨f.l,v⟩:FrQ))=aaZ f m (-1) from by rw[fY];unfold aaZ;rw[if_neg (by rw[hon];decide),←hcs]]
     exact at_ (1+1) ⟨(by omega),(by omega)⟩
 ·
  obtain rfl:k=2:=by omega
  refine ixa 0 (e:=218) (len:=2) (s:=1) rfl (by kernel_rfl) (by kernel_rfl) (by decide) rfl<|ixa 1 (e:=218) (len:=2) (s:=1) rfl (by kernel_rfl) (by kernel_rfl) (by decide) rfl<|?_
  refine fzE 60 rfl ?_
  refine fzE 61 rfl ?_
  exact rz rfl (by first|(unfold aaZ;rw[if_pos hon,if_pos hon];rfl)|rfl)
end Go.Sx
end
