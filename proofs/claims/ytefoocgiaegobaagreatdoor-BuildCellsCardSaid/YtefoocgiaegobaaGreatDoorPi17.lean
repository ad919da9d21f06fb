import Derived.Test.YtefoocgiaegobaaGreatDoorPi16
set_option linter.all false
set_option maxHeartbeats 1000000
set_option maxRecDepth 100000
section
namespace Go.Sx
open Go Go.Proofs Tryz
variable {GB:Gh}
def Ri(v:ab):Nat:=Nat.gcd (v.x.num.natAbs*v.y.den) (v.y.num.natAbs*v.x.den)
def P3(n:Int)(d g:Nat):Int:=if n<0 then-((n.natAbs*d/g:Nat):Int) else((n.natAbs*d/g:Nat):Int)
def Jm(v:ab):ab:=if v.half=0 then⟨0,0⟩ else⟨(P3 v.x.num v.y.den (Ri v):Int),(P3 v.y.num v.x.den (Ri v):Int)⟩
def aKi(ds:List ab)(i:Nat):List ab:=
 if ck (ds.getD i ⟨0,0⟩) (ds.getD ((i+1)%ds.length) ⟨0,0⟩)=0/\2<ds.length then []
 else if Int.sign ((ds.getD i ⟨0,0⟩).cross (ds.getD ((i+1)%ds.length) ⟨0,0⟩)).num=0 then [jC (ds.getD i ⟨0,0⟩)]
 else [ce (Jm (ds.getD i ⟨0,0⟩)) (Jm (ds.getD ((i+1)%ds.length) ⟨0,0⟩)) 1]
def SB(ds:List ab):List ab:=if ds.length=0 then [⟨1,0⟩] else(List.range ds.length).flatMap (aKi ds)
def Rg(L:List aa)(p:ab):List ab:=SB (Xp (Zd L p))
def CO{ds:List ab}{i:Nat}(h:i<ds.length):ds.getD i ⟨0,0⟩=ds[i]:=by
 rw[aK,aX h,jS]
def Y2(t:Tr)(p:ab):Bool:=(Rg (zj t.lns) p).any fun v=>(fe t p v).1
def XN(t:Tr)(p:ab):Bool:=(Rg (zj t.lns) p).all fun v=>(fe t p v).1
def qG{z:Rat}(h:z<0):Int.sign z.num= -1:=by
 have:=(ld _).2 h;rcases mW z.num 0 with q|q|q
 ·exact fQ q
 ·rw[q] at this;simp at this
 ·rw[fR q] at this;simp at this
def lm:Tr->ab->List aa
 | .leaf _,_=>[]
 | .node l x y,p=>(if Int.sign (l.value p).num=0 then [l] else [])++((if 0<=Int.sign (l.value p).num then lm x p else [])++(if Int.sign (l.value p).num<=0 then lm y p else []))
def ol: ∀{t:Tr} {p:ab} {l:aa},l∈lm t p->l∈t.lns/\l.value p=0
 | .leaf _,p,l,h=>by cases h
 | .node m x y,p,l,h=>by
  rw[lm,bV,bV] at h;rcases h with h|h|h
  ·split at h
   ·rw[aW] at h;subst h
    rename_i k;exact⟨aQ,(jj _).1 k⟩
   ·cases h
  ·split at h
   ·have:=ol h;exact⟨aZ _ (bK _ this.1),this.2⟩
   ·cases h
  ·split at h
   ·have:=ol h;exact⟨aZ _ (bM _ this.1),this.2⟩
   ·cases h
def aFA{t:Tr}{p v:ab}(h:Gn t.lns p v):Gn (lm t p) p v:=fun l hl hz=>h l (ol hl).1 hz
def zr: ∀{t:Tr} {p v w:ab},(∀l∈lm t p,Int.sign (l.nor.dot v).num=Int.sign (l.nor.dot w).num)->fe t p v=fe t p w
 | .leaf _,_,_,_,_=>rfl
 | .node l x y,p,v,w,h=>by
  have hx:0<=Int.sign (l.value p).num->fe x p v=fe x p w:=fun k=>zr fun m hm=>h m (by rw[lm,bV,bV,if_pos k];exact .inr (.inl hm));have hy:Int.sign (l.value p).num<=0->fe y p v=fe y p w:=fun k=>zr fun m hm=>h m (by rw[lm,bV,bV,if_pos k];exact .inr (.inr hm));rw[fe,fe,vL,vL];by_cases k:Int.sign (l.value p).num=0
  ·rw[if_pos k,if_pos k,<-h l (by rw[lm,if_pos k];exact aQ),hx (by omega),hy (by omega)]
  ·rw[if_neg k,if_neg k]
   generalize Int.sign (l.value p).num=s at*;split
   ·exact hx (by decide)
   ·exact hy (by decide)
   ·rfl
def Fa{L M:List aa}{p v:ab}(hM: ∀l∈M,l.ok)(hL:Gn L p v): ∃w,Gn M p w/\ ∀l∈L,l.value p=0->Int.sign (l.nor.dot v).num=Int.sign (l.nor.dot w).num:=by
 have e2: ∀l:aa,l.value p=0->l.value (ce p v 1)=l.nor.dot v:=fun l hz=>by rw[iw,hz];grind
 have hp':bw ((L.filter fun l=>decide (l.value p=0)).map fun l=>(⟨if 0<l.value (ce p v 1) then l else l.rev,aj.all⟩:aO)) (ce p v 1):=fun s hs=>by
  obtain⟨l,hl,rfl⟩:=bJ.1 hs;obtain⟨h1,h2⟩:=kS.1 hl;have h3:=of_decide_eq_true h2;have h0:l.value (ce p v 1)≠0:=by rw[e2 l h3];exact hL l h1 h3
  simp only;split
  ·assumption
  ·rw[f7];grind
 obtain⟨q,q1,q2⟩:=DG hp' M hM;have e: ∀l:aa,l.value p=0->l.value q=l.nor.dot ⟨q.x-p.x,q.y-p.y⟩:=fun l hz=>by
  have h1:=iw l p ⟨q.x-p.x,q.y-p.y⟩ 1;rw[hz] at h1;have h2:ce p ⟨q.x-p.x,q.y-p.y⟩ 1=q:=by
   unfold ce
   cases q
   simp only[ab.mk.injEq];constructor<;>grind
  rw[h2] at h1;rw[h1];grind
 refine⟨⟨q.x-p.x,q.y-p.y⟩,fun m hm hz=>?_,fun l hl hz=>?_⟩
 ·rw[<-e m hz];exact q2 m hm
 ·have h1:=q1 _ (bJ.2 ⟨l,kS.2 ⟨hl,decide_eq_true hz⟩,J⟩)
  simp only at h1;rw[e2 l hz] at h1;rw[<-e l hz];have h0:=hL l hl hz;split at h1
  ·rename_i k
   rw[(jh _).2 k,(jh _).2 h1]
  ·rename_i k
   rw[f7] at h1;rw[qG (by grind),qG (by grind)]
def qC(t:Tr)(p:ab)(b:Bool):Prop:= ∃v,Gn (lm t p) p v/\(fe t p v).1=b
def IM{t:Tr}{p w:ab}(h:Gn t.lns p w):qC t p (fe t p w).1:=⟨w,aFA h,J⟩
def aCw{t:Tr}{p:ab}{b:Bool}(h:qC t p b){M:List aa}(hM: ∀l∈M,l.ok): ∃w,Gn M p w/\(fe t p w).1=b:=by
 obtain⟨v,h1,h2⟩:=h;obtain⟨w,k1,k2⟩:=Fa hM h1;exact⟨w,k1,by rw[<-h2,zr fun l hl=>k2 l hl (ol hl).2]⟩
def V0{M:List aa}(hM: ∀l∈M,l.ok)(p:ab): ∃w,Gn M p w:=by
 obtain⟨w,h,_⟩:=Fa (L:=[]) (M:=M) (p:=p) (v:=⟨1,0⟩) hM fun l hl=>by cases hl
 exact⟨w,h⟩
def avU{t:Tr}(ht:t.all aa.ok)(p:ab):qC t p true\/qC t p false:=by
 obtain⟨w,h⟩:=V0 (ri ht) p;have:=IM h
 cases hb:(fe t p w).1 with
 |true=>rw[hb] at this;exact .inl this
 |false=>rw[hb] at this;exact .inr this
def min2{a b:Rat}(ha:0<a)(hb:0<b): ∃d:Rat,0<d/\d<=a/\d<=b:=by
 by_cases k:a<=b
 ·exact⟨a,ha,by grind,k⟩
 ·exact⟨b,hb,by grind,by grind⟩
def OM{t:Tr}{p:ab}{b:Bool}(ht:t.all aa.ok)(h:qC t p b){M:List aa}(hM: ∀l∈M,l.ok){c:aC}(hc:bw c p): ∃q,bw c q/\e8 t.lns q/\e8 M q/\t.val q=b:=by
 obtain⟨w,k1,k2⟩:=aCw h (M:=t.lns++M) fun l hl=>(bV.1 hl).elim (ri ht l) (hM l);obtain⟨e1,a1,b1⟩:=An (t:=t) fun l hl=>k1 l (bK _ hl);obtain⟨e2,a2,b2⟩:=hc.open w;obtain⟨d,c1,c2,c3⟩:=min2 a1 a2;obtain⟨o1,v1⟩:=b1 d c1 c2;obtain⟨q,q1,q2⟩:=DG (c:=c++t.lns.map fun l=>⟨if 0<l.value (ce p w d) then l else l.rev,aj.all⟩) (p:=ce p w d) (fun s hs=>by
  rcases bV.1 hs with hs|hs
  ·exact b2 d (dS c1) c3 s hs
  ·obtain⟨l,hl,rfl⟩:=bJ.1 hs
   have h0:=o1 l hl;simp only;split
   ·assumption
   ·rw[f7];grind) (t.lns++M) fun l hl=>(bV.1 hl).elim (ri ht l) (hM l)
 refine⟨q,fun s hs=>q1 s (bK _ hs),(e8.app.1 q2).1,(e8.app.1 q2).2,?_⟩;rw[show t.val q=t.val (ce p w d) from Gu (L:=t.lns) (fun l hl=>?_) fun l hl=>hl,<-k2,v1];have h1:=q1 _ (bM _ (bJ.2 ⟨l,hl,J⟩));have h0:=o1 l hl;simp only at h1;split at h1
 ·rename_i k;exact⟨fun _=>k,fun _=>h1⟩
 ·rename_i k;rw[f7] at h1;exact⟨fun e=>by grind,fun e=>absurd e k⟩
def oc(ds:List ab)(i:Nat):ab:=
 if 0<Int.sign ((ds.getD i ⟨0,0⟩).cross (ds.getD ((i+1)%ds.length) ⟨0,0⟩)).num then(ds.getD i ⟨0,0⟩).add (ds.getD ((i+1)%ds.length) ⟨0,0⟩) else jC (ds.getD i ⟨0,0⟩)
def je(ds:List ab):List ab:=if ds.length=0 then [⟨1,0⟩] else(List.range ds.length).map (oc ds)
def KS(u w:ab):u.add w=gp 1 1 u w:=by
 unfold ab.add gp;simp only[ab.mk.injEq];constructor<;>grind
def Kv{x:ab}: ∀{S:List ab},S≠[]->(∀d∈S,0<d.cross x)-> ∃u∈S,∀d∈S,0<=d.cross u
 |[],h,_=>absurd J h
 |[d],_,_=>⟨d,aQ,fun e he=>by rw[aW] at he;subst he;rw[My];exact gT⟩
 |d0::d1::S,_,h=>by
  obtain⟨u,h1,h2⟩:=Kv (S:=d1::S) (by simp) fun d hd=>h d (aZ _ hd);by_cases k:0<=d0.cross u
  ·exact⟨u,aZ _ h1,fun d hd=>(aY.1 hd).elim (fun e=>e▸k) (h2 d)⟩
  ·refine⟨d0,aQ,fun d hd=>(aY.1 hd).elim (fun e=>by rw[e,My];exact gT) fun hd=>?_⟩
   have p0:=h d0 aQ;have pu:=h u (aZ _ h1);have pd:=h d (aZ _ hd);have k1:=h2 d hd;have k2:0<u.cross d0:=by rw[gP] at k;grind
   have e:d.cross d0*u.cross x=u.cross d0*d.cross x+d.cross u*d0.cross x:=by unfold ab.cross;grind
   have n1:=b8 k2 pd;have n2:=eO k1 (dS p0);generalize d.cross d0=A at*;generalize u.cross x=B at*;by_cases hA:0<=A
   ·exact hA
   ·have:=b8 (a:= -A) (b:=B) (by grind) pu
    grind
def Sn{ds:List ab}(h:ds.Pairwise cv)(hd:uH ds)(hn:ds≠[]){x:ab}(hx: ∀d∈ds,d.cross x≠0): ∃i,i<ds.length/\ ∀d∈ds,Int.sign (d.cross x).num=Int.sign (d.cross (oc ds i)).num:=by
 have hne:(ds.filter fun d=>decide (0<d.cross x))≠[]:=by
  obtain⟨d,r,rfl⟩:=List.exists_cons_of_ne_nil hn;intro e;have h1: ¬0<d.cross x:=fun k=>by
   have:d∈(d::r).filter fun d=>decide (0<d.cross x):=kS.2 ⟨aQ,decide_eq_true k⟩;rw[e] at this;cases this
  have h2:=hx d aQ;have h3:0<(b7 d).cross x:=by rw[gP,n7,<-gP];grind
  have:b7 d∈(d::r).filter fun d=>decide (0<d.cross x):=kS.2 ⟨hd.neg d aQ,decide_eq_true h3⟩;rw[e] at this;cases this
 obtain⟨u,hu,hl⟩:=Kv hne fun d hd=>of_decide_eq_true (kS.1 hd).2;obtain⟨hu1,hu2⟩:=kS.1 hu;have hux:=of_decide_eq_true hu2;obtain⟨i,hi,rfl⟩:=qK hu1;have hj:(i+1)%ds.length<ds.length:=dX _ (by omega);have hnx:=Pc h hd hi hj;have mw:=cY hj;refine⟨i,hi,?_⟩;have key: ∀d∈ds,0<d.cross x->0<d.cross (oc ds i):=fun d hdm hdx=>by
  have hdu:0<=d.cross ds[i]:=hl d (kS.2 ⟨hdm,decide_eq_true hdx⟩);unfold oc;rw[CO hi,CO hj];generalize ds[(i+1)%ds.length]=w at*;generalize ds[i]=u at*;have hp:=hnx.pos hd hu1 mw;have zd:=hd.nz d hdm;have zu:=hd.nz u hu1;split
  ·rename_i k
   have hc:=(mr _).1 k;rw[KS];have hg:=hnx.gen hd hu1 mw (by grind) (a:=1) (b:=1) (by decide) (by decide) d hdm;have e:d.cross (gp 1 1 u w)=d.cross u+d.cross w:=by unfold ab.cross gp;grind
   rw[e] at hg⊢;by_cases hw:0<=d.cross w
   ·grind
   ·exfalso
    -- -d lies between u and w
    rcases fE (d.cross u) with q|q|q
    ·-- d runs along u
     have hdd:0<d.dot u:=by
      rcases fE (d.dot u) with r|r|r
      ·exact absurd r (Dh zd zu q)
      ·exact r
      ·exfalso
       have q':(b7 d).cross u=0:=by unfold ab.cross b7 at*;grind
       have r':0<(b7 d).dot u:=by unfold ab.dot b7 at*;grind
       obtain⟨g,g1,g2⟩:=tw q' r';have:d.cross x= -(g*u.cross x):=by
        have h1:(b7 d).x=g*u.x:=by rw[g2]
        have h2:(b7 d).y=g*u.y:=by rw[g2]
        unfold b7 at h1 h2;simp only at h1 h2;unfold ab.cross;grind
       have:=b8 g1 hux;grind
     obtain⟨g,g1,g2⟩:=tw q hdd;have:d.cross w=g*u.cross w:=by rw[g2];unfold ab.cross;grind
     have:=b8 g1 hc;grind
    ·have hb:b7 d=gp (-(d.cross w)/u.cross w) (d.cross u/u.cross w) u w:=by
      have hz:u.cross w≠0:=by grind
      have e1: -(d.cross w)/u.cross w*u.cross w= -(d.cross w):=by grind
      have e2:d.cross u/u.cross w*u.cross w=d.cross u:=by grind
      unfold b7 gp;generalize-(d.cross w)/u.cross w=a at*;generalize d.cross u/u.cross w=b at*;simp only[ab.mk.injEq];have f1:(a*u.x+b*w.x+d.x)*u.cross w=0:=by
       have:(a*u.x+b*w.x+d.x)*u.cross w=a*u.cross w*u.x+b*u.cross w*w.x+d.x*u.cross w:=by grind
       rw[this,e1,e2];unfold ab.cross;grind
      have f2:(a*u.y+b*w.y+d.y)*u.cross w=0:=by
       have:(a*u.y+b*w.y+d.y)*u.cross w=a*u.cross w*u.y+b*u.cross w*w.y+d.y*u.cross w:=by grind
       rw[this,e1,e2];unfold ab.cross;grind
      constructor<;>grind
     refine hnx.none hd hu1 mw (by grind) (a:= -(d.cross w)/u.cross w) (b:=d.cross u/u.cross w) ?_ ?_ (by rw[<-hb];exact hd.neg d hdm)
     ·refine(il (k:=u.cross w) hc).1 ?_
      have e1: -(d.cross w)/u.cross w*u.cross w= -(d.cross w):=by grind
      rw[e1];grind
     ·refine(il (k:=u.cross w) hc).1 ?_
      have e1:d.cross u/u.cross w*u.cross w=d.cross u:=by grind
      rw[e1];exact q
    ·grind
  ·rename_i k
   have hc:u.cross w=0:=by have: ¬0<u.cross w:=fun e=>k ((mr _).2 e);grind
   have hg:=hnx.turn hd hu1 mw hc d hdm;rw[Lu] at hg⊢;rcases fE (d.dot u) with r|r|r
   ·exact absurd r hg
   ·exact r
   ·exfalso
    -- all directions run along u
    have hdc:d.cross u=0:=by
     rcases hnx.spec hd hu1 mw with⟨_,h2,_⟩|⟨h1,h2,h3⟩
     ·rw[hc] at h2;exact absurd h2 (by decide)
     ·have zw:=ke (hd.nz w mw)
      have zu':=ke zu;have zd':=ke zd;have hwu: ∃g:Rat,0<g/\w=⟨g*(b7 u).x,g*(b7 u).y⟩:=by
       refine tw (d:=b7 u) (e:=w) (by rw[n7,gP,hc];grind) ?_;rcases fE (w.dot u) with s|s|s
       ·exact absurd s (Dh (hd.nz w mw) zu (by rw[gP,hc];rfl))
       ·exfalso
        obtain⟨g,g1,g2⟩:=tw (d:=u) (e:=w) (by rw[gP,hc];rfl) s;apply h1;rw[g2];rcases kA u with⟨x0,s0⟩|⟨x0,s0⟩|⟨x0,s0⟩
        ·rw[x0]
         refine(tP.2 ?_).symm;rcases s0 with s0|⟨s0,s1⟩
         ·exact .inl (b8 g1 s0)
         ·exact .inr ⟨by show g*u.y=0;rw[s0];grind,b8 g1 s1⟩
        ·rw[x0]
         refine(uk.2 ?_).symm;rcases s0 with s0|⟨s0,s1⟩
         ·exact .inl (by show g*u.y<0;have:=b8 (a:=g) (b:= -u.y) g1 (by grind);grind)
         ·exact .inr ⟨by show g*u.y=0;rw[s0];grind,by show g*u.x<0;have:=b8 (a:=g) (b:= -u.x) g1 (by grind);grind⟩
        ·exact absurd x0 zu
       ·unfold ab.dot b7 at*;grind
      obtain⟨g,g1,g2⟩:=hwu;have cw: ∀e:ab,w.cross e=g* -(u.cross e):=fun e=>by rw[g2];unfold ab.cross b7;grind
      by_cases hh:d.half=u.half
      ·have a1:=h2 d hdm hh
       have a2:=h3 _ (hd.neg d hdm) (by rw[u6 zd];omega);rw[cw,n7,gP d u] at a2;rcases fE (d.cross u) with s|s|s
       ·exact s
       ·have:=b8 g1 s;grind
       ·grind
      ·have a1:=h2 _ (hd.neg d hdm) (by rw[u6 zd];omega)
       have a2:=h3 d hdm (by omega);rw[cw,gP d u] at a2;have e3:(b7 d).cross u= -(d.cross u):=by unfold ab.cross b7;grind
       rw[e3] at a1;rcases fE (d.cross u) with s|s|s
       ·exact s
       ·grind
       ·have:=b8 (a:=g) (b:= -(d.cross u)) g1 (by grind);grind
    have q':(b7 d).cross u=0:=by unfold ab.cross b7 at*;grind
    have r':0<(b7 d).dot u:=by unfold ab.dot b7 at*;grind
    obtain⟨g,g1,g2⟩:=tw q' r';have:d.cross x= -(g*u.cross x):=by
     have h1:(b7 d).x=g*u.x:=by rw[g2]
     have h2:(b7 d).y=g*u.y:=by rw[g2]
     unfold b7 at h1 h2;simp only at h1 h2;unfold ab.cross;grind
    have:=b8 g1 hux;grind
 intro d hdm;rcases fE (d.cross x) with k|k|k
 ·exact absurd k (hx d hdm)
 ·rw[(jh _).2 k,(jh _).2 (key d hdm k)]
 ·have en: ∀y:ab,(b7 d).cross y= -(d.cross y):=fun y=>by unfold ab.cross b7;grind
  have:=key _ (hd.neg d hdm) (by rw[en];grind);rw[en] at this;rw[qG k,qG (by grind)]
def dE(v:ab):ab:=v.scale (rgcd v.x v.y)⁻¹
def dO(t:Tr)(p:ab):List ab:=(lm t p).flatMap fun l=>[dE l.dir,b7 (dE l.dir)]
def gD(ds:List ab):List ab:=EA ck ds
def pn{t:Tr}{p d:ab}:d∈dO t p↔ ∃l∈lm t p,d=dE l.dir\/d=b7 (dE l.dir):=by
 unfold dO;rw[gM];constructor
 ·rintro ⟨l,h1,h2⟩
  refine⟨l,h1,?_⟩;rcases aY.1 h2 with h|h
  ·exact .inl h
  ·exact .inr (aW.1 h)
 ·rintro ⟨l,h1,rfl|rfl⟩
  ·exact⟨l,h1,aQ⟩
  ·exact⟨l,h1,aZ _ aQ⟩
def YW{x y:Rat}(h:x≠0\/y≠0):0<rgcd x y:=by
 unfold rgcd;have hd:0<x.den*y.den:=jT x.den_pos y.den_pos;have hg:0<Nat.gcd (x.num.natAbs*y.den) (y.num.natAbs*x.den):=by
  rcases h with h|h
  ·exact lQ _ (jT (Int.natAbs_pos.2 fun e=>h (lL.1 e)) y.den_pos)
  ·exact oZ _ (jT (Int.natAbs_pos.2 fun e=>h (lL.1 e)) x.den_pos)
 generalize Nat.gcd (x.num.natAbs*y.den) (y.num.natAbs*x.den)=g at*;generalize x.den*y.den=d at*;rw[<-E4];have h1:mkRat (g:Int) d=(g:Rat)/(d:Rat):=by rw[oY];rfl
 rw[E4,h1];have hg':(0:Rat)<(g:Rat):=by exact_mod_cast hg
 have hd':(0:Rat)<(d:Rat):=by exact_mod_cast hd
 have e:(g:Rat)/(d:Rat)*(d:Rat)=(g:Rat):=by grind
 exact(il (k:=(d:Rat)) hd').1 (by rw[e];exact hg')
def azX{v:ab}(h:v.half≠0):v.x≠0\/v.y≠0:=by
 rcases kA v with⟨_,k⟩|⟨_,k⟩|⟨k,_⟩
 ·rcases k with k|⟨_,k⟩
  ·exact .inr (by grind)
  ·exact .inl (by grind)
 ·rcases k with k|⟨_,k⟩
  ·exact .inr (by grind)
  ·exact .inl (by grind)
 ·exact absurd k h
def Ak{v:ab}(h:v.half≠0): ∃a:Rat,0<a/\dE v=⟨a*v.x,a*v.y⟩:=by
 have hg:=YW (azX h);refine⟨(rgcd v.x v.y)⁻¹,?_,?_⟩
 ·generalize rgcd v.x v.y=g at*
  have e:g⁻¹*g=1:=by grind
  exact(il (k:=g) hg).1 (by rw[e];decide)
 ·unfold dE ab.scale
  simp only[ab.mk.injEq];constructor<;>grind
def WV(v:ab):dE (b7 v)=b7 (dE v):=by
 have e:rgcd (-v.x) (-v.y)=rgcd v.x v.y:=by
  unfold rgcd;rw[mL,mL,pV,pV,iR,iR]
 unfold dE ab.scale b7;simp only[ab.mk.injEq,e];constructor<;>grind
def HY{v:ab}(h:v.half≠0):(dE v).half=v.half:=by
 obtain⟨a,a1,e⟩:=Ak h;have:=HO (a:=a) (b:=a) (u:=v) (w:=v) a1 a1 J h;rw[<-this];have h2:dE v=gp (a*(1/2)) (a*(1/2)) v v:=by rw[e];unfold gp;simp only[ab.mk.injEq];constructor<;>grind
 have h3:=HO (a:=a*(1/2)) (b:=a*(1/2)) (u:=v) (w:=v) (b8 a1 (by grind)) (b8 a1 (by grind)) J h;rw[h2,h3,this]
def O4{u v:ab}:ck u v=0↔u.half=v.half/\u.cross v=0:=by
 unfold ck;split
 ·constructor
  ·intro h;exact absurd h (by decide)
  ·intro h;omega
 ·split
  ·constructor
   ·intro h;exact absurd h (by decide)
   ·intro h;omega
  ·constructor
   ·intro h
    exact⟨by omega,(jj _).1 (by omega)⟩
   ·intro h
    rw[(jj _).2 h.2];rfl
def xl{u v w:ab}(h:cv u v)(k:cv v w):cv u w:=by
 by_cases hu:u.half=0
 ·by_cases hw:w.half=0
  ·have z: ∀x y:ab,x.half=0->x.cross y=0:=fun x y hx=>by
    rcases kA x with⟨e,_⟩|⟨e,_⟩|⟨_,e1,e2⟩
    ·rw[hx] at e;exact absurd e (by decide)
    ·rw[hx] at e;exact absurd e (by decide)
    ·unfold ab.cross;rw[e1,e2];grind
   rcases h with h|⟨h,h'⟩
   ·rcases k with k|⟨k,k'⟩
    ·omega
    ·have hv:v.half≠0:=by omega
     omega
   ·rw[z u v hu] at h';exact absurd h' (by decide)
  ·refine .inl ?_
   have h1:=ke hw;omega
 ·have hv:v.half≠0:=by
   intro e;rcases h with h|⟨h,_⟩
   ·have:=ke hu;omega
   ·omega
  have hw:w.half≠0:=by
   intro e;rcases k with k|⟨k,_⟩
   ·have:=ke hv;omega
   ·omega
  exact cv.trans hu hv hw h k
section
variable {α:Type} (c:α->α->Int)
def RO{x y:α}: ∀{xs:List α},y∈xs->y∈lj c x xs
 |[],h=>by cases h
 |u::t,h=>by
  rw[lj];split
  ·rcases aY.1 h with rfl|h
   ·exact aQ
   ·exact aZ _ (RO h)
  ·split
   ·exact h
   ·exact aZ _ h
def L7{x:α}: ∀{xs:List α},∃e∈lj c x xs,e=x\/c e x=0
 |[]=>⟨x,aQ, .inl J⟩
 |u::t=>by
  rw[lj];split
  ·obtain⟨e,h1,h2⟩:=L7 (x:=x) (xs:=t)
   exact⟨e,aZ _ h1,h2⟩
  ·split
   ·exact⟨u,aQ, .inr (by assumption)⟩
   ·exact⟨x,aQ, .inl J⟩
def O6{y:α}: ∀{l o:List α},y∈o->y∈l.foldl (fun out x=>lj c x out) o
 |[],o,h=>h
 |x::t,o,h=>O6 (l:=t) (RO c h)
def EK{d:α}: ∀{l o:List α},d∈l-> ∃e∈l.foldl (fun out x=>lj c x out) o,e=d\/c e d=0
 |[],o,h=>by cases h
 |x::t,o,h=>by
  rcases aY.1 h with rfl|h
  ·obtain⟨e,h1,h2⟩:=L7 c (x:=d) (xs:=o)
   exact⟨e,O6 c (l:=t) h1,h2⟩
  ·exact EK (l:=t) h
end
def QX(ds:List ab):(gD ds).Pairwise cv:=by
 have:=Pn (c:=ck) (fun u v w h k=>mD.2 (xl (mD.1 h) (mD.1 k))) (fun u v h k=>mD.2 (aBy.1 (by omega))) (l:=ds) (o:=[]) List.Pairwise.nil;exact this.imp fun h=>mD.1 h
def Pd{l m:aa}(hl:l.ok)(hm:m.ok){p:ab}(h1:l.value p=0)(h2:m.value p=0){d e:ab}(hd:d=dE l.dir\/d=b7 (dE l.dir))(he:e=dE m.dir\/e=b7 (dE m.dir))(h:ck d e=0):d=e:=by
 obtain⟨hh,hc⟩:=O4.1 h;have zl:=yp hl;have zm:=yp hm;have zpl:(dE l.dir).half≠0:=by rw[HY zl];exact zl
 have zpm:(dE m.dir).half≠0:=by rw[HY zm];exact zm
 have cr:l.dir.cross m.dir=0:=by
  obtain⟨a,a1,e1⟩:=Ak zl;obtain⟨b,b1,e2⟩:=Ak zm;have c0:(dE l.dir).cross (dE m.dir)=0:=by
   rcases hd with rfl|rfl<;>rcases he with rfl|rfl
   ·exact hc
   ·rw[n7] at hc;grind
   ·rw[gP,n7] at hc;rw[gP];grind
   ·rw[n7,gP,n7] at hc;rw[gP];grind
  have e3:(dE l.dir).cross (dE m.dir)=(a*b)*l.dir.cross m.dir:=by rw[e1,e2];unfold ab.cross;grind
  have hab:=b8 a1 b1;rw[e3] at c0;clear e1 e2 e3;generalize a*b=k at*;generalize l.dir.cross m.dir=z at*;rcases fE z with q|q|q
  ·exact q
  ·have:=b8 hab q;grind
  ·have:=b8 (a:=k) (b:= -z) hab (by grind);grind
 have dirR: ∀k:aa,k.rev.dir=b7 k.dir:=fun k=>by
  unfold aa.dir aa.rev b7;simp only[ab.mk.injEq,pQ]
  try constructor<;>grind
 have cdir: ∀k:aa,k.canon.dir=k.dir\/k.canon.dir=b7 k.dir:=fun k=>by
  unfold aa.canon;split
  ·exact .inr (dirR k)
  ·exact .inl J
 have cval: ∀k:aa,k.value p=0->k.canon.value p=0:=fun k hk=>by rcases Tn k p with e|e<;>rw[e,hk]<;>rfl
 have okc: ∀k:aa,k.ok->k.canon.ok:=fun k hk=>by unfold aa.canon;split;exact hk.rev;exact hk
 have ec:l.canon=m.canon:=aAJ (okc l hl) (okc m hm) (QJ hl) (QJ hm) (cval l h1) (cval m h2) (by
  rcases cdir l with e1|e1<;>rcases cdir m with e2|e2<;>rw[e1,e2]
  ·exact cr
  ·rw[n7,cr];rfl
  ·rw[gP,n7,gP,cr];rfl
  ·rw[n7,gP,n7,gP,cr];rfl)
 have hdir:l.dir=m.dir\/l.dir=b7 m.dir:=by
  have e1:=cdir l;have e2:=cdir m;rw[ec] at e1;rcases e1 with e1|e1<;>rcases e2 with e2|e2
  ·exact .inl (e1.symm.trans e2)
  ·exact .inr (e1.symm.trans e2)
  ·right;rw[<-e2,e1,zV]
  ·left;rw[<-zV l.dir,<-e1,e2,zV]
 have hP:dE l.dir=dE m.dir\/dE l.dir=b7 (dE m.dir):=by
  rcases hdir with e|e
  ·exact .inl (by rw[e])
  ·exact .inr (by rw[e,WV])
 have hn:=u6 zpm;have h3:=ke zpm;have key:d=dE m.dir\/d=b7 (dE m.dir):=by
  rcases hd with rfl|rfl<;>rcases hP with e|e
  ·exact .inl e
  ·exact .inr e
  ·exact .inr (by rw[e])
  ·exact .inl (by rw[e,zV])
 rcases key with rfl|rfl<;>rcases he with rfl|rfl
 ·rfl
 ·exfalso;omega
 ·exfalso;omega
 ·rfl
def Jc{t:Tr}(ht:t.all aa.ok)(p:ab):(gD (dO t p)).Pairwise cv/\uH (gD (dO t p))/\ ∀y,y∈gD (dO t p)↔y∈dO t p:=by
 have h2: ∀y,y∈gD (dO t p)->y∈dO t p:=fun y hy=>by
  rcases Ej ck hy with h|h
  ·exact h
  ·cases h
 have h3: ∀y,y∈dO t p->y∈gD (dO t p):=fun y hy=>by
  obtain⟨e,e1,e2⟩:=EK ck (o:=[]) hy;rcases e2 with rfl|e2
  ·exact e1
  ·obtain⟨l,k1,k2⟩:=pn.1 hy
   obtain⟨m,k3,k4⟩:=pn.1 (h2 e e1);obtain⟨a1,a2⟩:=ol k1;obtain⟨b1,b2⟩:=ol k3;rw[<-Pd (ri ht _ b1) (ri ht _ a1) b2 a2 k4 k2 e2];exact e1
 refine⟨QX _,⟨fun d hd=>?_,fun d hd=>?_⟩,fun y=>⟨h2 y,h3 y⟩⟩
 ·obtain⟨l,k1,k2⟩:=pn.1 (h2 d hd)
  have z:=yp (ri ht _ (ol k1).1);have z2:(dE l.dir).half≠0:=by rw[HY z];exact z
  rcases k2 with rfl|rfl
  ·exact z2
  ·exact ZI z2
 ·obtain⟨l,k1,k2⟩:=pn.1 (h2 d hd)
  refine h3 _ (pn.2 ⟨l,k1,?_⟩);rcases k2 with rfl|rfl
  ·exact .inr J
  ·exact .inl (zV _)
def KX{t:Tr}(ht:t.all aa.ok){p v:ab}(hv:v∈je (gD (dO t p))):Gn (lm t p) p v:=by
 obtain⟨h1,h2,h3⟩:=Jc ht p;have key:(∀d∈gD (dO t p),d.cross v≠0)->Gn (lm t p) p v:=fun k l hl hz e=>by
  have z:=yp (ri ht _ (ol hl).1);obtain⟨a,a1,a2⟩:=Ak z;refine k _ ((h3 _).2 (pn.2 ⟨l,hl, .inl J⟩)) ?_;rw[<-vL] at e;have:(dE l.dir).cross v=a*l.dir.cross v:=by rw[a2];unfold ab.cross;grind
  rw[this,e];grind
 generalize gD (dO t p)=ds at*;unfold je at hv;split at hv
 ·rename_i hn
  refine key fun d hd=>?_;rw[List.length_eq_zero_iff.1 hn] at hd;cases hd
 ·obtain⟨i,hi,rfl⟩:=bJ.1 hv
  rw[oV] at hi;have hj:(i+1)%ds.length<ds.length:=dX _ (by omega);have hx:=Pc h1 h2 hi hj;have mu:=cY hi;have mw:=cY hj;have hp:=hx.pos h2 mu mw;refine key ?_;unfold oc;rw[CO hi,CO hj];split
  ·rename_i k
   have hc:=(mr _).1 k;rw[KS];exact hx.gen h2 mu mw (by grind) (by decide) (by decide)
  ·rename_i k
   exact hx.turn h2 mu mw (by have: ¬0<ds[i].cross ds[(i+1)%ds.length]:=fun e=>k ((mr _).2 e);grind)
def Qa{t:Tr}(ht:t.all aa.ok){p x:ab}(hx:Gn (lm t p) p x): ∃v∈je (gD (dO t p)),(fe t p v).1=(fe t p x).1:=by
 obtain⟨h1,h2,h3⟩:=Jc ht p;have cr: ∀l∈lm t p,∃a:Rat,0<a/\ ∀y,(dE l.dir).cross y=a*l.nor.dot y:=fun l hl=>by
  obtain⟨a,a1,a2⟩:=Ak (yp (ri ht _ (ol hl).1));exact⟨a,a1,fun y=>by rw[a2,<-vL];unfold ab.cross;grind⟩
 by_cases hn:gD (dO t p)=[]
 ·refine⟨⟨1,0⟩,by unfold je;rw[if_pos (by rw[hn];rfl)];exact aQ,?_⟩
  rw[zr fun l hl=>?_];have:=(h3 _).2 (pn.2 ⟨l,hl, .inl J⟩);rw[hn] at this;cases this
 ·obtain⟨i,hi,hs⟩:=Sn h1 h2 hn (x:=x) fun d hd=>by
   obtain⟨l,k1,k2⟩:=pn.1 ((h3 d).1 hd);obtain⟨a,a1,a2⟩:=cr l k1;have hz:=hx l k1 (ol k1).2;have e:(dE l.dir).cross x≠0:=by rw[a2];grind
   rcases k2 with rfl|rfl
   ·exact e
   ·intro q;apply e;unfold ab.cross b7 at*;grind
  refine⟨oc (gD (dO t p)) i,?_,?_⟩
  ·unfold je
   rw[if_neg (by omega)];exact bJ.2 ⟨i,oV.2 hi,J⟩
  ·rw[zr fun l hl=>?_]
   have:=hs _ ((h3 _).2 (pn.2 ⟨l,hl, .inl J⟩));obtain⟨a,a1,a2⟩:=cr l hl;rw[a2,a2] at this;have sg: ∀z:Rat,Int.sign (a*z).num=Int.sign z.num:=fun z=>by
    rcases fE z with k|k|k
    ·subst k;rw[show a*0=0 by grind]
    ·rw[(jh _).2 k,(jh _).2 (b8 a1 k)]
    ·rw[qG k,qG (by have:=b8 (a:=a) (b:= -z) a1 (by grind);grind)]
   rw[sg,sg] at this;exact this.symm
def sG(t:Tr)(p:ab):Bool:=(je (gD (dO t p))).any fun v=>(fe t p v).1
def xk(t:Tr)(p:ab):Bool:=(je (gD (dO t p))).all fun v=>(fe t p v).1
def mv(t:Tr)(p:ab):Int:=if sG t p&&xk t p then 2 else if sG t p then 1 else 0
def HM{t:Tr}(ht:t.all aa.ok){p:ab}:sG t p=true↔qC t p true:=by
 unfold sG;rw[gK];constructor
 ·rintro ⟨v,h1,h2⟩;exact⟨v,KX ht h1,h2⟩
 ·rintro ⟨x,h1,h2⟩
  obtain⟨v,k1,k2⟩:=Qa ht h1;exact⟨v,k1,by rw[k2,h2]⟩
def QG{t:Tr}(ht:t.all aa.ok){p:ab}:xk t p=true↔ ¬qC t p false:=by
 unfold xk;rw[fZ];constructor
 ·rintro h ⟨x,h1,h2⟩
  obtain⟨v,k1,k2⟩:=Qa ht h1;have:=h v k1;rw[k2,h2] at this;cases this
 ·intro h v hv
  cases hb:(fe t p v).1 with
  |true=>rfl
  |false=>exact absurd ⟨v,KX ht hv,hb⟩ h
def XO(t:Tr)(p:ab):mv t p=0\/mv t p=1\/mv t p=2:=by
 unfold mv;split
 ·exact .inr (.inr J)
 ·split
  ·exact .inr (.inl J)
  ·exact .inl J
def HG{t:Tr}(ht:t.all aa.ok){p:ab}:mv t p=2↔ ¬qC t p false:=by
 unfold mv;constructor
 ·intro h
  split at h
  ·rename_i k;rw[aL] at k;exact(QG ht).1 k.2
  ·split at h<;>exact absurd h (by decide)
 ·intro h
  have h1:=(QG ht).2 h;have h2:=(HM ht).2 ((avU ht p).resolve_right h);rw[h1,h2];rfl
def EP{t:Tr}(ht:t.all aa.ok){p:ab}:mv t p=0↔ ¬qC t p true:=by
 unfold mv;constructor
 ·intro h k
  rw[(HM ht).2 k] at h;split at h
  ·exact absurd h (by decide)
  ·exact absurd h (by decide)
 ·intro h
  have h1:sG t p=false:=by
   cases e:sG t p with
   |false=>rfl
   |true=>exact absurd ((HM ht).1 e) h
  rw[h1];rfl
def EN{p v:ab}: ∀{u:Tr},e8 u.lns p->(fe u p v).1=u.val p
 | .leaf b,_=>rfl
 | .node l x y,ho=>by
  have h0:=ho.l;rw[fe,if_neg (fun e=>h0 ((jj _).1 e))];by_cases k:0<l.value p
  ·rw[(jh _).2 k,Tr.val_pos k];exact EN ho.x
  ·rw[qG (by grind),Tr.val_neg k];exact EN ho.y
def asX{t:Tr}(ht:t.all aa.ok){p:ab}(h:e8 t.lns p):mv t p=if t.val p then 2 else 0:=by
 have key: ∀b,qC t p b->t.val p=b:=fun b ⟨v,_,h2⟩=>by rw[<-h2,EN h]
 cases hb:t.val p with
 |true=>exact(HG ht).2 fun k=>by have:=key _ k;rw[hb] at this;cases this
 |false=>exact(EP ht).2 fun k=>by have:=key _ k;rw[hb] at this;cases this
def wX(u:ab): ¬cv u u:=by
 rintro (h|⟨_,h⟩)
 ·omega
 ·have:u.cross u=0:=by unfold ab.cross;grind
  rw[this] at h;exact absurd h (by decide)
def JK{u v:ab}(h:cv u v)(k:cv v u):False:=wX u (xl h k)
def CK{x y:ab}(h: ¬cv x y)(k: ¬cv y x):ck x y=0:=by
 rw[<-mD] at h k;unfold ck at*;split at h<;>try omega
 split at h<;>try omega
 split at k<;>try omega
 rw[show y.cross x= -(x.cross y) by unfold ab.cross;grind,mL,Int.sign_neg] at k;omega
structure IvB (v:aj):Prop where
 lo:BQ v.lo 1200
 hi:BQ v.hi 1200
def aJ8(l:List aj)(k:Nat):List Rat:=gF (l.take k)
def aLp(o:List Rat)(v:aj)(j:Nat):List Rat:=if j=0 then o else if j=1 then(if v.nl then o else fq v.lo o) else iG o v
def aKJ(v:aj)(j:Nat):Rat:=if j=0 then v.lo else v.hi
def aKu(v:aj)(j:Nat):Bool:=if j=0 then v.nl else v.nh
def aJq(l m:aa)(side:Int):DV:= .tp [.sl ((vd l m side).map eV),vB (uS l m)]
def eFF(f:aO):DV:= .ag [.v (.bool (decide (f.l.a<0))),dN f.l.a.natAbs, .v (.bool (decide (f.l.b<0))),dN f.l.b.natAbs, .v (.bool (decide (f.l.c<0))),dN f.l.c.natAbs, .v (.bool (decide (f.v.lo.num<0))),dN f.v.lo.num.natAbs,dD f.v.lo.den, .v (.bool (decide (f.v.hi.num<0))),dN f.v.hi.num.natAbs,dD f.v.hi.den, .v (.bool f.v.nl), .v (.bool f.v.nh)]
def aIV(v w:aj):aj:=⟨v.lo,w.hi,v.nl,v.nh⟩

section
variable {GB:Gh} {C:aD} {n:Nat} {Q0:Exit->Act->World->Prop} {fr fr':aA} {own own':aG} {cf cf':Cf} {vc:List Prop}
def ZA{lk:LK}{bk:BM}{dst:Option Nat}{t ty':TypeId}{pos:String}{af:Array Edge}{gd:Option (Nat×Bool)}{x y:Operand}{e len s nm off:Nat}{k:IntKind}{i:Nat}(hu:prog.underlying t=some (.array len e))(hs:(prog.info? e).map (·.size)=some s)
  (e1:aH lk x=some (.ov nm off))(e2:aH lk y=some (.d (.v (.int k (i:Nat)))))(hi:i<len):bH prog GB C n lk bk ⟨dst, .indexAddr t x y,ty',pos,af,gd⟩ (.ov nm (off+i*s)) [] []:= .yd fun ρ G ov a w r=>by
 obtain⟨p,h1,h2⟩:=r.ev e1;obtain⟨q,h3,h4⟩:=r.ev e2;rw[dm] at h4;subst h4;obtain⟨b,hb,rfl⟩:=h2;refine⟨_,⟨b,hb,J⟩,?_⟩;obtain⟨j,hj,hjs⟩: ∃j,prog.info? e=some j/\j.size=s:=by
  cases h:prog.info? e with
  |none=>rw[h] at hs;cases hs
  |some j=>rw[h] at hs;exact⟨j,J,by simpa using hs⟩
 intro a' w' hf hh;simp only[execOp,bi hf h1,bi hf h3];have:(Instr.indexAt t (.pointer (some ⟨b,off,none⟩)) (.int k (i:Nat))).run prog w'= .ok (.pointer (some ⟨b,off+i*s,none⟩)) w':=by
  unfold Instr.indexAt;show(underlying t>>=_).run prog w'=_;rw[ba (qk hu w')];show(underlying t>>=_).run prog w'=_;rw[ba (qk hu w')];have h0:0<=((i:Nat):Int):=Int.natCast_nonneg i;have h1:((i:Nat):Int)<((len:Nat):Int):=by omega
  simp only[h0,h1,and_self,if_true];show(sizeOf e>>=_).run prog w'=_;rw[ba (uO hj w'),oG,hjs,bQ];rfl
 exact cP this
def M1(fr:aA)(cf:Cf):Option (TypeId×Nat×Nat×Int):=match cd fr cf with
 |some ⟨_, .indexAddr t x y,_,_,_,_⟩=>match aH (bD fr cf) x with
  |some (.ov nm off)=>match aH (bD fr cf) y with
   |some (.d (.v (.int _ i)))=>some (t,nm,off,i)
   |_=>none
  |_=>none
 |_=>none
def A4[fu:Fu](i:Nat){t nm off e len s:Nat}(h:M1 fr cf=some (t,nm,off,((i:Nat):Int)))(hu:prog.underlying t=some (.array len e))(hs:(prog.info? e).map (·.size)=some s)(hi:i<len)
  (hgo:cD tt n fu.n fr own cf (.ov nm (off+i*s)) [] []=⟨vc,fr',own',cf'⟩)(k:ak prog GB C n Q0 fr' own' cf')
  (hv:ah vc:=by first|exact trivial|(simp only[ah];kernel_rfl)|(simp only[ah];omega)):ak prog GB C n Q0 fr own cf:=by
 unfold M1 at h;split at h<;>try (cases h;done)
 rename_i hh;split at h<;>try (cases h;done)
 rename_i hx;split at h<;>cases h;rename_i hy;exact us hh (ZA hu hs hx hy hi) hgo hv k
def aLe(fr:aA)(cf:Cf):Option (Nat×List FX):=match cd fr cf with
 |some ⟨some d, .build t ⟨ps⟩,_,_,_,_⟩=>match dt tt t with
  |some ⟨.st fo,_,some zx,_⟩=>match uV (bD fr cf) fo zx ps with
   |some l=>some (d,l)
   |none=>none
  |_=>none
 |_=>none
end
def sp1(f:aO)(m:aa)(k:Nat):List aO:=if k=0 then [] else jz f m 1
def sp2(f:aO)(m:aa)(k:Nat):List aO:=if k<=1 then [] else jz f m (-1)
def Xv(p:ZP):DV:=eP p.q
def YF(r:List ZP):DV:= .sl (r.map Xv)
def Un(rs:List (List ZP)):List aa:=(c6 rs).map aO.l
def eRR(rs:List (List ZP))(fill:Int):DV:= .ag [.sl (rs.map YF), .v (.int .i64 fill), .sl ((zj (Un rs)).map eL)]
def vx(r:List ZP):DV:= .sl ((r.map ZP.q).map oo)
def aoi{rs:List (List ZP)}{k:Nat}{r:List ZP}(h:rs[k]? =some r):c6 (rs.take (k+1))=c6 (rs.take k)++iI r:=by
 unfold c6;rw[gR,h,qV];simp
def C4{rs:List (List ZP)}(h: ∀r∈rs,gi r)(k:Nat):(c6 (rs.take k)).length<=6*k:=by
 have:=(sB (rs:=rs.take k) (fun r hr=>h r (fK hr))).1;have h2:(rs.take k).length<=k:=by rw[cK];omega
 omega
def Th(out:List aa)(l:aa):(oI out l).length<=out.length+1:=by
 unfold oI;split
 ·omega
 ·simp;omega
def NF(c:List aa): ∀(t out:List aa),(nC c t out).length<=out.length+t.length
 |[],out=>by simp[nC]
 |l::t,out=>by
  rw[nC];refine cM (NF c t _) ?_;have:=Th out l;split<;>simp<;>omega
def BX(c:List aa):(d9 c).length<=c.length:=cM (NF c c []) (by simp)
def aD3{c:List aa}(h: ∀m∈c,m.ok): ∀m∈d9 c,m.ok:=fun m hm=>h m (qx.1 hm).1
def p7:ab:=⟨mkRat 1 7,mkRat 1 5⟩
structure LP (l:aa):Prop where
 s:LS l
 p:0<l.value p7
theorem US:aI p7 5:=⟨⟨by decide,by decide⟩,⟨by decide,by decide⟩⟩
def pc(es:List Int):Nat->Nat->List aa×Nat
 |0,a=>([],a)
 |i+1,a=>((lF es a).1::(pc es i (lF es a).2).1,(pc es i (lF es a).2).2)
def Ry{es:List Int}: ∀{i a:Nat},a<=es.length->(∀l∈(pc es i a).1,LS l)/\(pc es i a).1.length=i/\(pc es i a).2<=es.length
 |0,a,ha=>⟨fun l h=>absurd h (by simp[pc]),J,ha⟩
 |i+1,a,ha=>by
  obtain⟨h1,h2⟩:=Qx ha;obtain⟨k1,k2,k3⟩:=Ry (i:=i) h2;exact⟨cN.2 ⟨h1,k1⟩,by show _+1=_;rw[k2],k3⟩
def kz(es:List Int)(most a:Nat):List aa×Nat:=pc es (bg es ((most:Int)+1) a).1 (bg es ((most:Int)+1) a).2
def aDv{es:List Int}{most a:Nat}(ha:a<=es.length):(∀l∈(kz es most a).1,LS l)/\(kz es most a).1.length<=most/\(kz es most a).2<=es.length:=by
 have h1:=uC (es:=es) (n:=(most:Int)+1) (a:=a) (by omega);obtain⟨k1,k2,k3⟩:=Ry (i:=(bg es ((most:Int)+1) a).1) (qr (n:=(most:Int)+1) ha);exact⟨k1,by unfold kz;rw[k2];omega,k3⟩
def OO(l:aa):aa:=if(l.value p7).num.sign<0 then l.rev else l
def aJg(xs:List aa)(i:Nat):List aa:=(xs.take i).map OO++xs.drop i
def aJT(es:List Int)(a:Nat):List aa×Nat:=((kz es 3 a).1.map OO,(kz es 3 a).2)
def WR{b:Nat}{es:List Int}(hes:es.length<=400){a:Nat}(ha:a<=es.length){most:Nat}(hmo:most<=900):Cq GB prog 63 (gI [none,some (.v (.int .i64 (most:Nat)))] b) b 126 [.sl (es.map vI), .v (.int .i64 (a:Nat))] 6 115 Unit (fun _=>(kz es most a).1.map eL) (fun _=>[.sl (es.map vI), .v (.int .i64 ((kz es most a).2:Nat))]):=by
 have hk:=uC (es:=es) (n:=(most:Int)+1) (a:=a) (by omega);refine R9 func63 J J ntmps63 J J (fun C b hmb=>?_);refine cm J (fun b=>(yg (n:=(most:Int)+1) hes ha (by omega) (by omega))) J<|?_;refine nr 5 2000 115 6 J J J ?_;refine lp (X:=List aa×Nat×Nat) (fun⟨xs,i,a2⟩=>[(6, .d (.v (.int .i64 (i:Nat)))),(5, .rw 2000)]) (fun⟨xs,i,a2⟩=>[(1000000,some (.o 126 [.d (.sl (es.map vI)), .d (.v (.int .i64 (a2:Nat)))] false)),(2000,some (.b 115 6 (xs.map eL) true))]) (fun⟨xs,i,a2⟩=>xs++(pc es i a2).1=(kz es most a).1/\(pc es i a2).2=(kz es most a).2/\a2<=es.length/\xs.length+i<=most) (fun⟨xs,i,a2⟩=>i) ⟨[],(bg es ((most:Int)+1) a).1,(bg es ((most:Int)+1) a).2⟩ J ⟨J,J,qr ha,by simp;omega⟩ (fun _=>J) (fun⟨xs,i,a2⟩ hk=>?_)
 try dsimp only at hk⊢
 obtain⟨h1,h2,h3,h4⟩:=hk;have hxl:=ui xs;refine br J J J (fun hc12=>?_) (fun hc12=>?_)
 .
  obtain⟨j,rfl⟩: ∃j,i=j+1:=⟨i-1,by omega⟩;refine cm J (fun b=>(Yr hes h3)) J<|rf J J<|ap ((xs++[(lF es a2).1]).map eL) J (by rw[eX];rfl) (sj [_]) J<|?_;refine ny 19 2000 J ?_;exact at_ ⟨xs++[(lF es a2).1],j,(lF es a2).2⟩ (by dsimp only;exact⟨⟨by rw[<-h1,pc];simp,by rw[<-h2];rfl,(Qx h3).2,by simp;omega⟩,(by omega)⟩)
 .
  obtain rfl:i=0:=by omega
  rw[pc,iK] at h1;rw[pc] at h2;exact Yp () hmb J J J J (by rw[h1]) (by rw[<-h2])
def Jg(xs ys:List NQ)(n:NQ):((xs++(n::ys)).map eN)[((xs.length:Nat):Int).toNat]? =some (eN n):=by simp
def PE(xs ys:List NQ)(n m:NQ)(e:DV)(h:e=eN m):((xs++(n::ys)).map eN).set ((xs.length:Nat):Int).toNat e=(xs++(m::ys)).map eN:=by subst h;simp
def Xd{ns:List NQ}:PB GB prog 81 (ey [some (eT (.leaf true)),none]) 8 149 (ns.map eN) (fun w=> .tp ([]++ .v (.slice w.a w.n w.c)::[.v (.int .i64 (Tr.num (.leaf true) ns.length))])) ((ns++Tr.wr (.leaf true) ns.length).map eN):=by
 refine E' (fu:=⟨12⟩) func81 J J ntmps81 J J (fun C=>?_);refine f8 (fu:=⟨9⟩) J J J<|f8 J J J<|?_;exact Hd J J J J J (by simp[Tr.wr]) J
def Wu{ns:List NQ}:PB GB prog 81 (ey [some (eT (.leaf false)),none]) 8 149 (ns.map eN) (fun w=> .tp ([]++ .v (.slice w.a w.n w.c)::[.v (.int .i64 (Tr.num (.leaf false) ns.length))])) ((ns++Tr.wr (.leaf false) ns.length).map eN):=by
 refine E' (fu:=⟨12⟩) func81 J J ntmps81 J J (fun C=>?_);refine f8 (fu:=⟨9⟩) J J J<|eE J J J<|?_;exact Hd J J J J J (by simp[Tr.wr]) J
def XF{l:aa}{s u:Tr}{ns:List NQ}(hl:BL l 96)(hs:ns.length+(1+s.size+u.size)<=1000000)(ihs: ∀{ns:List NQ},ns.length+s.size<=1000000->PB GB prog 81 (ey [some (eT s),none]) 8 149 (ns.map eN) (fun w=> .tp ([]++ .v (.slice w.a w.n w.c)::[.v (.int .i64 (Tr.num s ns.length))])) ((ns++Tr.wr s ns.length).map eN))(ihu: ∀{ns:List NQ},ns.length+u.size<=1000000->PB GB prog 81 (ey [some (eT u),none]) 8 149 (ns.map eN) (fun w=> .tp ([]++ .v (.slice w.a w.n w.c)::[.v (.int .i64 (Tr.num u ns.length))])) ((ns++Tr.wr u ns.length).map eN)):PB GB prog 81 (ey [some (eT (.node l s u)),none]) 8 149 (ns.map eN) (fun w=> .tp ([]++ .v (.slice w.a w.n w.c)::[.v (.int .i64 (Tr.num (.node l s u) ns.length))])) ((ns++Tr.wr (.node l s u) ns.length).map eN):=by
 refine E' (fu:=⟨12⟩) func81 J J ntmps81 J J (fun C=>?_);refine eE (fu:=⟨9⟩) J J J<|?_;refine av 20 (.d (.v (.int .i64 (ns.length:Nat)))) J (by simp) ?_;refine gx J<|cl J (LW hl) J<|rf J J<|P6 ((ns++[(⟨l,0,0⟩:NQ)]).map eN) J (by rw[eX]<;>rfl) (aGU [(⟨l,0,0⟩:NQ)]) J<|?_;refine cb _ J (ihs (ns:=ns++[(⟨l,0,0⟩:NQ)]) (by simp;omega)) J J<|cb (hv:=by simp only[ah];exact(by simp;omega)) ((ns++((⟨l,0,0⟩:NQ)::(s.wr (ns.length+1)++u.wr (ns.length+1+s.size)))).map eN) J (ihu (ns:=ns++[(⟨l,0,0⟩:NQ)]++s.wr (ns++[(⟨l,0,0⟩:NQ)]).length) (by simp[Tr.wr_len];omega)) (by simp[Tr.wr_len,kZ,kX 1]) J<|?_;refine sb (hv:=by simp only[ah];exact(by simp;omega)) (eN ⟨l,0,0⟩) ((ns++((⟨l,s.num (ns.length+1),0⟩:NQ)::(s.wr (ns.length+1)++u.wr (ns.length+1+s.size)))).map eN) J (Jg ns _ ⟨l,0,0⟩) J (by rw[PE _ _ _ ⟨l,s.num (ns.length+1),0⟩ _ (by simp[eN,DV.cells])]) J<|?_;refine sb (eN ⟨l,s.num (ns.length+1),0⟩) ((ns++Tr.wr (.node l s u) ns.length).map eN) J (Jg ns _ ⟨l,s.num (ns.length+1),0⟩) J (by rw[PE _ _ _ ⟨l,s.num (ns.length+1),u.num (ns.length+1+s.size)⟩ _ (by simp[eN,DV.cells,Tr.wr_len,kZ,kX 1])];simp[Tr.wr]) J<|?_;exact Hd J J J J J J J
def EZ: ∀{t:Tr} {ns:List NQ},t.all (fun l=>BL l 96)->ns.length+t.size<=1000000->PB GB prog 81 (ey [some (eT t),none]) 8 149 (ns.map eN) (fun w=> .tp ([]++ .v (.slice w.a w.n w.c)::[.v (.int .i64 (Tr.num t ns.length))])) ((ns++Tr.wr t ns.length).map eN)
 | .leaf true,ns,_,_=>Xd
 | .leaf false,ns,_,_=>Wu
 | .node l s u,ns,hb,hs=>XF hb.1 hs (fun h=>EZ hb.2.1 h) (fun h=>EZ hb.2.2 h)
def aBO{t:Tr}(hb:t.all (fun l=>BL l 96))(hs:t.size<=1000000):PF GB prog 22 [eT t] (eA t):=by
 refine fn func22 J J ntmps22 J J (fun C=>?_);refine cbn _ J (EZ (t:=t) (ns:=[]) hb (by simpa using hs)) J J<|?_;refine mp 6 J ?_;exact rz J J
def aG6(ds:List Int):ew 1 (ds.map vI):=fun d hd=>by
 obtain⟨n,_,rfl⟩:=bJ.1 hd;exact⟨rfl,rfl⟩
def Re{ns:List NQ}{i:Nat}(h:i<ns.length):(ns.map eN)[(i:Int).toNat]? =some (eN ns[i]):=by simp[h]
def JZ(ns:List NQ):(ns.map eN).length=ns.length:=aJ ..
def yk{ns ms:List NQ}(hl:ns.length=ms.length)(h: ∀j (h1:j<ns.length) (h2:j<ms.length),ns[j]=ms[j]):ns=ms:=List.ext_getElem hl h
def Te(es:List Int):(es.map vI).take (min es.length 400)=(es.take 400).map vI:=by
 rw[lX];rcases Nat.le_total es.length 400 with h|h
 ·rw[gV h,bZ (by simp),bZ (by simpa using h)]
 ·rw[Nat.min_eq_right h]
def Y8{es:List Int}(hb:es.length<=1125899906842624):PN GB prog 15 [.sl (es.map vI)] 126 Unit (fun _=>[.sl ((es.take 400).map vI), .v (.int .i64 (0:Nat))]):=by
 have hel:(es.map vI).length=es.length:=by simp
 refine fnN func15 J J ntmps15 J J (fun C hmb=>?_);refine vS 0 (min es.length 400) ((es.take 400).map vI) J J (by rw[hel];show(if _ then _ else _:Int)=_;split<;>omega) (Te es) (aG6 _) (by omega) (by omega) J<|?_;exact UD () J J J J J
def aAg{s t:Tr}(hs:s.all (fun l=>BL l 96))(ht:t.all (fun l=>BL l 96))(hn:s.size<=1000000):PF GB prog 21 [eA s,eA t] (vB (decide (s.num 0=t.num 0/\s.wr 0=t.wr 0))):=by
 have hbs:=Tr.all_wr 0 hs;have hbt:=Tr.all_wr 0 ht;have hsl:=s.wr_len 0;have hls:=JZ (s.wr 0);have hlt:=JZ (t.wr 0);unfold eA;generalize hns:s.wr 0=ns at*;generalize hms:t.wr 0=ms at*;generalize ha:s.num 0=a at*;generalize hb:t.num 0=b at*;refine fn func21 J J ntmps21 J J (fun C=>?_);refine cs 13 J J J (fun hg13=>?_) (fun hg13=>?_)
 .
  exact rz rfl (by first|(rw[decide_eq_true (⟨Decidable.not_not.1 hg13,yk (by omega) (fun j p q=>h2 j p q (by omega))⟩:a=b/\ns=ms)];rfl)|(rw[decide_eq_false (fun e:a=b/\ns=ms=>by obtain⟨e1,e2⟩:=e;subst e2;first|exact hg13 e1|exact hc21 rfl|exact hg40 rfl|exact hg47 rfl|(simp at hc54))];rfl))
 .
  refine br (fu2:=⟨8⟩) J J J (fun hc21=>?_) (fun hc21=>?_)
  .
   exact rz rfl (by first|(rw[decide_eq_true (⟨Decidable.not_not.1 hg13,yk (by omega) (fun j p q=>h2 j p q (by omega))⟩:a=b/\ns=ms)];rfl)|(rw[decide_eq_false (fun e:a=b/\ns=ms=>by obtain⟨e1,e2⟩:=e;subst e2;first|exact hg13 e1|exact hc21 rfl|exact hg40 rfl|exact hg47 rfl|(simp at hc54))];rfl))
  .
   refine av 24 (.d (vI (ns.length:Nat))) J (by rw[hls]<;>rfl) ?_;refine gx J<|?_;refine lp (X:=Nat) (fun i=>[(25, .d (vI (i:Nat)))]) (fun i=>[]) (fun i=>i<=ns.length/\ ∀j (h1:j<ns.length) (h2:j<ms.length),j<i->ns[j]=ms[j]) (fun i=>ns.length-i) 0 J ⟨bU _,fun j _ _ hj=>absurd hj (by omega)⟩ (fun _=>J) (fun i hk=>?_);obtain⟨h1,h2⟩:=hk;have hi2:i<ns.length->i<ms.length:=fun h=>by omega
   refine br J J J (fun hc26=>?_) (fun hc26=>?_)
   .
    refine ix _ J (Re (by omega)) J<|ix _ J (Re (by omega)) J<|?_;refine cs 40 J J J (fun hg40=>?_) (fun hg40=>?_)
    .
     exact rz rfl (by first|(rw[decide_eq_true (⟨Decidable.not_not.1 hg13,yk (by omega) (fun j p q=>h2 j p q (by omega))⟩:a=b/\ns=ms)];rfl)|(rw[decide_eq_false (fun e:a=b/\ns=ms=>by obtain⟨e1,e2⟩:=e;subst e2;first|exact hg13 e1|exact hc21 rfl|exact hg40 rfl|exact hg47 rfl|(simp at hc54))];rfl))
    .
     refine cs 47 J J J (fun hg47=>?_) (fun hg47=>?_)
     .
      exact rz rfl (by first|(rw[decide_eq_true (⟨Decidable.not_not.1 hg13,yk (by omega) (fun j p q=>h2 j p q (by omega))⟩:a=b/\ns=ms)];rfl)|(rw[decide_eq_false (fun e:a=b/\ns=ms=>by obtain⟨e1,e2⟩:=e;subst e2;first|exact hg13 e1|exact hc21 rfl|exact hg40 rfl|exact hg47 rfl|(simp at hc54))];rfl))
     .
      refine cl J (W3 (l:=(ns[i]'(by omega)).l) (m:=(ms[i]'(by omega)).l) (hbs _ (cY (by omega))) (hbt _ (cY (by omega)))) J<|?_;refine bb J J J (fun hc54=>?_) (fun hc54=>?_)
      .
       exact rz rfl (by first|(rw[decide_eq_true (⟨Decidable.not_not.1 hg13,yk (by omega) (fun j p q=>h2 j p q (by omega))⟩:a=b/\ns=ms)];rfl)|(rw[decide_eq_false (fun e:a=b/\ns=ms=>by obtain⟨e1,e2⟩:=e;subst e2;first|exact hg13 e1|exact hc21 rfl|exact hg40 rfl|exact hg47 rfl|(simp at hc54))];rfl))
      .
       exact at_ (i+1) ⟨⟨by omega,fun j p q hj=>by by_cases e:j=i;(subst e;exact NQ.ext' (by simpa using hc54) (Decidable.not_not.1 hg40) (Decidable.not_not.1 hg47));exact h2 j p q (by omega)⟩,(by omega)⟩
   .
    exact rz rfl (by first|(rw[decide_eq_true (⟨Decidable.not_not.1 hg13,yk (by omega) (fun j p q=>h2 j p q (by omega))⟩:a=b/\ns=ms)];rfl)|(rw[decide_eq_false (fun e:a=b/\ns=ms=>by obtain⟨e1,e2⟩:=e;subst e2;first|exact hg13 e1|exact hc21 rfl|exact hg40 rfl|exact hg47 rfl|(simp at hc54))];rfl))



def D4:DV:= .v (.pointer none)
def UA(l:aa)(p q:DV):List DV:=[.v (.bool false), .v (.bool false), .v (.bool (decide (l.a<0))),dN l.a.natAbs, .v (.bool (decide (l.b<0))),dN l.b.natAbs, .v (.bool (decide (l.c<0))),dN l.c.natAbs,p,q]
inductive RF (ns:List RN):Int->(Nat->Bool)->DV->Bool->(Nat->Bool)->Prop where
 |leaf (b:Bool) (f:Nat->Bool):RF ns (rk b) f (eT (.leaf b)) true f
 |bad (rt:Int) (f:Nat->Bool) (h1:rt≠ -1) (h2:rt≠ -2) (h:rt<0\/(ns.length:Int)<=rt\/(∃k:Nat,rt=k/\k<ns.length/\f k=true)):RF ns rt f D4 false f
 |line (k:Nat) (n:RN) (f:Nat->Bool) (h:ns[k]? =some n) (hf:f k=false) (hl:n.g.ln=none):RF ns (k:Int) f D4 false (kI f k)
 |left (k:Nat) (n:RN) (l:aa) (f f2:Nat->Bool) (p:DV) (h:ns[k]? =some n) (hf:f k=false) (hl:n.g.ln=some l) (h1:RF ns n.l (kI f k) p false f2):RF ns (k:Int) f D4 false f2
 |node (k:Nat) (n:RN) (l:aa) (f f2 f3:Nat->Bool) (p q:DV) (ok:Bool) (h:ns[k]? =some n) (hf:f k=false) (hl:n.g.ln=some l) (h1:RF ns n.l (kI f k) p true f2) (h2:RF ns n.r f2 q ok f3):RF ns (k:Int) f (.pt (UA l p q)) ok f3
def aKN(n:Nat)(f:Nat->Bool):Bool:=(List.range n).all f
def RN.of(n:NQ):RN:=⟨⟨decide (n.l.a<0),dg n.l.a.natAbs,decide (n.l.b<0),dg n.l.b.natAbs,decide (n.l.c<0),dg n.l.c.natAbs⟩,n.a,n.b⟩
def Vt(ns:List NQ):ns.map eN=(ns.map RN.of).map RN.d:=by
 rw[List.map_map];rfl
def ZG(t:Tr):eA t=xA (t.num 0) ((t.wr 0).map RN.of):=by
 unfold eA xA;rw[Vt];rfl
def awF(a:Int):qP (decide (a<0)) (dg a.natAbs)=a:=by
 unfold qP;rw[(eo _).1];split
 ·rename_i h;have:=of_decide_eq_true h;omega
 ·rename_i h;have: ¬a<0:=fun e=>h (decide_eq_true e);omega
def Hf(a:Int):lP (decide (a<0)) (dg a.natAbs):=⟨(eo _).2.2,fun h=>xt.2 (by have:=of_decide_eq_true h;omega)⟩
def RN.of_l(n:NQ):(RN.of n).g.l=n.l:=by
 unfold RN.of RL.l;simp only[awF]
def RN.of_ln{n:NQ}(h:n.l.ok):(RN.of n).g.ln=some n.l:=by
 unfold RL.ln;rw[if_pos ⟨⟨Hf _,Hf _,Hf _⟩,by rw[RN.of_l];exact h⟩,RN.of_l]
def RN.of_sm{n:NQ}(h:LB n.l):(RN.of n).g.sm:=by
 have key: ∀a:Int,a.natAbs<2^96->bm (dg a.natAbs)/\(dg a.natAbs).length<=3:=fun a ha=>⟨(eo _).2.1,by have:=l9 ha;omega⟩;exact⟨key _ h.bl.a,key _ h.bl.b,key _ h.bl.c⟩
def Dj(b:Bool)(k:Nat):rk b≠(k:Int):=by cases b<;>(unfold rk;simp)
def RR.det{ns:List RN}{rt:Int}{s s1:RS}{t1:Tr}(h:RR ns rt s t1 s1): ∀{s2:RS} {t2:Tr},RR ns rt s t2 s2->t1=t2/\s1=s2:=by
 induction h with
 |leaf b s=>
  intro s2 t2 h;generalize hr:rk b=r at h
  cases h with
  |leaf b' s=>
   have:b=b':=by cases b<;>cases b'<;>first|rfl|(simp[rk] at hr)
   subst this;exact⟨J,J⟩
  |bad rt s h1 h2 h=>cases b<;>simp[rk] at hr<;>omega
  |line k=>exact absurd hr (Dj _ _)
  |node k=>exact absurd hr (Dj _ _)
 |bad rt s h1 h2 h=>
  intro s2 t2 h'
  cases h' with
  |leaf b s=>cases b<;>simp[rk] at h1 h2
  |bad=>exact⟨J,J⟩
  |line k n s hn hf=>
   have:=(aR.1 hn).1;rcases h with h|h|⟨j,e,_,hj⟩
   ·omega
   ·omega
   ·have:j=k:=by omega
    subst this;rw[hf] at hj;cases hj
  |node k n l s s2 s3 x y hn hf=>
   have:=(aR.1 hn).1;rcases h with h|h|⟨j,e,_,hj⟩
   ·omega
   ·omega
   ·have:j=k:=by omega
    subst this;rw[hf] at hj;cases hj
 |line k n s hn hf hl=>
  intro s2 t2 h';generalize hr:(k:Int)=r at h'
  cases h' with
  |leaf b s=>exact absurd hr.symm (Dj _ _)
  |bad rt s h1 h2 h=>
   have:=(aR.1 hn).1;rcases h with h|h|⟨j,e,_,hj⟩
   ·omega
   ·omega
   ·have:j=k:=by omega
    subst this;rw[hf] at hj;cases hj
  |line k' n' s hn' hf' hl'=>
   have:k=k':=by omega
   subst this;exact⟨J,J⟩
  |node k' n' l s s2 s3 x y hn' hf' hl'=>
   have:k=k':=by omega
   subst this;rw[hn] at hn';cases hn';rw[hl] at hl';cases hl'
 |node k n l s s2 s3 x y hn hf hl h1 h2 i1 i2=>
  intro s4 t4 h';generalize hr:(k:Int)=r at h'
  cases h' with
  |leaf b s=>exact absurd hr.symm (Dj _ _)
  |bad rt s h1 h2 h=>
   have:=(aR.1 hn).1;rcases h with h|h|⟨j,e,_,hj⟩
   ·omega
   ·omega
   ·have:j=k:=by omega
    subst this;rw[hf] at hj;cases hj
  |line k' n' s hn' hf' hl'=>
   have:k=k':=by omega
   subst this;rw[hn] at hn';cases hn';rw[hl] at hl';cases hl'
  |node k' n' l' s s2' s3' x' y' hn' hf' hl' h1' h2'=>
   have:k=k':=by omega
   subst this;rw[hn] at hn';cases hn';rw[hl] at hl';cases hl';obtain⟨rfl,rfl⟩:=i1 h1';obtain⟨rfl,rfl⟩:=i2 h2';exact⟨J,J⟩
def pj(ns:List NQ):Tr->Int->List Nat->Prop
 | .leaf b,rt,L=>rt=rk b/\L=[]
 | .node l x y,rt,L=> ∃(k:Nat) (a b:Int) (L1 L2:List Nat),rt=(k:Int)/\ns[k]? =some ⟨l,a,b⟩/\pj ns x a L1/\pj ns y b L2/\L=k::(L1++L2)
def pj.rr{ns:List NQ}: ∀{t:Tr} {rt:Int} {L:List Nat} {s:RS},pj ns t rt L->t.all aa.ok->L.Nodup->(∀j∈L,s.f j=false)-> ∃f,RR (ns.map RN.of) rt s t ⟨f,s.c+t.size,s.b⟩/\ ∀j,j∉L->f j=s.f j
 | .leaf b,rt,L,s,⟨e,e2⟩,_,_,_=>by
  subst e e2;exact⟨s.f, .leaf b s,fun _ _=>J⟩
 | .node l x y,rt,L,s,⟨k,a,b,L1,L2,e,hk,hx,hy,e2⟩,⟨h0,h1,h2⟩,hnd,hf=>by
  subst e e2;obtain⟨hkn,hnd⟩:=List.nodup_cons.1 hnd;obtain⟨hd1,hd2,hdis⟩:=List.nodup_append.1 hnd;have hfk:=hf k aQ;have hn1: ∀j∈L1,j≠k:=fun j hj e=>hkn (e▸bK _ hj);have hn2: ∀j∈L2,j≠k:=fun j hj e=>hkn (e▸bM _ hj);obtain⟨f1,r1,g1⟩:=pj.rr (s:=⟨kI s.f k,s.c+1,s.b⟩) hx h1 hd1 (fun j hj=>by simp only;rw[zy (hn1 j hj)];exact hf j (aZ _ (bK _ hj)));simp only at r1 g1;obtain⟨f2,r2,g2⟩:=pj.rr (s:=⟨f1,s.c+1+x.size,s.b⟩) hy h2 hd2 (fun j hj=>by
   simp only;rw[g1 j (fun h=>hdis _ h _ hj J),zy (hn2 j hj)];exact hf j (aZ _ (bM _ hj)))
  simp only at r2 g2;have hc:s.c+(Tr.node l x y).size=s.c+1+x.size+y.size:=by simp only[Tr.size];omega
  rw[hc];refine⟨f2, .node k (RN.of ⟨l,a,b⟩) l s _ _ x y (by rw[fS,hk];rfl) hfk (RN.of_ln h0) r1 r2,fun j hj=>?_⟩;simp only[aY,bV,not_or] at hj;rw[g2 j hj.2.2,g1 j hj.2.1,zy hj.1]
def pj.len{ns:List NQ}: ∀{t:Tr} {rt:Int} {L:List Nat},pj ns t rt L->L.length=t.size
 | .leaf _,_,_,⟨_,h⟩=>by rw[h];rfl
 | .node l x y,_,_,⟨k,a,b,L1,L2,_,_,h1,h2,h⟩=>by
  rw[h,bW,aS,pj.len h1,pj.len h2];simp only[Tr.size];omega
def RD'(ns:List NQ)(t:Tr)(rt:Int):Prop:= ∃L,pj ns t rt L/\L.Nodup/\L.length=ns.length
def Xn{ns:List NQ}{t:Tr}{rt:Int}(h:RD' ns t rt)(ho:t.all aa.ok):vt (ns.map RN.of) rt=some t:=by
 obtain⟨L,h1,h2,h3⟩:=h;obtain⟨f,r,_⟩:=h1.rr (s:=rA) ho h2 (fun _ _=>rfl);have hr:=Bv (ns:=ns.map RN.of) (m:=(ns.map RN.of).length+1) (rt:=rt) (s:=rA) (by have:=Ey (ns.map RN.of).length rA.f;omega);obtain⟨e1,e2⟩:=hr.1.det r;unfold vt;simp only;rw[e2,e1,if_pos ⟨J,by show rA.c+t.size=_;rw[aJ,<-h3,h1.len];show 0+_=_;omega⟩]
def Iz{ns:List NQ}: ∀{t:Tr} {n:Nat},(∀i,i<t.size->ns[n+i]? =(t.wr n)[i]?)->pj ns t (t.num n) (List.range' n t.size)
 | .leaf b,n,_=>⟨J,J⟩
 | .node l x y,n,h=>by
  have hsz:(Tr.node l x y).size=1+x.size+y.size:=J;have hw:(Tr.node l x y).wr n=⟨l,x.num (n+1),y.num (n+1+x.size)⟩::(x.wr (n+1)++y.wr (n+1+x.size)):=by simp[Tr.wr]
  have hx:=x.wr_len (n+1);have hy:=y.wr_len (n+1+x.size);refine⟨n,x.num (n+1),y.num (n+1+x.size),List.range' (n+1) x.size,List.range' (n+1+x.size) y.size,J,?_,Iz fun i hi=>?_,Iz fun i hi=>?_,?_⟩
  ·have:=h 0 (by omega)
   rw[hw,eY] at this;rw[this];rfl
  ·have:=h (1+i) (by omega)
   rw[hw,kX 1 i,List.getElem?_cons_succ,eJ (by omega)] at this;rw[show n+1+i=n+(i+1) by omega];exact this
  ·have:=h (1+x.size+i) (by omega)
   rw[hw,show 1+x.size+i=(x.size+i)+1 by omega,List.getElem?_cons_succ,gQ (by omega),hx,Nat.add_sub_cancel_left] at this;rw[show n+1+x.size+i=n+(x.size+i+1) by omega];exact this
  ·rw[hsz,show 1+x.size+y.size=(x.size+y.size)+1 by omega,List.range'_succ,List.range'_append_1]
def aFu{t:Tr}(ho:t.all aa.ok):vt ((t.wr 0).map RN.of) (t.num 0)=some t:=
 Xn ⟨_,Iz (n:=0) (fun i _=>by rw[dT]),List.nodup_range',by rw[List.length_range',t.wr_len]⟩ ho
def Wt{t:Tr}(hb:t.all LB): ∀n∈(t.wr 0).map RN.of,n.g.sm:=fun n hn=>by
 obtain⟨m,hm,rfl⟩:=bJ.1 hn;exact RN.of_sm (Tr.all_wr 0 hb m hm)
def Tr.all_imp{p q:aa->Prop}(h: ∀l,p l->q l): ∀{t:Tr},t.all p->t.all q
 | .leaf _,_=>trivial
 | .node _ _ _,⟨h0,h1,h2⟩=>⟨h _ h0,Tr.all_imp h h1,Tr.all_imp h h2⟩
def Y'{t:Tr}(hs:t.size<=65536):((t.wr 0).map RN.of).length<=65536:=by rw[aJ,t.wr_len];exact hs
def NH:aa:=⟨0,1,0⟩
def t00:Tr:= .node NH (.leaf true) (.leaf false)
def n4.red_size{k:Nat}{t:Tr}(h:n4 k t)(hr:t.Red []):t.size<=k*(1+k):=by
 obtain⟨K,h1,h2,h3⟩:=h.am;exact cM (Tr.size_le h2 hr h.gd.ok cI.nil h3) (jN h1 (by omega))
structure nB (k:Nat) (t:Tr):Prop where
 o:n4 k t
 s:t.size<=3000
def nB.lb{k:Nat}{t:Tr}(h:nB k t):t.all LB:=h.o.gd.lb
def nB.ok{k:Nat}{t:Tr}(h:nB k t):t.all aa.ok:=h.o.gd.ok
def nB.bl{k:Nat}{t:Tr}(h:nB k t):t.all (fun l=>BL l 96):=Tr.all_imp (fun _ h=>h.bl) h.o.gd.lb
def n4.x{k:Nat}{t:Tr}(h:n4 k t)(hr:t.Red [])(hk:k<=54):nB k t:=
 ⟨h,cM (h.red_size hr) (cM (jN hk (show 1+k<=55 by omega)) (by decide))⟩
def asN(rs:List (List ZP))(fill:Int):(lf rs fill).Red []:=Tr.restrict_red _ _
def aIY(es:List Int)(a:Nat):(Tr×Tr)×Nat:=
 let x:=r7 es 0 a
 let y:=r7 es 0 x.2
 let k:=bg es 3 y.2
 let u:=if(k.1:Int)=0 then mj es 3 k.2 else(x.1,k.2)
 let j:=bg es 3 u.2
 let v:=if(j.1:Int)=0 then mj es 3 j.2 else(y.1,j.2)
 ((u.1,v.1),v.2)
def aJU(es:List Int)(a:Nat):(Tr×Tr)×Nat:=
 let x:=r7 es 0 a
 let y:=r7 es 0 x.2
 let k:=bg es 6 y.2
 if(k.1:Int)=0 then((x.1, .node (lF es k.2).1 x.1 x.1),(lF es k.2).2)
 else if(k.1:Int)=1 then((x.1,y.1.mergeQ 1 x.1 []),k.2)
 else if(k.1:Int)=2 then((x.1,y.1.mergeQ 3 x.1 []),k.2)
 else if(k.1:Int)=3 then((x.1,(mj es 3 k.2).1),(mj es 3 k.2).2)
 else((x.1,y.1),k.2)
def M8(es:List Int):Nat->Nat->List Tr×Nat
 |0,a=>([],a)
 |n+1,a=>((r7 es 0 a).1::(M8 es n (r7 es 0 a).2).1,(M8 es n (r7 es 0 a).2).2)
def aKg(r:List ZP)(i k:Nat):Bool:=decide (k=i)||decide (k=(i+1)%r.length)||decide (0<tq (r.getD i (0,0)).q (fD r i).q (r.getD k (0,0)).q)
def aGJ(r:List ZP):Bool:=(List.range r.length).all fun i=>(List.range r.length).all fun k=>aKg r i k
section
variable {GB:Gh} {C:aD} {n:Nat} {Q0:Exit->Act->World->Prop} {fr fr' fr1 fr2:aA} {own own' own1 own2:aG} {cf cf' cf1 cf2:Cf} {vc vc1 vc2:List Prop}
def aKr(fr:aA)(cf:Cf):Option Int:=match cd fr cf with
 |some ⟨_, .binOp .and _ x (.const (.int .i64 3)) _,_,_,_,_⟩=>match aH (bD fr cf) x with
  |some (.d (.v (.int .i64 p)))=>some p
  |_=>none
 |_=>none
end
def YI{es0 es:List Int}(hb:es0.length<=1125899906842624)(he:es=es0.take 400):PN GB prog 15 [.sl (es0.map vI)] 126 Unit (fun _=>[.sl (es.map vI), .v (.int .i64 (0:Nat))]):=by
 subst he;exact Y8 hb
def W1{s t:Tr}(hs:s.all (fun l=>BL l 96))(h:t=s)(hn:s.size<=1000000):PF GB prog 21 [eA s,eA t] (.v (.bool true)):=by
 subst h;have:=aAg (GB:=GB) hs hs hn;rw[decide_eq_true (⟨J,J⟩:_/\_)] at this;exact this
def VI{k:Nat}{t:Tr}(h:nB k t):PF GB prog 22 [eT t] (eA t):=aBO h.bl (by have:=h.s;omega)
def U1{k:Nat}{s t:Tr}(hs:nB k s)(h:t=s):PF GB prog 21 [eA s,eA t] (.v (.bool true)):=W1 hs.bl h (by have:=hs.s;omega)
def aLk(cs:List RL):Option (List aa):=if cs.all (fun r=>r.ln.isSome) then some (cs.filterMap RL.ln) else none
def aKK:Option (List aa)->DV
 |some ls=> .tp [.sl (ls.map dq),vB true]
 |none=> .tp [.sl [],vB false]
def Wg(ls:List aa):ew 9 (ls.map dq):=fun d hd=>by
 obtain⟨u,_,rfl⟩:=bJ.1 hd;exact⟨rfl,rfl⟩
def Uh:Option aC->DV
 |some c=> .tp [.sl (c.map bj),vB true]
 |none=> .tp [.sl [],vB false]
def J'{ls:List aa}{c:aC}{k:Nat}{l:aa}(h:ls[k]? =some l):f9 (ls.drop k) c=if cH c l then f9 (ls.drop (k+1)) (bE c l) else none:=by
 obtain⟨hk,rfl⟩:=aR.1 h;rw[aM hk,f9]
def iu.nil:iu []:=fun s hs=>by cases hs
def Og{ls:List aa}(hb: ∀l∈ls,LB l)(ho: ∀l∈ls,l.ok)(hn:ls.length<=10000):PF GB prog 94 [.sl (ls.map dq)] (Uh (f9 ls [])):=by
 have hm:=rH dq ls;refine fn (fu:=⟨25⟩) func94 J J ntmps94 J J (fun C=>?_);refine av 9 (.d (vI (ls.length:Nat))) J (by rw[hm]<;>rfl) ?_;refine gx J<|?_;refine NO 4 J ?_;refine D2 5 (vB true) J J ?_;refine lp (X:=aC×Nat) (fun⟨c,k⟩=>[(10, .d (vI (k:Nat))),(4, .d (.sl (c.map bj))),(5, .d (vB true))]) (fun⟨c,k⟩=>[]) (fun⟨c,k⟩=>k<=ls.length/\iu c/\c.length<=k/\f9 (ls.drop k) c=f9 ls []) (fun⟨c,k⟩=>ls.length-k) ([],0) J ⟨bU _,iu.nil,aN _,J⟩ (fun _=>J) (fun⟨c,k⟩ hk=>?_);obtain⟨h1,h2,h3,h4⟩:=hk;dsimp only at*;refine br J J J (fun hc11=>?_) (fun hc11=>?_)
 .
  obtain⟨l,hx0⟩: ∃s,ls[k]? =some s:=⟨_,aX (by omega)⟩;haveI:=hb l (bX hx0);have hlo:=ho l (bX hx0);refine ix _ J (fh hx0) J<|cl J (Hp (c:=c) (l:=l) hlo h2 (by omega)) J<|?_;refine bb J J J (fun hc21=>?_) (fun hc21=>?_)
  .
   refine bb J J J (fun hc24=>?_) (fun hc24=>?_)
   .
    exact rz J (by rw[<-h4,J' hx0,if_neg (by simpa using hc21)];rfl)
   .
    exact rz J (by simp only[hc21] at hc24;simp at hc24)
  .
   refine av 5 (.d (vB true)) J (by rw[show cH c l=true by simpa using hc21]) ?_;exact at_ (bE c l,k+1) (by dsimp only;exact⟨⟨by omega,Aa (ho l (bX hx0)) h2,by have:=Ar c l;omega,by rw[<-h4,J' hx0,if_pos (by simpa using hc21)]⟩,(by omega)⟩)
 .
  refine bb J J J (fun hc24=>?_) (fun hc24=>?_)
  .
   exact rz J (absurd hc24 (by decide))
  .
   exact rz J (by rw[<-h4,iW (by omega)];rfl)
def Zw{ls:List aa}{c:aC}(hb: ∀l∈ls,LB l)(ho: ∀l∈ls,l.ok)(hn:ls.length<=10000)(h:f9 ls []=some c):PF GB prog 94 [.sl (ls.map dq)] (.tp [.sl (c.map bj),vB true]):=by
 have:=Og (GB:=GB) hb ho hn;rw[h] at this;exact this
def TP{ls:List aa}(hb: ∀l∈ls,LB l)(ho: ∀l∈ls,l.ok)(hn:ls.length<=10000)(h:f9 ls []=none):PF GB prog 94 [.sl (ls.map dq)] (.tp [.sl [],vB false]):=by
 have:=Og (GB:=GB) hb ho hn;rw[h] at this;exact this
def aJw(ai al:Addr)(more:Nat):Option Tr->DV
 |none=> .tp [.v (.pointer none),zL ai]
 |some t=>if 1024<t.depth+more then .tp [.v (.pointer none),zL al] else .tp [eU t, .v .nilIface]
def aKC(ai:Addr)(f:Tr->Tr):Option Tr->Tr ⊕ Addr
 |some t=> .inl (f t)
 |none=> .inr ai
def aJl(ai ae:Addr):Option Tr->Option (List aa)->Tr ⊕ Addr
 |some t,some ls=>(match f9 ls [] with
  |some c=> .inl (t.restrict c)
  |none=> .inr ae)
 |_,_=> .inr ai
def aLc(ai:Addr):Option aa->Option Tr->DV
 |some m,some t=> .tp [eA (t.restrict (bE [] m)),eA (t.restrict (bE [] m.rev)), .v .nilIface]
 |_,_=> .tp [Hl,Hl,zL ai]

def ePr(a b:Tr):DV:= .ag [eU a,eU b]
def prZ:DV:= .ag [.v (.pointer none), .v (.pointer none)]
def aHD{k:Nat}{t:Tr}(h:nB k t):PF GB prog 129 [eA t] (.tp [eU t,vB true]):=by
 have:=SK (GB:=GB) (rt:=t.num 0) (Wt h.lb) (Y' (by have:=h.s;omega)) (aFu h.ok);rw[<-ZG] at this;exact this
def mtQ(a:aa)(t:List aa):List Rat:=t.filterMap fun b=>if crossI a b=0 then none else some (gr a b).x
def aLf(l:List aa)(x:Rat):List ab:=(gG (Hg (L9 l x))).map fun y=>⟨x,y⟩
def K7:Tr->ab->Bool
 | .leaf _,_=>true
 | .node l x y,p=>if(l.value p).num.sign=1 then K7 x p else if(l.value p).num.sign= -1 then K7 y p else false
structure Two (a b:Tr):Prop where
 ga:a.gd
 gb:b.gd
 sa:a.size<=3000
 sb:b.size<=3000
def f1R(x y:Bool):Bool:=x&&!y
def f2R(x y:Bool):Bool:=y&&!x
def f3R(x y:Bool):Bool:=x&&y
def f4R(x y:Bool):Bool:=!x&&!y
def anK(f:Bool->Bool->Bool)(a b:Tr)(k:Nat):Bool:=((EF a b).take k).any fun p=>f (tU a p) (tU b p)
def QA:Tr->List aa->List (List aa×Bool)
 | .leaf b,c=>if nf c then [(d9 c,b)] else []
 | .node l x y,c=>if nf c then QA x (d9 c++[l])++QA y (d9 c++[l.rev]) else []
def T0(c:List aa)(p:ab):Bool:=c.all fun l=>decide (0<Int.sign (l.value p).num)
def aKM(c:List aa):Option ab:=(QB (zj c)).find? (T0 c)
def YS{l m:aa}(hl:l.ok)(hm:m.ok)(h:ck l.dir m.dir=0): ∃k e:Rat,0<k/\ ∀p,m.value p=k*l.value p+e:=by
 obtain⟨h1,h2⟩:=O4.1 h;have z1:=yp hl;have key: ∃k:Rat,0<k/\m.dir.x=k*l.dir.x/\m.dir.y=k*l.dir.y:=by
  unfold ab.cross at h2;rcases kA l.dir with⟨e,k⟩|⟨e,k⟩|⟨e,k⟩
  ·rw[e] at h1
   have k2:=tP.1 h1.symm;rcases k with k|⟨k,k'⟩
   ·have y2:0<m.dir.y:=by
     rcases k2 with k2|⟨k2,k3⟩
     ·exact k2
     ·exfalso
      rw[k2] at h2;have:=b8 k k3;grind
    refine⟨m.dir.y/l.dir.y,?_,by grind,by grind⟩;have:0<m.dir.y/l.dir.y:=(il k).1 (by rw[show m.dir.y/l.dir.y*l.dir.y=m.dir.y by grind];exact y2);exact this
   ·rw[k] at h2
    have y2:m.dir.y=0:=by
     rcases qN.1 (show l.dir.x*m.dir.y=0 by grind) with q|q
     ·rw[q] at k';exact absurd k' (by decide)
     ·exact q
    have x2:0<m.dir.x:=by
     rcases k2 with k2|⟨_,k3⟩
     ·rw[y2] at k2;exact absurd k2 (by decide)
     ·exact k3
    refine⟨m.dir.x/l.dir.x,(il k').1 (by rw[show m.dir.x/l.dir.x*l.dir.x=m.dir.x by grind];exact x2),by grind,by rw[y2,k];grind⟩
  ·rw[e] at h1
   have k2:=uk.1 h1.symm;rcases k with k|⟨k,k'⟩
   ·have y2:m.dir.y<0:=by
     rcases k2 with k2|⟨k2,k3⟩
     ·exact k2
     ·exfalso
      rw[k2] at h2;have:=b8 (show 0< -l.dir.y by grind) (show 0< -m.dir.x by grind);grind
    refine⟨m.dir.y/l.dir.y,(il (show 0< -l.dir.y by grind)).1 (by rw[show m.dir.y/l.dir.y* -l.dir.y= -m.dir.y by grind];grind),by grind,by grind⟩
   ·rw[k] at h2
    have y2:m.dir.y=0:=by
     rcases qN.1 (show l.dir.x*m.dir.y=0 by grind) with q|q
     ·rw[q] at k';exact absurd k' (by decide)
     ·exact q
    have x2:m.dir.x<0:=by
     rcases k2 with k2|⟨_,k3⟩
     ·rw[y2] at k2;exact absurd k2 (by decide)
     ·exact k3
    refine⟨m.dir.x/l.dir.x,(il (show 0< -l.dir.x by grind)).1 (by rw[show m.dir.x/l.dir.x* -l.dir.x= -m.dir.x by grind];grind),by grind,by rw[y2,k];grind⟩
  ·exact absurd e z1
 obtain⟨k,k0,kx,ky⟩:=key;simp only[aa.dir] at kx ky;refine⟨k,(m.c:Rat)-k*(l.c:Rat),k0,fun p=>?_⟩;rw[lB,lB,kx];have:(m.a:Rat)=k*(l.a:Rat):=by grind
 rw[this];grind
def MO{e:aC}(hne: ∃q,bw e q){l m:aa}(hl:l.ok)(hm:m.ok)(pl: ∀p,bw e p->0<l.value p)(pm: ∀p,bw e p->0<m.value p)(tl: ∃p,n0 e p/\l.value p=0)(tm: ∃p,n0 e p/\m.value p=0)(ha:ck l.dir m.dir=0):l=m:=by
 obtain⟨k,c,k0,hk⟩:=YS hl hm ha;obtain⟨p,p1,p2⟩:=tl;obtain⟨q,q1,q2⟩:=tm;have g1:=tf hne pm p1;rw[hk,p2] at g1;have g2:=tf hne pl q1;have g3:=eO (dS k0) g2;rw[hk] at q2;have c0:c=0:=by grind
 have hz: ∀t,m.value (l.at t)=0:=fun t=>by rw[hk,nH hl.ne,c0];grind
 rcases yj hm hl hz with h|h
 ·exact h.symm
 ·exfalso
  obtain⟨u,hu⟩:=hne;have a:=pl u hu;have b:=pm u hu;rw[h,f7] at b;grind
def H9{c:aC}(hc:cI c){s:aO}(hs:s∈c):n0 c (s.l.at s.v.sample)/\s.l.value (s.l.at s.v.sample)=0:=
 ⟨((hc.edge s hs).2 _).1 (p6 (hc.edge s hs).1).has,nH (hc.ok s hs).ne _⟩
def ww(c:aC):Prop:=(c.map fun s=>s.l.dir).Pairwise cv
def Hw{p:Nat->Bool}{N:Nat}(hm: ∀i j,i<=j->j<N->p j=true->p i=true): ∀(d i j:Nat),j-i<=d->i<=j->j<=N->(∀k,k<i->p k=true)->(∀k,j<=k->k<N->p k=false)->(∀k,k<gm p i j->p k=true)/\ ∀k,gm p i j<=k->k<N->p k=false
 |0,i,j,h,hij,hN,h1,h2=>by
  obtain rfl:i=j:=by omega
  rw[gm,dif_neg (by omega)];exact⟨h1,h2⟩
 |d+1,i,j,h,hij,hN,h1,h2=>by
  by_cases q:i<j
  ·rw[gm,dif_pos q]
   by_cases r:p ((i+j)/2)=true
   ·rw[if_pos r]
    exact Hw hm d _ _ (by omega) (by omega) hN (fun k hk=>hm k ((i+j)/2) (by omega) (by omega) r) h2
   ·rw[if_neg r]
    refine Hw hm d _ _ (by omega) (by omega) (by omega) h1 fun k hk hkN=>?_
    cases hp:p k with
    |false=>rfl
    |true=>exact absurd (hm _ k hk hkN hp) r
  ·obtain rfl:i=j:=by omega
   rw[gm,dif_neg q];exact⟨h1,h2⟩
def M4{ds:List ab}{d:ab}{n:Nat}(h:ds.Pairwise cv)(h1: ∀x∈ds.take n,cv x d)(h2: ∀x∈ds.drop n,cv d x):(ds.take n++d::ds.drop n).Pairwise cv:=by
 have hs:=h;rw[<-kW n ds,fM] at hs;obtain⟨a,b,c⟩:=hs;rw[fM];refine⟨a,bY.2 ⟨h2,b⟩,fun x hx y hy=>?_⟩;rcases aY.1 hy with rfl|hy
 ·exact h1 x hx
 ·exact c x hx y hy
def IJ(l:aa): ∀c:aC,((eH l c).map fun s=>s.l.dir).Sublist (c.map fun s=>s.l.dir)
 |[]=>List.Sublist.refl _
 |s::c=>by
  rw[eH];split
  ·exact(IJ l c).cons_cons _
  ·exact(IJ l c).cons _
def LR{α:Type}{l:List α}{n:Nat}{x:α}(h:x∈l.take n): ∃i,i<n/\l[i]? =some x:=by
 obtain⟨i,hi,e⟩:=sT.1 h;rw[cK] at hi;exact⟨i,by omega,by rw[List.getElem_take] at e;rw[aX (by omega),e]⟩
def Lz{α:Type}{l:List α}{n:Nat}{x:α}(h:x∈l.drop n): ∃i,n<=i/\i<l.length/\l[i]? =some x:=by
 obtain⟨i,hi,e⟩:=sT.1 h;rw[gL] at hi;exact⟨n+i,by omega,by omega,by rw[List.getElem_drop] at e;rw[aX (by omega),e]⟩
def WH{c:aC}{l:aa}(hc:cI c)(hl:l.ok)(ha:ww c)(hb:cH c l=true):ww (bE c l):=by
 have hg:=(jv hc hl hb).1;unfold bE at hg⊢
 cases hp:kG c l with
 |none=>exact ha
 |some v=>
  simp only[hp] at hg⊢;have hs:ww (eH l c):=ha.sublist (IJ l c);have nt: ∀s∈eH l c,ck s.l.dir l.dir≠0:=fun s h e=>by
   have m1:s∈mm (eH l c) l v:=qA.2 (.inr h);have m2:(⟨l,v⟩:aO)∈mm (eH l c) l v:=qA.2 (.inl J);have ee:=MO hg.ne (hg.ok s m1) hl (fun p hp=>hp s m1) (fun p hp=>hp ⟨l,v⟩ m2) ⟨_,H9 hg m1⟩ ⟨_,H9 hg m2⟩ e;obtain⟨s0,g1,_,rfl⟩:=se.1 h;obtain⟨_,q,q1,q2⟩:=Gv hl.ne hp;have h5:=q1 s0 g1;have e5:s0.l=l:=ee;rw[e5] at h5;grind
  generalize eH l c=d at*;have hmo: ∀i j,i<=j->j<d.length->jo d l j=true->jo d l i=true:=fun i j hij hj h=>by
   unfold jo at h⊢;rw[aX hj] at h;rw[aX (by omega)];simp only[decide_eq_true_eq,mD] at h⊢;by_cases q:i=j
   ·subst q;exact h
   ·have:=lN.1 hs i j (by simp;omega) (by simp;omega) (by omega)
    simp only[pY] at this;exact xl this h
  obtain⟨k1,k2⟩:=Hw hmo d.length 0 d.length (by omega) (by omega) (aN _) (fun k h=>absurd h (by omega)) (fun k h h'=>absurd h' (by omega));unfold mm ww;generalize gm (jo d l) 0 d.length=n at*;rw[eX,bS,lX,oQ];refine M4 hs (fun x hx=>?_) (fun x hx=>?_)
  ·rw[<-lX] at hx
   obtain⟨s,h1,rfl⟩:=bJ.1 hx;obtain⟨i,hi,e⟩:=LR h1;have:=k1 i hi;unfold jo at this;rw[e] at this;simpa[mD] using this
  ·rw[<-oQ] at hx
   obtain⟨s,h1,rfl⟩:=bJ.1 hx;obtain⟨i,hi,hi2,e⟩:=Lz h1;have:=k2 i hi hi2;unfold jo at this;rw[e] at this;have h3: ¬cv s.l.dir l.dir:=by simpa[mD] using this
   by_cases q:cv l.dir s.l.dir
   ·exact q
   ·exact absurd (CK h3 q) (nt s (iY h1))
def ti(c:List aa):Prop:=(c.map aa.dir).Pairwise cv
def D0{c:List aa}{e:aC}(hs: ∀s∈e,s.l∈c){l:aa}(hl:l.ok)(he:(fk l c aj.all).isSome=true): ∃w:aj,w.Pos/\ ∀t,w.ins t->n0 e (l.at t)/\l.value (l.at t)=0/\ ∀m∈c,m≠l->0<m.value (l.at t):=by
 obtain⟨w,hw⟩:=qU.1 he;obtain⟨h1,h2⟩:=yP l c _ w vP hw;refine⟨w,h1,fun t ht=>?_⟩;have h3:=((h2 t).1 ht).2;refine⟨fun s hs'=>?_,nH hl.ne t,h3⟩;by_cases q:s.l=l
 ·rw[q,nH hl.ne];exact gT
 ·exact dS (h3 _ (hs s hs') q)
def Je{α:Type}{p:α->Bool}: ∀(l:List α),(∀i x,i<(l.takeWhile p).length->l[i]? =some x->p x=true)/\ ∀x,l[(l.takeWhile p).length]? =some x->p x=false
 |[]=>⟨fun i x h _=>by simp at h,fun x h=>by simp at h⟩
 |a::l=>by
  obtain⟨h1,h2⟩:=Je (p:=p) l;rw[tX]
  cases ha:p a with
  |false=>
   refine⟨fun i x h _=>by simp at h,fun x h=>?_⟩;simp at h;rw[<-h];exact ha
  |true=>
   simp only[if_true,bW];refine⟨fun i x h e=>?_,fun x h=>h2 x (by simpa using h)⟩
   cases i with
   |zero=>simp at e;rw[<-e];exact ha
   |succ i=>exact h1 i x (by omega) (by simpa using e)
def Sy{out:List aa}{l:aa}(ha:ti out)(ht: ∀m∈out,ck m.dir l.dir=0->m=l):ti (oI out l):=by
 unfold oI;split
 ·exact ha
 ·rename_i hne
  obtain⟨k1,k2⟩:=Je (p:=fun x:aa=>decide (ck x.dir l.dir<0)) out;have e0:mI out l=(out.takeWhile fun x=>decide (ck x.dir l.dir<0)).length:=J;rw[<-e0] at k1 k2;generalize mI out l=n at*;unfold ti;rw[eX,bS,lX,oQ];refine M4 ha (fun x hx=>?_) (fun x hx=>?_)
  ·rw[<-lX] at hx
   obtain⟨m,h1,rfl⟩:=bJ.1 hx;obtain⟨i,hi,e⟩:=LR h1;simpa[mD] using k1 i m hi e
  ·rw[<-oQ] at hx
   obtain⟨m,h1,rfl⟩:=bJ.1 hx;obtain⟨i,hi,hi2,e⟩:=Lz h1;have hn:n<out.length:=by omega
   have h3: ¬cv (out[n]).dir l.dir:=by simpa[mD] using k2 _ (aX hn)
   have h4:cv l.dir (out[n]).dir:=by
    by_cases q:cv l.dir (out[n]).dir
    ·exact q
    ·exact absurd (by rw[aX hn,ht _ (cY hn) (CK h3 q)]) hne
   by_cases q:i=n
   ·subst q
    rw[aX hn] at e
    cases e
    exact h4
   ·have:=lN.1 ha n i (by simp;omega) (by simp;omega) (by omega)
    simp only[pY] at this;rw[aX hi2] at e
    cases e
    exact xl h4 this
def Iu{c:List aa}(ht: ∀l∈c,∀m∈c,(fk l c aj.all).isSome=true->(fk m c aj.all).isSome=true->ck m.dir l.dir=0->m=l): ∀{t out:List aa},(∀l∈t,l∈c)->(∀m∈out,m∈c/\(fk m c aj.all).isSome=true)->ti out->ti (nC c t out)
 |[],out,_,_,ha=>ha
 |l::t,out,hc,ho,ha=>by
  have hl:=hc l aQ;rw[nC];by_cases q:(fk l c aj.all).isSome=true
  ·rw[if_pos q]
   refine Iu ht (fun l h=>hc l (aZ _ h)) (fun m hm=>?_) (Sy ha fun m hm e=>ht l hl m (ho m hm).1 q (ho m hm).2 e);rcases HU.1 hm with rfl|h
   ·exact⟨hl,q⟩
   ·exact ho m h
  ·rw[if_neg q]
   exact Iu ht (fun l h=>hc l (aZ _ h)) ho ha
def WL{c:List aa}(hok: ∀l∈c,l.ok)(hne: ∃p,dh c p):ti (d9 c):=by
 obtain⟨e,_,hg,hi,hs⟩:=AZ hok hne;refine Iu (fun l hl m hm el em h=>?_) (fun l h=>h) (fun m h=>by cases h) .nil;obtain⟨w1,p1,k1⟩:=D0 (fun s h=>(hs s h).1) (hok l hl) el;obtain⟨w2,p2,k2⟩:=D0 (fun s h=>(hs s h).1) (hok m hm) em;obtain⟨a1,a2,_⟩:=k1 _ (p6 p1);obtain⟨b1,b2,_⟩:=k2 _ (p6 p2);exact MO hg.ne (hok m hm) (hok l hl) (fun p hp=>(hi p).1 hp m hm) (fun p hp=>(hi p).1 hp l hl) ⟨_,b1,b2⟩ ⟨_,a1,a2⟩ h
def Ly{v:aj}{t u:Rat}(h:v.ins t)(k:v.has u):v.ins ((t+u)*(1/2)):=by
 obtain⟨lo,hi,nl,nh⟩:=v;unfold aj.ins at*;unfold aj.has at k
 cases nl<;>cases nh<;>simp at* <;>grind
def Cw{c d:aC}(hc: ∃q,bw c q)(h: ∀p,bw c p↔bw d p){p:ab}(hp:n0 c p):n0 d p:=fun s hs=>tf hc (fun q hq=>(h q).1 hq s hs) hp
def asF{c:List aa}{d:aC}(hok: ∀l∈c,l.ok)(hd:cI d)(h: ∀p,bw d p↔dh c p)(l:aa):l∈d.map (·.l)↔l∈d9 c:=by
 have hne: ∃p,dh c p:=hd.ne.elim fun q hq=>⟨q,(h q).1 hq⟩;obtain⟨e,_,hg,hi,hs⟩:=AZ hok hne;have hde: ∀p,bw d p↔bw e p:=fun p=>by rw[h,hi]
 constructor
 ·intro hl
  obtain⟨s,k,rfl⟩:=bJ.1 hl;obtain⟨t1,t2⟩:=H9 hd k;have t3:=Cw hd.ne hde t1;have: ¬bw e (s.l.at s.v.sample):=fun q=>by
   have:=(hde _).2 q s k;rw[t2] at this;exact absurd this (by decide)
  obtain⟨u,hu,hz⟩: ∃u∈e,u.l.value (s.l.at s.v.sample)=0:=by
   by_cases q: ∃u∈e,u.l.value (s.l.at s.v.sample)=0
   ·exact q
   ·exfalso
    refine this fun u hu=>?_;have g1:=t3 u hu;have g2:u.l.value (s.l.at s.v.sample)≠0:=fun e=>q ⟨u,hu,e⟩;grind
  have:=Ek hd k (hg.ok u hu) (fun p hp=>(hde p).1 hp u hu) hz;rw[<-this];exact qx.2 (hs u hu)
 ·intro hl
  obtain⟨l1,l2⟩:=qx.1 hl;obtain⟨w,p1,k1⟩:=D0 (fun s h=>(hs s h).1) (hok l l1) l2;have hed: ∀p,bw e p↔bw d p:=fun p=>(hde p).symm;have hi1:=p6 p1;obtain⟨⟨u1,m1,n1⟩,⟨u2,m2,n2⟩⟩:=HK hi1;have g1:=Ly hi1 n1;have g2:=Ly hi1 n2;obtain⟨c0,c1,_⟩:=k1 _ hi1;have c2:=Cw hg.ne hed c0;have: ¬bw d (l.at w.sample):=fun q=>by
   have:=(h _).1 q l l1;rw[c1] at this;exact absurd this (by decide)
  obtain⟨s,hsd,hz⟩: ∃s∈d,s.l.value (l.at w.sample)=0:=by
   by_cases q: ∃u∈d,u.l.value (l.at w.sample)=0
   ·exact q
   ·exfalso
    refine this fun u hu=>?_;have g1:=c2 u hu;have g2:u.l.value (l.at w.sample)≠0:=fun e=>q ⟨u,hu,e⟩;grind
  have e1:=Cw hg.ne hed (k1 _ g1).1 s hsd;have e2:=Cw hg.ne hed (k1 _ g2).1 s hsd;rw[lI] at hz e1 e2;have hK:l.cutK s.l=0:=by
   rcases fE (l.cutK s.l) with h|h|h
   ·exact h
   ·exfalso
    have:=b8 (a:=w.sample-u1) (b:=l.cutK s.l) (by grind) h;grind
   ·exfalso
    have:=b8 (a:=u2-w.sample) (b:= -l.cutK s.l) (by grind) (by grind);grind
  have hz2: ∀t,s.l.value (l.at t)=0:=fun t=>by rw[lI,hK];rw[hK] at hz;grind
  rcases yj (hd.ok s hsd) (hok l l1) hz2 with q|q
  ·rw[<-q];exact iN hsd
  ·exfalso
   obtain⟨u,hu⟩:=hd.ne;have a:=hu s hsd;have b:=(h u).1 hu l l1;rw[q,f7] at a;grind
def Kr: ∀{l m:List aa},ti l->ti m->(∀x,x∈l↔x∈m)->l=m
 |[],[],_,_,_=>rfl
 |[],b::m,_,_,h=>absurd ((h b).2 aQ) (by simp)
 |a::l,[],_,_,h=>absurd ((h a).1 aQ) (by simp)
 |a::l,b::m,h1,h2,h=>by
  obtain⟨p1,p2⟩:=bY.1 h1;obtain⟨q1,q2⟩:=bY.1 h2;have p1': ∀x∈l,cv a.dir x.dir:=fun x hx=>p1 _ (iN hx);have q1': ∀x∈m,cv b.dir x.dir:=fun x hx=>q1 _ (iN hx);have e:a=b:=by
   rcases aY.1 ((h a).1 aQ) with e|e
   ·exact e
   ·rcases aY.1 ((h b).2 aQ) with f|f
    ·exact f.symm
    ·exact(JK (q1' a e) (p1' b f)).elim
  subst e;congr 1;refine Kr p2 q2 fun x=>⟨fun hx=>?_,fun hx=>?_⟩
  ·rcases aY.1 ((h x).1 (aZ _ hx)) with e|e
   ·subst e;exact(wX _ (p1' _ hx)).elim
   ·exact e
  ·rcases aY.1 ((h x).2 (aZ _ hx)) with e|e
   ·subst e;exact(wX _ (q1' _ hx)).elim
   ·exact e
def Lw{c:List aa}{d:aC}(hok: ∀l∈c,l.ok)(hd:cI d)(ha:ww d)(h: ∀p,bw d p↔dh c p):d9 c=d.map (·.l):=by
 refine Kr (WL hok (hd.ne.elim fun q hq=>⟨q,(h q).1 hq⟩)) ?_ fun x=>(asF hok hd h x).symm;unfold ti;rw[List.map_map];exact ha
def Ws(c:aC):Bool:=!c.isEmpty&&c.all fun s=>!s.v.nl&&!s.v.nh
def LN(c:List aa)(v:ab):Bool:=c.all fun l=>decide (0<=Int.sign (l.dir.cross v).num)
def aK7(c:List aa):Bool:=!c.isEmpty&&(c.flatMap fun l=>[l.dir,b7 l.dir]).all fun v=>!LN c v
def DT:aa:=⟨1,0,0⟩
def aJj(c:List aa)(i:Nat):List ab:=
 if 0<Int.sign ((c.getD i DT).dir.cross (c.getD ((i+1)%c.length) DT).dir).num then [gr (c.getD i DT) (c.getD ((i+1)%c.length) DT)] else []
def wx(c:List aa):List ab:=(List.range c.length).flatMap (aJj c)
def Z3(v:List ab)(i:Nat):List ab:=[v.getD 0 ⟨0,0⟩,v.getD (i+1) ⟨0,0⟩,v.getD (i+2) ⟨0,0⟩]
def KB(v:List ab):List (List ab):=(List.range (v.length-2)).map (Z3 v)
def aJO(cs:List (List aa)):List (List ab):=cs.flatMap fun c=>KB (wx c)
end Go.Sx
end
