import Derived.Test.YtefoocgiaegobaaGreatDoorPa13
set_option linter.all false
set_option maxHeartbeats 4000000
set_option maxRecDepth 100000
section
namespace Go.Sx
open Go Go.Proofs Tryz
variable {GB:Gh}
def Hp{α:Type}{c:α->α->Int}(hT: ∀u v w,c u v<0->c v w<0->c u w<0)(hA: ∀u v,¬c u v<0->c u v≠0->c v u<0){x:α}: ∀{xs:List α},xs.Pairwise (fun a b=>c a b<0)->(dF c x xs).Pairwise (fun a b=>c a b<0)
 |[],_=>by rw[dF];exact pL _ _
 |u::t,h=>by
  obtain⟨h1,h2⟩:=bW.1 h;rw[dF];split
  ·rename_i hu
   refine bW.2 ⟨fun y hy=>?_,Hp hT hA h2⟩;rcases BR c hy with rfl|hy
   ·exact hu
   ·exact h1 y hy
  ·rename_i hu
   split
   ·exact h
   ·rename_i hz
    have hx:=hA u x hu hz;refine bW.2 ⟨fun y hy=>?_,h⟩;rcases aU.1 hy with rfl|hy
    ·exact hx
    ·exact hT _ _ _ hx (h1 y hy)
def CL{α:Type}{c:α->α->Int}(hT: ∀u v w,c u v<0->c v w<0->c u w<0)(hA: ∀u v,¬c u v<0->c u v≠0->c v u<0): ∀{l o:List α},o.Pairwise (fun a b=>c a b<0)->(l.foldl (fun out x=>dF c x out) o).Pairwise (fun a b=>c a b<0)
 |[],o,h=>h
 |x::l,o,h=>CL (l:=l) (o:=dF c x o) hT hA (Hp hT hA h)
def BK(l m:ab):p8 l m<0↔l.a<m.a\/(l.a=m.a/\(l.b<m.b\/(l.b=m.b/\l.c<m.c))):=by
 unfold p8;split
 ·rename_i h;rw[Dr];rw[ne_eq,nF] at h;omega
 ·rename_i h;rw[ne_eq,Decidable.not_not,nF] at h
  split
  ·rename_i k;rw[Dr];rw[ne_eq,nF] at k;omega
  ·rename_i k;rw[ne_eq,Decidable.not_not,nF] at k;rw[Dr];omega
def OV(l m:ab):p8 l m=0↔l.a=m.a/\l.b=m.b/\l.c=m.c:=by
 unfold p8;split
 ·rename_i h;rw[nF];rw[ne_eq,nF] at h;omega
 ·rename_i h;rw[ne_eq,Decidable.not_not,nF] at h
  split
  ·rename_i k;rw[nF];rw[ne_eq,nF] at k;omega
  ·rename_i k;rw[ne_eq,Decidable.not_not,nF] at k;rw[nF];omega
def V5(ls:List ab):(my ls).Pairwise (fun a b=>p8 a b<0):=
 CL (fun u v w h k=>by rw[BK] at*;omega) (fun u v h k=>by rw[BK] at*;rw[ne_eq,OV] at k;omega) List.Pairwise.nil
def XV(L:List ab)(p:aa):List aa:=L.flatMap fun l=>if Int.sign (l.value p).num=0 then [l.dir,bg l.dir] else []
def Px{u v:aa}:0<cA u v↔b8 v u:=by
 unfold cA b8;split
 ·rename_i h;exact⟨fun e=>absurd e (by decide),fun e=>by omega⟩
 ·rename_i h
  split
  ·rename_i h2;exact⟨fun _=> .inl h2,fun _=>by decide⟩
  ·rename_i h2
   have e:v.half=u.half:=by omega
   rw[eH u v];constructor
   ·intro k
    have:Int.sign (u.cross v).num<0:=by omega
    rw[lD] at this;exact .inr ⟨e,by grind⟩
   ·rintro (k|⟨_,k⟩)
    ·omega
    ·have:Int.sign (u.cross v).num<0:=(lD _).2 (by grind)
     omega
def b8.trans{u v w:aa}(hu:u.half≠0)(hv:v.half≠0)(hw:w.half≠0)(h:b8 u v)(k:b8 v w):b8 u w:=by
 rcases h with h|⟨h,h'⟩<;>rcases k with k|⟨k,k'⟩
 ·exact .inl (by omega)
 ·exact .inl (by omega)
 ·exact .inl (by omega)
 ·refine .inr ⟨h.trans k,?_⟩
  have id1:u.cross w*v.y=u.cross v*w.y+v.cross w*u.y:=by unfold aa.cross;grind
  rcases ja v with⟨x,q⟩|⟨x,q⟩|⟨x,q⟩
  ·rw[x] at h k
   have qu:=l9.1 h;have qw:=l9.1 k.symm;rcases q with q|⟨q,q'⟩
   ·rw[<-fi q,id1]
    have wy:0<=w.y:=by grind
    have uy:0<=u.y:=by grind
    have a1:=bG (cY h') wy;rcases qu with qu|⟨qu,qu'⟩
    ·have:=bv k' qu;grind
    ·rcases qw with qw|⟨qw,qw'⟩
     ·have:=bv h' qw;rw[qu];grind
     ·exfalso
      have hx:v.cross w= -(w.x*v.y):=by unfold aa.cross;rw[qw];grind
      have:=bv qw' q;grind
   ·exfalso
    have hx:u.cross v= -(v.x*u.y):=by unfold aa.cross;rw[q];grind
    have:=bG (a:=v.x) (b:=u.y) (cY q') (by grind);grind
  ·rw[x] at h k
   have qu:=nf.1 h;have qw:=nf.1 k.symm;rcases q with q|⟨q,q'⟩
   ·have e1:u.cross w* -v.y=u.cross v* -w.y+v.cross w* -u.y:=by grind
    rw[<-fi (k:= -v.y) (by grind),e1];have a1:=bG (a:=u.cross v) (b:= -w.y) (cY h') (by grind);rcases qu with qu|⟨qu,qu'⟩
    ·have:=bv (a:=v.cross w) (b:= -u.y) k' (by grind);grind
    ·rcases qw with qw|⟨qw,qw'⟩
     ·have:=bv (a:=u.cross v) (b:= -w.y) h' (by grind);rw[qu];grind
     ·exfalso
      have hx:v.cross w= -(-w.x* -v.y):=by unfold aa.cross;rw[qw];grind
      have:=bv (a:= -w.x) (b:= -v.y) (by grind) (by grind);grind
   ·exfalso
    have hx:u.cross v= -(-v.x* -u.y):=by unfold aa.cross;rw[q];grind
    have:=bG (a:= -v.x) (b:= -u.y) (by grind) (by grind);grind
  ·exact absurd x hv
def D6(S:List aa)(x:aa):Nat->Nat
 |0=>0
 |k+1=>if 0<cA (S.getD k ⟨0,0⟩) x then D6 S x k else k+1
def Ws(S:List aa)(x:aa):List aa:=S.take (D6 S x S.length)++x::S.drop (D6 S x S.length)
def Q1(ds:List aa):List aa:=ds.foldl Ws []
structure sr (L:List ab):Prop where
 ok: ∀l∈L,l.ok
 cn: ∀l∈L,td l=false
 nd:L.Pairwise (fun a b=>a≠b)
def D2{l:ab}(h:l.ok):td l.canon=false:=by
 have hn:=h.ne;unfold ab.Ne at hn;unfold ab.canon;split
 ·rename_i k
  unfold td at*;rw[decide_eq_true_eq] at k;rw[decide_eq_false_iff_not];show¬(-l.a<0\/(-l.a=0/\ -l.b<0));omega
 ·rename_i k;simpa using k
def I8{ls:List ab}(h: ∀l∈ls,l.ok):sr (my ls) where
 ok:=fun l hl=>by obtain⟨x,hx,rfl⟩:=N9 hl;exact Xe (h x hx)
 cn:=fun l hl=>by obtain⟨x,hx,rfl⟩:=N9 hl;exact D2 (h x hx)
 nd:=(V5 ls).imp fun{a b} k e=>by subst e;rw[BK] at k;omega
def tA{l:ab}(h:l.ok):l.dir.half≠0:=fun e=>by
 have hn:=h.ne;unfold ab.Ne at hn;rcases ja l.dir with⟨k,_⟩|⟨k,_⟩|⟨_,k1,k2⟩
 ·rw[k] at e;cases e
 ·rw[k] at e;cases e
 ·unfold ab.dir at k1 k2
  simp only at k1 k2;apply hn;refine⟨?_,iL.1 k2⟩;have:(l.a:Rat)=0:=by grind
  exact iL.1 this
def UQ{d:aa}(h:d.half≠0):(bg d).half≠0:=by rw[pm h];have:=fm h;omega
def wk(d:aa):bg (bg d)=d:=by unfold bg;cases d;simp
def UC{l m:ab}(hl:l.ok)(hm:m.ok)(cl:td l=false)(cm:td m=false){p:aa}(h1:l.value p=0)(h2:m.value p=0)(hc:l.dir.cross m.dir=0):l=m:=by
 have key: ∀t,l.value (m.at t)=0:=fun t=>by
  obtain⟨s,rfl⟩:=yS hm.ne h2;rw[n4] at h1⊢;have hk:m.cutK l=0:=by
   unfold ab.cutK;rw[<-vr];exact hc
  rw[hk] at h1⊢;grind
 rcases EZ hl hm key with e|e
 ·exact e
 ·exfalso
  have hn:=hm.ne;unfold ab.Ne at hn;rw[e] at cl;unfold td at cl cm;rw[decide_eq_false_iff_not] at cl cm;have cl: ¬(-m.a<0\/(-m.a=0/\ -m.b<0)):=cl;omega
def Ja{ds:List aa}(h:ds.Pairwise b8)(hd:r8 ds){i:Nat}(hi:i<ds.length)(hj:(i+1)%ds.length<ds.length):kI ds ds[i] ds[(i+1)%ds.length]:=by
 have hp:=mK.1 h;have irr: ∀{u v:aa},b8 u v-> ¬b8 v u:=fun{u v} a b=>by
  unfold b8 at a b;rw[eH u v] at b;rcases a with a|⟨a,a'⟩<;>rcases b with b|⟨b,b'⟩
  ·omega
  ·omega
  ·omega
  ·grind
 have ord: ∀{j k:Nat} (a:j<ds.length) (b:k<ds.length),b8 ds[j] ds[k]->j<k:=fun{j k} a b q=>by
  rcases nS j k with e|e|e
  ·exact e
  ·subst e;exact absurd q (irr q)
  ·exact absurd (hp k j b a e) (irr q)
 by_cases hl:i+1<ds.length
 ·have e:(i+1)%ds.length=i+1:=dY hl
  simp only[e];refine .inl ⟨hp i (i+1) hi hl (by omega),fun d hd' ⟨q1,q2⟩=>?_⟩;obtain⟨j,hj',rfl⟩:=mN hd';have:=ord hi hj' q1;have:=ord hj' hl q2;omega
 ·have e:(i+1)%ds.length=0:=by rw[show i+1=ds.length by omega];exact rS _
  simp only[e];refine .inr ⟨fun d hd' q=>?_,fun d hd' q=>?_⟩
  ·obtain⟨j,hj',rfl⟩:=mN hd'
   have:=ord hi hj' q;omega
  ·obtain⟨j,hj',rfl⟩:=mN hd'
   have:=ord hj' (by omega) q;omega
def N7(v:aa):Nat:=Nat.gcd (v.x.num.natAbs*v.y.den) (v.y.num.natAbs*v.x.den)
def Lg(n:Int)(d g:Nat):Int:=if n<0 then-((n.natAbs*d/g:Nat):Int) else((n.natAbs*d/g:Nat):Int)
def GJ(v:aa):aa:=if v.half=0 then⟨0,0⟩ else⟨(Lg v.x.num v.y.den (N7 v):Int),(Lg v.y.num v.x.den (N7 v):Int)⟩
def Pb(ds:List aa)(i:Nat):List aa:=
 if cA (ds.getD i ⟨0,0⟩) (ds.getD ((i+1)%ds.length) ⟨0,0⟩)=0/\2<ds.length then []
 else if Int.sign ((ds.getD i ⟨0,0⟩).cross (ds.getD ((i+1)%ds.length) ⟨0,0⟩)).num=0 then [fH (ds.getD i ⟨0,0⟩)]
 else [bc (GJ (ds.getD i ⟨0,0⟩)) (GJ (ds.getD ((i+1)%ds.length) ⟨0,0⟩)) 1]
def TV(ds:List aa):List aa:=if ds.length=0 then [⟨1,0⟩] else(List.range ds.length).flatMap (Pb ds)
def IA(L:List ab)(p:aa):List aa:=TV (Q1 (XV L p))
def AK{ds:List aa}{i:Nat}(h:i<ds.length):ds.getD i ⟨0,0⟩=ds[i]:=by
 rw[aX,aZ h,gM]
def Sq(t:Tr)(p:aa):Bool:=(IA (my t.lns) p).any fun v=>(fC t p v).1
def Sg(t:Tr)(p:aa):Bool:=(IA (my t.lns) p).all fun v=>(fC t p v).1
def qP{z:Rat}(h:z<0):Int.sign z.num= -1:=by
 have:=(lD _).2 h;rcases lJ z.num 0 with q|q|q
 ·exact eJ q
 ·rw[q] at this;simp at this
 ·rw[fQ q] at this;simp at this
def jy:Tr->aa->List ab
 | .leaf _,_=>[]
 | .node l x y,p=>(if Int.sign (l.value p).num=0 then [l] else [])++((if 0<=Int.sign (l.value p).num then jy x p else [])++(if Int.sign (l.value p).num<=0 then jy y p else []))
def pp: ∀{t:Tr} {p:aa} {l:ab},l∈jy t p->l∈t.lns/\l.value p=0
 | .leaf _,p,l,h=>by cases h
 | .node m x y,p,l,h=>by
  rw[jy,bV,bV] at h;rcases h with h|h|h
  ·split at h
   ·rw[aW] at h;subst h
    rename_i k;exact⟨aQ,(jk _).1 k⟩
   ·cases h
  ·split at h
   ·have:=pp h;exact⟨aJ _ (bU _ this.1),this.2⟩
   ·cases h
  ·split at h
   ·have:=pp h;exact⟨aJ _ (bN _ this.1),this.2⟩
   ·cases h
def Js{t:Tr}{p v:aa}(h:Gn t.lns p v):Gn (jy t p) p v:=fun l hl hz=>h l (pp hl).1 hz
def wl: ∀{t:Tr} {p v w:aa},(∀l∈jy t p,Int.sign (l.nor.dot v).num=Int.sign (l.nor.dot w).num)->fC t p v=fC t p w
 | .leaf _,_,_,_,_=>rfl
 | .node l x y,p,v,w,h=>by
  have hx:0<=Int.sign (l.value p).num->fC x p v=fC x p w:=fun k=>wl fun m hm=>h m (by rw[jy,bV,bV,if_pos k];exact .inr (.inl hm));have hy:Int.sign (l.value p).num<=0->fC y p v=fC y p w:=fun k=>wl fun m hm=>h m (by rw[jy,bV,bV,if_pos k];exact .inr (.inr hm));rw[fC,fC,vr,vr];by_cases k:Int.sign (l.value p).num=0
  ·rw[if_pos k,if_pos k,<-h l (by rw[jy,if_pos k];exact aQ),hx (by omega),hy (by omega)]
  ·rw[if_neg k,if_neg k]
   generalize Int.sign (l.value p).num=s at*;split
   ·exact hx (by decide)
   ·exact hy (by decide)
   ·rfl
def Cg{L M:List ab}{p v:aa}(hM: ∀l∈M,l.ok)(hL:Gn L p v): ∃w,Gn M p w/\ ∀l∈L,l.value p=0->Int.sign (l.nor.dot v).num=Int.sign (l.nor.dot w).num:=by
 have e2: ∀l:ab,l.value p=0->l.value (bc p v 1)=l.nor.dot v:=fun l hz=>by rw[ic,hz];grind
 have hp':cd ((L.filter fun l=>decide (l.value p=0)).map fun l=>(⟨if 0<l.value (bc p v 1) then l else l.rev,aB.all⟩:aP)) (bc p v 1):=fun s hs=>by
  obtain⟨l,hl,rfl⟩:=bX.1 hs;obtain⟨h1,h2⟩:=gL.1 hl;have h3:=of_decide_eq_true h2;have h0:l.value (bc p v 1)≠0:=by rw[e2 l h3];exact hL l h1 h3
  simp only;split
  ·assumption
  ·rw[m8];grind
 obtain⟨q,q1,q2⟩:=IB hp' M hM;have e: ∀l:ab,l.value p=0->l.value q=l.nor.dot ⟨q.x-p.x,q.y-p.y⟩:=fun l hz=>by
  have h1:=ic l p ⟨q.x-p.x,q.y-p.y⟩ 1;rw[hz] at h1;have h2:bc p ⟨q.x-p.x,q.y-p.y⟩ 1=q:=by
   unfold bc
   cases q
   simp only[aa.mk.injEq];constructor<;>grind
  rw[h2] at h1;rw[h1];grind
 refine⟨⟨q.x-p.x,q.y-p.y⟩,fun m hm hz=>?_,fun l hl hz=>?_⟩
 ·rw[<-e m hz];exact q2 m hm
 ·have h1:=q1 _ (bX.2 ⟨l,gL.2 ⟨hl,decide_eq_true hz⟩,J⟩)
  simp only at h1;rw[e2 l hz] at h1;rw[<-e l hz];have h0:=hL l hl hz;split at h1
  ·rename_i k
   rw[(io _).2 k,(io _).2 h1]
  ·rename_i k
   rw[m8] at h1;rw[qP (by grind),qP (by grind)]
def od(t:Tr)(p:aa)(b:Bool):Prop:= ∃v,Gn (jy t p) p v/\(fC t p v).1=b
def Uz{t:Tr}{p w:aa}(h:Gn t.lns p w):od t p (fC t p w).1:=⟨w,Js h,J⟩
def O6{t:Tr}{p:aa}{b:Bool}(h:od t p b){M:List ab}(hM: ∀l∈M,l.ok): ∃w,Gn M p w/\(fC t p w).1=b:=by
 obtain⟨v,h1,h2⟩:=h;obtain⟨w,k1,k2⟩:=Cg hM h1;exact⟨w,k1,by rw[<-h2,wl fun l hl=>k2 l hl (pp hl).2]⟩
def IG{M:List ab}(hM: ∀l∈M,l.ok)(p:aa): ∃w,Gn M p w:=by
 obtain⟨w,h,_⟩:=Cg (L:=[]) (M:=M) (p:=p) (v:=⟨1,0⟩) hM fun l hl=>by cases hl
 exact⟨w,h⟩
def QJ{t:Tr}(ht:t.all ab.ok)(p:aa):od t p true\/od t p false:=by
 obtain⟨w,h⟩:=IG (qI ht) p;have:=Uz h
 cases hb:(fC t p w).1 with
 |true=>rw[hb] at this;exact .inl this
 |false=>rw[hb] at this;exact .inr this
def min2{a b:Rat}(ha:0<a)(hb:0<b): ∃d:Rat,0<d/\d<=a/\d<=b:=by
 by_cases k:a<=b
 ·exact⟨a,ha,by grind,k⟩
 ·exact⟨b,hb,by grind,by grind⟩
def jo(ds:List aa)(i:Nat):aa:=
 if 0<Int.sign ((ds.getD i ⟨0,0⟩).cross (ds.getD ((i+1)%ds.length) ⟨0,0⟩)).num then(ds.getD i ⟨0,0⟩).add (ds.getD ((i+1)%ds.length) ⟨0,0⟩) else fH (ds.getD i ⟨0,0⟩)
def eG(ds:List aa):List aa:=if ds.length=0 then [⟨1,0⟩] else(List.range ds.length).map (jo ds)
def Kl(u w:aa):u.add w=fy 1 1 u w:=by
 unfold aa.add fy;simp only[aa.mk.injEq];constructor<;>grind
def JI{x:aa}: ∀{S:List aa},S≠[]->(∀d∈S,0<d.cross x)-> ∃u∈S,∀d∈S,0<=d.cross u
 |[],h,_=>absurd J h
 |[d],_,_=>⟨d,aQ,fun e he=>by rw[aW] at he;subst he;rw[yw];exact dV⟩
 |d0::d1::S,_,h=>by
  obtain⟨u,h1,h2⟩:=JI (S:=d1::S) (by simp) fun d hd=>h d (aJ _ hd);by_cases k:0<=d0.cross u
  ·exact⟨u,aJ _ h1,fun d hd=>(aU.1 hd).elim (fun e=>e▸k) (h2 d)⟩
  ·refine⟨d0,aQ,fun d hd=>(aU.1 hd).elim (fun e=>by rw[e,yw];exact dV) fun hd=>?_⟩
   have p0:=h d0 aQ;have pu:=h u (aJ _ h1);have pd:=h d (aJ _ hd);have k1:=h2 d hd;have k2:0<u.cross d0:=by rw[eH] at k;grind
   have e:d.cross d0*u.cross x=u.cross d0*d.cross x+d.cross u*d0.cross x:=by unfold aa.cross;grind
   have n1:=bv k2 pd;have n2:=bG k1 (cY p0);generalize d.cross d0=A at*;generalize u.cross x=B at*;by_cases hA:0<=A
   ·exact hA
   ·have:=bv (a:= -A) (b:=B) (by grind) pu
    grind
def Ww{ds:List aa}(h:ds.Pairwise b8)(hd:r8 ds)(hn:ds≠[]){x:aa}(hx: ∀d∈ds,d.cross x≠0): ∃i,i<ds.length/\ ∀d∈ds,Int.sign (d.cross x).num=Int.sign (d.cross (jo ds i)).num:=by
 have hne:(ds.filter fun d=>decide (0<d.cross x))≠[]:=by
  obtain⟨d,r,rfl⟩:=List.exists_cons_of_ne_nil hn;intro e;have h1: ¬0<d.cross x:=fun k=>by
   have:d∈(d::r).filter fun d=>decide (0<d.cross x):=gL.2 ⟨aQ,decide_eq_true k⟩;rw[e] at this;cases this
  have h2:=hx d aQ;have h3:0<(bg d).cross x:=by rw[eH,kv,<-eH];grind
  have:bg d∈(d::r).filter fun d=>decide (0<d.cross x):=gL.2 ⟨hd.neg d aQ,decide_eq_true h3⟩;rw[e] at this;cases this
 obtain⟨u,hu,hl⟩:=JI hne fun d hd=>of_decide_eq_true (gL.1 hd).2;obtain⟨hu1,hu2⟩:=gL.1 hu;have hux:=of_decide_eq_true hu2;obtain⟨i,hi,rfl⟩:=mN hu1;have hj:(i+1)%ds.length<ds.length:=cN _ (by omega);have hnx:=Ja h hd hi hj;have mw:=fR hj;refine⟨i,hi,?_⟩;have key: ∀d∈ds,0<d.cross x->0<d.cross (jo ds i):=fun d hdm hdx=>by
  have hdu:0<=d.cross ds[i]:=hl d (gL.2 ⟨hdm,decide_eq_true hdx⟩);unfold jo;rw[AK hi,AK hj];generalize ds[(i+1)%ds.length]=w at*;generalize ds[i]=u at*;have hp:=hnx.pos hd hu1 mw;have zd:=hd.nz d hdm;have zu:=hd.nz u hu1;split
  ·rename_i k
   have hc:=(jF _).1 k;rw[Kl];have hg:=hnx.gen hd hu1 mw (by grind) (a:=1) (b:=1) (by decide) (by decide) d hdm;have e:d.cross (fy 1 1 u w)=d.cross u+d.cross w:=by unfold aa.cross fy;grind
   rw[e] at hg⊢;by_cases hw:0<=d.cross w
   ·grind
   ·exfalso
    -- -d lies between u and w
    rcases dC (d.cross u) with q|q|q
    ·-- d runs along u
     have hdd:0<d.dot u:=by
      rcases dC (d.dot u) with r|r|r
      ·exact absurd r (zp zd zu q)
      ·exact r
      ·exfalso
       have q':(bg d).cross u=0:=by unfold aa.cross bg at*;grind
       have r':0<(bg d).dot u:=by unfold aa.dot bg at*;grind
       obtain⟨g,g1,g2⟩:=qA q' r';have:d.cross x= -(g*u.cross x):=by
        have h1:(bg d).x=g*u.x:=by rw[g2]
        have h2:(bg d).y=g*u.y:=by rw[g2]
        unfold bg at h1 h2;simp only at h1 h2;unfold aa.cross;grind
       have:=bv g1 hux;grind
     obtain⟨g,g1,g2⟩:=qA q hdd;have:d.cross w=g*u.cross w:=by rw[g2];unfold aa.cross;grind
     have:=bv g1 hc;grind
    ·have hb:bg d=fy (-(d.cross w)/u.cross w) (d.cross u/u.cross w) u w:=by
      have hz:u.cross w≠0:=by grind
      have e1: -(d.cross w)/u.cross w*u.cross w= -(d.cross w):=by grind
      have e2:d.cross u/u.cross w*u.cross w=d.cross u:=by grind
      unfold bg fy;generalize-(d.cross w)/u.cross w=a at*;generalize d.cross u/u.cross w=b at*;simp only[aa.mk.injEq];have f1:(a*u.x+b*w.x+d.x)*u.cross w=0:=by
       have:(a*u.x+b*w.x+d.x)*u.cross w=a*u.cross w*u.x+b*u.cross w*w.x+d.x*u.cross w:=by grind
       rw[this,e1,e2];unfold aa.cross;grind
      have f2:(a*u.y+b*w.y+d.y)*u.cross w=0:=by
       have:(a*u.y+b*w.y+d.y)*u.cross w=a*u.cross w*u.y+b*u.cross w*w.y+d.y*u.cross w:=by grind
       rw[this,e1,e2];unfold aa.cross;grind
      constructor<;>grind
     refine hnx.none hd hu1 mw (by grind) (a:= -(d.cross w)/u.cross w) (b:=d.cross u/u.cross w) ?_ ?_ (by rw[<-hb];exact hd.neg d hdm)
     ·refine(fi (k:=u.cross w) hc).1 ?_
      have e1: -(d.cross w)/u.cross w*u.cross w= -(d.cross w):=by grind
      rw[e1];grind
     ·refine(fi (k:=u.cross w) hc).1 ?_
      have e1:d.cross u/u.cross w*u.cross w=d.cross u:=by grind
      rw[e1];exact q
    ·grind
  ·rename_i k
   have hc:u.cross w=0:=by have: ¬0<u.cross w:=fun e=>k ((jF _).2 e);grind
   have hg:=hnx.turn hd hu1 mw hc d hdm;rw[JK] at hg⊢;rcases dC (d.dot u) with r|r|r
   ·exact absurd r hg
   ·exact r
   ·exfalso
    -- all directions run along u
    have hdc:d.cross u=0:=by
     rcases hnx.spec hd hu1 mw with⟨_,h2,_⟩|⟨h1,h2,h3⟩
     ·rw[hc] at h2;exact absurd h2 (by decide)
     ·have zw:=fm (hd.nz w mw)
      have zu':=fm zu;have zd':=fm zd;have hwu: ∃g:Rat,0<g/\w=⟨g*(bg u).x,g*(bg u).y⟩:=by
       refine qA (d:=bg u) (e:=w) (by rw[kv,eH,hc];grind) ?_;rcases dC (w.dot u) with s|s|s
       ·exact absurd s (zp (hd.nz w mw) zu (by rw[eH,hc];rfl))
       ·exfalso
        obtain⟨g,g1,g2⟩:=qA (d:=u) (e:=w) (by rw[eH,hc];rfl) s;apply h1;rw[g2];rcases ja u with⟨x0,s0⟩|⟨x0,s0⟩|⟨x0,s0⟩
        ·rw[x0]
         refine(l9.2 ?_).symm;rcases s0 with s0|⟨s0,s1⟩
         ·exact .inl (bv g1 s0)
         ·exact .inr ⟨by show g*u.y=0;rw[s0];grind,bv g1 s1⟩
        ·rw[x0]
         refine(nf.2 ?_).symm;rcases s0 with s0|⟨s0,s1⟩
         ·exact .inl (by show g*u.y<0;have:=bv (a:=g) (b:= -u.y) g1 (by grind);grind)
         ·exact .inr ⟨by show g*u.y=0;rw[s0];grind,by show g*u.x<0;have:=bv (a:=g) (b:= -u.x) g1 (by grind);grind⟩
        ·exact absurd x0 zu
       ·unfold aa.dot bg at*;grind
      obtain⟨g,g1,g2⟩:=hwu;have cw: ∀e:aa,w.cross e=g* -(u.cross e):=fun e=>by rw[g2];unfold aa.cross bg;grind
      by_cases hh:d.half=u.half
      ·have a1:=h2 d hdm hh
       have a2:=h3 _ (hd.neg d hdm) (by rw[pm zd];omega);rw[cw,kv,eH d u] at a2;rcases dC (d.cross u) with s|s|s
       ·exact s
       ·have:=bv g1 s;grind
       ·grind
      ·have a1:=h2 _ (hd.neg d hdm) (by rw[pm zd];omega)
       have a2:=h3 d hdm (by omega);rw[cw,eH d u] at a2;have e3:(bg d).cross u= -(d.cross u):=by unfold aa.cross bg;grind
       rw[e3] at a1;rcases dC (d.cross u) with s|s|s
       ·exact s
       ·grind
       ·have:=bv (a:=g) (b:= -(d.cross u)) g1 (by grind);grind
    have q':(bg d).cross u=0:=by unfold aa.cross bg at*;grind
    have r':0<(bg d).dot u:=by unfold aa.dot bg at*;grind
    obtain⟨g,g1,g2⟩:=qA q' r';have:d.cross x= -(g*u.cross x):=by
     have h1:(bg d).x=g*u.x:=by rw[g2]
     have h2:(bg d).y=g*u.y:=by rw[g2]
     unfold bg at h1 h2;simp only at h1 h2;unfold aa.cross;grind
    have:=bv g1 hux;grind
 intro d hdm;rcases dC (d.cross x) with k|k|k
 ·exact absurd k (hx d hdm)
 ·rw[(io _).2 k,(io _).2 (key d hdm k)]
 ·have en: ∀y:aa,(bg d).cross y= -(d.cross y):=fun y=>by unfold aa.cross bg;grind
  have:=key _ (hd.neg d hdm) (by rw[en];grind);rw[en] at this;rw[qP k,qP (by grind)]
def ci(v:aa):aa:=v.scale (rgcd v.x v.y)⁻¹
def iE(t:Tr)(p:aa):List aa:=(jy t p).flatMap fun l=>[ci l.dir,bg (ci l.dir)]
def gv(ds:List aa):List aa:=qo cA ds
def qq{t:Tr}{p d:aa}:d∈iE t p↔ ∃l∈jy t p,d=ci l.dir\/d=bg (ci l.dir):=by
 unfold iE;rw[cS];constructor
 ·rintro ⟨l,h1,h2⟩
  refine⟨l,h1,?_⟩;rcases aU.1 h2 with h|h
  ·exact .inl h
  ·exact .inr (aW.1 h)
 ·rintro ⟨l,h1,rfl|rfl⟩
  ·exact⟨l,h1,aQ⟩
  ·exact⟨l,h1,aJ _ aQ⟩
def U4{x y:Rat}(h:x≠0\/y≠0):0<rgcd x y:=by
 unfold rgcd;have hd:0<x.den*y.den:=iU x.den_pos y.den_pos;have hg:0<Nat.gcd (x.num.natAbs*y.den) (y.num.natAbs*x.den):=by
  rcases h with h|h
  ·exact lK _ (iU (Int.natAbs_pos.2 fun e=>h (lV.1 e)) y.den_pos)
  ·exact mS _ (iU (Int.natAbs_pos.2 fun e=>h (lV.1 e)) x.den_pos)
 generalize Nat.gcd (x.num.natAbs*y.den) (y.num.natAbs*x.den)=g at*;generalize x.den*y.den=d at*;rw[<-Fc];have h1:mkRat (g:Int) d=(g:Rat)/(d:Rat):=by rw[nV];rfl
 rw[Fc,h1];have hg':(0:Rat)<(g:Rat):=by exact_mod_cast hg
 have hd':(0:Rat)<(d:Rat):=by exact_mod_cast hd
 have e:(g:Rat)/(d:Rat)*(d:Rat)=(g:Rat):=by grind
 exact(fi (k:=(d:Rat)) hd').1 (by rw[e];exact hg')
def Xl{v:aa}(h:v.half≠0):v.x≠0\/v.y≠0:=by
 rcases ja v with⟨_,k⟩|⟨_,k⟩|⟨k,_⟩
 ·rcases k with k|⟨_,k⟩
  ·exact .inr (by grind)
  ·exact .inl (by grind)
 ·rcases k with k|⟨_,k⟩
  ·exact .inr (by grind)
  ·exact .inl (by grind)
 ·exact absurd k h
def uE{v:aa}(h:v.half≠0): ∃a:Rat,0<a/\ci v=⟨a*v.x,a*v.y⟩:=by
 have hg:=U4 (Xl h);refine⟨(rgcd v.x v.y)⁻¹,?_,?_⟩
 ·generalize rgcd v.x v.y=g at*
  have e:g⁻¹*g=1:=by grind
  exact(fi (k:=g) hg).1 (by rw[e];decide)
 ·unfold ci aa.scale
  simp only[aa.mk.injEq];constructor<;>grind
def UK(v:aa):ci (bg v)=bg (ci v):=by
 have e:rgcd (-v.x) (-v.y)=rgcd v.x v.y:=by
  unfold rgcd;rw[lS,lS,oZ,oZ,iV,iV]
 unfold ci aa.scale bg;simp only[aa.mk.injEq,e];constructor<;>grind
def AG{v:aa}(h:v.half≠0):(ci v).half=v.half:=by
 obtain⟨a,a1,e⟩:=uE h;have:=Fm (a:=a) (b:=a) (u:=v) (w:=v) a1 a1 J h;rw[<-this];have h2:ci v=fy (a*(1/2)) (a*(1/2)) v v:=by rw[e];unfold fy;simp only[aa.mk.injEq];constructor<;>grind
 have h3:=Fm (a:=a*(1/2)) (b:=a*(1/2)) (u:=v) (w:=v) (bv a1 (by grind)) (bv a1 (by grind)) J h;rw[h2,h3,this]
def T2{u v:aa}:cA u v=0↔u.half=v.half/\u.cross v=0:=by
 unfold cA;split
 ·constructor
  ·intro h;exact absurd h (by decide)
  ·intro h;omega
 ·split
  ·constructor
   ·intro h;exact absurd h (by decide)
   ·intro h;omega
  ·constructor
   ·intro h
    exact⟨by omega,(jk _).1 (by omega)⟩
   ·intro h
    rw[(jk _).2 h.2];rfl
def um{u v w:aa}(h:b8 u v)(k:b8 v w):b8 u w:=by
 by_cases hu:u.half=0
 ·by_cases hw:w.half=0
  ·have z: ∀x y:aa,x.half=0->x.cross y=0:=fun x y hx=>by
    rcases ja x with⟨e,_⟩|⟨e,_⟩|⟨_,e1,e2⟩
    ·rw[hx] at e;exact absurd e (by decide)
    ·rw[hx] at e;exact absurd e (by decide)
    ·unfold aa.cross;rw[e1,e2];grind
   rcases h with h|⟨h,h'⟩
   ·rcases k with k|⟨k,k'⟩
    ·omega
    ·have hv:v.half≠0:=by omega
     omega
   ·rw[z u v hu] at h';exact absurd h' (by decide)
  ·refine .inl ?_
   have h1:=fm hw;omega
 ·have hv:v.half≠0:=by
   intro e;rcases h with h|⟨h,_⟩
   ·have:=fm hu;omega
   ·omega
  have hw:w.half≠0:=by
   intro e;rcases k with k|⟨k,_⟩
   ·have:=fm hv;omega
   ·omega
  exact b8.trans hu hv hw h k
section
variable {α:Type} (c:α->α->Int)
def Iq{x y:α}: ∀{xs:List α},y∈xs->y∈dF c x xs
 |[],h=>by cases h
 |u::t,h=>by
  rw[dF];split
  ·rcases aU.1 h with rfl|h
   ·exact aQ
   ·exact aJ _ (Iq h)
  ·split
   ·exact h
   ·exact aJ _ h
def M0{x:α}: ∀{xs:List α},∃e∈dF c x xs,e=x\/c e x=0
 |[]=>⟨x,aQ, .inl J⟩
 |u::t=>by
  rw[dF];split
  ·obtain⟨e,h1,h2⟩:=M0 (x:=x) (xs:=t)
   exact⟨e,aJ _ h1,h2⟩
  ·split
   ·exact⟨u,aQ, .inr (by assumption)⟩
   ·exact⟨x,aQ, .inl J⟩
def HP{y:α}: ∀{l o:List α},y∈o->y∈l.foldl (fun out x=>dF c x out) o
 |[],o,h=>h
 |x::t,o,h=>HP (l:=t) (Iq c h)
def Am{d:α}: ∀{l o:List α},d∈l-> ∃e∈l.foldl (fun out x=>dF c x out) o,e=d\/c e d=0
 |[],o,h=>by cases h
 |x::t,o,h=>by
  rcases aU.1 h with rfl|h
  ·obtain⟨e,h1,h2⟩:=M0 c (x:=d) (xs:=o)
   exact⟨e,HP c (l:=t) h1,h2⟩
  ·exact Am (l:=t) h
end
def vY(ds:List aa):(gv ds).Pairwise b8:=by
 have:=CL (c:=cA) (fun u v w h k=>ph.2 (um (ph.1 h) (ph.1 k))) (fun u v h k=>ph.2 (Px.1 (by omega))) (l:=ds) (o:=[]) List.Pairwise.nil;exact this.imp fun h=>ph.1 h
def Nk{l m:ab}(hl:l.ok)(hm:m.ok){p:aa}(h1:l.value p=0)(h2:m.value p=0){d e:aa}(hd:d=ci l.dir\/d=bg (ci l.dir))(he:e=ci m.dir\/e=bg (ci m.dir))(h:cA d e=0):d=e:=by
 obtain⟨hh,hc⟩:=T2.1 h;have zl:=tA hl;have zm:=tA hm;have zpl:(ci l.dir).half≠0:=by rw[AG zl];exact zl
 have zpm:(ci m.dir).half≠0:=by rw[AG zm];exact zm
 have cr:l.dir.cross m.dir=0:=by
  obtain⟨a,a1,e1⟩:=uE zl;obtain⟨b,b1,e2⟩:=uE zm;have c0:(ci l.dir).cross (ci m.dir)=0:=by
   rcases hd with rfl|rfl<;>rcases he with rfl|rfl
   ·exact hc
   ·rw[kv] at hc;grind
   ·rw[eH,kv] at hc;rw[eH];grind
   ·rw[kv,eH,kv] at hc;rw[eH];grind
  have e3:(ci l.dir).cross (ci m.dir)=(a*b)*l.dir.cross m.dir:=by rw[e1,e2];unfold aa.cross;grind
  have hab:=bv a1 b1;rw[e3] at c0;clear e1 e2 e3;generalize a*b=k at*;generalize l.dir.cross m.dir=z at*;rcases dC z with q|q|q
  ·exact q
  ·have:=bv hab q;grind
  ·have:=bv (a:=k) (b:= -z) hab (by grind);grind
 have dirR: ∀k:ab,k.rev.dir=bg k.dir:=fun k=>by
  unfold ab.dir ab.rev bg;simp only[aa.mk.injEq,pW]
  try constructor<;>grind
 have cdir: ∀k:ab,k.canon.dir=k.dir\/k.canon.dir=bg k.dir:=fun k=>by
  unfold ab.canon;split
  ·exact .inr (dirR k)
  ·exact .inl J
 have cval: ∀k:ab,k.value p=0->k.canon.value p=0:=fun k hk=>by rcases FU k p with e|e<;>rw[e,hk]<;>rfl
 have okc: ∀k:ab,k.ok->k.canon.ok:=fun k hk=>by unfold ab.canon;split;exact hk.rev;exact hk
 have ec:l.canon=m.canon:=UC (okc l hl) (okc m hm) (D2 hl) (D2 hm) (cval l h1) (cval m h2) (by
  rcases cdir l with e1|e1<;>rcases cdir m with e2|e2<;>rw[e1,e2]
  ·exact cr
  ·rw[kv,cr];rfl
  ·rw[eH,kv,eH,cr];rfl
  ·rw[kv,eH,kv,eH,cr];rfl)
 have hdir:l.dir=m.dir\/l.dir=bg m.dir:=by
  have e1:=cdir l;have e2:=cdir m;rw[ec] at e1;rcases e1 with e1|e1<;>rcases e2 with e2|e2
  ·exact .inl (e1.symm.trans e2)
  ·exact .inr (e1.symm.trans e2)
  ·right;rw[<-e2,e1,wk]
  ·left;rw[<-wk l.dir,<-e1,e2,wk]
 have hP:ci l.dir=ci m.dir\/ci l.dir=bg (ci m.dir):=by
  rcases hdir with e|e
  ·exact .inl (by rw[e])
  ·exact .inr (by rw[e,UK])
 have hn:=pm zpm;have h3:=fm zpm;have key:d=ci m.dir\/d=bg (ci m.dir):=by
  rcases hd with rfl|rfl<;>rcases hP with e|e
  ·exact .inl e
  ·exact .inr e
  ·exact .inr (by rw[e])
  ·exact .inl (by rw[e,wk])
 rcases key with rfl|rfl<;>rcases he with rfl|rfl
 ·rfl
 ·exfalso;omega
 ·exfalso;omega
 ·rfl
def GG{t:Tr}(ht:t.all ab.ok)(p:aa):(gv (iE t p)).Pairwise b8/\r8 (gv (iE t p))/\ ∀y,y∈gv (iE t p)↔y∈iE t p:=by
 have h2: ∀y,y∈gv (iE t p)->y∈iE t p:=fun y hy=>by
  rcases uQ cA hy with h|h
  ·exact h
  ·cases h
 have h3: ∀y,y∈iE t p->y∈gv (iE t p):=fun y hy=>by
  obtain⟨e,e1,e2⟩:=Am cA (o:=[]) hy;rcases e2 with rfl|e2
  ·exact e1
  ·obtain⟨l,k1,k2⟩:=qq.1 hy
   obtain⟨m,k3,k4⟩:=qq.1 (h2 e e1);obtain⟨a1,a2⟩:=pp k1;obtain⟨b1,b2⟩:=pp k3;rw[<-Nk (qI ht _ b1) (qI ht _ a1) b2 a2 k4 k2 e2];exact e1
 refine⟨vY _,⟨fun d hd=>?_,fun d hd=>?_⟩,fun y=>⟨h2 y,h3 y⟩⟩
 ·obtain⟨l,k1,k2⟩:=qq.1 (h2 d hd)
  have z:=tA (qI ht _ (pp k1).1);have z2:(ci l.dir).half≠0:=by rw[AG z];exact z
  rcases k2 with rfl|rfl
  ·exact z2
  ·exact UQ z2
 ·obtain⟨l,k1,k2⟩:=qq.1 (h2 d hd)
  refine h3 _ (qq.2 ⟨l,k1,?_⟩);rcases k2 with rfl|rfl
  ·exact .inr J
  ·exact .inl (wk _)
def NU{t:Tr}(ht:t.all ab.ok){p v:aa}(hv:v∈eG (gv (iE t p))):Gn (jy t p) p v:=by
 obtain⟨h1,h2,h3⟩:=GG ht p;have key:(∀d∈gv (iE t p),d.cross v≠0)->Gn (jy t p) p v:=fun k l hl hz e=>by
  have z:=tA (qI ht _ (pp hl).1);obtain⟨a,a1,a2⟩:=uE z;refine k _ ((h3 _).2 (qq.2 ⟨l,hl, .inl J⟩)) ?_;rw[<-vr] at e;have:(ci l.dir).cross v=a*l.dir.cross v:=by rw[a2];unfold aa.cross;grind
  rw[this,e];grind
 generalize gv (iE t p)=ds at*;unfold eG at hv;split at hv
 ·rename_i hn
  refine key fun d hd=>?_;rw[List.length_eq_zero_iff.1 hn] at hd;cases hd
 ·obtain⟨i,hi,rfl⟩:=bX.1 hv
  rw[iK] at hi;have hj:(i+1)%ds.length<ds.length:=cN _ (by omega);have hx:=Ja h1 h2 hi hj;have mu:=fR hi;have mw:=fR hj;have hp:=hx.pos h2 mu mw;refine key ?_;unfold jo;rw[AK hi,AK hj];split
  ·rename_i k
   have hc:=(jF _).1 k;rw[Kl];exact hx.gen h2 mu mw (by grind) (by decide) (by decide)
  ·rename_i k
   exact hx.turn h2 mu mw (by have: ¬0<ds[i].cross ds[(i+1)%ds.length]:=fun e=>k ((jF _).2 e);grind)
def I5{t:Tr}(ht:t.all ab.ok){p x:aa}(hx:Gn (jy t p) p x): ∃v∈eG (gv (iE t p)),(fC t p v).1=(fC t p x).1:=by
 obtain⟨h1,h2,h3⟩:=GG ht p;have cr: ∀l∈jy t p,∃a:Rat,0<a/\ ∀y,(ci l.dir).cross y=a*l.nor.dot y:=fun l hl=>by
  obtain⟨a,a1,a2⟩:=uE (tA (qI ht _ (pp hl).1));exact⟨a,a1,fun y=>by rw[a2,<-vr];unfold aa.cross;grind⟩
 by_cases hn:gv (iE t p)=[]
 ·refine⟨⟨1,0⟩,by unfold eG;rw[if_pos (by rw[hn];rfl)];exact aQ,?_⟩
  rw[wl fun l hl=>?_];have:=(h3 _).2 (qq.2 ⟨l,hl, .inl J⟩);rw[hn] at this;cases this
 ·obtain⟨i,hi,hs⟩:=Ww h1 h2 hn (x:=x) fun d hd=>by
   obtain⟨l,k1,k2⟩:=qq.1 ((h3 d).1 hd);obtain⟨a,a1,a2⟩:=cr l k1;have hz:=hx l k1 (pp k1).2;have e:(ci l.dir).cross x≠0:=by rw[a2];grind
   rcases k2 with rfl|rfl
   ·exact e
   ·intro q;apply e;unfold aa.cross bg at*;grind
  refine⟨jo (gv (iE t p)) i,?_,?_⟩
  ·unfold eG
   rw[if_neg (by omega)];exact bX.2 ⟨i,iK.2 hi,J⟩
  ·rw[wl fun l hl=>?_]
   have:=hs _ ((h3 _).2 (qq.2 ⟨l,hl, .inl J⟩));obtain⟨a,a1,a2⟩:=cr l hl;rw[a2,a2] at this;have sg: ∀z:Rat,Int.sign (a*z).num=Int.sign z.num:=fun z=>by
    rcases dC z with k|k|k
    ·subst k;rw[show a*0=0 by grind]
    ·rw[(io _).2 k,(io _).2 (bv a1 k)]
    ·rw[qP k,qP (by have:=bv (a:=a) (b:= -z) a1 (by grind);grind)]
   rw[sg,sg] at this;exact this.symm
def uh(t:Tr)(p:aa):Bool:=(eG (gv (iE t p))).any fun v=>(fC t p v).1
def Cr(t:Tr)(p:aa):Bool:=(eG (gv (iE t p))).all fun v=>(fC t p v).1
def gy(t:Tr)(p:aa):Int:=if uh t p&&Cr t p then 2 else if uh t p then 1 else 0
def Fj{t:Tr}(ht:t.all ab.ok){p:aa}:uh t p=true↔od t p true:=by
 unfold uh;rw[jL];constructor
 ·rintro ⟨v,h1,h2⟩;exact⟨v,NU ht h1,h2⟩
 ·rintro ⟨x,h1,h2⟩
  obtain⟨v,k1,k2⟩:=I5 ht h1;exact⟨v,k1,by rw[k2,h2]⟩
def JQ{t:Tr}(ht:t.all ab.ok){p:aa}:Cr t p=true↔ ¬od t p false:=by
 unfold Cr;rw[dR];constructor
 ·rintro h ⟨x,h1,h2⟩
  obtain⟨v,k1,k2⟩:=I5 ht h1;have:=h v k1;rw[k2,h2] at this;cases this
 ·intro h v hv
  cases hb:(fC t p v).1 with
  |true=>rfl
  |false=>exact absurd ⟨v,NU ht hv,hb⟩ h
def Ed(t:Tr)(p:aa):gy t p=0\/gy t p=1\/gy t p=2:=by
 unfold gy;split
 ·exact .inr (.inr J)
 ·split
  ·exact .inr (.inl J)
  ·exact .inl J
def uC{t:Tr}(ht:t.all ab.ok){p:aa}:gy t p=2↔ ¬od t p false:=by
 unfold gy;constructor
 ·intro h
  split at h
  ·rename_i k;rw[bJ] at k;exact(JQ ht).1 k.2
  ·split at h<;>exact absurd h (by decide)
 ·intro h
  have h1:=(JQ ht).2 h;have h2:=(Fj ht).2 ((QJ ht p).resolve_right h);rw[h1,h2];rfl
def tO{t:Tr}(ht:t.all ab.ok){p:aa}:gy t p=0↔ ¬od t p true:=by
 unfold gy;constructor
 ·intro h k
  rw[(Fj ht).2 k] at h;split at h
  ·exact absurd h (by decide)
  ·exact absurd h (by decide)
 ·intro h
  have h1:uh t p=false:=by
   cases e:uh t p with
   |false=>rfl
   |true=>exact absurd ((Fj ht).1 e) h
  rw[h1];rfl
def rH(u:aa): ¬b8 u u:=by
 rintro (h|⟨_,h⟩)
 ·omega
 ·have:u.cross u=0:=by unfold aa.cross;grind
  rw[this] at h;exact absurd h (by decide)
def wm{u v:aa}(h:b8 u v)(k:b8 v u):False:=rH u (um h k)
def Mv{x y:aa}(h: ¬b8 x y)(k: ¬b8 y x):cA x y=0:=by
 rw[<-ph] at h k;unfold cA at*;split at h<;>try omega
 split at h<;>try omega
 split at k<;>try omega
 rw[show y.cross x= -(x.cross y) by unfold aa.cross;grind,lS,Int.sign_neg] at k;omega
def rF(l:List aa):eh 6 (l.map eZ):=fun d hd=>by
 obtain⟨x,_,rfl⟩:=bX.1 hd;exact⟨J,J⟩
instance az.negp (p:aa) (i:Nat) [h:az p i]:az (bg p) i:=⟨inferInstanceAs (BQ (-p.x) i),inferInstanceAs (BQ (-p.y) i)⟩
instance az.prip (l:ab) [LB l]:az (ci l.dir) 500:=by
 have h:=(inferInstance:az (l.dir.scale (rgcd l.dir.x l.dir.y)⁻¹) _);exact⟨h.x.mono (by decide),h.y.mono (by decide)⟩
def IQ{p:aa}{i:Nat}[h:az p i](hi:i<=900000000:=by decide):PF GB prog 320 [eZ p] (eZ (bg p)):=by
 refine fn func320 J J ntmps320 J J (fun C=>?_);refine cl J (sk (q:=p.x) (i:=i) hi) J<|cl J (sk (q:=p.y) (i:=i) hi) J<|?_;exact rz J J
def IK{p:aa}{i:Nat}[h:az p i](hi:i<=900000000:=by decide):PF GB prog 242 [eZ p] (eZ (fH p)):=by
 refine fn func242 J J ntmps242 J J (fun C=>?_);refine cl J (sk (q:=p.y) (i:=i) hi) J<|?_;exact rz J J
def WT{p:aa}{i:Nat}[h:az p i](hi:i<=1000000:=by decide):PF GB prog 319 [eZ p] (eZ (ci p)):=by
 refine fn func319 J J ntmps319 J J (fun C=>?_);refine cl J (ww (p:=p.x) (q:=p.y) (i:=i) (j:=i) (by omega) (by omega)) J<|cl J (AJ (q:=rgcd p.x p.y) (i:=i+i+(i+i)) (by omega)) J<|?_;refine cl J (wc (p:=p) (c:=(rgcd p.x p.y)⁻¹) (i:=i) (j:=i+i+(i+i)) (by omega) (by omega)) J<|?_;exact rz J J
def If{q:Rat}{i:Nat}[h:BQ q i](hi:i<=400000000:=by decide):PF GB prog 198 [eR q] (eF q):=by
 haveI:BN q.num.natAbs i:=⟨h.hn⟩;haveI:BN q.den i:=⟨h.hd⟩;refine fn func198 J J ntmps198 J J (fun C=>?_);refine cl (fu:=⟨0⟩) J (tn (n:=decide (q.num<0)) (a:=q.num.natAbs) (d:=q.den) (i:=i) (j:=i) (by omega) (by omega)) J<|?_;refine ak 7 (.d (eF q)) J (by rw[km,Rat.mkRat_self]) ?_;refine gx J<|?_;exact rz J J
def x5{p:aa}{i:Nat}[h:az p i](hi:i<=400000000:=by decide):PF GB prog 110 [je p] (eZ p):=by
 refine fn func110 J J ntmps110 J J (fun C=>?_);refine cl J (If (q:=p.x) (i:=i) hi) J<|cl J (If (q:=p.y) (i:=i) hi) J<|?_;exact rz J J
def OH(G:Gh)(y:Value)(h:Is G (.sl [.ag [vI (dt 1),vI (dz 1),di 1,vI 0,vI 0, .v (.pointer none)]]) y):Is G (.sl ((eG []).map eZ)) y:=by
 obtain⟨s,x,es,rfl,h1,h2⟩:=iu.1 h;obtain⟨v,m,rfl,k,h3⟩:=cb.1 h2
 cases cG.1 h3
 refine iu.2 ⟨s,x,_,J,h1, .cons ?_ .nil⟩;obtain⟨m4,rfl,g4⟩:=ew.1 k;obtain⟨v1,m1,rfl,k1,g1⟩:=cb.1 g4;obtain⟨v2,m2,rfl,k2,g2⟩:=cb.1 g1;obtain⟨v3,m3,rfl,k3,g3⟩:=cb.1 g2;obtain⟨m5,q5,g5⟩:=ew.1 (vy _ _ (ew.2 ⟨m3,rfl,g3⟩))
 cases q5
 exact ew.2 ⟨_,J, .cons k1 (.cons k2 (.cons k3 g5))⟩
def GN{ds:List aa}{k:Nat}{u w:aa}(h1:ds[k]? =some u)(h2:ds[(k+1)%ds.length]? =some w):jo ds k=if 0<Int.sign (u.cross w).num then u.add w else fH u:=by
 unfold jo;rw[aX,aX,h1,h2];rfl
def H0(ds:List aa)(k:Nat):(List.range (k+1)).map (jo ds)=(List.range k).map (jo ds)++[jo ds k]:=by rw[List.range_succ,dZ];rfl
def On:PF GB prog 220 [.sl []] (.sl ((eG []).map eZ)):=by
 refine fn (fu:=⟨10⟩) func220 J J ntmps220 J J (fun C=>?_);refine mp J (by rfl) J<|cl J (xe (by omega)) J<|rf J J<|?_;exact i7 J OH
def SK{ds:List aa}{i:Nat}(h0:0<ds.length)(hb: ∀d∈ds,az d i)(hn:ds.length<=10000000)(hi:i<=1000000:=by decide):PF GB prog 220 [.sl (ds.map eZ)] (.sl ((eG ds).map eZ)):=by
 have hml:(ds.map eZ).length=ds.length:=aK ..;refine fn (fu:=⟨10⟩) func220 J J ntmps220 J J (fun C=>?_);refine ak 8 (.d (vI (ds.length:Nat))) J (by rw[hml]<;>rfl) ?_;refine gx (fu:=⟨0⟩) J<|oq (fu:=⟨15⟩) J (by show some (decide _)=some false;rw[decide_eq_false (by omega)]) J<|?_;refine ak 14 (.d (vI (ds.length:Nat))) J (by rw[hml]<;>rfl) ?_;refine gx J<|?_;refine nr 3 3 141 6 J J J ?_;refine lp (X:=List aa×Nat) (fun⟨acc,k⟩=>[(15, .d (vI (k:Nat))),(3, .rw 3)]) (fun⟨acc,k⟩=>[(3,some (.b 141 6 (acc.map eZ) true))]) (fun⟨acc,k⟩=>acc=(List.range k).map (jo ds)/\k<=ds.length) (fun⟨acc,k⟩=>ds.length-k) ⟨[],0⟩ J ⟨J,cV _⟩ (fun _=>J) (fun⟨acc,k⟩ hk=>?_)
 try dsimp only at hk⊢
 obtain⟨h1,h2⟩:=hk;have hal:acc.length=k:=by rw[h1,aK,qK]
 have ham:(acc.map eZ).length=acc.length:=aK ..;refine br J J J (fun hc16=>?_) (fun hc16=>?_)
 .
  obtain⟨u,hx⟩: ∃u,ds[k]? =some u:=⟨_,aZ (by omega)⟩;obtain⟨w,hw⟩: ∃w,ds[(k+1)%ds.length]? =some w:=⟨_,aZ (cN _ (by omega))⟩;haveI:=hb u (bQ hx);haveI:=hb w (bQ hw);refine ix (fu:=⟨13⟩) _ J (fj hx) J<|?_;refine ak 24 (.d (vI (ds.length:Nat))) J (by rw[hml]<;>rfl) ?_;refine gx (fu:=⟨1⟩) J<|?_;refine ak 25 (.d (vI (((k+1)%ds.length:Nat):Int))) J J ?_;refine gx J<|ix _ J (fj hw) J<|cl J (ID (p:=u) (q:=w) (by omega) (by omega)) J<|cl J (lm (q:=u.cross w) (by omega)) J<|?_;refine br J J J (fun hc32=>?_) (fun hc32=>?_)
  .
   refine cl J (zb (p:=u) (q:=w) (by omega) (by omega)) J<|rf J J<|ap ((acc++[u.add w]).map eZ) J (by rw[dZ]<;>rfl) (rF [u.add w]) J<|?_;refine ly 38 3 J ?_;exact at_ ⟨acc++[u.add w],k+1⟩ (by dsimp only;exact⟨⟨by rw[H0,GN hx hw,if_pos hc32,<-h1],by omega⟩,(by omega)⟩)
  .
   refine cl J (IK (p:=u) (by omega)) J<|rf J J<|ap ((acc++[fH u]).map eZ) J (by rw[dZ]<;>rfl) (rF [fH u]) J<|?_;refine ly 43 3 J ?_;exact at_ ⟨acc++[fH u],k+1⟩ (by dsimp only;exact⟨⟨by rw[H0,GN hx hw,if_neg hc32,<-h1],by omega⟩,(by omega)⟩)
 .
  obtain rfl:k=ds.length:=by omega
  have hS:eG ds=acc:=by unfold eG;rw[if_neg (by omega),h1]
  refine n5 3 J ?_;exact rz J (by rw[hS];rfl)
def Qf{ds:List aa}{i:Nat}(hb: ∀d∈ds,az d i)(hn:ds.length<=10000000)(hi:i<=1000000:=by decide):PF GB prog 220 [.sl (ds.map eZ)] (.sl ((eG ds).map eZ)):=by
 cases ds with
 |nil=>exact On
 |cons d ds=>exact SK (i:=i) (Nat.zero_lt_succ _) hb hn hi
def cj(a b p:aa):Rat:=(b.x-a.x)*(p.y-a.y)-(b.y-a.y)*(p.x-a.x)
def kx(v w p:aa):Int:=(if v.y<=p.y/\ ¬w.y<=p.y/\0<cj v w p then 1 else 0)-(if¬v.y<=p.y/\w.y<=p.y/\cj v w p<0 then 1 else 0)
def mI(v w q p:aa):Prop:= ∀s t:Rat,0<=s->s<=1->0<=t->t<=1->aF v w s≠aF q p t
def wx{a b:Rat}(h0:0<=a)(h1:a<=b)(hb:0<b):0<=a/b/\a/b<=1/\a/b*b=a:=by
 have e:a/b*b=a:=by grind
 generalize a/b=q at*;refine⟨?_,?_,e⟩
 ·exact(iC hb).1 (by rw[e];exact h0)
 ·have:=(iC (s:=1-q) hb).1 (by grind)
  grind
def S2{q p x:aa}(hy:q.y<p.y)(h:cj q p x=0)(h1:q.y<=x.y)(h2:x.y<=p.y): ∃t,0<=t/\t<=1/\x=aF q p t:=by
 obtain⟨a1,a2,a3⟩:=wx (a:=x.y-q.y) (b:=p.y-q.y) (by grind) (by grind) (by grind);refine⟨_,a1,a2,?_⟩;generalize (x.y-q.y)/(p.y-q.y)=t at*;obtain⟨X,Y⟩:=x;unfold cj at h;unfold aF;simp only at*;have e:X=q.x+t*(p.x-q.x):=by
  have h3:(p.y-q.y)*(X-q.x)=(p.y-q.y)*(t*(p.x-q.x)):=by grind
  have h4:p.y-q.y≠0:=by grind
  have:=cK.1 (show(p.y-q.y)*(X-q.x-t*(p.x-q.x))=0 by grind);rcases this with h5|h5
  ·exact absurd h5 h4
  ·grind
 rw[e];congr 1;grind
def UV(q p v w:aa)(e:Rat):cj q p (aF v w e)=cj q p v+e*(cj q p w-cj q p v):=by
 unfold cj aF;grind
def GQ(v w:aa)(a b e:Rat):aF (aF v w a) (aF v w b) e=aF v w (a+e*(b-a)):=by
 unfold aF;simp only[aa.mk.injEq];constructor<;>grind
def yv(v w:aa)(e:Rat):(aF v w e).y=v.y+e*(w.y-v.y):=rfl
def CT{a b e lo hi:Rat}(h0:0<=e)(h1:e<=1)(ha:lo<=a)(hb:lo<=b)(ha2:a<=hi)(hb2:b<=hi):lo<=a+e*(b-a)/\a+e*(b-a)<=hi:=by
 have k1:=bG h0 (show 0<=b-lo by grind);have k2:=bG (show 0<=1-e by grind) (show 0<=a-lo by grind);have k3:=bG h0 (show 0<=hi-b by grind);have k4:=bG (show 0<=1-e by grind) (show 0<=hi-a by grind);constructor<;>grind
def OU{v w q p:aa}(hn:mI v w q p)(hy:q.y<p.y){a b:Rat}(a0:0<=a)(a1:a<=1)(b0:0<=b)(b1:b<=1)(ha:q.y<=(aF v w a).y/\(aF v w a).y<=p.y)(hb:q.y<=(aF v w b).y/\(aF v w b).y<=p.y)(h:cj q p (aF v w a)<0):cj q p (aF v w b)<0:=by
 by_cases k:cj q p (aF v w b)<0
 ·exact k
 ·exfalso
  obtain⟨e0,e1,e2⟩:=wx (a:= -(cj q p (aF v w a))) (b:=cj q p (aF v w b)-cj q p (aF v w a)) (by grind) (by grind) (by grind);generalize-(cj q p (aF v w a))/(cj q p (aF v w b)-cj q p (aF v w a))=e at*;have hz:cj q p (aF v w (a+e*(b-a)))=0:=by rw[<-GQ,UV];grind
  have hh:=CT e0 e1 ha.1 hb.1 ha.2 hb.2;rw[<-yv,GQ] at hh;obtain⟨t,t0,t1,ht⟩:=S2 hy hz hh.1 hh.2;have h01:=CT e0 e1 a0 b0 a1 b1;exact hn _ t h01.1 h01.2 t0 t1 ht
def OF{v w q p:aa}(hn:mI v w q p)(hy:q.y<p.y): ∃r:Bool,∀s,0<=s->s<=1->q.y<=(aF v w s).y->(aF v w s).y<=p.y->(cj q p (aF v w s)<0↔r=true):=by
 by_cases h: ∃s,0<=s/\s<=1/\(q.y<=(aF v w s).y/\(aF v w s).y<=p.y)/\cj q p (aF v w s)<0
 ·obtain⟨s,s0,s1,s2,s3⟩:=h
  exact⟨true,fun t t0 t1 h1 h2=>⟨fun _=>J,fun _=>OU hn hy s0 s1 t0 t1 s2 ⟨h1,h2⟩ s3⟩⟩
 ·exact⟨false,fun t t0 t1 h1 h2=>⟨fun k=>absurd ⟨t,t0,t1,⟨h1,h2⟩,k⟩ h,fun k=>by cases k⟩⟩
def Dt(v w:aa):aF v w 0=v:=by unfold aF;cases v;simp only[aa.mk.injEq];constructor<;>grind
def xX(v w:aa):aF v w 1=w:=by unfold aF;cases w;simp only[aa.mk.injEq];constructor<;>grind
def DD{v w:aa}{y:Rat}(h:(v.y<=y/\ ¬w.y<=y)\/(¬v.y<=y/\w.y<=y)): ∃s,0<=s/\s<=1/\(aF v w s).y=y:=by
 rcases h with⟨h1,h2⟩|⟨h1,h2⟩
 ·obtain⟨a1,a2,a3⟩:=wx (a:=y-v.y) (b:=w.y-v.y) (by grind) (by grind) (by grind)
  refine⟨_,a1,a2,?_⟩;rw[yv];grind
 ·obtain⟨a1,a2,a3⟩:=wx (a:=v.y-y) (b:=v.y-w.y) (by grind) (by grind) (by grind)
  refine⟨_,a1,a2,?_⟩;rw[yv];grind
def JG{v w p:aa}{s:Rat}(h:(aF v w s).y=p.y):cj v w p=(w.y-v.y)*((aF v w s).x-p.x):=by
 unfold cj;unfold aF at*;simp only at*;rw[<-h];grind
def vJ{a b:Rat}(ha:0<a):0<a*b↔0<b:=by rw[Rat.mul_comm];exact fi ha
def EC{a b:Rat}(ha:a<0):a*b<0↔0<b:=by
 have:=vJ (a:= -a) (b:=b) (by grind);constructor
 ·intro h;exact this.1 (by grind)
 ·intro h;have:=this.2 h;grind
def bI(b:Prop)[Decidable b]:Int:=if b then 1 else 0
def Al{v w p:aa}{r:Prop}[Decidable r](h: ∀s,0<=s->s<=1->(aF v w s).y=p.y->(p.x<(aF v w s).x↔r)):kx v w p=if r then bI (v.y<=p.y)-bI (w.y<=p.y) else 0:=by
 unfold kx bI;by_cases h1:v.y<=p.y<;>by_cases h2:w.y<=p.y
 ·simp[h1,h2]
 ·obtain⟨s,s0,s1,s2⟩:=DD (.inl ⟨h1,h2⟩)
  have e:=JG s2;have k:=h s s0 s1 s2;have m:=vJ (a:=w.y-v.y) (b:=(aF v w s).x-p.x) (by grind);rw[<-e] at m;have m2:0<cj v w p↔r:=by rw[m,<-k];grind
  simp only[h1,h2,m2];by_cases q:r<;>simp[q]
 ·obtain⟨s,s0,s1,s2⟩:=DD (.inr ⟨h1,h2⟩)
  have e:=JG s2;have k:=h s s0 s1 s2;have m:=EC (a:=w.y-v.y) (b:=(aF v w s).x-p.x) (by grind);rw[<-e] at m;have m2:cj v w p<0↔r:=by rw[m,<-k];grind
  simp only[h1,h2,m2];by_cases q:r<;>simp[q]
 ·simp[h1,h2]
def sd(q p u:aa):Int:=if q.y<u.y/\u.y<=p.y/\cj q p u<0 then 1 else 0
def NN{v w q p:aa}(hn:mI v w q p)(hy:q.y<p.y):kx v w p-kx v w q=sd q p v-sd q p w:=by
 obtain⟨r,hr⟩:=OF hn hy;have ep:=Al (v:=v) (w:=w) (p:=p) (r:=r=true) fun s s0 s1 s2=>by
  rw[<-hr s s0 s1 (by grind) (by grind)];have m:=vJ (a:=p.y-q.y) (b:=(aF v w s).x-p.x) (by grind);have:cj q p (aF v w s)= -((p.y-q.y)*((aF v w s).x-p.x)):=by unfold cj;rw[s2];grind
  rw[this];generalize (p.y-q.y)*((aF v w s).x-p.x)=z at*;constructor
  ·intro k;have:=m.2 (by grind);grind
  ·intro k;have:=m.1 (by grind);grind
 have eq:=Al (v:=v) (w:=w) (p:=q) (r:=r=true) fun s s0 s1 s2=>by
  rw[<-hr s s0 s1 (by grind) (by grind)];have m:=vJ (a:=p.y-q.y) (b:=(aF v w s).x-q.x) (by grind);have:cj q p (aF v w s)= -((p.y-q.y)*((aF v w s).x-q.x)):=by unfold cj;rw[s2];grind
  rw[this];generalize (p.y-q.y)*((aF v w s).x-q.x)=z at*;constructor
  ·intro k;have:=m.2 (by grind);grind
  ·intro k;have:=m.1 (by grind);grind
 have fv:sd q p v=if r=true then bI (v.y<=p.y)-bI (v.y<=q.y) else 0:=by
  have h:=hr 0 (by decide) (by decide);rw[Dt] at h;unfold sd bI;by_cases h1:v.y<=p.y<;>by_cases h2:v.y<=q.y
  ·have: ¬q.y<v.y:=by grind
   simp[h1,h2,this]
  ·have h3:q.y<v.y:=by grind
   have:=h (by grind) h1;simp only[h1,h2,h3,this];by_cases q:r=true<;>simp[q]
  ·exfalso;grind
  ·simp[h1,h2]
 have fw:sd q p w=if r=true then bI (w.y<=p.y)-bI (w.y<=q.y) else 0:=by
  have h:=hr 1 (by decide) (by decide);rw[xX] at h;unfold sd bI;by_cases h1:w.y<=p.y<;>by_cases h2:w.y<=q.y
  ·have: ¬q.y<w.y:=by grind
   simp[h1,h2,this]
  ·have h3:q.y<w.y:=by grind
   have:=h (by grind) h1;simp only[h1,h2,h3,this];by_cases q:r=true<;>simp[q]
  ·exfalso;grind
  ·simp[h1,h2]
 rw[ep,eq,fv,fw];by_cases q:r=true
 ·simp only[if_pos q];omega
 ·simp only[if_neg q]
def QF{v w q p:aa}(hn:mI v w q p)(hy:q.y=p.y):kx v w p=kx v w q:=by
 have key: ∀s,0<=s->s<=1->(aF v w s).y=p.y->(p.x<(aF v w s).x↔q.x<(aF v w s).x):=fun s s0 s1 s2=>by
  have no: ∀a b:Rat,a<=(aF v w s).x->(aF v w s).x<b->((a=q.x/\b=p.x)\/(a=p.x/\b=q.x))->False:=fun a b h1 h2 h3=>by
   obtain⟨a1,a2,a3⟩:=wx (a:=(aF v w s).x-a) (b:=b-a) (by grind) (by grind) (by grind);generalize ((aF v w s).x-a)/(b-a)=t at*;rcases h3 with⟨e1,e2⟩|⟨e1,e2⟩
   ·refine hn s t s0 s1 a1 a2 ?_
    generalize hx:aF v w s=x at*;obtain⟨X,Y⟩:=x;unfold aF;simp only[aa.mk.injEq] at*;subst e1 e2;constructor<;>grind
   ·refine hn s (1-t) s0 s1 (by grind) (by grind) ?_
    generalize hx:aF v w s=x at*;obtain⟨X,Y⟩:=x;unfold aF;simp only[aa.mk.injEq] at*;subst e1 e2;constructor<;>grind
  constructor
  ·intro h
   by_cases k:q.x<(aF v w s).x
   ·exact k
   ·by_cases k2:(aF v w s).x=q.x
    ·exfalso
     refine hn s 0 s0 s1 (by decide) (by decide) ?_;rw[Dt];generalize aF v w s=x at*;obtain⟨X,Y⟩:=x;obtain⟨A,B⟩:=q;simp only[aa.mk.injEq] at*;exact⟨k2,by grind⟩
    ·exact(no p.x q.x (by grind) (by grind) (.inr ⟨J,J⟩)).elim
  ·intro h
   by_cases k:p.x<(aF v w s).x
   ·exact k
   ·by_cases k2:(aF v w s).x=p.x
    ·exfalso
     refine hn s 1 s0 s1 (by decide) (by decide) ?_;rw[xX];generalize aF v w s=x at*;obtain⟨X,Y⟩:=x;obtain⟨A,B⟩:=p;simp only[aa.mk.injEq] at*;exact⟨k2,s2⟩
    ·exact(no q.x p.x (by grind) (by grind) (.inl ⟨J,J⟩)).elim
 by_cases hc:(v.y<=p.y/\ ¬w.y<=p.y)\/(¬v.y<=p.y/\w.y<=p.y)
 ·obtain⟨s,s0,s1,s2⟩:=DD hc
  have uq: ∀t,(aF v w t).y=p.y->t=s:=fun t ht=>by
   rw[yv] at ht s2;have h4:w.y-v.y≠0:=by grind
   have:=cK.1 (show(w.y-v.y)*(t-s)=0 by grind);rcases this with h5|h5
   ·exact absurd h5 h4
   ·grind
  rw[Al (p:=p) (r:=p.x<(aF v w s).x) fun t _ _ ht=>by rw[uq t ht],Al (p:=q) (r:=p.x<(aF v w s).x) fun t _ _ ht=>by rw[uq t (by rw[ht,hy])];exact(key s s0 s1 s2).symm,hy]
 ·unfold kx
  rw[hy];by_cases h1:v.y<=p.y<;>by_cases h2:w.y<=p.y<;>simp[h1,h2] at hc⊢
def Vm(q p:aa)(t:Rat):aF p q t=aF q p (1-t):=by unfold aF;simp only[aa.mk.injEq];constructor<;>grind
def mI.symm{v w q p:aa}(h:mI v w q p):mI v w p q:=fun s t s0 s1 t0 t1 e=>h s (1-t) s0 s1 (by grind) (by grind) (by rw[e,Vm])
def fG(r:List ZP)(p:aa):Nat->Int
 |0=>0
 |k+1=>fG r p k+kx (r.getD k (0,0)).q (de r k).q p
def s7(r:List ZP)(q p:aa):Prop:= ∀k,k<r.length->mI (r.getD k (0,0)).q (de r k).q q p
def J6{r:List ZP}{q p:aa}(h:s7 r q p)(hy:q.y<p.y): ∀k,k<r.length->fG r p k-fG r q k=sd q p (r.getD 0 (0,0)).q-sd q p (r.getD k (0,0)).q
 |0,_=>by simp[fG]
 |k+1,hk=>by
  have ih:=J6 h hy k (by omega);have e:=NN (h k (by omega)) hy;rw[BW (by omega)] at e;rw[fG,fG,BW (by omega)];omega
def Jr{r:List ZP}{q p:aa}(h:s7 r q p)(hy:q.y<p.y):fG r p r.length=fG r q r.length:=by
 cases hr:r.length with
 |zero=>rfl
 |succ n=>
  have ih:=J6 h hy n (by omega);have e:=NN (h n (by omega)) hy;rw[CC (by omega)] at e;rw[fG,fG,CC (by omega)];omega
def HR{r:List ZP}{q p:aa}(h:s7 r q p)(hy:q.y=p.y): ∀k,k<=r.length->fG r p k=fG r q k
 |0,_=>rfl
 |k+1,hk=>by rw[fG,fG,HR h hy k (by omega),QF (h k (by omega)) hy]
def UA{r:List ZP}{q p:aa}(h:s7 r q p):fG r p r.length=fG r q r.length:=by
 by_cases h1:q.y<p.y
 ·exact Jr h h1
 ·by_cases h2:p.y<q.y
  ·exact(Jr (fun k hk=>(h k hk).symm) h2).symm
  ·exact HR h (by grind) _ (aL _)
def Ro(a b c:aa):ru a b c=(cj a b c).num.sign:=by
 unfold ru cj aa.cross bc;congr 2;grind
def Cb(a b:Rat):bO a b<=0↔a<=b:=by
 have:=yl a b;constructor
 ·intro h
  by_cases q:b<a
  ·have:=this.2 q;omega
  ·grind
 ·intro h
  by_cases q:0<bO a b
  ·have:=this.1 q;grind
  ·omega
def SL(v w p:aa):D5 v w p=kx v w p:=by
 unfold D5 kx;simp only[Ro,jF,lD,Cb]
def tB(r:List ZP)(p:aa): ∀k,xu r p k=fG r p k
 |0=>rfl
 |k+1=>by rw[xu,fG,tB r p k,SL]
def LN{r:List ZP}{q p:aa}(h:s7 r q p):e8 r p=e8 r q:=by
 unfold e8;rw[tB,tB,UA h]
def Ub(R:Rat)(p:aa):Prop:=p.x< -R\/R<p.x\/p.y< -R\/R<p.y
structure IvB (v:aB):Prop where
 lo:BQ v.lo 1200
 hi:BQ v.hi 1200
def YW(l:List aB)(k:Nat):List Rat:=kG (l.take k)
def ZG(o:List Rat)(v:aB)(j:Nat):List Rat:=if j=0 then o else if j=1 then(if v.nl then o else mi v.lo o) else ml o v
def aFF(v:aB)(j:Nat):Rat:=if j=0 then v.lo else v.hi
def aFL(v:aB)(j:Nat):Bool:=if j=0 then v.nl else v.nh
def aFh(l m:ab)(side:Int):DV:= .tp [.sl ((s4 l m side).map eV),vB (ti l m)]
def eFF(f:aP):DV:= .ag [.v (.bool (decide (f.l.a<0))),dN f.l.a.natAbs, .v (.bool (decide (f.l.b<0))),dN f.l.b.natAbs, .v (.bool (decide (f.l.c<0))),dN f.l.c.natAbs, .v (.bool (decide (f.v.lo.num<0))),dN f.v.lo.num.natAbs,dD f.v.lo.den, .v (.bool (decide (f.v.hi.num<0))),dN f.v.hi.num.natAbs,dD f.v.hi.den, .v (.bool f.v.nl), .v (.bool f.v.nh)]
theorem Ue{p:ZP}(h:ZP.le 100 p):az p.q 12:=by
 haveI:BI p.1 11:=iH (by have:=h.1;omega) (by decide);haveI:BI p.2 11:=iH (by have:=h.2;omega) (by decide);exact(inferInstance:az (iP p.1 p.2) 12)
def ZC(v w:aB):aB:=⟨v.lo,w.hi,v.nl,v.nh⟩

section
variable {GB:Gh} {C:aA} {n:Nat} {Q0:Exit->Act->World->Prop} {fr fr':ao} {own own':aC} {cf cf':Cf} {vc:List Prop}
def OI{lk:LK}{bk:BM}{dst:Option Nat}{t ty':TypeId}{pos:String}{af:Array Edge}{gd:Option (Nat×Bool)}{x y:Operand}{e len s nm off:Nat}{k:IntKind}{i:Nat}(hu:prog.underlying t=some (.array len e))(hs:(prog.info? e).map (·.size)=some s)
  (e1:aD lk x=some (.ov nm off))(e2:aD lk y=some (.d (.v (.int k (i:Nat)))))(hi:i<len):bD prog GB C n lk bk ⟨dst, .indexAddr t x y,ty',pos,af,gd⟩ (.ov nm (off+i*s)) [] []:= .yd fun ρ G ov a w r=>by
 obtain⟨p,h1,h2⟩:=r.ev e1;obtain⟨q,h3,h4⟩:=r.ev e2;rw[cH] at h4;subst h4;obtain⟨b,hb,rfl⟩:=h2;refine⟨_,⟨b,hb,J⟩,?_⟩;obtain⟨j,hj,hjs⟩: ∃j,prog.info? e=some j/\j.size=s:=by
  cases h:prog.info? e with
  |none=>rw[h] at hs;cases hs
  |some j=>rw[h] at hs;exact⟨j,J,by simpa using hs⟩
 intro a' w' hf hh;simp only[execOp,bi hf h1,bi hf h3];have:(Instr.indexAt t (.pointer (some ⟨b,off,none⟩)) (.int k (i:Nat))).run prog w'= .ok (.pointer (some ⟨b,off+i*s,none⟩)) w':=by
  unfold Instr.indexAt;show(underlying t>>=_).run prog w'=_;rw[aG (nP hu w')];show(underlying t>>=_).run prog w'=_;rw[aG (nP hu w')];have h0:0<=((i:Nat):Int):=Int.natCast_nonneg i;have h1:((i:Nat):Int)<((len:Nat):Int):=by omega
  simp only[h0,h1,and_self,if_true];show(sizeOf e>>=_).run prog w'=_;rw[aG (sD hj w'),ou,hjs,bM];rfl
 exact cI this
def Lq(fr:ao)(cf:Cf):Option (TypeId×Nat×Nat×Int):=match bF fr cf with
 |some ⟨_, .indexAddr t x y,_,_,_,_⟩=>match aD (bh fr cf) x with
  |some (.ov nm off)=>match aD (bh fr cf) y with
   |some (.d (.v (.int _ i)))=>some (t,nm,off,i)
   |_=>none
  |_=>none
 |_=>none
def xR[fu:Fu](i:Nat){t nm off e len s:Nat}(h:Lq fr cf=some (t,nm,off,((i:Nat):Int)))(hu:prog.underlying t=some (.array len e))(hs:(prog.info? e).map (·.size)=some s)(hi:i<len)
  (hgo:cg tt n fu.n fr own cf (.ov nm (off+i*s)) [] []=⟨vc,fr',own',cf'⟩)(k:aj prog GB C n Q0 fr' own' cf')
  (hv:ah vc:=by first|exact trivial|(simp only[ah];kernel_rfl)|(simp only[ah];omega)):aj prog GB C n Q0 fr own cf:=by
 unfold Lq at h;split at h<;>try (cases h;done)
 rename_i hh;split at h<;>try (cases h;done)
 rename_i hx;split at h<;>cases h;rename_i hy;exact us hh (OI hu hs hx hy hi) hgo hv k
def ZK(fr:ao)(cf:Cf):Option (Nat×List FX):=match bF fr cf with
 |some ⟨some d, .build t ⟨ps⟩,_,_,_,_⟩=>match cD tt t with
  |some ⟨.st fo,_,some zx,_⟩=>match rj (bh fr cf) fo zx ps with
   |some l=>some (d,l)
   |none=>none
  |_=>none
 |_=>none
end
def sp1(f:aP)(m:ab)(k:Nat):List aP:=if k=0 then [] else lG f m 1
def Y2(f:aP)(m:ab)(k:Nat):List aP:=if k<=1 then [] else lG f m (-1)
def ju(p:ZP):DV:=eP p.q
def yX(r:List ZP):DV:= .sl (r.map ju)
def Fk(l:List ZP):eh 6 (l.map ju):=fun d hd=>by
 obtain⟨u,_,rfl⟩:=bX.1 hd;exact⟨rfl,rfl⟩
def xi(rs:List (List ZP)):List ab:=(bH rs).map aP.l
def eRR(rs:List (List ZP))(fill:Int):DV:= .ag [.sl (rs.map yX), .v (.int .i64 fill), .sl ((my (xi rs)).map eL)]
def jj(r:List ZP):DV:= .sl ((r.map ZP.q).map je)
theorem Po{r:List ZP}(h: ∀p∈r,ZP.le 100 p): ∀p∈r.map ZP.q,az p 1200:=fun p hp=>by
 obtain⟨z,hz,rfl⟩:=bX.1 hp;have:=Ue (h z hz);exact⟨BQ.mono this.x (by decide),BQ.mono this.y (by decide)⟩
def WO{rs:List (List ZP)}{k:Nat}{r:List ZP}(h:rs[k]? =some r):bH (rs.take (k+1))=bH (rs.take k)++ip r:=by
 unfold bH;rw[dL,h,List.flatMap_append];simp
def Il{rs:List (List ZP)}(h: ∀r∈rs,b9 r)(k:Nat):(bH (rs.take k)).length<=6*k:=by
 have:=(qr (rs:=rs.take k) (fun r hr=>h r (fJ hr))).1;have h2:(rs.take k).length<=k:=by rw[cZ];omega
 omega

def p7:aa:=⟨mkRat 1 7,mkRat 1 5⟩
structure LP (l:ab):Prop where
 s:LS l
 p:0<l.value p7
def BB(es:List Int):Nat->Nat->List ab×Nat
 |0,a=>([],a)
 |i+1,a=>((lF es a).1::(BB es i (lF es a).2).1,(BB es i (lF es a).2).2)
def MU(es:List Int)(most a:Nat):List ab×Nat:=BB es (aq es ((most:Int)+1) a).1 (aq es ((most:Int)+1) a).2
def G9(l:ab):ab:=if(l.value p7).num.sign<0 then l.rev else l
def aEL(xs:List ab)(i:Nat):List ab:=(xs.take i).map G9++xs.drop i
def aFr(es:List Int)(a:Nat):List ab×Nat:=((MU es 3 a).1.map G9,(MU es 3 a).2)

def Uu(ds:List Int):eh 1 (ds.map vI):=fun d hd=>by
 obtain⟨n,_,rfl⟩:=bX.1 hd;exact⟨rfl,rfl⟩
def SN(es:List Int):(es.map vI).take (min es.length 400)=(es.take 400).map vI:=by
 rw[lR];rcases Nat.le_total es.length 400 with h|h
 ·rw[gQ h,aS (by simp),aS (by simpa using h)]
 ·rw[Nat.min_eq_right h]
def Ta{es:List Int}(hb:es.length<=1125899906842624):PN GB prog 15 [.sl (es.map vI)] 126 Unit (fun _=>[.sl ((es.take 400).map vI), .v (.int .i64 (0:Nat))]):=by
 have hel:(es.map vI).length=es.length:=by simp
 refine Oj func15 J J ntmps15 J J (fun C hmb=>?_);refine tg 0 (min es.length 400) ((es.take 400).map vI) J J (by rw[hel];show(if _ then _ else _:Int)=_;split<;>omega) (SN es) (Uu _) (by omega) (by omega) J<|?_;exact Pp () J J J J J


def Vx(p r:ZP):(fg p.q r.q<0↔jn p r<0)/\(fg p.q r.q=0↔jn p r=0):=by
 have e1: ∀a b:Int,bO (a:Rat) (b:Rat)<0↔a<b:=fun a b=>by rw[vU,qJ]
 have e2: ∀a b:Int,bO (a:Rat) (b:Rat)=0↔a=b:=fun a b=>by rw[xJ,pV]
 have f1:=e1 p.1 r.1;have f2:=e2 p.1 r.1;have f3:=e1 p.2 r.2;have f4:=e2 p.2 r.2;show(fg ⟨(p.1:Rat),(p.2:Rat)⟩ ⟨(r.1:Rat),(r.2:Rat)⟩<0↔_)/\(fg ⟨(p.1:Rat),(p.2:Rat)⟩ ⟨(r.1:Rat),(r.2:Rat)⟩=0↔_);unfold fg jn;dsimp only;generalize bO (p.1:Rat) (r.1:Rat)=u at*;generalize bO (p.2:Rat) (r.2:Rat)=v at*;by_cases h:p.1<r.1
 ·rw[if_pos (by omega),if_pos h];omega
 ·by_cases h2:r.1<p.1
  ·rw[if_pos (by omega),if_neg h,if_pos h2];omega
  ·rw[if_neg (by omega),if_neg h,if_neg h2]
   by_cases h3:p.2<r.2
   ·rw[if_pos h3];omega
   ·rw[if_neg h3]
    split<;>omega
def Ge(x:ZP): ∀l:List ZP,dF fg x.q (l.map ZP.q)=(i6 x l).map ZP.q
 |[]=>rfl
 |u::t=>by
  obtain⟨h1,h2⟩:=Vx u x;rw[cL,dF,i6,Ge x t];by_cases k1:jn u x<0
  ·rw[if_pos (h1.2 k1),if_pos k1];rfl
  ·rw[if_neg (fun e=>k1 (h1.1 e)),if_neg k1]
   by_cases k2:jn u x=0
   ·rw[if_pos (h2.2 k2),if_pos k2];rfl
   ·rw[if_neg (fun e=>k2 (h2.1 e)),if_neg k2];rfl
def Yp(l:List ZP):qo fg (l.map ZP.q)=(mr l).map ZP.q:=by
 have key: ∀(l o:List ZP),(l.map ZP.q).foldl (fun out x=>dF fg x out) (o.map ZP.q)=(l.foldl (fun out x=>i6 x out) o).map ZP.q:=by
  intro l
  induction l with
  |nil=>intro o;rfl
  |cons x t ih=>intro o;rw[cL,fN,fN,Ge,ih]
 exact key l []
def Ho(l:List ZP):(l.map ZP.q).map eP=l.map ju:=by rw[List.map_map];rfl
def KO{l:List ZP}(h: ∀p∈l,ZP.le 100 p)(hn:l.length<=100000):PF GB prog 90 [.sl (l.map ju)] (.sl ((mr l).map ju)):=by
 have:=WH (GB:=GB) (ps:=l.map ZP.q) (Po h) (by rw[aK];exact hn);rw[Yp,Ho,Ho] at this;exact this
def Ya(u v:ZP):(aa.cross (iP u.1 u.2) (iP v.1 v.2))=((pc u v:Int):Rat):=by
 unfold aa.cross iP pc;push_cast;rfl
def Cs(u v:ZP):(aa.cross (iP u.1 u.2) (iP v.1 v.2)).num.sign≠0↔pc u v≠0:=by
 rw[Ya,pJ];exact not_congr iZ
def TE{α β:Type}(f:α->β)(l:List α):((l.map f).take (l.length-1)).drop 0=l.dropLast.map f:=by
 rw[iJ,<-lR,List.dropLast_eq_take]
def Gk{l:List ZP}(h:0<l.length): ∃u,l.getLast? =some u/\l[l.length-1]? =some u/\l.getD (l.length-1) (0,0)=u:=by
 refine⟨l[l.length-1],?_,aZ (by omega),?_⟩
 ·rw[mZ];exact aZ (by omega)
 ·rw[aX,aZ (by omega)];rfl
def Q2{l:List ZP}(h:0<l.length): ∃u,l[0]? =some u/\l.getD 0 (0,0)=u:=by
 refine⟨l[0],aZ (by omega),?_⟩;rw[aX,aZ (by omega)];rfl
def x4{u p:ZP}:(u.1=p.1/\u.2=p.2)↔u=p:=⟨fun h=>Prod.ext h.1 h.2,fun h=>by rw[h];exact⟨J,J⟩⟩
def Sd{b:Nat}{es:List Int}(hes:es.length<=400){a:Nat}(ha:a<=es.length):PM GB prog 33 (i8 [none] b) b 126 [.sl (es.map vI), .v (.int .i64 (a:Nat))] (yX (fB es a).1) [.sl (es.map vI), .v (.int .i64 ((fB es a).2:Nat))]:=by
 have hk0:=il (n:=4) ha;refine uD (fu:=⟨6⟩) func33 J J ntmps33 J J (fun C b m lo hmb=>?_);refine mg (X:=Nat) (fun a2=>[]) (fun a2=>[(1000000,some (.o 126 [.d (.sl (es.map vI)), .d (.v (.int .i64 (a2:Nat)))] false))]) (fun a2=>fB es a=mm es a2/\a2<=es.length) [] [1000000] rfl ?_ (fun _=>J) (fun a2 ⟨hR,ha2⟩=>?_)
 .
  refine gx J<|cm J (fun b=>(oG (n:=4) hes ha (by decide) (by decide))) J<|?_;refine br J J J (fun hc15=>?_) (fun hc15=>?_)
  .
   have hx1:=il (n:=5) hk0;have hy1:=il (n:=5) hx1;have hz1:=il (n:=4) hy1;have hw1:=il (n:=4) hz1;have hl0:=jA (es:=es) (n:=5) (a:=(aq es 4 a).2) (by decide);have hl1:=jA (es:=es) (n:=5) (a:=(aq es 5 (aq es 4 a).2).2) (by decide);have hl2:=jA (es:=es) (n:=4) (a:=(aq es 5 (aq es 5 (aq es 4 a).2).2).2) (by decide);have hl3:=jA (es:=es) (n:=4) (a:=(aq es 4 (aq es 5 (aq es 5 (aq es 4 a).2).2).2).2) (by decide);refine cm J (fun b=>(oG (n:=5) hes hk0 (by decide) (by decide))) J<|cm J (fun b=>(oG (n:=5) hes hx1 (by decide) (by decide))) J<|?_;refine cm J (fun b=>(oG (n:=4) hes hy1 (by decide) (by decide))) J<|cm J (fun b=>(oG (n:=4) hes hz1 (by decide) (by decide))) J<|?_;refine cl J (kd (m:=(((aq es 5 (aq es 4 a).2).1:Int)-4)) (n:=(((aq es 5 (aq es 5 (aq es 4 a).2).2).1:Int)-4)) (by omega) (by omega)) J<|?_;refine cl J (kd (m:=(((aq es 5 (aq es 4 a).2).1:Int)-4+1+((aq es 4 (aq es 5 (aq es 5 (aq es 4 a).2).2).2).1:Int))) (n:=(((aq es 5 (aq es 5 (aq es 4 a).2).2).1:Int)-4)) (by omega) (by omega)) J<|?_;refine cl J (kd (m:=(((aq es 5 (aq es 4 a).2).1:Int)-4+1+((aq es 4 (aq es 5 (aq es 5 (aq es 4 a).2).2).2).1:Int))) (n:=(((aq es 5 (aq es 5 (aq es 4 a).2).2).1:Int)-4+1+((aq es 4 (aq es 4 (aq es 5 (aq es 5 (aq es 4 a).2).2).2).2).1:Int))) (by omega) (by omega)) J<|?_;refine cl J (kd (m:=(((aq es 5 (aq es 4 a).2).1:Int)-4)) (n:=(((aq es 5 (aq es 5 (aq es 4 a).2).2).1:Int)-4+1+((aq es 4 (aq es 4 (aq es 5 (aq es 5 (aq es 4 a).2).2).2).2).1:Int))) (by omega) (by omega)) J<|?_;refine rf J J<|?_
   exact j0 hmb J J (by rw[show fB es a=_ from if_pos hc15];rfl) (by rw[show fB es a=_ from if_pos hc15];rfl)
  .
   refine br J J J (fun hc46=>?_) (fun hc46=>?_)
   .
    obtain⟨hp1,hp2,hp3⟩:=tk hk0;obtain⟨hu1,hu2,hu3,hu4⟩:=uc hp3;obtain⟨hv1,hv2,hv3,hv4⟩:=uc hu4;haveI:=iH (k:=10) (m:=(vF es (pF es (aq es 4 a).2).2).1.1) (by omega) (by decide);haveI:=iH (k:=10) (m:=(vF es (pF es (aq es 4 a).2).2).1.2) (by omega) (by decide);haveI:=iH (k:=10) (m:=(vF es (vF es (pF es (aq es 4 a).2).2).2).1.1) (by omega) (by decide);haveI:=iH (k:=10) (m:=(vF es (vF es (pF es (aq es 4 a).2).2).2).1.2) (by omega) (by decide);refine cm J (fun b=>(Ft hes hk0)) J<|cm J (fun b=>(Mo hes hp3)) J<|cm J (fun b=>(Mo hes hu4)) J<|cl J (Wv (p:=iP (vF es (pF es (aq es 4 a).2).2).1.1 (vF es (pF es (aq es 4 a).2).2).1.2) (q:=iP (vF es (vF es (pF es (aq es 4 a).2).2).2).1.1 (vF es (vF es (pF es (aq es 4 a).2).2).2).1.2)) J<|?_;refine cl J (Gr (q:=aa.cross (iP (vF es (pF es (aq es 4 a).2).2).1.1 (vF es (pF es (aq es 4 a).2).2).1.2) (iP (vF es (vF es (pF es (aq es 4 a).2).2).2).1.1 (vF es (vF es (pF es (aq es 4 a).2).2).2).1.2))) J<|?_;refine br J J J (fun hc58=>?_) (fun hc58=>?_)
    .
     refine cl J (xa (n:=1) (by decide) (by decide)) J<|cl J (LL (m:=(pF es (aq es 4 a).2).1.1) (n:=(pF es (aq es 4 a).2).1.2) (m':=(vF es (pF es (aq es 4 a).2).2).1.1) (n':=(vF es (pF es (aq es 4 a).2).2).1.2) (k:=1) (by omega) (by omega) (by omega) (by omega) (by decide)) J<|?_;refine cl J (xa (n:=1) (by decide) (by decide)) J<|cl J (LL (m:=(pF es (aq es 4 a).2).1.1) (n:=(pF es (aq es 4 a).2).1.2) (m':=(vF es (vF es (pF es (aq es 4 a).2).2).2).1.1) (n':=(vF es (vF es (pF es (aq es 4 a).2).2).2).1.2) (k:=1) (by omega) (by omega) (by omega) (by omega) (by decide)) J<|?_;refine rf J J<|?_;exact j0 hmb J J (by rw[show fB es a=_ from(if_neg hc15).trans ((if_pos hc46).trans (if_pos ((Cs _ _).1 hc58)))];rfl) (by rw[show fB es a=_ from(if_neg hc15).trans ((if_pos hc46).trans (if_pos ((Cs _ _).1 hc58)))])
    .
     exact at_ (vF es (vF es (pF es (aq es 4 a).2).2).2).2 ⟨(if_neg hc15).trans ((if_pos hc46).trans (if_neg (fun e=>hc58 ((Cs _ _).2 e)))),hv4⟩
   .
    exact at_ (aq es 4 a).2 ⟨(if_neg hc15).trans (if_neg hc46),hk0⟩
 .
  have hj1:=jA (es:=es) (n:=4) (a:=a2) (by decide);have hj2:=il (n:=4) ha2;refine cm J (fun b=>(oG (n:=4) hes ha2 (by decide) (by decide))) J<|?_;refine nr 10 10 81 6 J J J ?_;refine lp (X:=List ZP×Nat×Nat) (fun⟨r,i,a3⟩=>[(11, .d (vI (i:Nat))),(10, .rw 10)]) (fun⟨r,i,a3⟩=>[(1000000,some (.o 126 [.d (.sl (es.map vI)), .d (.v (.int .i64 (a3:Nat)))] false)),(10,some (.b 81 6 (r.map ju) true))]) (fun⟨r,i,a3⟩=>k9 es i a3 r=k9 es (3+(aq es 4 a2).1) (aq es 4 a2).2 []/\a3<=es.length/\ji r/\r.length+i<=6) (fun⟨r,i,a3⟩=>i) ⟨[],3+(aq es 4 a2).1,(aq es 4 a2).2⟩ J ⟨J,hj2,ji.nil,by simp;omega⟩ (fun _=>J) (fun⟨r,i,a3⟩ hk=>?_)
  try dsimp only at hk⊢
  obtain⟨h1,h2,h3,h4⟩:=hk;have hrl:(r.map ju).length=r.length:=by simp
  refine br (fu2:=⟨0⟩) J J J (fun hc73=>?_) (fun hc73=>?_)
  .
   obtain⟨j,rfl⟩: ∃j,i=j+1:=⟨i-1,by omega⟩;obtain⟨hq1,hq2,hq3⟩:=tk h2;refine cm (fu:=⟨8⟩) J (fun b=>(Ft hes h2)) J<|?_;refine uH (v1:=fun hg80=>by simp only[ah];kernel_rfl) J J J J (fun hg80=>?_) (fun hg80=>?_)
   .
    have hlast: ¬r.getLast? =some (pF es a3).1:=by rw[bR (l:=r) (by omega)];simp
    refine rf J J<|ap ((r++[(pF es a3).1]).map ju) J (by rw[dZ];rfl) (Fk [_]) J<|?_;refine ly 95 10 J ?_;exact at_ ⟨r++[(pF es a3).1],j,(pF es a3).2⟩ (by dsimp only;exact⟨⟨by rw[<-h1,k9,if_neg hlast],hq3,h3.snoc ⟨by omega,by omega⟩ hlast,by simp;omega⟩,(by omega)⟩)
   .
    obtain⟨q,hq,hqi,hqd⟩:=Gk (l:=r) (by omega);have hqm:=h3.le q (oX hq);unfold ZP.le at hqm;refine lb (ju q) J (by rw[show(((r.map ju).length:Nat):Int)-1=((r.length-1:Nat):Int) by omega];exact fj hqi) J<|cl J (De (m:=q.1) (n:=q.2) (m':=(pF es a3).1.1) (n':=(pF es a3).1.2) (by omega) (by omega) (by omega) (by omega)) J<|?_;refine bb J J J (fun hc91=>?_) (fun hc91=>?_)
    .
     have hlast: ¬r.getLast? =some (pF es a3).1:=by rw[hq];intro e;have:=x4.2 (Option.some.inj e);simp[this] at hc91
     refine rf J J<|ap ((r++[(pF es a3).1]).map ju) J (by rw[dZ];rfl) (Fk [_]) J<|?_;refine ly 95 10 J ?_;exact at_ ⟨r++[(pF es a3).1],j,(pF es a3).2⟩ (by dsimp only;exact⟨⟨by rw[<-h1,k9,if_neg hlast],hq3,h3.snoc ⟨by omega,by omega⟩ hlast,by simp;omega⟩,(by omega)⟩)
    .
     have hlast:r.getLast? =some (pF es a3).1:=by rw[hq];congr 1;exact x4.1 (by simpa using hc91)
     exact at_ ⟨r,j,(pF es a3).2⟩ (by dsimp only;exact⟨⟨by rw[<-h1,k9,if_pos hlast],hq3,h3,by omega⟩,(by omega)⟩)
  .
   obtain rfl:i=0:=by omega
   have hg:=h1;rw[k9] at hg;refine MY 10 J ?_;refine gx J<|?_;refine lp (fu:=⟨5⟩) (X:=List ZP×Nat) (fun⟨l,m⟩=>[(10, .d (.sl (l.map ju)))]) (fun⟨l,m⟩=>[]) (fun⟨l,m⟩=>jb m l=jb 6 r/\l.length<=m+1/\ji l/\l.length<=6) (fun⟨l,m⟩=>m) ⟨r,6⟩ J ⟨J,by omega,h3,by omega⟩ (fun _=>J) (fun⟨l,m⟩ hk=>?_)
   try dsimp only at hk⊢
   obtain⟨t1,t2,t3,t4⟩:=hk;have hll:(l.map ju).length=l.length:=by simp
   refine uH (v2:=fun hg98=>by simp only[ah];kernel_rfl) J J J J (fun hg98=>?_) (fun hg98=>?_)
   .
    obtain⟨q,hqi,hqd⟩:=Q2 (l:=l) (by omega);obtain⟨q2,hq0,hqi2,hqd2⟩:=Gk (l:=l) (by omega);have hqm:=t3.le q (bQ hqi);have hqm2:=t3.le q2 (bQ hqi2);unfold ZP.le at hqm hqm2;refine ix _ J (fj (i:=0) hqi) J<|ix (ju q2) J (by rw[show(((l.map ju).length:Nat):Int)-1=((l.length-1:Nat):Int) by omega];exact fj hqi2) J<|?_;refine cl J (De (m:=q.1) (n:=q.2) (m':=q2.1) (n':=q2.2) (by omega) (by omega) (by omega) (by omega)) J<|?_;refine bd J J J (fun hc110=>?_) (fun hc110=>?_)
    .
     have hcond:1<l.length/\l.getD 0 (0,0)=l.getD (l.length-1) (0,0):=⟨by omega,by rw[hqd,hqd2];exact x4.1 hc110⟩;refine tg 0 (l.length-1) (l.dropLast.map ju) J J (by omega) (TE ju l) (Fk l) (cV _) (by omega) J<|?_;exact at_ ⟨l.dropLast,m-1⟩ (by dsimp only;exact⟨⟨by rw[<-t1];obtain⟨m,rfl⟩: ∃q,m=q+1:=⟨m-1,by omega⟩;rw[jb,if_pos hcond];rfl,by rw[mU];omega,t3.drop,by rw[mU];omega⟩,(by omega)⟩)
    .
     have hcond: ¬(1<l.length/\l.getD 0 (0,0)=l.getD (l.length-1) (0,0)):=fun e=>hc110 (x4.2 (by rw[<-hqd,<-hqd2];exact e.2));refine cl (fu:=⟨1⟩) J (KO (l:=l) t3.le (by omega)) J<|?_;have hgen:jb 6 r=l:=by rw[<-t1];cases m with|zero=>rfl|succ m=>rw[jb,if_neg hcond]
     refine ak 118 (.d (vI ((mr l).length:Nat))) J (by rw[aK];rfl) ?_;refine gx J<|?_;refine br J J J (fun hc119=>?_) (fun hc119=>?_)
     .
      have hfin:fB es a=(u7,a3):=by rw[hR,mm,<-hg,hgen,if_pos (by omega)]
      refine cl J (kd (m:=0) (n:=0) (by decide) (by decide)) J<|cl J (kd (m:=2) (n:=0) (by decide) (by decide)) J<|cl J (kd (m:=0) (n:=2) (by decide) (by decide)) J<|?_;refine rf J J<|?_;exact j0 hmb J J (by rw[hfin];rfl) (by rw[hfin])
     .
      have hfin:fB es a=(l,a3):=by rw[hR,mm,<-hg,hgen,if_neg (by omega)]
      exact j0 hmb J J (by rw[hfin];rfl) (by rw[hfin])
   .
    have hcond: ¬(1<l.length/\l.getD 0 (0,0)=l.getD (l.length-1) (0,0)):=fun e=>by omega
    refine cl (fu:=⟨1⟩) J (KO (l:=l) t3.le (by omega)) J<|?_;have hgen:jb 6 r=l:=by rw[<-t1];cases m with|zero=>rfl|succ m=>rw[jb,if_neg hcond]
    refine ak 118 (.d (vI ((mr l).length:Nat))) J (by rw[aK];rfl) ?_;refine gx J<|?_;refine br J J J (fun hc119=>?_) (fun hc119=>?_)
    .
     have hfin:fB es a=(u7,a3):=by rw[hR,mm,<-hg,hgen,if_pos (by omega)]
     refine cl J (kd (m:=0) (n:=0) (by decide) (by decide)) J<|cl J (kd (m:=2) (n:=0) (by decide) (by decide)) J<|cl J (kd (m:=0) (n:=2) (by decide) (by decide)) J<|?_;refine rf J J<|?_;exact j0 hmb J J (by rw[hfin];rfl) (by rw[hfin])
    .
     have hfin:fB es a=(l,a3):=by rw[hR,mm,<-hg,hgen,if_neg (by omega)]
     exact j0 hmb J J (by rw[hfin];rfl) (by rw[hfin])
def Eg:DV:= .v (.pointer none)
def Wf(l:ab)(p q:DV):List DV:=[.v (.bool false), .v (.bool false), .v (.bool (decide (l.a<0))),dN l.a.natAbs, .v (.bool (decide (l.b<0))),dN l.b.natAbs, .v (.bool (decide (l.c<0))),dN l.c.natAbs,p,q]
inductive RF (ns:List RN):Int->(Nat->Bool)->DV->Bool->(Nat->Bool)->Prop where
 |leaf (b:Bool) (f:Nat->Bool):RF ns (yn b) f (eT (.leaf b)) true f
 |kP (rt:Int) (f:Nat->Bool) (h1:rt≠ -1) (h2:rt≠ -2) (h:rt<0\/(ns.length:Int)<=rt\/(∃k:Nat,rt=k/\k<ns.length/\f k=true)):RF ns rt f Eg false f
 |line (k:Nat) (n:RN) (f:Nat->Bool) (h:ns[k]? =some n) (hf:f k=false) (hl:n.g.ln=none):RF ns (k:Int) f Eg false (tK f k)
 |left (k:Nat) (n:RN) (l:ab) (f f2:Nat->Bool) (p:DV) (h:ns[k]? =some n) (hf:f k=false) (hl:n.g.ln=some l) (h1:RF ns n.l (tK f k) p false f2):RF ns (k:Int) f Eg false f2
 |node (k:Nat) (n:RN) (l:ab) (f f2 f3:Nat->Bool) (p q:DV) (ok:Bool) (h:ns[k]? =some n) (hf:f k=false) (hl:n.g.ln=some l) (h1:RF ns n.l (tK f k) p true f2) (h2:RF ns n.r f2 q ok f3):RF ns (k:Int) f (.pt (Wf l p q)) ok f3
def ZX(n:Nat)(f:Nat->Bool):Bool:=(List.range n).all f
def Ox:ab:=⟨0,1,0⟩
def t00:Tr:= .node Ox (.leaf true) (.leaf false)
structure TrX (k:Nat) (t:Tr):Prop where
 o:Yk k t
 s:t.size<=3000
def YS(es:List Int)(a:Nat):(Tr×Tr)×Nat:=
 let x:=qt es 0 a
 let y:=qt es 0 x.2
 let k:=aq es 3 y.2
 let u:=if(k.1:Int)=0 then ku es 3 k.2 else(x.1,k.2)
 let j:=aq es 3 u.2
 let v:=if(j.1:Int)=0 then ku es 3 j.2 else(y.1,j.2)
 ((u.1,v.1),v.2)
def ZQ(es:List Int)(a:Nat):(Tr×Tr)×Nat:=
 let x:=qt es 0 a
 let y:=qt es 0 x.2
 let k:=aq es 6 y.2
 if(k.1:Int)=0 then((x.1, .node (lF es k.2).1 x.1 x.1),(lF es k.2).2)
 else if(k.1:Int)=1 then((x.1,y.1.mergeQ 1 x.1 []),k.2)
 else if(k.1:Int)=2 then((x.1,y.1.mergeQ 3 x.1 []),k.2)
 else if(k.1:Int)=3 then((x.1,(ku es 3 k.2).1),(ku es 3 k.2).2)
 else((x.1,y.1),k.2)
def M7(es:List Int):Nat->Nat->List Tr×Nat
 |0,a=>([],a)
 |n+1,a=>((qt es 0 a).1::(M7 es n (qt es 0 a).2).1,(M7 es n (qt es 0 a).2).2)
def Oo(r:List ZP)(i k:Nat):Bool:=decide (k=i)||decide (k=(i+1)%r.length)||decide (0<ru (r.getD i (0,0)).q (de r i).q (r.getD k (0,0)).q)
def Zh(r:List ZP):Bool:=(List.range r.length).all fun i=>(List.range r.length).all fun k=>Oo r i k
section
variable {GB:Gh} {C:aA} {n:Nat} {Q0:Exit->Act->World->Prop} {fr fr' fr1 fr2:ao} {own own' own1 own2:aC} {cf cf' cf1 cf2:Cf} {vc vc1 vc2:List Prop}
def ZT(fr:ao)(cf:Cf):Option Int:=match bF fr cf with
 |some ⟨_, .binOp .and _ x (.const (.int .i64 3)) _,_,_,_,_⟩=>match aD (bh fr cf) x with
  |some (.d (.v (.int .i64 p)))=>some p
  |_=>none
 |_=>none
end
def SW{es0 es:List Int}(hb:es0.length<=1125899906842624)(he:es=es0.take 400):PN GB prog 15 [.sl (es0.map vI)] 126 Unit (fun _=>[.sl (es.map vI), .v (.int .i64 (0:Nat))]):=by
 subst he;exact Ta hb
def ePr(a b:Tr):DV:= .ag [eU a,eU b]
def prZ:DV:= .ag [.v (.pointer none), .v (.pointer none)]
def ZV(a:ab)(t:List ab):List Rat:=t.filterMap fun b=>if crossI a b=0 then none else some (jh a b).x
def aFR(l:List ab)(x:Rat):List aa:=(lh (CI (H3 l x))).map fun y=>⟨x,y⟩
def MV:Tr->aa->Bool
 | .leaf _,_=>true
 | .node l x y,p=>if(l.value p).num.sign=1 then MV x p else if(l.value p).num.sign= -1 then MV y p else false
structure ZI (a b:Tr):Prop where
 ga:a.gd
 gb:b.gd
 sa:a.size<=3000
 sb:b.size<=3000
def Zq(x y:Bool):Bool:=x&&!y
def f2R(x y:Bool):Bool:=y&&!x
def f3R(x y:Bool):Bool:=x&&y
def f4R(x y:Bool):Bool:=!x&&!y
def Z3(f:Bool->Bool->Bool)(a b:Tr)(k:Nat):Bool:=((DL a b).take k).any fun p=>f (sK a p) (sK b p)
def Ir:Tr->List ab->List (List ab×Bool)
 | .leaf b,c=>if L7 c then [(p6 c,b)] else []
 | .node l x y,c=>if L7 c then Ir x (p6 c++[l])++Ir y (p6 c++[l.rev]) else []
def O'(c:List ab)(p:aa):Bool:=c.all fun l=>decide (0<Int.sign (l.value p).num)
def Y4(c:List ab):Option aa:=(MC (my c)).find? (O' c)
def aFN(c:bw):Prop:=(c.map fun s=>s.l.dir).Pairwise b8
def Zz(c:List ab):Prop:=(c.map ab.dir).Pairwise b8
def WP(c:bw):Bool:=!c.isEmpty&&c.all fun s=>!s.v.nl&&!s.v.nh
def Rx(c:List ab)(v:aa):Bool:=c.all fun l=>decide (0<=Int.sign (l.dir.cross v).num)
def ZB(c:List ab):Bool:=!c.isEmpty&&(c.flatMap fun l=>[l.dir,bg l.dir]).all fun v=>!Rx c v
def oB:ab:=⟨1,0,0⟩
def Wl(c:List ab)(i:Nat):List aa:=
 if 0<Int.sign ((c.getD i oB).dir.cross (c.getD ((i+1)%c.length) oB).dir).num then [jh (c.getD i oB) (c.getD ((i+1)%c.length) oB)] else []
def Bj(c:List ab):List aa:=(List.range c.length).flatMap (Wl c)
def XC(v:List aa)(i:Nat):List aa:=[v.getD 0 ⟨0,0⟩,v.getD (i+1) ⟨0,0⟩,v.getD (i+2) ⟨0,0⟩]
def II(v:List aa):List (List aa):=(List.range (v.length-2)).map (XC v)
def aEP(cs:List (List ab)):List (List aa):=cs.flatMap fun c=>II (Bj c)
end Go.Sx
end
