import Derived.Test.YtbllnkhngjedjaaGreatDoorPt16
set_option linter.all false
set_option maxHeartbeats 4000000
set_option maxRecDepth 100000
section
namespace Go.Sx
open Go Go.Proofs Tryz
variable {GB:Gh}
def xC{z:Rat}(h:z<0):Int.sign z.num= -1:=by
 have:=(sI _).2 h;rcases lT z.num 0 with q|q|q
 .exact eJ q
 .rw[q] at this;simp at this
 .rw[dS q] at this;simp at this
def lC:Tr->aa->List ab
 | .leaf _,_=>[]
 | .node l x y,p=>(if Int.sign (l.value p).num=0 then [l] else [])++((if 0<=Int.sign (l.value p).num then lC x p else [])++(if Int.sign (l.value p).num<=0 then lC y p else []))
def o5: ∀{t:Tr} {p:aa} {l:ab},l∈lC t p->l∈t.lns/\l.value p=0
 | .leaf _,p,l,h=>by cases h
 | .node m x y,p,l,h=>by
  rw[lC,bK,bK] at h;rcases h with h|h|h
  .split at h
   .rw[aU] at h;subst h
    rename_i k;exact⟨aZ,(lz _).1 k⟩
   .cases h
  .split at h
   .have:=o5 h;exact⟨aK _ (bM _ this.1),this.2⟩
   .cases h
  .split at h
   .have:=o5 h;exact⟨aK _ (cW _ this.1),this.2⟩
   .cases h
def XP{t:Tr}{p v:aa}(h:Gn t.lns p v):Gn (lC t p) p v:=fun l hl hz=>h l (o5 hl).1 hz
def z': ∀{t:Tr} {p v w:aa},(∀l∈lC t p,Int.sign (l.nor.dot v).num=Int.sign (l.nor.dot w).num)->gk t p v=gk t p w
 | .leaf _,_,_,_,_=>rfl
 | .node l x y,p,v,w,h=>by
  have hx:0<=Int.sign (l.value p).num->gk x p v=gk x p w:=fun k=>z' fun m hm=>h m (by rw[lC,bK,bK,if_pos k];exact .inr (.inl hm));have hy:Int.sign (l.value p).num<=0->gk y p v=gk y p w:=fun k=>z' fun m hm=>h m (by rw[lC,bK,bK,if_pos k];exact .inr (.inr hm));rw[gk,gk,qn,qn];by_cases k:Int.sign (l.value p).num=0
  .rw[if_pos k,if_pos k,<-h l (by rw[lC,if_pos k];exact aZ),hx (by omega),hy (by omega)]
  .rw[if_neg k,if_neg k]
   generalize Int.sign (l.value p).num=s at*;split
   .exact hx (by decide)
   .exact hy (by decide)
   .rfl
def UE{L M:List ab}{p v:aa}(hM: ∀l∈M,l.ok)(hL:Gn L p v): ∃w,Gn M p w/\ ∀l∈L,l.value p=0->Int.sign (l.nor.dot v).num=Int.sign (l.nor.dot w).num:=by
 have e2: ∀l:ab,l.value p=0->l.value (bP p v 1)=l.nor.dot v:=fun l hz=>by rw[gH,hz];grind
 have hp':bm ((L.filter fun l=>decide (l.value p=0)).map fun l=>(⟨if 0<l.value (bP p v 1) then l else l.rev,aj.all⟩:aP)) (bP p v 1):=fun s hs=>by
  obtain⟨l,hl,rfl⟩:=bQ.1 hs;obtain⟨h1,h2⟩:=jL.1 hl;have h3:=of_decide_eq_true h2;have h0:l.value (bP p v 1)≠0:=by rw[e2 l h3];exact hL l h1 h3
  simp only;split
  .assumption
  .rw[fq];grind
 obtain⟨q,q1,q2⟩:=Jl hp' M hM;have e: ∀l:ab,l.value p=0->l.value q=l.nor.dot ⟨q.x-p.x,q.y-p.y⟩:=fun l hz=>by
  have h1:=gH l p ⟨q.x-p.x,q.y-p.y⟩ 1;rw[hz] at h1;have h2:bP p ⟨q.x-p.x,q.y-p.y⟩ 1=q:=by
   unfold bP
   cases q
   simp only[aa.mk.injEq];constructor<;>grind
  rw[h2] at h1;rw[h1];grind
 refine⟨⟨q.x-p.x,q.y-p.y⟩,fun m hm hz=>?_,fun l hl hz=>?_⟩
 .rw[<-e m hz];exact q2 m hm
 .have h1:=q1 _ (bQ.2 ⟨l,jL.2 ⟨hl,decide_eq_true hz⟩,J⟩)
  simp only at h1;rw[e2 l hz] at h1;rw[<-e l hz];have h0:=hL l hl hz;split at h1
  .rename_i k
   rw[(n4 _).2 k,(n4 _).2 h1]
  .rename_i k
   rw[fq] at h1;rw[xC (by grind),xC (by grind)]
def AE(t:Tr)(p:aa)(b:Bool):Prop:= ∃v,Gn (lC t p) p v/\(gk t p v).1=b
def ZR{t:Tr}{p w:aa}(h:Gn t.lns p w):AE t p (gk t p w).1:=⟨w,XP h,J⟩
def Z2{t:Tr}{p:aa}{b:Bool}(h:AE t p b){M:List ab}(hM: ∀l∈M,l.ok): ∃w,Gn M p w/\(gk t p w).1=b:=by
 obtain⟨v,h1,h2⟩:=h;obtain⟨w,k1,k2⟩:=UE hM h1;exact⟨w,k1,by rw[<-h2,z' fun l hl=>k2 l hl (o5 hl).2]⟩
def min2{a b:Rat}(ha:0<a)(hb:0<b): ∃d:Rat,0<d/\d<=a/\d<=b:=by
 by_cases k:a<=b
 .exact⟨a,ha,by grind,k⟩
 .exact⟨b,hb,by grind,by grind⟩
def oO(ds:List aa)(i:Nat):aa:=
 if 0<Int.sign ((ds.getD i ⟨0,0⟩).cross (ds.getD ((i+1)%ds.length) ⟨0,0⟩)).num then(ds.getD i ⟨0,0⟩).add (ds.getD ((i+1)%ds.length) ⟨0,0⟩) else jk (ds.getD i ⟨0,0⟩)
def js(ds:List aa):List aa:=if ds.length=0 then [⟨1,0⟩] else(List.range ds.length).map (oO ds)
def LN(u w:aa):u.add w=gE 1 1 u w:=by
 unfold aa.add gE;simp only[aa.mk.injEq];constructor<;>grind
def Nx{x:aa}: ∀{S:List aa},S≠[]->(∀d∈S,0<d.cross x)-> ∃u∈S,∀d∈S,0<=d.cross u
 |[],h,_=>absurd J h
 |[d],_,_=>⟨d,aZ,fun e he=>by rw[aU] at he;subst he;rw[PP];exact fN⟩
 |d0::d1::S,_,h=>by
  obtain⟨u,h1,h2⟩:=Nx (S:=d1::S) (by simp) fun d hd=>h d (aK _ hd);by_cases k:0<=d0.cross u
  .exact⟨u,aK _ h1,fun d hd=>(aT.1 hd).elim (fun e=>e▸k) (h2 d)⟩
  .refine⟨d0,aZ,fun d hd=>(aT.1 hd).elim (fun e=>by rw[e,PP];exact fN) fun hd=>?_⟩
   have p0:=h d0 aZ;have pu:=h u (aK _ h1);have pd:=h d (aK _ hd);have k1:=h2 d hd;have k2:0<u.cross d0:=by rw[eB] at k;grind
   have e:d.cross d0*u.cross x=u.cross d0*d.cross x+d.cross u*d0.cross x:=by unfold aa.cross;grind
   have n1:=bH k2 pd;have n2:=cO k1 (dQ p0);generalize d.cross d0=A at*;generalize u.cross x=B at*;by_cases hA:0<=A
   .exact hA
   .have:=bH (a:= -A) (b:=B) (by grind) pu
    grind
def azV{ds:List aa}(h:ds.Pairwise cd)(hd:uK ds)(hn:ds≠[]){x:aa}(hx: ∀d∈ds,d.cross x≠0): ∃i,i<ds.length/\ ∀d∈ds,Int.sign (d.cross x).num=Int.sign (d.cross (oO ds i)).num:=by
 have hne:(ds.filter fun d=>decide (0<d.cross x))≠[]:=by
  obtain⟨d,r,rfl⟩:=List.exists_cons_of_ne_nil hn;intro e;have h1: ¬0<d.cross x:=fun k=>by
   have:d∈(d::r).filter fun d=>decide (0<d.cross x):=jL.2 ⟨aZ,decide_eq_true k⟩;rw[e] at this;cases this
  have h2:=hx d aZ;have h3:0<(bE d).cross x:=by rw[eB,lv,<-eB];grind
  have:bE d∈(d::r).filter fun d=>decide (0<d.cross x):=jL.2 ⟨hd.neg d aZ,decide_eq_true h3⟩;rw[e] at this;cases this
 obtain⟨u,hu,hl⟩:=Nx hne fun d hd=>of_decide_eq_true (jL.1 hd).2;obtain⟨hu1,hu2⟩:=jL.1 hu;have hux:=of_decide_eq_true hu2;obtain⟨i,hi,rfl⟩:=qT hu1;have hj:(i+1)%ds.length<ds.length:=cS _ (by omega);have hnx:=RJ h hd hi hj;have mw:=bL hj;refine⟨i,hi,?_⟩;have key: ∀d∈ds,0<d.cross x->0<d.cross (oO ds i):=fun d hdm hdx=>by
  have hdu:0<=d.cross ds[i]:=hl d (jL.2 ⟨hdm,decide_eq_true hdx⟩);unfold oO;rw[Ez hi,Ez hj];generalize ds[(i+1)%ds.length]=w at*;generalize ds[i]=u at*;have hp:=hnx.pos hd hu1 mw;have zd:=hd.nz d hdm;have zu:=hd.nz u hu1;split
  .rename_i k
   have hc:=(lf _).1 k;rw[LN];have hg:=hnx.gen hd hu1 mw (by grind) (a:=1) (b:=1) (by decide) (by decide) d hdm;have e:d.cross (gE 1 1 u w)=d.cross u+d.cross w:=by unfold aa.cross gE;grind
   rw[e] at hg⊢;by_cases hw:0<=d.cross w
   .grind
   .exfalso
    -- -d tu between u and w
    rcases ge (d.cross u) with q|q|q
    .-- d runs along u
     have hdd:0<d.dot u:=by
      rcases ge (d.dot u) with r|r|r
      .exact absurd r (DT zd zu q)
      .exact r
      .exfalso
       have q':(bE d).cross u=0:=by unfold aa.cross bE at*;grind
       have r':0<(bE d).dot u:=by unfold aa.dot bE at*;grind
       obtain⟨g,g1,g2⟩:=uL q' r';have:d.cross x= -(g*u.cross x):=by
        have h1:(bE d).x=g*u.x:=by rw[g2]
        have h2:(bE d).y=g*u.y:=by rw[g2]
        unfold bE at h1 h2;simp only at h1 h2;unfold aa.cross;grind
       have:=bH g1 hux;grind
     obtain⟨g,g1,g2⟩:=uL q hdd;have:d.cross w=g*u.cross w:=by rw[g2];unfold aa.cross;grind
     have:=bH g1 hc;grind
    .have hb:bE d=gE (-(d.cross w)/u.cross w) (d.cross u/u.cross w) u w:=by
      have hz:u.cross w≠0:=by grind
      have e1: -(d.cross w)/u.cross w*u.cross w= -(d.cross w):=by grind
      have e2:d.cross u/u.cross w*u.cross w=d.cross u:=by grind
      unfold bE gE;generalize-(d.cross w)/u.cross w=a at*;generalize d.cross u/u.cross w=b at*;simp only[aa.mk.injEq];have f1:(a*u.x+b*w.x+d.x)*u.cross w=0:=by
       have:(a*u.x+b*w.x+d.x)*u.cross w=a*u.cross w*u.x+b*u.cross w*w.x+d.x*u.cross w:=by grind
       rw[this,e1,e2];unfold aa.cross;grind
      have f2:(a*u.y+b*w.y+d.y)*u.cross w=0:=by
       have:(a*u.y+b*w.y+d.y)*u.cross w=a*u.cross w*u.y+b*u.cross w*w.y+d.y*u.cross w:=by grind
       rw[this,e1,e2];unfold aa.cross;grind
      constructor<;>grind
     refine hnx.none hd hu1 mw (by grind) (a:= -(d.cross w)/u.cross w) (b:=d.cross u/u.cross w) ?_ ?_ (by rw[<-hb];exact hd.neg d hdm)
     .refine(gv (k:=u.cross w) hc).1 ?_
      have e1: -(d.cross w)/u.cross w*u.cross w= -(d.cross w):=by grind
      rw[e1];grind
     .refine(gv (k:=u.cross w) hc).1 ?_
      have e1:d.cross u/u.cross w*u.cross w=d.cross u:=by grind
      rw[e1];exact q
    .grind
  .rename_i k
   have hc:u.cross w=0:=by have: ¬0<u.cross w:=fun e=>k ((lf _).2 e);grind
   have hg:=hnx.turn hd hu1 mw hc d hdm;rw[QH] at hg⊢;rcases ge (d.dot u) with r|r|r
   .exact absurd r hg
   .exact r
   .exfalso
    -- all directions run along u
    have hdc:d.cross u=0:=by
     rcases hnx.spec hd hu1 mw with⟨_,h2,_⟩|⟨h1,h2,h3⟩
     .rw[hc] at h2;exact absurd h2 (by decide)
     .have zw:=gq (hd.nz w mw)
      have zu':=gq zu;have zd':=gq zd;have hwu: ∃g:Rat,0<g/\w=⟨g*(bE u).x,g*(bE u).y⟩:=by
       refine uL (d:=bE u) (e:=w) (by rw[lv,eB,hc];grind) ?_;rcases ge (w.dot u) with s|s|s
       .exact absurd s (DT (hd.nz w mw) zu (by rw[eB,hc];rfl))
       .exfalso
        obtain⟨g,g1,g2⟩:=uL (d:=u) (e:=w) (by rw[eB,hc];rfl) s;apply h1;rw[g2];rcases kD u with⟨x0,s0⟩|⟨x0,s0⟩|⟨x0,s0⟩
        .rw[x0]
         refine(lB.2 ?_).symm;rcases s0 with s0|⟨s0,s1⟩
         .exact .inl (bH g1 s0)
         .exact .inr ⟨by show g*u.y=0;rw[s0];grind,bH g1 s1⟩
        .rw[x0]
         refine(pq.2 ?_).symm;rcases s0 with s0|⟨s0,s1⟩
         .exact .inl (by show g*u.y<0;have:=bH (a:=g) (b:= -u.y) g1 (by grind);grind)
         .exact .inr ⟨by show g*u.y=0;rw[s0];grind,by show g*u.x<0;have:=bH (a:=g) (b:= -u.x) g1 (by grind);grind⟩
        .exact absurd x0 zu
       .unfold aa.dot bE at*;grind
      obtain⟨g,g1,g2⟩:=hwu;have cw: ∀e:aa,w.cross e=g* -(u.cross e):=fun e=>by rw[g2];unfold aa.cross bE;grind
      by_cases hh:d.half=u.half
      .have a1:=h2 d hdm hh
       have a2:=h3 _ (hd.neg d hdm) (by rw[s9 zd];omega);rw[cw,lv,eB d u] at a2;rcases ge (d.cross u) with s|s|s
       .exact s
       .have:=bH g1 s;grind
       .grind
      .have a1:=h2 _ (hd.neg d hdm) (by rw[s9 zd];omega)
       have a2:=h3 d hdm (by omega);rw[cw,eB d u] at a2;have e3:(bE d).cross u= -(d.cross u):=by unfold aa.cross bE;grind
       rw[e3] at a1;rcases ge (d.cross u) with s|s|s
       .exact s
       .grind
       .have:=bH (a:=g) (b:= -(d.cross u)) g1 (by grind);grind
    have q':(bE d).cross u=0:=by unfold aa.cross bE at*;grind
    have r':0<(bE d).dot u:=by unfold aa.dot bE at*;grind
    obtain⟨g,g1,g2⟩:=uL q' r';have:d.cross x= -(g*u.cross x):=by
     have h1:(bE d).x=g*u.x:=by rw[g2]
     have h2:(bE d).y=g*u.y:=by rw[g2]
     unfold bE at h1 h2;simp only at h1 h2;unfold aa.cross;grind
    have:=bH g1 hux;grind
 intro d hdm;rcases ge (d.cross x) with k|k|k
 .exact absurd k (hx d hdm)
 .rw[(n4 _).2 k,(n4 _).2 (key d hdm k)]
 .have en: ∀y:aa,(bE d).cross y= -(d.cross y):=fun y=>by unfold aa.cross bE;grind
  have:=key _ (hd.neg d hdm) (by rw[en];grind);rw[en] at this;rw[xC k,xC (by grind)]
def dG(v:aa):aa:=v.scale (rgcd v.x v.y)⁻¹
def dH(t:Tr)(p:aa):List aa:=(lC t p).flatMap fun l=>[dG l.dir,bE (dG l.dir)]
def ij(ds:List aa):List aa:=ue co ds
def qf{t:Tr}{p d:aa}:d∈dH t p↔ ∃l∈lC t p,d=dG l.dir\/d=bE (dG l.dir):=by
 unfold dH;rw[fZ];constructor
 .rintro ⟨l,h1,h2⟩
  refine⟨l,h1,?_⟩;rcases aT.1 h2 with h|h
  .exact .inl h
  .exact .inr (aU.1 h)
 .rintro ⟨l,h1,rfl|rfl⟩
  .exact⟨l,h1,aZ⟩
  .exact⟨l,h1,aK _ aZ⟩
def ayb{x y:Rat}(h:x≠0\/y≠0):0<rgcd x y:=by
 unfold rgcd;have hd:0<x.den*y.den:=iT x.den_pos y.den_pos;have hg:0<Nat.gcd (x.num.natAbs*y.den) (y.num.natAbs*x.den):=by
  rcases h with h|h
  .exact mS _ (iT (Int.natAbs_pos.2 fun e=>h (lM.1 e)) y.den_pos)
  .exact oT _ (iT (Int.natAbs_pos.2 fun e=>h (lM.1 e)) x.den_pos)
 generalize Nat.gcd (x.num.natAbs*y.den) (y.num.natAbs*x.den)=g at*;generalize x.den*y.den=d at*;rw[<-Fy];have h1:mkRat (g:Int) d=(g:Rat)/(d:Rat):=by rw[pK];rfl
 rw[Fy,h1];have hg':(0:Rat)<(g:Rat):=by exact_mod_cast hg
 have hd':(0:Rat)<(d:Rat):=by exact_mod_cast hd
 have e:(g:Rat)/(d:Rat)*(d:Rat)=(g:Rat):=by grind
 exact(gv (k:=(d:Rat)) hd').1 (by rw[e];exact hg')
def Uj{v:aa}(h:v.half≠0):v.x≠0\/v.y≠0:=by
 rcases kD v with⟨_,k⟩|⟨_,k⟩|⟨k,_⟩
 .rcases k with k|⟨_,k⟩
  .exact .inr (by grind)
  .exact .inl (by grind)
 .rcases k with k|⟨_,k⟩
  .exact .inr (by grind)
  .exact .inl (by grind)
 .exact absurd k h
def AX{v:aa}(h:v.half≠0): ∃a:Rat,0<a/\dG v=⟨a*v.x,a*v.y⟩:=by
 have hg:=ayb (Uj h);refine⟨(rgcd v.x v.y)⁻¹,?_,?_⟩
 .generalize rgcd v.x v.y=g at*
  have e:g⁻¹*g=1:=by grind
  exact(gv (k:=g) hg).1 (by rw[e];decide)
 .unfold dG aa.scale
  simp only[aa.mk.injEq];constructor<;>grind
def Y0(v:aa):dG (bE v)=bE (dG v):=by
 have e:rgcd (-v.x) (-v.y)=rgcd v.x v.y:=by
  unfold rgcd;rw[nK,nK,pM,pM,iX,iX]
 unfold dG aa.scale bE;simp only[aa.mk.injEq,e];constructor<;>grind
def Il{v:aa}(h:v.half≠0):(dG v).half=v.half:=by
 obtain⟨a,a1,e⟩:=AX h;have:=FG (a:=a) (b:=a) (u:=v) (w:=v) a1 a1 J h;rw[<-this];have h2:dG v=gE (a*(1/2)) (a*(1/2)) v v:=by rw[e];unfold gE;simp only[aa.mk.injEq];constructor<;>grind
 have h3:=FG (a:=a*(1/2)) (b:=a*(1/2)) (u:=v) (w:=v) (bH a1 (by grind)) (bH a1 (by grind)) J h;rw[h2,h3,this]
def R9{u v:aa}:co u v=0↔u.half=v.half/\u.cross v=0:=by
 unfold co;split
 .constructor
  .intro h;exact absurd h (by decide)
  .intro h;omega
 .split
  .constructor
   .intro h;exact absurd h (by decide)
   .intro h;omega
  .constructor
   .intro h
    exact⟨by omega,(lz _).1 (by omega)⟩
   .intro h
    rw[(lz _).2 h.2];rfl
def uV{u v w:aa}(h:cd u v)(k:cd v w):cd u w:=by
 by_cases hu:u.half=0
 .by_cases hw:w.half=0
  .have z: ∀x y:aa,x.half=0->x.cross y=0:=fun x y hx=>by
    rcases kD x with⟨e,_⟩|⟨e,_⟩|⟨_,e1,e2⟩
    .rw[hx] at e;exact absurd e (by decide)
    .rw[hx] at e;exact absurd e (by decide)
    .unfold aa.cross;rw[e1,e2];grind
   rcases h with h|⟨h,h'⟩
   .rcases k with k|⟨k,k'⟩
    .omega
    .have hv:v.half≠0:=by omega
     omega
   .rw[z u v hu] at h';exact absurd h' (by decide)
  .refine .inl ?_
   have h1:=gq hw;omega
 .have hv:v.half≠0:=by
   intro e;rcases h with h|⟨h,_⟩
   .have:=gq hu;omega
   .omega
  have hw:w.half≠0:=by
   intro e;rcases k with k|⟨k,_⟩
   .have:=gq hv;omega
   .omega
  exact cd.trans hu hv hw h k
section
variable {α:Type} (c:α->α->Int)
def Te{x y:α}: ∀{xs:List α},y∈xs->y∈dC c x xs
 |[],h=>by cases h
 |u::t,h=>by
  rw[dC];split
  .rcases aT.1 h with rfl|h
   .exact aZ
   .exact aK _ (Te h)
  .split
   .exact h
   .exact aK _ h
def MS{x:α}: ∀{xs:List α},∃e∈dC c x xs,e=x\/c e x=0
 |[]=>⟨x,aZ, .inl J⟩
 |u::t=>by
  rw[dC];split
  .obtain⟨e,h1,h2⟩:=MS (x:=x) (xs:=t)
   exact⟨e,aK _ h1,h2⟩
  .split
   .exact⟨u,aZ, .inr (by assumption)⟩
   .exact⟨x,aZ, .inl J⟩
def KP{y:α}: ∀{l o:List α},y∈o->y∈l.foldl (fun out x=>dC c x out) o
 |[],o,h=>h
 |x::t,o,h=>KP (l:=t) (Te c h)
def Fj{d:α}: ∀{l o:List α},d∈l-> ∃e∈l.foldl (fun out x=>dC c x out) o,e=d\/c e d=0
 |[],o,h=>by cases h
 |x::t,o,h=>by
  rcases aT.1 h with rfl|h
  .obtain⟨e,h1,h2⟩:=MS c (x:=d) (xs:=o)
   exact⟨e,KP c (l:=t) h1,h2⟩
  .exact Fj (l:=t) h
end
def S8(ds:List aa):(ij ds).Pairwise cd:=by
 have:=Sq (c:=co) (fun u v w h k=>m6.2 (uV (m6.1 h) (m6.1 k))) (fun u v h k=>m6.2 (Xf.1 (by omega))) (l:=ds) (o:=[]) List.Pairwise.nil;exact this.imp fun h=>m6.1 h
def QP{l m:ab}(hl:l.ok)(hm:m.ok){p:aa}(h1:l.value p=0)(h2:m.value p=0){d e:aa}(hd:d=dG l.dir\/d=bE (dG l.dir))(he:e=dG m.dir\/e=bE (dG m.dir))(h:co d e=0):d=e:=by
 obtain⟨hh,hc⟩:=R9.1 h;have zl:=vK hl;have zm:=vK hm;have zpl:(dG l.dir).half≠0:=by rw[Il zl];exact zl
 have zpm:(dG m.dir).half≠0:=by rw[Il zm];exact zm
 have cr:l.dir.cross m.dir=0:=by
  obtain⟨a,a1,e1⟩:=AX zl;obtain⟨b,b1,e2⟩:=AX zm;have c0:(dG l.dir).cross (dG m.dir)=0:=by
   rcases hd with rfl|rfl<;>rcases he with rfl|rfl
   .exact hc
   .rw[lv] at hc;grind
   .rw[eB,lv] at hc;rw[eB];grind
   .rw[lv,eB,lv] at hc;rw[eB];grind
  have e3:(dG l.dir).cross (dG m.dir)=(a*b)*l.dir.cross m.dir:=by rw[e1,e2];unfold aa.cross;grind
  have hab:=bH a1 b1;rw[e3] at c0;clear e1 e2 e3;generalize a*b=k at*;generalize l.dir.cross m.dir=z at*;rcases ge z with q|q|q
  .exact q
  .have:=bH hab q;grind
  .have:=bH (a:=k) (b:= -z) hab (by grind);grind
 have dirR: ∀k:ab,k.rev.dir=bE k.dir:=fun k=>by
  unfold ab.dir ab.rev bE;simp only[aa.mk.injEq,lN]
  try constructor<;>grind
 have cdir: ∀k:ab,k.canon.dir=k.dir\/k.canon.dir=bE k.dir:=fun k=>by
  unfold ab.canon;split
  .exact .inr (dirR k)
  .exact .inl J
 have cval: ∀k:ab,k.value p=0->k.canon.value p=0:=fun k hk=>by rcases To k p with e|e<;>rw[e,hk]<;>rfl
 have okc: ∀k:ab,k.ok->k.canon.ok:=fun k hk=>by unfold ab.canon;split;exact hk.rev;exact hk
 have ec:l.canon=m.canon:=T0 (okc l hl) (okc m hm) (Qb hl) (Qb hm) (cval l h1) (cval m h2) (by
  rcases cdir l with e1|e1<;>rcases cdir m with e2|e2<;>rw[e1,e2]
  .exact cr
  .rw[lv,cr];rfl
  .rw[eB,lv,eB,cr];rfl
  .rw[lv,eB,lv,eB,cr];rfl)
 have hdir:l.dir=m.dir\/l.dir=bE m.dir:=by
  have e1:=cdir l;have e2:=cdir m;rw[ec] at e1;rcases e1 with e1|e1<;>rcases e2 with e2|e2
  .exact .inl (e1.symm.trans e2)
  .exact .inr (e1.symm.trans e2)
  .right;rw[<-e2,e1,As]
  .left;rw[<-As l.dir,<-e1,e2,As]
 have hP:dG l.dir=dG m.dir\/dG l.dir=bE (dG m.dir):=by
  rcases hdir with e|e
  .exact .inl (by rw[e])
  .exact .inr (by rw[e,Y0])
 have hn:=s9 zpm;have h3:=gq zpm;have key:d=dG m.dir\/d=bE (dG m.dir):=by
  rcases hd with rfl|rfl<;>rcases hP with e|e
  .exact .inl e
  .exact .inr e
  .exact .inr (by rw[e])
  .exact .inl (by rw[e,As])
 rcases key with rfl|rfl<;>rcases he with rfl|rfl
 .rfl
 .exfalso;omega
 .exfalso;omega
 .rfl
def QZ{t:Tr}(ht:t.all ab.ok)(p:aa):(ij (dH t p)).Pairwise cd/\uK (ij (dH t p))/\ ∀y,y∈ij (dH t p)↔y∈dH t p:=by
 have h2: ∀y,y∈ij (dH t p)->y∈dH t p:=fun y hy=>by
  rcases EW co hy with h|h
  .exact h
  .cases h
 have h3: ∀y,y∈dH t p->y∈ij (dH t p):=fun y hy=>by
  obtain⟨e,e1,e2⟩:=Fj co (o:=[]) hy;rcases e2 with rfl|e2
  .exact e1
  .obtain⟨l,k1,k2⟩:=qf.1 hy
   obtain⟨m,k3,k4⟩:=qf.1 (h2 e e1);obtain⟨a1,a2⟩:=o5 k1;obtain⟨b1,b2⟩:=o5 k3;rw[<-QP (pg ht _ b1) (pg ht _ a1) b2 a2 k4 k2 e2];exact e1
 refine⟨S8 _,⟨fun d hd=>?_,fun d hd=>?_⟩,fun y=>⟨h2 y,h3 y⟩⟩
 .obtain⟨l,k1,k2⟩:=qf.1 (h2 d hd)
  have z:=vK (pg ht _ (o5 k1).1);have z2:(dG l.dir).half≠0:=by rw[Il z];exact z
  rcases k2 with rfl|rfl
  .exact z2
  .exact Xt z2
 .obtain⟨l,k1,k2⟩:=qf.1 (h2 d hd)
  refine h3 _ (qf.2 ⟨l,k1,?_⟩);rcases k2 with rfl|rfl
  .exact .inr J
  .exact .inl (As _)
def UY{t:Tr}(ht:t.all ab.ok){p v:aa}(hv:v∈js (ij (dH t p))):Gn (lC t p) p v:=by
 obtain⟨h1,h2,h3⟩:=QZ ht p;have key:(∀d∈ij (dH t p),d.cross v≠0)->Gn (lC t p) p v:=fun k l hl hz e=>by
  have z:=vK (pg ht _ (o5 hl).1);obtain⟨a,a1,a2⟩:=AX z;refine k _ ((h3 _).2 (qf.2 ⟨l,hl, .inl J⟩)) ?_;rw[<-qn] at e;have:(dG l.dir).cross v=a*l.dir.cross v:=by rw[a2];unfold aa.cross;grind
  rw[this,e];grind
 generalize ij (dH t p)=ds at*;unfold js at hv;split at hv
 .rename_i hn
  refine key fun d hd=>?_;rw[List.length_eq_zero_iff.1 hn] at hd;cases hd
 .obtain⟨i,hi,rfl⟩:=bQ.1 hv
  rw[jS] at hi;have hj:(i+1)%ds.length<ds.length:=cS _ (by omega);have hx:=RJ h1 h2 hi hj;have mu:=bL hi;have mw:=bL hj;have hp:=hx.pos h2 mu mw;refine key ?_;unfold oO;rw[Ez hi,Ez hj];split
  .rename_i k
   have hc:=(lf _).1 k;rw[LN];exact hx.gen h2 mu mw (by grind) (by decide) (by decide)
  .rename_i k
   exact hx.turn h2 mu mw (by have: ¬0<ds[i].cross ds[(i+1)%ds.length]:=fun e=>k ((lf _).2 e);grind)
def VR{t:Tr}(ht:t.all ab.ok){p x:aa}(hx:Gn (lC t p) p x): ∃v∈js (ij (dH t p)),(gk t p v).1=(gk t p x).1:=by
 obtain⟨h1,h2,h3⟩:=QZ ht p;have cr: ∀l∈lC t p,∃a:Rat,0<a/\ ∀y,(dG l.dir).cross y=a*l.nor.dot y:=fun l hl=>by
  obtain⟨a,a1,a2⟩:=AX (vK (pg ht _ (o5 hl).1));exact⟨a,a1,fun y=>by rw[a2,<-qn];unfold aa.cross;grind⟩
 by_cases hn:ij (dH t p)=[]
 .refine⟨⟨1,0⟩,by unfold js;rw[if_pos (by rw[hn];rfl)];exact aZ,?_⟩
  rw[z' fun l hl=>?_];have:=(h3 _).2 (qf.2 ⟨l,hl, .inl J⟩);rw[hn] at this;cases this
 .obtain⟨i,hi,hs⟩:=azV h1 h2 hn (x:=x) fun d hd=>by
   obtain⟨l,k1,k2⟩:=qf.1 ((h3 d).1 hd);obtain⟨a,a1,a2⟩:=cr l k1;have hz:=hx l k1 (o5 k1).2;have e:(dG l.dir).cross x≠0:=by rw[a2];grind
   rcases k2 with rfl|rfl
   .exact e
   .intro q;apply e;unfold aa.cross bE at*;grind
  refine⟨oO (ij (dH t p)) i,?_,?_⟩
  .unfold js
   rw[if_neg (by omega)];exact bQ.2 ⟨i,jS.2 hi,J⟩
  .rw[z' fun l hl=>?_]
   have:=hs _ ((h3 _).2 (qf.2 ⟨l,hl, .inl J⟩));obtain⟨a,a1,a2⟩:=cr l hl;rw[a2,a2] at this;have sg: ∀z:Rat,Int.sign (a*z).num=Int.sign z.num:=fun z=>by
    rcases ge z with k|k|k
    .subst k;rw[show a*0=0 by grind]
    .rw[(n4 _).2 k,(n4 _).2 (bH a1 k)]
    .rw[xC k,xC (by have:=bH (a:=a) (b:= -z) a1 (by grind);grind)]
   rw[sg,sg] at this;exact this.symm
def tq(t:Tr)(p:aa):Bool:=(js (ij (dH t p))).any fun v=>(gk t p v).1
def EP(t:Tr)(p:aa):Bool:=(js (ij (dH t p))).all fun v=>(gk t p v).1
def xq(t:Tr)(p:aa):Int:=if tq t p&&EP t p then 2 else if tq t p then 1 else 0
def Qm{t:Tr}(ht:t.all ab.ok){p:aa}:tq t p=true↔AE t p true:=by
 unfold tq;rw[iS];constructor
 .rintro ⟨v,h1,h2⟩;exact⟨v,UY ht h1,h2⟩
 .rintro ⟨x,h1,h2⟩
  obtain⟨v,k1,k2⟩:=VR ht h1;exact⟨v,k1,by rw[k2,h2]⟩
def L8{t:Tr}(ht:t.all ab.ok){p:aa}:xq t p=0↔ ¬AE t p true:=by
 unfold xq;constructor
 .intro h k
  rw[(Qm ht).2 k] at h;split at h
  .exact absurd h (by decide)
  .exact absurd h (by decide)
 .intro h
  have h1:tq t p=false:=by
   cases e:tq t p with
   |false=>rfl
   |true=>exact absurd ((Qm ht).1 e) h
  rw[h1];rfl
def sO(u:aa): ¬cd u u:=by
 rintro (h|⟨_,h⟩)
 .omega
 .have:u.cross u=0:=by unfold aa.cross;grind
  rw[this] at h;exact absurd h (by decide)
def x6{u v:aa}(h:cd u v)(k:cd v u):False:=sO u (uV h k)
def ES{x y:aa}(h: ¬cd x y)(k: ¬cd y x):co x y=0:=by
 rw[<-m6] at h k;unfold co at*;split at h<;>try omega
 split at h<;>try omega
 split at k<;>try omega
 rw[show y.cross x= -(x.cross y) by unfold aa.cross;grind,nK,Int.sign_neg] at k;omega
def BZ(l:List aa):cF 6 (l.map eZ):=fun d hd=>by
 obtain⟨x,_,rfl⟩:=bQ.1 hd;exact⟨J,J⟩
instance aC.negp (p:aa) (i:Nat) [h:aC p i]:aC (bE p) i:=⟨inferInstanceAs (BQ (-p.x) i),inferInstanceAs (BQ (-p.y) i)⟩
instance aC.prip (l:ab) [LB l]:aC (dG l.dir) 500:=by
 have h:=(inferInstance:aC (l.dir.scale (rgcd l.dir.x l.dir.y)⁻¹) _);exact⟨h.x.mono (by decide),h.y.mono (by decide)⟩
def aGP{p:aa}{i:Nat}[h:aC p i](hi:i<=900000000:=by decide):PF GB prog 149 [eZ p] (eZ (bE p)):=by
 refine fn func149 J J ntmps149 J J (fun C=>?_);refine cl J (qC (q:=p.x) (i:=i) hi) J<|cl J (qC (q:=p.y) (i:=i) hi) J<|?_;exact rz J J
def aCW{p:aa}{i:Nat}[h:aC p i](hi:i<=900000000:=by decide):PF GB prog 142 [eZ p] (eZ (jk p)):=by
 refine fn func142 J J ntmps142 J J (fun C=>?_);refine cl J (qC (q:=p.y) (i:=i) hi) J<|?_;exact rz J J
def aCC{p:aa}{i:Nat}[h:aC p i](hi:i<=1000000:=by decide):PF GB prog 148 [eZ p] (eZ (dG p)):=by
 refine fn func148 J J ntmps148 J J (fun C=>?_);refine cl J (s6 (p:=p.x) (q:=p.y) (i:=i) (j:=i) (by omega) (by omega)) J<|cl J (Sv (q:=rgcd p.x p.y) (i:=i+i+(i+i)) (by omega)) J<|?_;refine cl J (J3 (p:=p) (c:=(rgcd p.x p.y)⁻¹) (i:=i) (j:=i+i+(i+i)) (by omega) (by omega)) J<|?_;exact rz J J
def DA(l:ab)(x y:Tr)(p:aa):dH (.node l x y) p=(if Int.sign (l.value p).num=0 then [dG l.dir,bE (dG l.dir)] else [])++((if 0<=Int.sign (l.value p).num then dH x p else [])++(if Int.sign (l.value p).num<=0 then dH y p else [])):=by
 unfold dH;rw[lC,lL,lL];congr 1
 .split<;>simp
 .congr 1<;>split<;>simp
def Dp: ∀(t:Tr) (p:aa),(dH t p).length<=2*t.size
 | .leaf _,_=>aN _
 | .node l x y,p=>by
  have h1:=Dp x p;have h2:=Dp y p;rw[DA,aW,aW,Tr.size];split<;>split<;>split<;>simp only[bJ,fV]<;>omega
def YP{b:Bool}{p:aa}{o:List aa}:PB GB prog 83 (dP [some (eU (.leaf b)),some (eZ p),none]) 6 92 (o.map eZ) (fun w=> .v (.slice w.a w.n w.c)) ((o++dH (.leaf b) p).map eZ):=by
 refine vp func83 J J ntmps83 J J (fun C=>?_);refine cl (fu:=⟨0⟩) J vg J<|?_;refine lG 10 J ?_;refine gx J<|?_;exact oz J J J (by show _=(o++[]).map eZ;rw[mM])
def Wt{l:ab}{x y:Tr}{p:aa}{i:Nat}[hp:aC p i](hl:LB l)(hi:i<=10000000){o:List aa}(hs:o.length+2*(Tr.node l x y).size<=1000000)(hz:Int.sign (l.value p).num=0)(ihx: ∀{o:List aa},o.length+2*x.size<=1000000->PB GB prog 83 (dP [some (eU x),some (eZ p),none]) 6 92 (o.map eZ) (fun w=> .v (.slice w.a w.n w.c)) ((o++dH x p).map eZ))(ihy: ∀{o:List aa},o.length+2*y.size<=1000000->PB GB prog 83 (dP [some (eU y),some (eZ p),none]) 6 92 (o.map eZ) (fun w=> .v (.slice w.a w.n w.c)) ((o++dH y p).map eZ)):PB GB prog 83 (dP [some (eU (.node l x y)),some (eZ p),none]) 6 92 (o.map eZ) (fun w=> .v (.slice w.a w.n w.c)) ((o++dH (.node l x y) p).map eZ):=by
 haveI:=hl;have hz2:(Tr.node l x y).size=1+x.size+y.size:=J;have hp1:=Dp x p;refine vp func83 J J ntmps83 J J (fun C=>?_);refine cl (fu:=⟨0⟩) J ui J<|?_;refine vf 10 J ?_;refine gx J<|cl (fu:=⟨7⟩) J (Bl (l:=l) (p:=p) (i:=i) hi) J<|cB J (by show some (decide _)=some true;rw[decide_eq_true (by omega)]) J<|?_;refine cl J (wW (l:=l)) J<|cl J (aCC (p:=l.dir) (i:=97)) J<|cl J (aGP (p:=dG l.dir) (i:=500)) J<|rf J J<|?_;refine Hl (fu:=⟨7⟩) ((o++[dG l.dir,bE (dG l.dir)]).map eZ) J (by rw[bY]<;>rfl) (BZ [dG l.dir,bE (dG l.dir)]) J<|cB J (by show some (decide _)=some true;rw[decide_eq_true (by omega)]) J<|?_;refine cq (fu:=⟨7⟩) (((o++[dG l.dir,bE (dG l.dir)])++dH x p).map eZ) J (ihx (by rw[aW,bJ,bJ,fV];omega)) J J<|?_;refine cB J (by show some (decide _)=some true;rw[decide_eq_true (by omega)]) J<|cq _ J (ihy (by rw[aW,aW,bJ,bJ,fV];omega)) J J<|?_;exact oz J J J (by rw[DA,hz];simp)
def VD{l:ab}{x y:Tr}{p:aa}{i:Nat}[hp:aC p i](hl:LB l)(hi:i<=10000000){o:List aa}(hs:o.length+2*(Tr.node l x y).size<=1000000)(hz:Int.sign (l.value p).num=1)(ihx: ∀{o:List aa},o.length+2*x.size<=1000000->PB GB prog 83 (dP [some (eU x),some (eZ p),none]) 6 92 (o.map eZ) (fun w=> .v (.slice w.a w.n w.c)) ((o++dH x p).map eZ)):PB GB prog 83 (dP [some (eU (.node l x y)),some (eZ p),none]) 6 92 (o.map eZ) (fun w=> .v (.slice w.a w.n w.c)) ((o++dH (.node l x y) p).map eZ):=by
 haveI:=hl;have hz2:(Tr.node l x y).size=1+x.size+y.size:=J;refine vp func83 J J ntmps83 J J (fun C=>?_);refine cl (fu:=⟨0⟩) J ui J<|?_;refine vf 10 J ?_;refine gx J<|cl (fu:=⟨7⟩) J (Bl (l:=l) (p:=p) (i:=i) hi) J<|ck (fu:=⟨9⟩) J (by show some (decide _)=some false;rw[decide_eq_false (by omega)]) J<|?_;refine cB J (by show some (decide _)=some true;rw[decide_eq_true (by omega)]) J<|cq (fu:=⟨7⟩) _ J (ihx (by omega)) J J<|ck J (by show some (decide _)=some false;rw[decide_eq_false (by omega)]) J<|?_;exact oz J J J (by rw[DA,hz];simp)
def azC{l:ab}{x y:Tr}{p:aa}{i:Nat}[hp:aC p i](hl:LB l)(hi:i<=10000000){o:List aa}(hs:o.length+2*(Tr.node l x y).size<=1000000)(hz:Int.sign (l.value p).num= -1)(ihy: ∀{o:List aa},o.length+2*y.size<=1000000->PB GB prog 83 (dP [some (eU y),some (eZ p),none]) 6 92 (o.map eZ) (fun w=> .v (.slice w.a w.n w.c)) ((o++dH y p).map eZ)):PB GB prog 83 (dP [some (eU (.node l x y)),some (eZ p),none]) 6 92 (o.map eZ) (fun w=> .v (.slice w.a w.n w.c)) ((o++dH (.node l x y) p).map eZ):=by
 haveI:=hl;have hz2:(Tr.node l x y).size=1+x.size+y.size:=J;refine vp func83 J J ntmps83 J J (fun C=>?_);refine cl (fu:=⟨0⟩) J ui J<|?_;refine vf 10 J ?_;refine gx J<|cl (fu:=⟨7⟩) J (Bl (l:=l) (p:=p) (i:=i) hi) J<|ck (fu:=⟨9⟩) J (by show some (decide _)=some false;rw[decide_eq_false (by omega)]) J<|?_;refine ck (fu:=⟨9⟩) J (by show some (decide _)=some false;rw[decide_eq_false (by omega)]) J<|cB J (by show some (decide _)=some true;rw[decide_eq_true (by omega)]) J<|?_;refine cq _ J (ihy (by omega)) J J<|?_;exact oz J J J (by rw[DA,hz];simp)
def Bt{p:aa}{i:Nat}[hp:aC p i](hi:i<=10000000:=by decide): ∀{t:Tr} {o:List aa},t.all LB->o.length+2*t.size<=1000000->PB GB prog 83 (dP [some (eU t),some (eZ p),none]) 6 92 (o.map eZ) (fun w=> .v (.slice w.a w.n w.c)) ((o++dH t p).map eZ)
 | .leaf _,_,_,_=>YP
 | .node l x y,_,hb,hs=>by
  have hz2:(Tr.node l x y).size=1+x.size+y.size:=J;rcases lT (l.value p).num 0 with h|h|h
  .exact azC hb.1 hi hs (eJ h) fun k=>Bt hi hb.2.2 k
  .exact Wt hb.1 hi hs (by rw[h];rfl) (fun k=>Bt hi hb.2.1 k) fun k=>Bt hi hb.2.2 k
  .exact VD hb.1 hi hs (dS h) fun k=>Bt hi hb.2.1 k
def Wz{t:Tr}{p v:aa}{i j:Nat}[hp:aC p i][hv:aC v j](hb:t.all LB)(hi:i<=10000000:=by decide)(hj:j<=10000000:=by decide):PF GB prog 84 [eU t,eZ p,eZ v] (.tp [vB (gk t p v).1,vB (gk t p v).2]):=by
 refine fn func84 J J ntmps84 J J (fun C=>?_);refine lp (X:=Tr) (fun s=>[(0, .d (eU s))]) (fun s=>[]) (fun s=>gk s p v=gk t p v/\s.all LB) (fun s=>s.size) t J ⟨J,hb⟩ (fun _=>J) (fun s hk=>?_);obtain⟨h1,hb2⟩:=hk;rcases s with b|⟨l,x,y⟩
 .
  have hA:gk t p v=(b,true):=h1.symm;refine cl (fu:=⟨0⟩) J vg J<|?_;refine lG 10 J ?_;refine gx J<|?_;exact rz J (by rw[hA];rfl)
 .
  have hAn:=h1.symm;rw[gk,qn] at hAn;haveI:=hb2.1;refine cl (fu:=⟨0⟩) J ui J<|?_;refine vf 10 J ?_;refine gx J<|cl (fu:=⟨4⟩) J (Bl (l:=l) (p:=p) (i:=i) hi) J<|?_;refine mg (X:=Int) (fun s8=>[(8, .d (vI s8))]) (fun s8=>[]) (fun s8=>s8=(if(l.value p).num.sign=0 then(l.nor.dot v).num.sign else(l.value p).num.sign)) [8] [] rfl ?_ (fun _=>J) (fun s8 hs8=>?_)
  .
   refine gx J<|?_;refine br J J J (fun hc19=>?_) (fun hc19=>?_)
   .
    refine cl J (yy (l:=l)) J<|cl J (Df (p:=l.nor) (q:=v) (i:=97) (j:=j) (by decide) (by omega)) J<|cl J (nB (q:=l.nor.dot v) (by omega)) J<|?_;exact at_ (l.nor.dot v).num.sign (if_pos hc19).symm
   .
    exact at_ (l.value p).num.sign (if_neg hc19).symm
  .
   rw[<-hs8] at hAn;refine br J J J (fun hc29=>?_) (fun hc29=>?_)
   .
    exact at_ x ⟨⟨by rw[hAn,hc29];rfl,hb2.2.1⟩,(by simp only[Tr.size];omega)⟩
   .
    refine br J J J (fun hc35=>?_) (fun hc35=>?_)
    .
     exact at_ y ⟨⟨by rw[hAn,hc35];rfl,hb2.2.2⟩,(by simp only[Tr.size];omega)⟩
    .
     exact rz J (by rw[hAn];split<;>first|rfl|contradiction)
def Nn{q:Rat}{i:Nat}[h:BQ q i](hi:i<=400000000:=by decide):PF GB prog 77 [eR q] (eF q):=by
 haveI:BN q.num.natAbs i:=⟨h.hn⟩;haveI:BN q.den i:=⟨h.hd⟩;refine fn func77 J J ntmps77 J J (fun C=>?_);refine cl (fu:=⟨0⟩) J (uM (n:=decide (q.num<0)) (a:=q.num.natAbs) (d:=q.den) (i:=i) (j:=i) (by omega) (by omega)) J<|?_;refine ak 7 (.d (eF q)) J (by rw[ml,tY]) ?_;refine gx J<|?_;exact rz J J
def IZ{p:aa}{i:Nat}[h:aC p i](hi:i<=400000000:=by decide):PF GB prog 30 [jr p] (eZ p):=by
 refine fn func30 J J ntmps30 J J (fun C=>?_);refine cl J (Nn (q:=p.x) (i:=i) hi) J<|cl J (Nn (q:=p.y) (i:=i) hi) J<|?_;exact rz J J
def W3(G:Gh)(y:Value)(h:Is G (.sl [.ag [vI (cH 1),vI (cG 1),cP 1,vI 0,vI 0, .v (.pointer none)]]) y):Is G (.sl ((js []).map eZ)) y:=by
 obtain⟨s,x,es,rfl,h1,h2⟩:=iG.1 h;obtain⟨v,m,rfl,k,h3⟩:=bu.1 h2
 cases fh.1 h3
 refine iG.2 ⟨s,x,_,J,h1, .cons ?_ .nil⟩;obtain⟨m4,rfl,g4⟩:=et.1 k;obtain⟨v1,m1,rfl,k1,g1⟩:=bu.1 g4;obtain⟨v2,m2,rfl,k2,g2⟩:=bu.1 g1;obtain⟨v3,m3,rfl,k3,g3⟩:=bu.1 g2;obtain⟨m5,q5,g5⟩:=et.1 (xR _ _ (et.2 ⟨m3,rfl,g3⟩))
 cases q5
 exact et.2 ⟨_,J, .cons k1 (.cons k2 (.cons k3 g5))⟩
def Qq{ds:List aa}{k:Nat}{u w:aa}(h1:ds[k]? =some u)(h2:ds[(k+1)%ds.length]? =some w):oO ds k=if 0<Int.sign (u.cross w).num then u.add w else jk u:=by
 unfold oO;rw[aX,aX,h1,h2];rfl
def L0(ds:List aa)(k:Nat):(List.range (k+1)).map (oO ds)=(List.range k).map (oO ds)++[oO ds k]:=by rw[pU,bY];rfl
def aBu:PF GB prog 81 [.sl []] (.sl ((js []).map eZ)):=by
 refine fn (fu:=⟨10⟩) func81 J J ntmps81 J J (fun C=>?_);refine cB J (by rfl) J<|cl J (sr (by omega)) J<|rf J J<|?_;exact jm J W3
def XW{ds:List aa}{i:Nat}(h0:0<ds.length)(hb: ∀d∈ds,aC d i)(hn:ds.length<=10000000)(hi:i<=1000000:=by decide):PF GB prog 81 [.sl (ds.map eZ)] (.sl ((js ds).map eZ)):=by
 have hml:(ds.map eZ).length=ds.length:=aJ ..;refine fn (fu:=⟨10⟩) func81 J J ntmps81 J J (fun C=>?_);refine ak 8 (.d (vI (ds.length:Nat))) J (by rw[hml]<;>rfl) ?_;refine gx (fu:=⟨0⟩) J<|ck (fu:=⟨15⟩) J (by show some (decide _)=some false;rw[decide_eq_false (by omega)]) J<|?_;refine ak 14 (.d (vI (ds.length:Nat))) J (by rw[hml]<;>rfl) ?_;refine gx J<|?_;refine nr 3 3 92 6 J J J ?_;refine lp (X:=List aa×Nat) (fun⟨acc,k⟩=>[(15, .d (vI (k:Nat))),(3, .rw 3)]) (fun⟨acc,k⟩=>[(3,some (.b 92 6 (acc.map eZ) true))]) (fun⟨acc,k⟩=>acc=(List.range k).map (oO ds)/\k<=ds.length) (fun⟨acc,k⟩=>ds.length-k) ⟨[],0⟩ J ⟨J,aN _⟩ (fun _=>J) (fun⟨acc,k⟩ hk=>?_)
 try dsimp only at hk⊢
 obtain⟨h1,h2⟩:=hk;have hal:acc.length=k:=by rw[h1,aJ,lR]
 have ham:(acc.map eZ).length=acc.length:=aJ ..;refine br J J J (fun hc16=>?_) (fun hc16=>?_)
 .
  obtain⟨u,hx⟩: ∃u,ds[k]? =some u:=⟨_,aQ (by omega)⟩;obtain⟨w,hw⟩: ∃w,ds[(k+1)%ds.length]? =some w:=⟨_,aQ (cS _ (by omega))⟩;haveI:=hb u (aV hx);haveI:=hb w (aV hw);refine ix (fu:=⟨13⟩) _ J (cA hx) J<|?_;refine ak 24 (.d (vI (ds.length:Nat))) J (by rw[hml]<;>rfl) ?_;refine gx (fu:=⟨1⟩) J<|?_;refine ak 25 (.d (vI (((k+1)%ds.length:Nat):Int))) J J ?_;refine gx J<|ix _ J (cA hw) J<|cl J (wR (p:=u) (q:=w) (by omega) (by omega)) J<|cl J (nB (q:=u.cross w) (by omega)) J<|?_;refine br J J J (fun hc32=>?_) (fun hc32=>?_)
  .
   refine cl J (Rm (p:=u) (q:=w) (by omega) (by omega)) J<|rf J J<|ap ((acc++[u.add w]).map eZ) J (by rw[bY]<;>rfl) (BZ [u.add w]) J<|?_;refine fE 38 3 J ?_;exact at_ ⟨acc++[u.add w],k+1⟩ (by dsimp only;exact⟨⟨by rw[L0,Qq hx hw,if_pos hc32,<-h1],by omega⟩,(by omega)⟩)
  .
   refine cl J (aCW (p:=u) (by omega)) J<|rf J J<|ap ((acc++[jk u]).map eZ) J (by rw[bY]<;>rfl) (BZ [jk u]) J<|?_;refine fE 43 3 J ?_;exact at_ ⟨acc++[jk u],k+1⟩ (by dsimp only;exact⟨⟨by rw[L0,Qq hx hw,if_neg hc32,<-h1],by omega⟩,(by omega)⟩)
 .
  obtain rfl:k=ds.length:=by omega
  have hS:js ds=acc:=by unfold js;rw[if_neg (by omega),h1]
  refine gI 3 J ?_;exact rz J (by rw[hS];rfl)
def XL{ds:List aa}{i:Nat}(hb: ∀d∈ds,aC d i)(hn:ds.length<=10000000)(hi:i<=1000000:=by decide):PF GB prog 81 [.sl (ds.map eZ)] (.sl ((js ds).map eZ)):=by
 cases ds with
 |nil=>exact aBu
 |cons d ds=>exact XW (i:=i) (Nat.zero_lt_succ _) hb hn hi
def bD(a b p:aa):Rat:=(b.x-a.x)*(p.y-a.y)-(b.y-a.y)*(p.x-a.x)
def mi(v w p:aa):Int:=(if v.y<=p.y/\ ¬w.y<=p.y/\0<bD v w p then 1 else 0)-(if¬v.y<=p.y/\w.y<=p.y/\bD v w p<0 then 1 else 0)
def uF(v w q p:aa):Prop:= ∀s t:Rat,0<=s->s<=1->0<=t->t<=1->bj v w s≠bj q p t
def AG{a b:Rat}(h0:0<=a)(h1:a<=b)(hb:0<b):0<=a/b/\a/b<=1/\a/b*b=a:=by
 have e:a/b*b=a:=by grind
 generalize a/b=q at*;refine⟨?_,?_,e⟩
 .exact(kg hb).1 (by rw[e];exact h0)
 .have:=(kg (s:=1-q) hb).1 (by grind)
  grind
def aGE{q p x:aa}(hy:q.y<p.y)(h:bD q p x=0)(h1:q.y<=x.y)(h2:x.y<=p.y): ∃t,0<=t/\t<=1/\x=bj q p t:=by
 obtain⟨a1,a2,a3⟩:=AG (a:=x.y-q.y) (b:=p.y-q.y) (by grind) (by grind) (by grind);refine⟨_,a1,a2,?_⟩;generalize (x.y-q.y)/(p.y-q.y)=t at*;obtain⟨X,Y⟩:=x;unfold bD at h;unfold bj;simp only at*;have e:X=q.x+t*(p.x-q.x):=by
  have h3:(p.y-q.y)*(X-q.x)=(p.y-q.y)*(t*(p.x-q.x)):=by grind
  have h4:p.y-q.y≠0:=by grind
  have:=gV.1 (show(p.y-q.y)*(X-q.x-t*(p.x-q.x))=0 by grind);rcases this with h5|h5
  .exact absurd h5 h4
  .grind
 rw[e];congr 1;grind
def aGd(q p v w:aa)(e:Rat):bD q p (bj v w e)=bD q p v+e*(bD q p w-bD q p v):=by
 unfold bD bj;grind
def Kh(v w:aa)(a b e:Rat):bj (bj v w a) (bj v w b) e=bj v w (a+e*(b-a)):=by
 unfold bj;simp only[aa.mk.injEq];constructor<;>grind
def BT(v w:aa)(e:Rat):(bj v w e).y=v.y+e*(w.y-v.y):=rfl
def IE{a b e lo hi:Rat}(h0:0<=e)(h1:e<=1)(ha:lo<=a)(hb:lo<=b)(ha2:a<=hi)(hb2:b<=hi):lo<=a+e*(b-a)/\a+e*(b-a)<=hi:=by
 have k1:=cO h0 (show 0<=b-lo by grind);have k2:=cO (show 0<=1-e by grind) (show 0<=a-lo by grind);have k3:=cO h0 (show 0<=hi-b by grind);have k4:=cO (show 0<=1-e by grind) (show 0<=hi-a by grind);constructor<;>grind
def awW{v w q p:aa}(hn:uF v w q p)(hy:q.y<p.y){a b:Rat}(a0:0<=a)(a1:a<=1)(b0:0<=b)(b1:b<=1)(ha:q.y<=(bj v w a).y/\(bj v w a).y<=p.y)(hb:q.y<=(bj v w b).y/\(bj v w b).y<=p.y)(h:bD q p (bj v w a)<0):bD q p (bj v w b)<0:=by
 by_cases k:bD q p (bj v w b)<0
 .exact k
 .exfalso
  obtain⟨e0,e1,e2⟩:=AG (a:= -(bD q p (bj v w a))) (b:=bD q p (bj v w b)-bD q p (bj v w a)) (by grind) (by grind) (by grind);generalize-(bD q p (bj v w a))/(bD q p (bj v w b)-bD q p (bj v w a))=e at*;have hz:bD q p (bj v w (a+e*(b-a)))=0:=by rw[<-Kh,aGd];grind
  have hh:=IE e0 e1 ha.1 hb.1 ha.2 hb.2;rw[<-BT,Kh] at hh;obtain⟨t,t0,t1,ht⟩:=aGE hy hz hh.1 hh.2;have h01:=IE e0 e1 a0 b0 a1 b1;exact hn _ t h01.1 h01.2 t0 t1 ht
def aEe{v w q p:aa}(hn:uF v w q p)(hy:q.y<p.y): ∃r:Bool,∀s,0<=s->s<=1->q.y<=(bj v w s).y->(bj v w s).y<=p.y->(bD q p (bj v w s)<0↔r=true):=by
 by_cases h: ∃s,0<=s/\s<=1/\(q.y<=(bj v w s).y/\(bj v w s).y<=p.y)/\bD q p (bj v w s)<0
 .obtain⟨s,s0,s1,s2,s3⟩:=h
  exact⟨true,fun t t0 t1 h1 h2=>⟨fun _=>J,fun _=>awW hn hy s0 s1 t0 t1 s2 ⟨h1,h2⟩ s3⟩⟩
 .exact⟨false,fun t t0 t1 h1 h2=>⟨fun k=>absurd ⟨t,t0,t1,⟨h1,h2⟩,k⟩ h,fun k=>by cases k⟩⟩
def Th(v w:aa):bj v w 0=v:=by unfold bj;cases v;simp only[aa.mk.injEq];constructor<;>grind
def MB(v w:aa):bj v w 1=w:=by unfold bj;cases w;simp only[aa.mk.injEq];constructor<;>grind
def Hz{v w:aa}{y:Rat}(h:(v.y<=y/\ ¬w.y<=y)\/(¬v.y<=y/\w.y<=y)): ∃s,0<=s/\s<=1/\(bj v w s).y=y:=by
 rcases h with⟨h1,h2⟩|⟨h1,h2⟩
 .obtain⟨a1,a2,a3⟩:=AG (a:=y-v.y) (b:=w.y-v.y) (by grind) (by grind) (by grind)
  refine⟨_,a1,a2,?_⟩;rw[BT];grind
 .obtain⟨a1,a2,a3⟩:=AG (a:=v.y-y) (b:=v.y-w.y) (by grind) (by grind) (by grind)
  refine⟨_,a1,a2,?_⟩;rw[BT];grind
def O6{v w p:aa}{s:Rat}(h:(bj v w s).y=p.y):bD v w p=(w.y-v.y)*((bj v w s).x-p.x):=by
 unfold bD;unfold bj at*;simp only at*;rw[<-h];grind
def yU{a b:Rat}(ha:0<a):0<a*b↔0<b:=by rw[qW];exact gv ha
def Gr{a b:Rat}(ha:a<0):a*b<0↔0<b:=by
 have:=yU (a:= -a) (b:=b) (by grind);constructor
 .intro h;exact this.1 (by grind)
 .intro h;have:=this.2 h;grind
def bI(b:Prop)[Decidable b]:Int:=if b then 1 else 0
def Bg{v w p:aa}{r:Prop}[Decidable r](h: ∀s,0<=s->s<=1->(bj v w s).y=p.y->(p.x<(bj v w s).x↔r)):mi v w p=if r then bI (v.y<=p.y)-bI (w.y<=p.y) else 0:=by
 unfold mi bI;by_cases h1:v.y<=p.y<;>by_cases h2:w.y<=p.y
 .simp[h1,h2]
 .obtain⟨s,s0,s1,s2⟩:=Hz (.inl ⟨h1,h2⟩)
  have e:=O6 s2;have k:=h s s0 s1 s2;have m:=yU (a:=w.y-v.y) (b:=(bj v w s).x-p.x) (by grind);rw[<-e] at m;have m2:0<bD v w p↔r:=by rw[m,<-k];grind
  simp only[h1,h2,m2];by_cases q:r<;>simp[q]
 .obtain⟨s,s0,s1,s2⟩:=Hz (.inr ⟨h1,h2⟩)
  have e:=O6 s2;have k:=h s s0 s1 s2;have m:=Gr (a:=w.y-v.y) (b:=(bj v w s).x-p.x) (by grind);rw[<-e] at m;have m2:bD v w p<0↔r:=by rw[m,<-k];grind
  simp only[h1,h2,m2];by_cases q:r<;>simp[q]
 .simp[h1,h2]
def vL(q p u:aa):Int:=if q.y<u.y/\u.y<=p.y/\bD q p u<0 then 1 else 0
def QY{v w q p:aa}(hn:uF v w q p)(hy:q.y<p.y):mi v w p-mi v w q=vL q p v-vL q p w:=by
 obtain⟨r,hr⟩:=aEe hn hy;have ep:=Bg (v:=v) (w:=w) (p:=p) (r:=r=true) fun s s0 s1 s2=>by
  rw[<-hr s s0 s1 (by grind) (by grind)];have m:=yU (a:=p.y-q.y) (b:=(bj v w s).x-p.x) (by grind);have:bD q p (bj v w s)= -((p.y-q.y)*((bj v w s).x-p.x)):=by unfold bD;rw[s2];grind
  rw[this];generalize (p.y-q.y)*((bj v w s).x-p.x)=z at*;constructor
  .intro k;have:=m.2 (by grind);grind
  .intro k;have:=m.1 (by grind);grind
 have eq:=Bg (v:=v) (w:=w) (p:=q) (r:=r=true) fun s s0 s1 s2=>by
  rw[<-hr s s0 s1 (by grind) (by grind)];have m:=yU (a:=p.y-q.y) (b:=(bj v w s).x-q.x) (by grind);have:bD q p (bj v w s)= -((p.y-q.y)*((bj v w s).x-q.x)):=by unfold bD;rw[s2];grind
  rw[this];generalize (p.y-q.y)*((bj v w s).x-q.x)=z at*;constructor
  .intro k;have:=m.2 (by grind);grind
  .intro k;have:=m.1 (by grind);grind
 have fv:vL q p v=if r=true then bI (v.y<=p.y)-bI (v.y<=q.y) else 0:=by
  have h:=hr 0 (by decide) (by decide);rw[Th] at h;unfold vL bI;by_cases h1:v.y<=p.y<;>by_cases h2:v.y<=q.y
  .have: ¬q.y<v.y:=by grind
   simp[h1,h2,this]
  .have h3:q.y<v.y:=by grind
   have:=h (by grind) h1;simp only[h1,h2,h3,this];by_cases q:r=true<;>simp[q]
  .exfalso;grind
  .simp[h1,h2]
 have fw:vL q p w=if r=true then bI (w.y<=p.y)-bI (w.y<=q.y) else 0:=by
  have h:=hr 1 (by decide) (by decide);rw[MB] at h;unfold vL bI;by_cases h1:w.y<=p.y<;>by_cases h2:w.y<=q.y
  .have: ¬q.y<w.y:=by grind
   simp[h1,h2,this]
  .have h3:q.y<w.y:=by grind
   have:=h (by grind) h1;simp only[h1,h2,h3,this];by_cases q:r=true<;>simp[q]
  .exfalso;grind
  .simp[h1,h2]
 rw[ep,eq,fv,fw];by_cases q:r=true
 .simp only[if_pos q];omega
 .simp only[if_neg q]
def Xe{v w q p:aa}(hn:uF v w q p)(hy:q.y=p.y):mi v w p=mi v w q:=by
 have key: ∀s,0<=s->s<=1->(bj v w s).y=p.y->(p.x<(bj v w s).x↔q.x<(bj v w s).x):=fun s s0 s1 s2=>by
  have no: ∀a b:Rat,a<=(bj v w s).x->(bj v w s).x<b->((a=q.x/\b=p.x)\/(a=p.x/\b=q.x))->False:=fun a b h1 h2 h3=>by
   obtain⟨a1,a2,a3⟩:=AG (a:=(bj v w s).x-a) (b:=b-a) (by grind) (by grind) (by grind);generalize ((bj v w s).x-a)/(b-a)=t at*;rcases h3 with⟨e1,e2⟩|⟨e1,e2⟩
   .refine hn s t s0 s1 a1 a2 ?_
    generalize hx:bj v w s=x at*;obtain⟨X,Y⟩:=x;unfold bj;simp only[aa.mk.injEq] at*;subst e1 e2;constructor<;>grind
   .refine hn s (1-t) s0 s1 (by grind) (by grind) ?_
    generalize hx:bj v w s=x at*;obtain⟨X,Y⟩:=x;unfold bj;simp only[aa.mk.injEq] at*;subst e1 e2;constructor<;>grind
  constructor
  .intro h
   by_cases k:q.x<(bj v w s).x
   .exact k
   .by_cases k2:(bj v w s).x=q.x
    .exfalso
     refine hn s 0 s0 s1 (by decide) (by decide) ?_;rw[Th];generalize bj v w s=x at*;obtain⟨X,Y⟩:=x;obtain⟨A,B⟩:=q;simp only[aa.mk.injEq] at*;exact⟨k2,by grind⟩
    .exact(no p.x q.x (by grind) (by grind) (.inr ⟨J,J⟩)).elim
  .intro h
   by_cases k:p.x<(bj v w s).x
   .exact k
   .by_cases k2:(bj v w s).x=p.x
    .exfalso
     refine hn s 1 s0 s1 (by decide) (by decide) ?_;rw[MB];generalize bj v w s=x at*;obtain⟨X,Y⟩:=x;obtain⟨A,B⟩:=p;simp only[aa.mk.injEq] at*;exact⟨k2,s2⟩
    .exact(no q.x p.x (by grind) (by grind) (.inl ⟨J,J⟩)).elim
 by_cases hc:(v.y<=p.y/\ ¬w.y<=p.y)\/(¬v.y<=p.y/\w.y<=p.y)
 .obtain⟨s,s0,s1,s2⟩:=Hz hc
  have uq: ∀t,(bj v w t).y=p.y->t=s:=fun t ht=>by
   rw[BT] at ht s2;have h4:w.y-v.y≠0:=by grind
   have:=gV.1 (show(w.y-v.y)*(t-s)=0 by grind);rcases this with h5|h5
   .exact absurd h5 h4
   .grind
  rw[Bg (p:=p) (r:=p.x<(bj v w s).x) fun t _ _ ht=>by rw[uq t ht],Bg (p:=q) (r:=p.x<(bj v w s).x) fun t _ _ ht=>by rw[uq t (by rw[ht,hy])];exact(key s s0 s1 s2).symm,hy]
 .unfold mi
  rw[hy];by_cases h1:v.y<=p.y<;>by_cases h2:w.y<=p.y<;>simp[h1,h2] at hc⊢
def Tt(q p:aa)(t:Rat):bj p q t=bj q p (1-t):=by unfold bj;simp only[aa.mk.injEq];constructor<;>grind
def uF.symm{v w q p:aa}(h:uF v w q p):uF v w p q:=fun s t s0 s1 t0 t1 e=>h s (1-t) s0 s1 (by grind) (by grind) (by rw[e,Tt])
def im(r:List ZP)(p:aa):Nat->Int
 |0=>0
 |k+1=>im r p k+mi (r.getD k (0,0)).q (gu r k).q p
def yV(r:List ZP)(q p:aa):Prop:= ∀k,k<r.length->uF (r.getD k (0,0)).q (gu r k).q q p
def Pc{r:List ZP}{q p:aa}(h:yV r q p)(hy:q.y<p.y): ∀k,k<r.length->im r p k-im r q k=vL q p (r.getD 0 (0,0)).q-vL q p (r.getD k (0,0)).q
 |0,_=>by simp[im]
 |k+1,hk=>by
  have ih:=Pc h hy k (by omega);have e:=QY (h k (by omega)) hy;rw[AU] at e;rw[im,im,AU];omega
def Mm{r:List ZP}{q p:aa}(h:yV r q p)(hy:q.y<p.y):im r p r.length=im r q r.length:=by
 cases hr:r.length with
 |zero=>rfl
 |succ n=>
  have ih:=Pc h hy n (by omega);have e:=QY (h n (by omega)) hy;rw[zo] at e;rw[im,im,zo];omega
def MA{r:List ZP}{q p:aa}(h:yV r q p)(hy:q.y=p.y): ∀k,k<=r.length->im r p k=im r q k
 |0,_=>rfl
 |k+1,hk=>by rw[im,im,MA h hy k (by omega),Xe (h k (by omega)) hy]
def V5{r:List ZP}{q p:aa}(h:yV r q p):im r p r.length=im r q r.length:=by
 by_cases h1:q.y<p.y
 .exact Mm h h1
 .by_cases h2:p.y<q.y
  .exact(Mm (fun k hk=>(h k hk).symm) h2).symm
  .exact MA h (by grind) _ (aM _)
def Y3(a b c:aa):yP a b c=(bD a b c).num.sign:=by
 unfold yP bD aa.cross bP;congr 2;grind
def aBL(a b:Rat):bg a b<=0↔a<=b:=by
 have:=Ie a b;constructor
 .intro h
  by_cases q:b<a
  .have:=this.2 q;omega
  .grind
 .intro h
  by_cases q:0<bg a b
  .have:=this.1 q;grind
  .omega
def aFw(v w p:aa):qp v w p=mi v w p:=by
 unfold qp mi;simp only[Y3,lf,sI,aBL]
def D1(r:List ZP)(p:aa): ∀k,oE r p k=im r p k
 |0=>rfl
 |k+1=>by rw[oE,im,D1 r p k,aFw]
def V9{r:List ZP}{q p:aa}(h:yV r q p):ly r p=ly r q:=by
 unfold ly;rw[D1,D1,V5 h]
def aCe{v w p:aa}(h:v.y<=p.y)(k:w.y<=p.y):mi v w p=0:=by unfold mi;simp[h,k]
def W7{v w p:aa}(h:p.y<v.y)(k:p.y<w.y):mi v w p=0:=by
 have h': ¬v.y<=p.y:=by grind
 have k': ¬w.y<=p.y:=by grind
 unfold mi;simp[h',k']
def JJ{v w p:aa}(r:Bool)(h1:p.x<v.x↔r=true)(h2:p.x<w.x↔r=true)(h3:v.x<p.x↔r=false)(h4:w.x<p.x↔r=false):mi v w p=if r=true then bI (v.y<=p.y)-bI (w.y<=p.y) else 0:=by
 refine Bg (r:=r=true) fun s s0 s1 _=>?_;have e:(bj v w s).x-p.x=(1-s)*(v.x-p.x)+s*(w.x-p.x):=by unfold bj;grind
 cases r with
 |true=>
  have a:=h1.2 J;have b:=h2.2 J;refine⟨fun _=>J,fun _=>?_⟩;by_cases q:s=0
  .subst q;grind
  .have k1:=bH (show 0<s by grind) (show 0<w.x-p.x by grind)
   have k2:=cO (show 0<=1-s by grind) (show 0<=v.x-p.x by grind);grind
 |false=>
  have a:=h3.2 J;have b:=h4.2 J;refine⟨fun k=>?_,fun k=>(by cases k)⟩;exfalso;have k1:=cO (show 0<=s by grind) (show 0<=p.x-w.x by grind);have k2:=cO (show 0<=1-s by grind) (show 0<=p.x-v.x by grind);grind
def vC(R:Rat)(p:aa):Prop:=p.x< -R\/R<p.x\/p.y< -R\/R<p.y
def axt{r:List ZP}{P:ZP->Prop}(h: ∀v∈r,P v){k:Nat}(hk:k<r.length):P (r.getD k (0,0)):=h _ (Bq hk)
def Uq{r:List ZP}{R:Rat}{p:aa}(hr: ∀v∈r, -R<=v.q.x/\v.q.x<=R/\ -R<=v.q.y/\v.q.y<=R)(hp:vC R p):im r p r.length=0:=by
 have hv: ∀k,k<r.length->_:=fun k hk=>axt hr hk;have hw: ∀k,k<r.length->_:=fun k hk=>hr _ (BX hk);have zero:(∀k,k<r.length->mi (r.getD k (0,0)).q (gu r k).q p=0)-> ∀k,k<=r.length->im r p k=0:=fun h=>by
  intro k
  induction k with
  |zero=>intro _;rfl
  |succ k ih=>intro hk;rw[im,ih (by omega),h k (by omega)];rfl
 rcases hp with h|h|h|h
 .have tele: ∀k,k<r.length->im r p k=bI ((r.getD 0 (0,0)).q.y<=p.y)-bI ((r.getD k (0,0)).q.y<=p.y):=by
   intro k
   induction k with
   |zero=>intro _;rw[im];omega
   |succ k ih=>
    intro hk;have e:=JJ (v:=(r.getD k (0,0)).q) (w:=(gu r k).q) (p:=p) true (by have:=hv k (by omega);constructor<;>grind) (by have:=hw k (by omega);constructor<;>grind) (by have:=hv k (by omega);constructor<;>grind) (by have:=hw k (by omega);constructor<;>grind);rw[if_pos J,AU] at e;rw[im,ih (by omega),AU,e];omega
  cases hr':r.length with
  |zero=>rfl
  |succ n=>
   have e:=JJ (v:=(r.getD n (0,0)).q) (w:=(gu r n).q) (p:=p) true (by have:=hv n (by omega);constructor<;>grind) (by have:=hw n (by omega);constructor<;>grind) (by have:=hv n (by omega);constructor<;>grind) (by have:=hw n (by omega);constructor<;>grind);rw[if_pos J,zo] at e;rw[im,tele n (by omega),zo,e];omega
 .refine zero (fun k hk=>?_) _ (aM _)
  have e:=JJ (v:=(r.getD k (0,0)).q) (w:=(gu r k).q) (p:=p) false (by have:=hv k (by omega);constructor<;>grind) (by have:=hw k (by omega);constructor<;>grind) (by have:=hv k (by omega);constructor<;>grind) (by have:=hw k (by omega);constructor<;>grind);rw[e,if_neg (by decide)]
 .exact zero (fun k hk=>W7 (by have:=hv k hk;grind) (by have:=hw k hk;grind)) _ (aM _)
 .exact zero (fun k hk=>aCe (by have:=hv k hk;grind) (by have:=hw k hk;grind)) _ (aM _)
def yR(vs:List aj):cF 8 (vs.map eV):=fun d hd=>by
 obtain⟨u,_,rfl⟩:=bQ.1 hd;exact⟨rfl,rfl⟩
def jd(qs:List Rat):cF 3 (qs.map eQ):=fun d hd=>by
 obtain⟨u,_,rfl⟩:=bQ.1 hd;exact⟨rfl,rfl⟩
def Lz(bs:List Bool):cF 1 (bs.map vB):=fun d hd=>by
 obtain⟨u,_,rfl⟩:=bQ.1 hd;exact⟨rfl,rfl⟩
def VI{l:List aj}{k:Nat}{v:aj}{t:Rat}{a b:Int}(h:l[k]? =some v)(ha:a=if v.nl then 1 else bg t v.lo)(hb:b=if v.nh then-1 else bg t v.hi):
  rj (l.drop k) t=if 0<a/\b<0 then 2 else if(a=0/\b<=0)\/(b=0/\0<=a) then 1 else rj (l.drop (k+1)) t:=by
 obtain⟨hk,rfl⟩:=aY.1 h;rw[bX hk,rj,ha,hb]
structure oo (v:aj):Prop where
 lo:BQ v.lo 1200
 hi:BQ v.hi 1200
def XS{l:List aj}{t:Rat}{i:Nat}[ht:BQ t i](hb: ∀v∈l,oo v)(hn:l.length<=100000)(hi:i<=20000:=by decide):PF GB prog 272 [.sl (l.map eV),eQ t] (vI (rj l t)):=by
 have hm:=gy eV l;refine fn (fu:=⟨11⟩) func272 J J ntmps272 J J (fun C=>?_);refine ak 10 (.d (vI (l.length:Nat))) J (by rw[hm]<;>rfl) ?_;refine gx J<|?_;refine lp (X:=Nat) (fun k=>[(11, .d (vI (k:Nat)))]) (fun k=>[]) (fun k=>k<=l.length/\rj (l.drop k) t=rj l t) (fun k=>l.length-k) 0 J ⟨aN _,J⟩ (fun _=>J) (fun k hk=>?_);obtain⟨h1,h2⟩:=hk;refine br J J J (fun hc12=>?_) (fun hc12=>?_)
 .
  obtain⟨v,hz⟩: ∃s,l[k]? =some s:=⟨_,aQ (by omega)⟩;have hv:=hb v (aV hz);haveI:=hv.lo;haveI:=hv.hi;refine ix (fu:=⟨12⟩) _ J (cA hz) J<|?_;refine mg (fu:=⟨1⟩) (X:=Int) (fun a=>[(7, .d (vI a))]) (fun a=>[]) (fun a=>a=if v.nl then 1 else bg t v.lo) [7] [] rfl ?_ (fun _=>J) (fun a ha=>?_)
  .
   refine gx J<|?_;refine bb J J J (fun hc17=>?_) (fun hc17=>?_)
   .
    refine cl J (mF (a:=t) (b:=v.lo) (i:=i) (by omega)) J<|?_;exact at_ (bg t v.lo) (by rw[if_neg (by simpa using hc17)])
   .
    exact at_ 1 (by rw[if_pos (by simpa using hc17)])
  .
   refine mg (X:=Int) (fun b=>[(8, .d (vI b))]) (fun b=>[]) (fun b=>b=if v.nh then-1 else bg t v.hi) [8] [] rfl ?_ (fun _=>J) (fun b hb'=>?_)
   .
    refine gx J<|?_;refine bb J J J (fun hc24=>?_) (fun hc24=>?_)
    .
     refine cl J (mF (a:=t) (b:=v.hi) (i:=i) (by omega)) J<|?_;exact at_ (bg t v.hi) (by rw[if_neg (by simpa using hc24)])
    .
     exact at_ (-1) (by rw[if_pos (by simpa using hc24)])
   .
    have hst:=VI hz ha hb';refine cs 31 J J J (fun hg31=>?_) (fun hg31=>?_)
    .
     refine br J J J (fun hc34=>?_) (fun hc34=>?_)
     .
      exact rz J (by first|(rw[<-h2,fY];rfl)|(rw[<-h2,hst,if_pos (by omega)];rfl)|(rw[<-h2,hst,if_neg (by omega),if_pos (by omega)];rfl))
     .
      refine cs 37 J J J (fun hg37=>?_) (fun hg37=>?_)
      .
       refine cs 41 J J J (fun hg41=>?_) (fun hg41=>?_)
       .
        exact rz J (by first|(rw[<-h2,fY];rfl)|(rw[<-h2,hst,if_pos (by omega)];rfl)|(rw[<-h2,hst,if_neg (by omega),if_pos (by omega)];rfl))
       .
        refine cs 44 J J J (fun hg44=>?_) (fun hg44=>?_)
        .
         refine br J J J (fun hc48=>?_) (fun hc48=>?_)
         .
          exact rz J (by first|(rw[<-h2,fY];rfl)|(rw[<-h2,hst,if_pos (by omega)];rfl)|(rw[<-h2,hst,if_neg (by omega),if_pos (by omega)];rfl))
         .
          exact at_ (k+1) ⟨⟨by omega,by rw[<-h2,hst,if_neg (by omega),if_neg (by omega)]⟩,(by omega)⟩
        .
         exact at_ (k+1) ⟨⟨by omega,by rw[<-h2,hst,if_neg (by omega),if_neg (by omega)]⟩,(by omega)⟩
      .
       refine cs 44 J J J (fun hg44=>?_) (fun hg44=>?_)
       .
        refine br J J J (fun hc48=>?_) (fun hc48=>?_)
        .
         exact rz J (by first|(rw[<-h2,fY];rfl)|(rw[<-h2,hst,if_pos (by omega)];rfl)|(rw[<-h2,hst,if_neg (by omega),if_pos (by omega)];rfl))
        .
         exact at_ (k+1) ⟨⟨by omega,by rw[<-h2,hst,if_neg (by omega),if_neg (by omega)]⟩,(by omega)⟩
       .
        exact at_ (k+1) ⟨⟨by omega,by rw[<-h2,hst,if_neg (by omega),if_neg (by omega)]⟩,(by omega)⟩
    .
     refine cs 37 J J J (fun hg37=>?_) (fun hg37=>?_)
     .
      refine cs 41 J J J (fun hg41=>?_) (fun hg41=>?_)
      .
       exact rz J (by first|(rw[<-h2,fY];rfl)|(rw[<-h2,hst,if_pos (by omega)];rfl)|(rw[<-h2,hst,if_neg (by omega),if_pos (by omega)];rfl))
      .
       refine cs 44 J J J (fun hg44=>?_) (fun hg44=>?_)
       .
        refine br J J J (fun hc48=>?_) (fun hc48=>?_)
        .
         exact rz J (by first|(rw[<-h2,fY];rfl)|(rw[<-h2,hst,if_pos (by omega)];rfl)|(rw[<-h2,hst,if_neg (by omega),if_pos (by omega)];rfl))
        .
         exact at_ (k+1) ⟨⟨by omega,by rw[<-h2,hst,if_neg (by omega),if_neg (by omega)]⟩,(by omega)⟩
       .
        exact at_ (k+1) ⟨⟨by omega,by rw[<-h2,hst,if_neg (by omega),if_neg (by omega)]⟩,(by omega)⟩
     .
      refine cs 44 J J J (fun hg44=>?_) (fun hg44=>?_)
      .
       refine br J J J (fun hc48=>?_) (fun hc48=>?_)
       .
        exact rz J (by first|(rw[<-h2,fY];rfl)|(rw[<-h2,hst,if_pos (by omega)];rfl)|(rw[<-h2,hst,if_neg (by omega),if_pos (by omega)];rfl))
       .
        exact at_ (k+1) ⟨⟨by omega,by rw[<-h2,hst,if_neg (by omega),if_neg (by omega)]⟩,(by omega)⟩
      .
       exact at_ (k+1) ⟨⟨by omega,by rw[<-h2,hst,if_neg (by omega),if_neg (by omega)]⟩,(by omega)⟩
 .
  obtain rfl:k=l.length:=by omega
  exact rz J (by first|(rw[<-h2,fY];rfl)|(rw[<-h2,hst,if_pos (by omega)];rfl)|(rw[<-h2,hst,if_neg (by omega),if_pos (by omega)];rfl))
def KH{l:List aj}{t:Rat}{i:Nat}[ht:BQ t i](hb: ∀v∈l,oo v)(hn:l.length<=100000)(hi:i<=20000:=by decide):PF GB prog 249 [.sl (l.map eV),eQ t] (vB (fD l t)):=by
 refine fn func249 J J ntmps249 J J (fun C=>?_);refine cl J (XS (l:=l) (t:=t) hb hn hi) J<|?_;exact rz J J
def Lf: ∀{l:List Rat} {i:Nat} {a b:Rat},l[i]? =some a->l[i+1]? =some b->i6 (l.take (i+2))=i6 (l.take (i+1))++[(a+b)/2]
 |[],i,a,b,h,_=>by simp at h
 |[_],i,a,b,h,k=>by simp at k
 |c::d::t,0,a,b,h,k=>by
  simp at h k;subst h;subst k;simp[i6]
 |c::d::t,i+1,a,b,h,k=>by
  have:=Lf (l:=d::t) (i:=i) (by simpa using h) (by simpa using k);rw[show(c::d::t).take (i+1+2)=c::d::t.take (i+1) by simp,show(c::d::t).take (i+1+1)=c::d::t.take i by simp,i6,i6,jK];congr 1
def GA: ∀l:List Rat,(i6 l).length<=l.length
 |[]=>aM _
 |[_]=>aN _
 |a::b::t=>by rw[i6,bJ,bJ];exact Nat.succ_le_succ (GA (b::t))
def avK{a:Rat}{t:List Rat}{z:Rat}(h:(a::t)[t.length]? =some z):e8 (a::t)=(a-1)::(i6 (a::t)++[z+1]):=by
 rw[e8];have:(a::t).getLast (by simp)=z:=by
  rw[List.getLast_eq_getElem];have:=aY.1 h;obtain⟨h1,h2⟩:=this;rw[<-h2];congr 1
 rw[this]
def ayx{cuts:List Rat}(hb: ∀q∈cuts,BQ q 1200)(hn:cuts.length<=100000):PF GB prog 248 [.sl (cuts.map eQ)] (.sl ((e8 cuts).map eQ)):=by
 have hm:=gy eQ cuts;refine fn (fu:=⟨10⟩) func248 J J ntmps248 J J (fun C=>?_);refine ak 6 (.d (vI (cuts.length:Nat))) J (by rw[hm]<;>rfl) ?_;refine gx J<|?_;refine br J J J (fun hc7=>?_) (fun hc7=>?_)
 .
  obtain rfl:cuts=[]:=bS (by omega);refine rf J J<|?_;exact rz J (by rw[e8];show DV.sl [_]=DV.sl [_];rw[Nf])
 .
  obtain⟨a,ct,rfl⟩: ∃a t,cuts=a::t:=by cases cuts with|nil=>exact absurd rfl hc7|cons a t=>exact⟨a,t,rfl⟩
  haveI hab:=hb a aZ;have hcl:ct.length+1<=100000:=hn;refine ix _ J J J<|cl J (lu (n:=1)) J<|cl (fu:=⟨0⟩) J (t8 (a:=a) (b:=((1:Int):Rat))) J<|?_;refine ak 14 (.d (eQ (a-1))) J J ?_;refine gx J<|ro J J<|?_;refine lp (fu:=⟨6⟩) (X:=Nat) (fun i=>[(4, .d (vI ((i+1:Nat):Int))),(3, .rw 15)]) (fun i=>[(15,some (.b 44 3 (((a-1)::i6 ((a::ct).take (i+1))).map eQ) true))]) (fun i=>i<=ct.length) (fun i=>ct.length-i) 0 J (aN _) (fun _=>J) (fun i hk=>?_);have hm2:=gy eQ (a::ct);have hml:=GA (a::ct.take i);rw[bJ,cJ] at hml;have hml2:=GA (a::ct);rw[bJ] at hml2;refine ak 18 (.d (vI ((ct.length+1:Nat):Int))) J (by rw[hm2]<;>rfl) ?_;refine gx J<|?_;refine br (fu2:=⟨11⟩) J J J (fun hc19=>?_) (fun hc19=>?_)
  .
   obtain⟨u,hu⟩: ∃s,(a::ct)[i]? =some s:=⟨_,aQ (by simp;omega)⟩;obtain⟨w,hw⟩: ∃s,(a::ct)[i+1]? =some s:=⟨_,aQ (by simp;omega)⟩;haveI:=hb u (aV hu);haveI:=hb w (aV hw);refine ix _ J (by rw[show((((i+1:Nat):Int))-1).toNat=i by omega,cK,hu];rfl) J<|ix _ J (by rw[bV,cK,hw];rfl) J<|?_;refine cl J (H6 (a:=u) (b:=w)) J<|rf J J<|ap (hv:=by simp only[ah];exact⟨by kernel_rfl,by omega⟩) (((a-1)::i6 ((a::ct).take (i+1+1))).map eQ) J (by rw[Lf hu hw,<-jK,bY];rfl) (jd [(u+w)/2]) J<|?_;refine fE 34 15 J ?_;exact at_ (i+1) ⟨(by omega),(by omega)⟩
  .
   obtain rfl:i=ct.length:=by omega
   obtain⟨z,hz⟩: ∃s,(a::ct)[ct.length]? =some s:=⟨_,aQ (by simp)⟩;haveI:=hb z (aV hz);rw[show(a::ct).take (ct.length+1)=a::ct from dW (l:=a::ct)];refine ak 38 (.d (vI ((ct.length+1:Nat):Int))) J (by rw[hm2]<;>rfl) ?_;refine gx J<|ix _ J (by rw[show((((ct.length+1:Nat):Int))-1).toNat=ct.length by omega,cK,hz];rfl) J<|cl J (lu (n:=1)) J<|?_;refine cl J (po (a:=z) (b:=((1:Int):Rat))) J<|rf J J<|ap ((e8 (a::ct)).map eQ) J (by rw[avK hz,<-jK,bY];rfl) (jd [z+1]) J<|?_;refine gI 45 J ?_;exact rz J J
def SP(o:List Rat)(s:aj):(lA o s).length<=o.length+2:=by
 unfold lA;have h:=fun(x:Rat) (l:List Rat)=>z7 (x:=x) (l:=l)▸Cr bg x l;have h1:=h s.lo o;have h2:=h s.hi o;have h3:=h s.hi (m7 s.lo o);split<;>split<;>omega
def qo(l:List aj)(k:Nat):List Rat:=ig (l.take k)
def N2{l:List aj}{k:Nat}{v:aj}(h:l[k]? =some v):qo l (k+1)=lA (qo l k) v:=by
 unfold qo ig;rw[eY,h,rN];rfl
def Cw(l:List aj): ∀k,(qo l k).length<=2*k
 |0=>aM _
 |k+1=>by
  cases h:l[k]? with
  |none=>
   have:=Cw l k;unfold qo at*;rw[eY,h];simp;omega
  |some v=>rw[N2 h];have:=Cw l k;have:=SP (qo l k) v;omega
theorem Sa{l:List aj}(hb: ∀v∈l,oo v){k:Nat}: ∀y∈qo l k,BQ y 1200:=fun y hy=>by
 obtain⟨s,hs,h⟩:=(Hx _).2 y hy;have:=hb s (dJ hs);rcases h with⟨_,rfl⟩|⟨_,rfl⟩
 .exact this.lo
 .exact this.hi
def s5(o:List Rat)(v:aj)(j:Nat):List Rat:=if j=0 then o else if j=1 then(if v.nl then o else m7 v.lo o) else lA o v
def BB(v:aj)(j:Nat):Rat:=if j=0 then v.lo else v.hi
def qk(v:aj)(j:Nat):Bool:=if j=0 then v.nl else v.nh
def ux{o:List Rat}{v:aj}{j:Nat}(hj:j<2:=by decide):s5 o v (j+1)=if qk v j then s5 o v j else dC bg (BB v j) (s5 o v j):=by
 have:j=0\/j=1:=by omega
 rcases this with rfl|rfl
 .simp[s5,qk,BB,z7]
 .simp[s5,qk,BB,lA,z7]
def axS{o:List Rat}{v:aj}{j:Nat}(hj:j<=2):(s5 o v j).length<=o.length+2:=by
 unfold s5;have:=SP o v;have h:=z7 (x:=v.lo) (l:=o)▸Cr bg v.lo o;split
 .omega
 .split
  .split<;>omega
  .exact this
theorem aDV{o:List Rat}(ho: ∀q∈o,BQ q 1200){v:aj}(hv:oo v){j:Nat}(hj:j<=2): ∀q∈s5 o v j,BQ q 1200:=fun q hq=>by
 unfold s5 lA at hq;have lo:=hv.lo;have hi:=hv.hi;split at hq
 .exact ho q hq
 .split at hq
  .split at hq
   .exact ho q hq
   .rcases qq.1 hq with rfl|hq
    .exact lo
    .exact ho q hq
  .split at hq
   .split at hq
    .exact ho q hq
    .rcases qq.1 hq with rfl|hq
     .exact lo
     .exact ho q hq
   .rcases qq.1 hq with rfl|hq
    .exact hi
    .split at hq
     .exact ho q hq
     .rcases qq.1 hq with rfl|hq
      .exact lo
      .exact ho q hq
def aFP{l:List aj}(hb: ∀v∈l,oo v)(hn:l.length<=10000):PF GB prog 247 [.sl (l.map eV)] (.sl ((ig l).map eQ)):=by
 have hm:=gy eV l;refine fn (fu:=⟨15⟩) func247 J J ntmps247 J J (fun C=>?_);refine ak 10 (.d (vI (l.length:Nat))) J (by rw[hm]<;>rfl) ?_;refine gx J<|?_;refine CN 3 J ?_;refine lp (X:=List Rat×Nat) (fun⟨o,k⟩=>[(11, .d (vI (k:Nat))),(3, .d (.sl (o.map eQ)))]) (fun⟨o,k⟩=>[]) (fun⟨o,k⟩=>o=qo l k/\k<=l.length) (fun⟨o,k⟩=>l.length-k) ([],0) J ⟨J,aN _⟩ (fun _=>J) (fun⟨o,k⟩ hk=>?_);dsimp only at hk⊢;obtain⟨h1,h2⟩:=hk;refine br J J J (fun hc12=>?_) (fun hc12=>?_)
 .
  obtain⟨v,hz⟩: ∃s,l[k]? =some s:=⟨_,aQ (by omega)⟩;have hv:=hb v (aV hz);haveI:=hv.lo;haveI:=hv.hi;have hob:=Sa hb (k:=k);have hol:=Cw l k;rw[<-h1] at hob hol;refine ix _ J (cA hz) J<|rf J J<|?_;refine lp (X:=List Rat×Nat) (fun⟨xs,j⟩=>[(21, .d (vI (j:Nat))),(3, .d (.sl (xs.map eQ)))]) (fun⟨xs,j⟩=>[]) (fun⟨xs,j⟩=>xs=s5 o v j/\j<=2) (fun⟨xs,j⟩=>2-j) (o,0) J ⟨J,by omega⟩ (fun _=>J) (fun⟨xs,j⟩ hk=>?_);dsimp only at hk⊢;obtain⟨g1,g2⟩:=hk;refine br J J J (fun hc22=>?_) (fun hc22=>?_)
  .
   have hj2:j<2:=by have:=hc22;simp only[bJ,fV] at this;omega
   obtain⟨m,hm2⟩: ∃m,m=BB v j:=⟨_,rfl⟩;haveI hmb:BQ m 1200:=by rw[hm2];unfold BB;split;exact hv.lo;exact hv.hi
   have hxl:=gy eQ xs;have hxn:xs.length<=2*k+2:=by rw[g1];have:=axS (o:=o) (v:=v) (j:=j) g2;omega
   have hxb: ∀q∈xs,BQ q 1200:=by rw[g1];exact aDV hob hv g2
   refine ix (fu:=⟨10⟩) _ rfl (by rw[bV];exact(show([v.lo,v.hi].map eQ)[j]? =some (eQ m) by rw[hm2];have:j=0\/j=1:=(by omega);rcases this with rfl|rfl<;>rfl)) rfl<|?_;rcases(show j=0\/j=1 by omega) with rfl|rfl
   .
    refine cB J J J<|?_;refine ji (fu2:=⟨1⟩) 32 J J J (fun hg32=>?_) (fun hg32=>?_)
    .
     exact at_ (xs,0+1) (by dsimp only;exact⟨⟨by rw[ux,if_pos (by simpa[qk] using hg32),<-g1],by omega⟩,(by omega)⟩)
    .
     refine ck (fu:=⟨16⟩) J J J<|?_;refine mg (fu:=⟨5⟩) (X:=Nat) (fun n=>[(8, .d (vI (n:Nat)))]) (fun n=>[]) (fun n=>jP bg m xs=n) [8] [] rfl ?_ (fun _=>J) (fun n hnx=>?_)
     .
      refine gx J<|?_;refine lp (fu:=⟨6⟩) (X:=Nat) (fun n=>[(8, .d (vI (n:Nat)))]) (fun n=>[]) (fun n=>n<=xs.length/\ ∀j (h:j<xs.length),j<n->bg xs[j] m<0) (fun n=>xs.length-n) 0 J ⟨aN _,fun j _ hj=>absurd hj (by omega)⟩ (fun _=>J) (fun n hk=>?_);obtain⟨n1,n2⟩:=hk;refine mr (v2:=fun hg43=>by simp only[ah];kernel_rfl) J J J J (fun hg43=>?_) (fun hg43=>?_)
      .
       refine ix _ J (r8) J<|cl J (mF (a:=xs[n]'(by omega)) (b:=m) (ha:=hxb _ (bL (by omega))) (hb:=hmb)) J<|?_;refine br J J J (fun hc52=>?_) (fun hc52=>?_)
       .
        exact at_ (n+1) ⟨⟨by omega,fun j h hj=>by by_cases q:j=n;(subst q;exact hc52);exact n2 j h (by omega)⟩,(by omega)⟩
       .
        exact at_ n (vE bg n1 n2 (fun h=>hc52))
      .
       exact at_ n (vE bg n1 n2 (fun h=>absurd h (by omega)))
     .
      have hnl:n<=xs.length:=by rw[<-hnx];exact Dg _ _ _
      refine mr (v1:=fun hg58=>by simp only[ah];kernel_rfl) J J J J (fun hg58=>?_) (fun hg58=>?_)
      .
       have hnew: ∀h:n<xs.length,bg xs[n] m≠0:=fun h=>absurd h (by omega);obtain⟨ys,hys⟩: ∃ys,ys=xs.take n++m::xs.drop n:=⟨_,rfl⟩;have hin:dC bg m xs=ys:=by rw[hys];exact tA bg hnx hnew
       have hyl:ys.length<=xs.length+1:=by rw[hys];simp;omega
       refine s3 n _ J J J J (jd _) (by rw[hxl];exact hnl) J<|ro J J<|ni n xs.length _ J J (by rw[hxl]) J (jd _) hnl (by omega) J<|?_;refine ap _ J J (uc jd _ _ _) J<|mD (hv:=by simp only[ah];exact⟨by kernel_rfl,by omega⟩) (ho:=fun _=>⟨vd jd _ _,by simp⟩) (ys.map eQ) J (by rw[hys,bY,cV,gR,iN,aS (l:=xs.map eQ) (i:=xs.length) (by simp)];rfl) (uH jd _ _ _ _) J<|?_;exact at_ (ys,0+1) (by dsimp only;exact⟨⟨by rw[ux,if_neg (by simpa[qk] using hg32),<-g1,<-hm2,hin],by omega⟩,(by omega)⟩)
      .
       refine ix _ J (r8) J<|cl J (mF (a:=xs[n]'(by omega)) (b:=m) (ha:=hxb _ (bL (by omega))) (hb:=hmb)) J<|?_;refine br (fu2:=⟨7⟩) J J J (fun hc67=>?_) (fun hc67=>?_)
       .
        have hnew: ∀h:n<xs.length,bg xs[n] m≠0:=fun h=>hc67;obtain⟨ys,hys⟩: ∃ys,ys=xs.take n++m::xs.drop n:=⟨_,rfl⟩;have hin:dC bg m xs=ys:=by rw[hys];exact tA bg hnx hnew
        have hyl:ys.length<=xs.length+1:=by rw[hys];simp;omega
        refine s3 n _ J J J J (jd _) (by rw[hxl];exact hnl) J<|ro J J<|ni n xs.length _ J J (by rw[hxl]) J (jd _) hnl (by omega) J<|?_;refine ap _ J J (uc jd _ _ _) J<|mD (hv:=by simp only[ah];exact⟨by kernel_rfl,by omega⟩) (ho:=fun _=>⟨vd jd _ _,by simp⟩) (ys.map eQ) J (by rw[hys,bY,cV,gR,iN,aS (l:=xs.map eQ) (i:=xs.length) (by simp)];rfl) (uH jd _ _ _ _) J<|?_;exact at_ (ys,0+1) (by dsimp only;exact⟨⟨by rw[ux,if_neg (by simpa[qk] using hg32),<-g1,<-hm2,hin],by omega⟩,(by omega)⟩)
       .
        have hin:dC bg m xs=xs:=A' bg hnx (by omega) (Decidable.not_not.1 hc67);exact at_ (xs,0+1) (by dsimp only;exact⟨⟨by rw[ux,if_neg (by simpa[qk] using hg32),<-g1,<-hm2,hin],by omega⟩,(by omega)⟩)
   .
    refine ck (fu:=⟨6⟩) J J J<|cB J J J<|?_;refine bb (fu2:=⟨8⟩) J J J (fun hc39=>?_) (fun hc39=>?_)
    .
     exact at_ (xs,1+1) (by dsimp only;exact⟨⟨by rw[ux,if_pos (by simpa[qk] using hc39),<-g1],by omega⟩,(by omega)⟩)
    .
     refine mg (fu:=⟨5⟩) (X:=Nat) (fun n=>[(8, .d (vI (n:Nat)))]) (fun n=>[]) (fun n=>jP bg m xs=n) [8] [] rfl ?_ (fun _=>J) (fun n hnx=>?_)
     .
      refine gx J<|?_;refine lp (fu:=⟨6⟩) (X:=Nat) (fun n=>[(8, .d (vI (n:Nat)))]) (fun n=>[]) (fun n=>n<=xs.length/\ ∀j (h:j<xs.length),j<n->bg xs[j] m<0) (fun n=>xs.length-n) 0 J ⟨aN _,fun j _ hj=>absurd hj (by omega)⟩ (fun _=>J) (fun n hk=>?_);obtain⟨n1,n2⟩:=hk;refine mr (v2:=fun hg43=>by simp only[ah];kernel_rfl) J J J J (fun hg43=>?_) (fun hg43=>?_)
      .
       refine ix _ J (r8) J<|cl J (mF (a:=xs[n]'(by omega)) (b:=m) (ha:=hxb _ (bL (by omega))) (hb:=hmb)) J<|?_;refine br J J J (fun hc52=>?_) (fun hc52=>?_)
       .
        exact at_ (n+1) ⟨⟨by omega,fun j h hj=>by by_cases q:j=n;(subst q;exact hc52);exact n2 j h (by omega)⟩,(by omega)⟩
       .
        exact at_ n (vE bg n1 n2 (fun h=>hc52))
      .
       exact at_ n (vE bg n1 n2 (fun h=>absurd h (by omega)))
     .
      have hnl:n<=xs.length:=by rw[<-hnx];exact Dg _ _ _
      refine mr (v1:=fun hg58=>by simp only[ah];kernel_rfl) J J J J (fun hg58=>?_) (fun hg58=>?_)
      .
       have hnew: ∀h:n<xs.length,bg xs[n] m≠0:=fun h=>absurd h (by omega);obtain⟨ys,hys⟩: ∃ys,ys=xs.take n++m::xs.drop n:=⟨_,rfl⟩;have hin:dC bg m xs=ys:=by rw[hys];exact tA bg hnx hnew
       have hyl:ys.length<=xs.length+1:=by rw[hys];simp;omega
       refine s3 n _ J J J J (jd _) (by rw[hxl];exact hnl) J<|ro J J<|ni n xs.length _ J J (by rw[hxl]) J (jd _) hnl (by omega) J<|?_;refine ap _ J J (uc jd _ _ _) J<|mD (hv:=by simp only[ah];exact⟨by kernel_rfl,by omega⟩) (ho:=fun _=>⟨vd jd _ _,by simp⟩) (ys.map eQ) J (by rw[hys,bY,cV,gR,iN,aS (l:=xs.map eQ) (i:=xs.length) (by simp)];rfl) (uH jd _ _ _ _) J<|?_;exact at_ (ys,1+1) (by dsimp only;exact⟨⟨by rw[ux,if_neg (by simpa[qk] using hc39),<-g1,<-hm2,hin],by omega⟩,(by omega)⟩)
      .
       refine ix _ J (r8) J<|cl J (mF (a:=xs[n]'(by omega)) (b:=m) (ha:=hxb _ (bL (by omega))) (hb:=hmb)) J<|?_;refine br J J J (fun hc67=>?_) (fun hc67=>?_)
       .
        have hnew: ∀h:n<xs.length,bg xs[n] m≠0:=fun h=>hc67;obtain⟨ys,hys⟩: ∃ys,ys=xs.take n++m::xs.drop n:=⟨_,rfl⟩;have hin:dC bg m xs=ys:=by rw[hys];exact tA bg hnx hnew
        have hyl:ys.length<=xs.length+1:=by rw[hys];simp;omega
        refine s3 n _ J J J J (jd _) (by rw[hxl];exact hnl) J<|ro J J<|ni n xs.length _ J J (by rw[hxl]) J (jd _) hnl (by omega) J<|?_;refine ap _ J J (uc jd _ _ _) J<|mD (hv:=by simp only[ah];exact⟨by kernel_rfl,by omega⟩) (ho:=fun _=>⟨vd jd _ _,by simp⟩) (ys.map eQ) J (by rw[hys,bY,cV,gR,iN,aS (l:=xs.map eQ) (i:=xs.length) (by simp)];rfl) (uH jd _ _ _ _) J<|?_;exact at_ (ys,1+1) (by dsimp only;exact⟨⟨by rw[ux,if_neg (by simpa[qk] using hc39),<-g1,<-hm2,hin],by omega⟩,(by omega)⟩)
       .
        have hin:dC bg m xs=xs:=A' bg hnx (by omega) (Decidable.not_not.1 hc67);exact at_ (xs,1+1) (by dsimp only;exact⟨⟨by rw[ux,if_neg (by simpa[qk] using hc39),<-g1,<-hm2,hin],by omega⟩,(by omega)⟩)
  .
   have hj2: ¬j<2:=by have:=hc22;simp only[bJ,fV] at this;omega
   exact at_ (xs,k+1) (by dsimp only;exact⟨⟨by rw[N2 hz,<-h1,g1,show j=2 by omega];rfl,by omega⟩,(by omega)⟩)
 .
  have hfin:ig l=o:=by rw[h1,show k=l.length by omega];unfold qo;rw[dW]
  exact rz J (by rw[hfin];rfl)
def azU(t:Rat):eV ⟨t,0,false,true⟩= .ag [.v (.bool (decide (t.num<0))),dN t.num.natAbs,dD t.den, .v (.bool false), .sl [], .sl [], .v (.bool false), .v (.bool true)]:=by
 unfold eV dD;simp only[show(0:Rat).num=0 from J,show(0:Rat).den=1 from J,lQ,p6];rfl
def YY(t:Rat):eV ⟨0,t,true,false⟩= .ag [.v (.bool false), .sl [], .sl [], .v (.bool (decide (t.num<0))),dN t.num.natAbs,dD t.den, .v (.bool true), .v (.bool false)]:=by
 unfold eV dD;simp only[show(0:Rat).num=0 from J,show(0:Rat).den=1 from J,lQ,p6];rfl
def AT(l m:ab)(side:Int):DV:= .tp [.sl ((jb l m side).map eV),vB (lP l m)]
def K5{l m:ab}(h:crossI l m≠0):lP l m=false:=by unfold lP;rw[decide_eq_false];exact fun e=>h e.1
def Qz{l m:ab}(h:crossI l m=0):lP l m=decide ((m.value l.base).num.sign=0):=by unfold lP;simp[h]
def KI{l m:ab}{side:Int}[hl:LB l][hm:LB m](hlo:l.ok)(hmo:m.ok)(hs:side=1\/side= -1):PF GB prog 204 [eL l,eL m,vI side] (AT l m side):=by
 refine fn func204 J J ntmps204 J J (fun C=>?_);refine cl J (QV (l:=l) (m:=m)) J<|?_;refine bb J J J (fun hc19=>?_) (fun hc19=>?_)
 .
  have hc:crossI l m=0:=by simpa using hc19
  refine cl J (Jp hlo.ne) J<|cl J (DN (l:=m) (p:=l.base)) J<|?_;refine br J J J (fun hc26=>?_) (fun hc26=>?_)
  .
   refine cl J Qd J<|rf J J<|?_;exact rz J (by unfold AT jb;rw[if_pos hc,if_pos hc26,Qz hc];rfl)
  .
   exact rz J (by unfold AT jb;rw[if_pos hc,if_neg hc26,Qz hc];rfl)
 .
  have hc:crossI l m≠0:=by simpa using hc19
  haveI hpb:=BV (l:=l) (m:=m) hlo.ne hc;obtain⟨t,ht⟩: ∃t,t=fG l (d8 l m):=⟨_,rfl⟩;refine cl (fu:=⟨0⟩) J (Cv (l:=l) (p:=d8 l m) hlo.ne) J<|?_;refine ak 35 (.d (eQ t)) J (by rw[ht]) ?_;rw[<-ht] at hpb;refine gx J<|cl J (lu (n:=1)) J<|cl J (po (a:=t) (b:=((1:Int):Rat))) J<|cl J (L9 (l:=l) (t:=t+((1:Int):Rat)) hlo.ne) J<|?_;refine cl J (DN (l:=m) (p:=l.at (t+((1:Int):Rat)))) J<|?_;refine br J J J (fun hc44=>?_) (fun hc44=>?_)
  .
   refine rf J J<|?_;exact rz J (by unfold AT jb;rw[if_neg hc,<-ht,if_pos (show(m.value (l.at (t+1))).num.sign=side from hc44),K5 hc,cV,azU];rfl)
  .
   refine rf J J<|?_;exact rz J (by unfold AT jb;rw[if_neg hc,<-ht,if_neg (show¬(m.value (l.at (t+1))).num.sign=side from hc44),K5 hc,cV,YY];rfl)
def fy(f:aP):DV:= .ag [.v (.bool (decide (f.l.a<0))),dN f.l.a.natAbs, .v (.bool (decide (f.l.b<0))),dN f.l.b.natAbs, .v (.bool (decide (f.l.c<0))),dN f.l.c.natAbs, .v (.bool (decide (f.v.lo.num<0))),dN f.v.lo.num.natAbs,dD f.v.lo.den, .v (.bool (decide (f.v.hi.num<0))),dN f.v.hi.num.natAbs,dD f.v.hi.den, .v (.bool f.v.nl), .v (.bool f.v.nh)]
def yO(fs:List aP):cF 14 (fs.map fy):=fun d hd=>by
 obtain⟨u,_,rfl⟩:=bQ.1 hd;exact⟨rfl,rfl⟩
theorem zk{p:ZP}(h:ZP.le 100 p):aC p.q 12:=by
 haveI:BI p.1 11:=jz (by have:=h.1;omega);haveI:BI p.2 11:=jz (by have:=h.2;omega);exact(inferInstance:aC (iP p.1 p.2) 12)
def Xw{v w:ZP}(hv:ZP.le 100 v)(hw:ZP.le 100 w)(h:v≠w):PF GB prog 152 [eP v.q,eP w.q] (.tp [fy (kv v w),vB true]):=by
 have hne: ¬(w.1=v.1/\w.2=v.2):=fun e=>h (Prod.ext e.1.symm e.2.symm);obtain⟨hlb,hlo⟩:=KL (m:=v.1) (n:=v.2) (p:=w.1) (q:=w.2) (by have:=hv.1;omega) (by have:=hv.2;omega) (by have:=hw.1;omega) (by have:=hw.2;omega) hne;haveI:=hlb;haveI:=zk hv;haveI:=zk hw;refine fn func152 J J ntmps152 J J (fun C=>?_);refine cl (fu:=⟨3⟩) J (aw9 (m:=v.1) (n:=v.2) (m':=w.1) (n':=w.2) (by have:=hv.1;omega) (by have:=hv.2;omega) (by have:=hw.1;omega) (by have:=hw.2;omega) (fun e=>hne ⟨e.1.symm,e.2.symm⟩)) J<|?_;refine lG 13 J ?_;refine gx J<|cl J (Cv (l:=mh v.1 v.2 w.1 w.2) (p:=v.q) hlo.ne) J<|cl J (Cv (l:=mh v.1 v.2 w.1 w.2) (p:=w.q) hlo.ne) J<|?_;exact rz J J
end Go.Sx
end
