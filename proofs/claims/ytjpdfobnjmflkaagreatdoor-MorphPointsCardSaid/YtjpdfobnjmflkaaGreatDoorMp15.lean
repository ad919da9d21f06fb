import Derived.Test.YtjpdfobnjmflkaaGreatDoorMp14
set_option linter.all false
set_option maxHeartbeats 4000000
set_option maxRecDepth 100000
section
namespace Go.Sx
open Go Go.Proofs Tryz
variable {GB:Gh}{z x y:Rat}{t:Tr}{p v w u:aa}{L M:List ah}{b c:Bool}{a l xs:List ao}{m:ah}{d e k i j n len s nm off:Nat}{α:Type}{cuts o:List Rat}{side:Int}{marks:List Bool}{lk:LK}{bk:BM}{ty':TypeId}{pos:String}{af:Array Edge}{zx:List FX}
def vV(h:z<0):Int.sign z.num= -1:=by
 have:=(u' _).2 h;rcases lV z.num 0 with q|q|q
 .exact dY q
 .rw[q] at this;simp at this
 .rw[eK q] at this;simp at this
def lG:Tr->aa->List ah
 | .leaf _,_=>[]
 | .node l x y,p=>(if Int.sign (l.value p).num=0 then [l] else [])++((if 0<=Int.sign (l.value p).num then lG x p else [])++(if Int.sign (l.value p).num<=0 then lG y p else []))
def oz: ∀{t:Tr} {p:aa} {l:ah},l∈lG t p->l∈t.lns/\l.value p=0
 | .leaf _,p,l,h=>by cases h
 | .node m x y,p,l,h=>by
  rw[lG,aL,aL] at h;rcases h with h|h|h
  .split at h
   .rw[aT] at h;subst h
    rename_i k;exact⟨aQ,(me _).1 k⟩
   .cases h
  .split at h
   .have:=oz h;exact⟨aJ _ (bK _ this.1),this.2⟩
   .cases h
  .split at h
   .have:=oz h;exact⟨aJ _ (bQ _ this.1),this.2⟩
   .cases h
def aFT(h:Gn t.lns p v):Gn (lG t p) p v:=fun l hl hz=>h l (oz hl).1 hz
def CG: ∀{t:Tr} {p v w:aa},(∀l∈lG t p,Int.sign (l.nor.dot v).num=Int.sign (l.nor.dot w).num)->gg t p v=gg t p w
 | .leaf _,_,_,_,_=>rfl
 | .node l x y,p,v,w,h=>by
  have hx:0<=Int.sign (l.value p).num->gg x p v=gg x p w:=fun k=>CG fun m hm=>h m (by rw[lG,aL,aL,if_pos k];exact .inr (.inl hm));have hy:Int.sign (l.value p).num<=0->gg y p v=gg y p w:=fun k=>CG fun m hm=>h m (by rw[lG,aL,aL,if_pos k];exact .inr (.inr hm));rw[gg,gg,ru,ru];by_cases k:Int.sign (l.value p).num=0
  .rw[if_pos k,if_pos k,<-h l (by rw[lG,if_pos k];exact aQ),hx (by omega),hy (by omega)]
  .rw[if_neg k,if_neg k]
   generalize Int.sign (l.value p).num=s at*;split
   .exact hx (by decide)
   .exact hy (by decide)
   .rfl
def HG(hM: ∀l∈M,l.ok)(hL:Gn L p v): ∃w,Gn M p w/\ ∀l∈L,l.value p=0->Int.sign (l.nor.dot v).num=Int.sign (l.nor.dot w).num:=by
 have e2: ∀l:ah,l.value p=0->l.value (b8 p v 1)=l.nor.dot v:=fun l hz=>by rw[gi,hz];grind
 have hp':bm ((L.filter fun l=>decide (l.value p=0)).map fun l=>(⟨if 0<l.value (b8 p v 1) then l else l.rev,ao.all⟩:bu)) (b8 p v 1):=fun s hs=>by
  obtain⟨l,hl,rfl⟩:=aU.1 hs;obtain⟨h1,h2⟩:=iR.1 hl;have h3:=of_decide_eq_true h2;have h0:l.value (b8 p v 1)≠0:=by rw[e2 l h3];exact hL l h1 h3
  simp only;split
  .assumption
  .rw[dE];grind
 obtain⟨q,q1,q2⟩:=Dl hp' M hM;have e: ∀l:ah,l.value p=0->l.value q=l.nor.dot ⟨q.x-p.x,q.y-p.y⟩:=fun l hz=>by
  have h1:=gi l p ⟨q.x-p.x,q.y-p.y⟩ 1;rw[hz] at h1;have h2:b8 p ⟨q.x-p.x,q.y-p.y⟩ 1=q:=by
   unfold b8
   cases q
   simp only[aa.mk.injEq];constructor<;>grind
  rw[h2] at h1;rw[h1];grind
 refine⟨⟨q.x-p.x,q.y-p.y⟩,fun m hm hz=>?_,fun l hl hz=>?_⟩
 .rw[<-e m hz];exact q2 m hm
 .have h1:=q1 _ (aU.2 ⟨l,iR.2 ⟨hl,decide_eq_true hz⟩,J⟩)
  simp only at h1;rw[e2 l hz] at h1;rw[<-e l hz];have h0:=hL l hl hz;split at h1
  .rename_i k
   rw[(pi _).2 k,(pi _).2 h1]
  .rename_i k
   rw[dE] at h1;rw[vV (by grind),vV (by grind)]
def i6(t:Tr)(p:aa)(b:Bool):Prop:= ∃v,Gn (lG t p) p v/\(gg t p v).1=b
def vz(h:Gn t.lns p w):i6 t p (gg t p w).1:=⟨w,aFT h,J⟩
def AJ(h:i6 t p b)(hM: ∀l∈M,l.ok): ∃w,Gn M p w/\(gg t p w).1=b:=by
 obtain⟨v,h1,h2⟩:=h;obtain⟨w,k1,k2⟩:=HG hM h1;exact⟨w,k1,by rw[<-h2,CG fun l hl=>k2 l hl (oz hl).2]⟩
def aJr(hM: ∀l∈M,l.ok)(p:aa): ∃w,Gn M p w:=by
 obtain⟨w,h,_⟩:=HG (L:=[]) (M:=M) (p:=p) (v:=⟨1,0⟩) hM fun l hl=>by cases hl
 exact⟨w,h⟩
def WD(ht:t.all ah.ok)(p:aa):i6 t p true\/i6 t p false:=by
 obtain⟨w,h⟩:=aJr (gF ht) p;have:=vz h
 cases hb:(gg t p w).1 with
 |true=>rw[hb] at this;exact .inl this
 |false=>rw[hb] at this;exact .inr this
def min2{a b:Rat}(ha:0<a)(hb:0<b): ∃d:Rat,0<d/\d<=a/\d<=b:=by
 by_cases k:a<=b
 .exact⟨a,ha,by grind,k⟩
 .exact⟨b,hb,by grind,by grind⟩
def TE{m a b:Tr}{f:Bool->Bool->Bool}(hm:m.all ah.ok)(ha:a.all ah.ok)(hb:b.all ah.ok)(hf: ∀q,cj m.lns q->cj a.lns q->cj b.lns q->m.val q=f (a.val q) (b.val q))(h:i6 m p c): ∃x y,i6 a p x/\i6 b p y/\f x y=c:=by
 obtain⟨w,k1,k2⟩:=AJ h (M:=m.lns++(a.lns++b.lns)) fun l hl=>(aL.1 hl).elim (gF hm l) fun hl=>(aL.1 hl).elim (gF ha l) (gF hb l);have gm:Gn m.lns p w:=fun l hl=>k1 l (bK _ hl);have ga:Gn a.lns p w:=fun l hl=>k1 l (bQ _ (bK _ hl));have gb:Gn b.lns p w:=fun l hl=>k1 l (bQ _ (bQ _ hl));obtain⟨e1,a1,b1⟩:=mP gm;obtain⟨e2,a2,b2⟩:=mP ga;obtain⟨e3,a3,b3⟩:=mP gb;obtain⟨d1,c1,c2,c3⟩:=min2 a1 a2;obtain⟨d,c4,c5,c6⟩:=min2 c1 a3;obtain⟨o1,v1⟩:=b1 d c4 (by grind);obtain⟨o2,v2⟩:=b2 d c4 (by grind);obtain⟨o3,v3⟩:=b3 d c4 (by grind);refine⟨_,_,vz ga,vz gb,?_⟩;rw[v2,v3,<-hf _ o1 o2 o3,<-k2,v1]
def DH(ht:t.all ah.ok)(h:i6 t p b)(hM: ∀l∈M,l.ok){c:ar}(hc:bm c p): ∃q,bm c q/\cj t.lns q/\cj M q/\t.val q=b:=by
 obtain⟨w,k1,k2⟩:=AJ h (M:=t.lns++M) fun l hl=>(aL.1 hl).elim (gF ht l) (hM l);obtain⟨e1,a1,b1⟩:=mP (t:=t) fun l hl=>k1 l (bK _ hl);obtain⟨e2,a2,b2⟩:=hc.open w;obtain⟨d,c1,c2,c3⟩:=min2 a1 a2;obtain⟨o1,v1⟩:=b1 d c1 c2;obtain⟨q,q1,q2⟩:=Dl (c:=c++t.lns.map fun l=>⟨if 0<l.value (b8 p w d) then l else l.rev,ao.all⟩) (p:=b8 p w d) (fun s hs=>by
  rcases aL.1 hs with hs|hs
  .exact b2 d (cM c1) c3 s hs
  .obtain⟨l,hl,rfl⟩:=aU.1 hs
   have h0:=o1 l hl;simp only;split
   .assumption
   .rw[dE];grind) (t.lns++M) fun l hl=>(aL.1 hl).elim (gF ht l) (hM l)
 refine⟨q,fun s hs=>q1 s (bK _ hs),(cj.app.1 q2).1,(cj.app.1 q2).2,?_⟩;rw[show t.val q=t.val (b8 p w d) from Cg (L:=t.lns) (fun l hl=>?_) fun l hl=>hl,<-k2,v1];have h1:=q1 _ (bQ _ (aU.2 ⟨l,hl,J⟩));have h0:=o1 l hl;simp only at h1;split at h1
 .rename_i k;exact⟨fun _=>k,fun _=>h1⟩
 .rename_i k;rw[dE] at h1;exact⟨fun e=>by grind,fun e=>absurd e k⟩
def oP(ds:List aa)(i:Nat):aa:=
 if 0<Int.sign ((ds.getD i ⟨0,0⟩).cross (ds.getD ((i+1)%ds.length) ⟨0,0⟩)).num then(ds.getD i ⟨0,0⟩).add (ds.getD ((i+1)%ds.length) ⟨0,0⟩) else fG (ds.getD i ⟨0,0⟩)
def lc(ds:List aa):List aa:=if ds.length=0 then [⟨1,0⟩] else(List.range ds.length).map (oP ds)
def N6(u w:aa):u.add w=ie 1 1 u w:=by
 unfold aa.add ie;simp only[aa.mk.injEq];constructor<;>grind
def MG{x:aa}: ∀{S:List aa},S≠[]->(∀d∈S,0<d.cross x)-> ∃u∈S,∀d∈S,0<=d.cross u
 |[],h,_=>absurd J h
 |[d],_,_=>⟨d,aQ,fun e he=>by rw[aT] at he;subst he;rw[Rq];exact gS⟩
 |d0::d1::S,_,h=>by
  obtain⟨u,h1,h2⟩:=MG (S:=d1::S) (by simp) fun d hd=>h d (aJ _ hd);by_cases k:0<=d0.cross u
  .exact⟨u,aJ _ h1,fun d hd=>(aK.1 hd).elim (fun e=>e▸k) (h2 d)⟩
  .refine⟨d0,aQ,fun d hd=>(aK.1 hd).elim (fun e=>by rw[e,Rq];exact gS) fun hd=>?_⟩
   have p0:=h d0 aQ;have pu:=h u (aJ _ h1);have pd:=h d (aJ _ hd);have k1:=h2 d hd;have k2:0<u.cross d0:=by rw[fE] at k;grind
   have e:d.cross d0*u.cross x=u.cross d0*d.cross x+d.cross u*d0.cross x:=by unfold aa.cross;grind
   have n1:=bD k2 pd;have n2:=cA k1 (cM p0);generalize d.cross d0=A at*;generalize u.cross x=B at*;by_cases hA:0<=A
   .exact hA
   .have:=bD (a:= -A) (b:=B) (by grind) pu
    grind
def VW{ds:List aa}(h:ds.Pairwise ce)(hd:vR ds)(hn:ds≠[]){x:aa}(hx: ∀d∈ds,d.cross x≠0): ∃i,i<ds.length/\ ∀d∈ds,Int.sign (d.cross x).num=Int.sign (d.cross (oP ds i)).num:=by
 have hne:(ds.filter fun d=>decide (0<d.cross x))≠[]:=by
  obtain⟨d,r,rfl⟩:=List.exists_cons_of_ne_nil hn;intro e;have h1: ¬0<d.cross x:=fun k=>by
   have:d∈(d::r).filter fun d=>decide (0<d.cross x):=iR.2 ⟨aQ,decide_eq_true k⟩;rw[e] at this;cases this
  have h2:=hx d aQ;have h3:0<(aO d).cross x:=by rw[fE,ng,<-fE];grind
  have:aO d∈(d::r).filter fun d=>decide (0<d.cross x):=iR.2 ⟨hd.neg d aQ,decide_eq_true h3⟩;rw[e] at this;cases this
 obtain⟨u,hu,hl⟩:=MG hne fun d hd=>of_decide_eq_true (iR.1 hd).2;obtain⟨hu1,hu2⟩:=iR.1 hu;have hux:=of_decide_eq_true hu2;obtain⟨i,hi,rfl⟩:=nJ hu1;have hj:(i+1)%ds.length<ds.length:=dK _ (by omega);have hnx:=Q2 h hd hi hj;have mw:=cN hj;refine⟨i,hi,?_⟩;have key: ∀d∈ds,0<d.cross x->0<d.cross (oP ds i):=fun d hdm hdx=>by
  have hdu:0<=d.cross ds[i]:=hl d (iR.2 ⟨hdm,decide_eq_true hdx⟩);unfold oP;rw[D2 hi,D2 hj];generalize ds[(i+1)%ds.length]=w at*;generalize ds[i]=u at*;have hp:=hnx.pos hd hu1 mw;have zd:=hd.nz d hdm;have zu:=hd.nz u hu1;split
  .rename_i k
   have hc:=(kC _).1 k;rw[N6];have hg:=hnx.gen hd hu1 mw (by grind) (a:=1) (b:=1) (by decide) (by decide) d hdm;have e:d.cross (ie 1 1 u w)=d.cross u+d.cross w:=by unfold aa.cross ie;grind
   rw[e] at hg⊢;by_cases hw:0<=d.cross w
   .grind
   .exfalso
    -- -d wG BP u and w
    rcases fg (d.cross u) with q|q|q
    .-- d runs along u
     have hdd:0<d.dot u:=by
      rcases fg (d.dot u) with r|r|r
      .exact absurd r (Dx zd zu q)
      .exact r
      .exfalso
       have q':(aO d).cross u=0:=by unfold aa.cross aO at*;grind
       have r':0<(aO d).dot u:=by unfold aa.dot aO at*;grind
       obtain⟨g,g1,g2⟩:=uX q' r';have:d.cross x= -(g*u.cross x):=by
        have h1:(aO d).x=g*u.x:=by rw[g2]
        have h2:(aO d).y=g*u.y:=by rw[g2]
        unfold aO at h1 h2;simp only at h1 h2;unfold aa.cross;grind
       have:=bD g1 hux;grind
     obtain⟨g,g1,g2⟩:=uX q hdd;have:d.cross w=g*u.cross w:=by rw[g2];unfold aa.cross;grind
     have:=bD g1 hc;grind
    .have hb:aO d=ie (-(d.cross w)/u.cross w) (d.cross u/u.cross w) u w:=by
      have hz:u.cross w≠0:=by grind
      have e1: -(d.cross w)/u.cross w*u.cross w= -(d.cross w):=by grind
      have e2:d.cross u/u.cross w*u.cross w=d.cross u:=by grind
      unfold aO ie;generalize-(d.cross w)/u.cross w=a at*;generalize d.cross u/u.cross w=b at*;simp only[aa.mk.injEq];have f1:(a*u.x+b*w.x+d.x)*u.cross w=0:=by
       have:(a*u.x+b*w.x+d.x)*u.cross w=a*u.cross w*u.x+b*u.cross w*w.x+d.x*u.cross w:=by grind
       rw[this,e1,e2];unfold aa.cross;grind
      have f2:(a*u.y+b*w.y+d.y)*u.cross w=0:=by
       have:(a*u.y+b*w.y+d.y)*u.cross w=a*u.cross w*u.y+b*u.cross w*w.y+d.y*u.cross w:=by grind
       rw[this,e1,e2];unfold aa.cross;grind
      constructor<;>grind
     refine hnx.none hd hu1 mw (by grind) (a:= -(d.cross w)/u.cross w) (b:=d.cross u/u.cross w) ?_ ?_ (by rw[<-hb];exact hd.neg d hdm)
     .refine(eD (k:=u.cross w) hc).1 ?_
      have e1: -(d.cross w)/u.cross w*u.cross w= -(d.cross w):=by grind
      rw[e1];grind
     .refine(eD (k:=u.cross w) hc).1 ?_
      have e1:d.cross u/u.cross w*u.cross w=d.cross u:=by grind
      rw[e1];exact q
    .grind
  .rename_i k
   have hc:u.cross w=0:=by have: ¬0<u.cross w:=fun e=>k ((kC _).2 e);grind
   have hg:=hnx.turn hd hu1 mw hc d hdm;rw[MR] at hg⊢;rcases fg (d.dot u) with r|r|r
   .exact absurd r hg
   .exact r
   .exfalso
    -- all directions run along u
    have hdc:d.cross u=0:=by
     rcases hnx.spec hd hu1 mw with⟨_,h2,_⟩|⟨h1,h2,h3⟩
     .rw[hc] at h2;exact absurd h2 (by decide)
     .have zw:=gE (hd.nz w mw)
      have zu':=gE zu;have zd':=gE zd;have hwu: ∃g:Rat,0<g/\w=⟨g*(aO u).x,g*(aO u).y⟩:=by
       refine uX (d:=aO u) (e:=w) (by rw[ng,fE,hc];grind) ?_;rcases fg (w.dot u) with s|s|s
       .exact absurd s (Dx (hd.nz w mw) zu (by rw[fE,hc];rfl))
       .exfalso
        obtain⟨g,g1,g2⟩:=uX (d:=u) (e:=w) (by rw[fE,hc];rfl) s;apply h1;rw[g2];rcases ld u with⟨x0,s0⟩|⟨x0,s0⟩|⟨x0,s0⟩
        .rw[x0]
         refine(mj.2 ?_).symm;rcases s0 with s0|⟨s0,s1⟩
         .exact .inl (bD g1 s0)
         .exact .inr ⟨by show g*u.y=0;rw[s0];grind,bD g1 s1⟩
        .rw[x0]
         refine(p7.2 ?_).symm;rcases s0 with s0|⟨s0,s1⟩
         .exact .inl (by show g*u.y<0;have:=bD (a:=g) (b:= -u.y) g1 (by grind);grind)
         .exact .inr ⟨by show g*u.y=0;rw[s0];grind,by show g*u.x<0;have:=bD (a:=g) (b:= -u.x) g1 (by grind);grind⟩
        .exact absurd x0 zu
       .unfold aa.dot aO at*;grind
      obtain⟨g,g1,g2⟩:=hwu;have cw: ∀e:aa,w.cross e=g* -(u.cross e):=fun e=>by rw[g2];unfold aa.cross aO;grind
      by_cases hh:d.half=u.half
      .have a1:=h2 d hdm hh
       have a2:=h3 _ (hd.neg d hdm) (by rw[tF zd];omega);rw[cw,ng,fE d u] at a2;rcases fg (d.cross u) with s|s|s
       .exact s
       .have:=bD g1 s;grind
       .grind
      .have a1:=h2 _ (hd.neg d hdm) (by rw[tF zd];omega)
       have a2:=h3 d hdm (by omega);rw[cw,fE d u] at a2;have e3:(aO d).cross u= -(d.cross u):=by unfold aa.cross aO;grind
       rw[e3] at a1;rcases fg (d.cross u) with s|s|s
       .exact s
       .grind
       .have:=bD (a:=g) (b:= -(d.cross u)) g1 (by grind);grind
    have q':(aO d).cross u=0:=by unfold aa.cross aO at*;grind
    have r':0<(aO d).dot u:=by unfold aa.dot aO at*;grind
    obtain⟨g,g1,g2⟩:=uX q' r';have:d.cross x= -(g*u.cross x):=by
     have h1:(aO d).x=g*u.x:=by rw[g2]
     have h2:(aO d).y=g*u.y:=by rw[g2]
     unfold aO at h1 h2;simp only at h1 h2;unfold aa.cross;grind
    have:=bD g1 hux;grind
 intro d hdm;rcases fg (d.cross x) with k|k|k
 .exact absurd k (hx d hdm)
 .rw[(pi _).2 k,(pi _).2 (key d hdm k)]
 .have en: ∀y:aa,(aO d).cross y= -(d.cross y):=fun y=>by unfold aa.cross aO;grind
  have:=key _ (hd.neg d hdm) (by rw[en];grind);rw[en] at this;rw[vV k,vV (by grind)]
def eg(v:aa):aa:=v.scale (rgcd v.x v.y)⁻¹
def d6(t:Tr)(p:aa):List aa:=(lG t p).flatMap fun l=>[eg l.dir,aO (eg l.dir)]
def iA(ds:List aa):List aa:=rF co ds
def pw{d:aa}:d∈d6 t p↔ ∃l∈lG t p,d=eg l.dir\/d=aO (eg l.dir):=by
 unfold d6;rw[iJ];constructor
 .rintro ⟨l,h1,h2⟩
  refine⟨l,h1,?_⟩;rcases aK.1 h2 with h|h
  .exact .inl h
  .exact .inr (aT.1 h)
 .rintro ⟨l,h1,rfl|rfl⟩
  .exact⟨l,h1,aQ⟩
  .exact⟨l,h1,aJ _ aQ⟩
def aA2(h:x≠0\/y≠0):0<rgcd x y:=by
 unfold rgcd;have hd:0<x.den*y.den:=iN x.den_pos y.den_pos;have hg:0<Nat.gcd (x.num.natAbs*y.den) (y.num.natAbs*x.den):=by
  rcases h with h|h
  .exact lN _ (iN (Int.natAbs_pos.2 fun e=>h (lQ.1 e)) y.den_pos)
  .exact oM _ (iN (Int.natAbs_pos.2 fun e=>h (lQ.1 e)) x.den_pos)
 generalize Nat.gcd (x.num.natAbs*y.den) (y.num.natAbs*x.den)=g at*;generalize x.den*y.den=d at*;rw[<-K1];have h1:mkRat (g:Int) d=(g:Rat)/(d:Rat):=by rw[mY];rfl
 rw[K1,h1];have hg':(0:Rat)<(g:Rat):=by exact_mod_cast hg
 have hd':(0:Rat)<(d:Rat):=by exact_mod_cast hd
 have e:(g:Rat)/(d:Rat)*(d:Rat)=(g:Rat):=by grind
 exact(eD (k:=(d:Rat)) hd').1 (by rw[e];exact hg')
def Ws(h:v.half≠0):v.x≠0\/v.y≠0:=by
 rcases ld v with⟨_,k⟩|⟨_,k⟩|⟨k,_⟩
 .rcases k with k|⟨_,k⟩
  .exact .inr (by grind)
  .exact .inl (by grind)
 .rcases k with k|⟨_,k⟩
  .exact .inr (by grind)
  .exact .inl (by grind)
 .exact absurd k h
def AO(h:v.half≠0): ∃a:Rat,0<a/\eg v=⟨a*v.x,a*v.y⟩:=by
 have hg:=aA2 (Ws h);refine⟨(rgcd v.x v.y)⁻¹,?_,?_⟩
 .generalize rgcd v.x v.y=g at*
  have e:g⁻¹*g=1:=by grind
  exact(eD (k:=g) hg).1 (by rw[e];decide)
 .unfold eg aa.scale
  simp only[aa.mk.injEq];constructor<;>grind
def aDn(v:aa):eg (aO v)=aO (eg v):=by
 have e:rgcd (-v.x) (-v.y)=rgcd v.x v.y:=by
  unfold rgcd;rw[mS,mS,qK,qK,jX,jX]
 unfold eg aa.scale aO;simp only[aa.mk.injEq,e];constructor<;>grind
def K9(h:v.half≠0):(eg v).half=v.half:=by
 obtain⟨a,a1,e⟩:=AO h;have:=Hq (a:=a) (b:=a) (u:=v) (w:=v) a1 a1 J h;rw[<-this];have h2:eg v=ie (a*(1/2)) (a*(1/2)) v v:=by rw[e];unfold ie;simp only[aa.mk.injEq];constructor<;>grind
 have h3:=Hq (a:=a*(1/2)) (b:=a*(1/2)) (u:=v) (w:=v) (bD a1 (by grind)) (bD a1 (by grind)) J h;rw[h2,h3,this]
def Nk:co u v=0↔u.half=v.half/\u.cross v=0:=by
 unfold co;split
 .constructor
  .intro h;exact absurd h (by decide)
  .intro h;omega
 .split
  .constructor
   .intro h;exact absurd h (by decide)
   .intro h;omega
  .constructor
   .intro h
    exact⟨by omega,(me _).1 (by omega)⟩
   .intro h
    rw[(me _).2 h.2];rfl
def uH(h:ce u v)(k:ce v w):ce u w:=by
 by_cases hu:u.half=0
 .by_cases hw:w.half=0
  .have z: ∀x y:aa,x.half=0->x.cross y=0:=fun x y hx=>by
    rcases ld x with⟨e,_⟩|⟨e,_⟩|⟨_,e1,e2⟩
    .rw[hx] at e;exact absurd e (by decide)
    .rw[hx] at e;exact absurd e (by decide)
    .unfold aa.cross;rw[e1,e2];grind
   rcases h with h|⟨h,h'⟩
   .rcases k with k|⟨k,k'⟩
    .omega
    .have hv:v.half≠0:=by omega
     omega
   .rw[z u v hu] at h';exact absurd h' (by decide)
  .refine .inl ?_
   have h1:=gE hw;omega
 .have hv:v.half≠0:=by
   intro e;rcases h with h|⟨h,_⟩
   .have:=gE hu;omega
   .omega
  have hw:w.half≠0:=by
   intro e;rcases k with k|⟨k,_⟩
   .have:=gE hv;omega
   .omega
  exact ce.trans hu hv hw h k
section
variable (c:α->α->Int)
def Rh{x y:α}: ∀{xs:List α},y∈xs->y∈dw c x xs
 |[],h=>by cases h
 |u::t,h=>by
  rw[dw];split
  .rcases aK.1 h with rfl|h
   .exact aQ
   .exact aJ _ (Rh h)
  .split
   .exact h
   .exact aJ _ h
def Pq{x:α}: ∀{xs:List α},∃e∈dw c x xs,e=x\/c e x=0
 |[]=>⟨x,aQ, .inl J⟩
 |u::t=>by
  rw[dw];split
  .obtain⟨e,h1,h2⟩:=Pq (x:=x) (xs:=t)
   exact⟨e,aJ _ h1,h2⟩
  .split
   .exact⟨u,aQ, .inr (by assumption)⟩
   .exact⟨x,aQ, .inl J⟩
def Pr{y:α}: ∀{l o:List α},y∈o->y∈l.foldl (fun out x=>dw c x out) o
 |[],o,h=>h
 |x::t,o,h=>Pr (l:=t) (Rh c h)
def HW{d:α}: ∀{l o:List α},d∈l-> ∃e∈l.foldl (fun out x=>dw c x out) o,e=d\/c e d=0
 |[],o,h=>by cases h
 |x::t,o,h=>by
  rcases aK.1 h with rfl|h
  .obtain⟨e,h1,h2⟩:=Pq c (x:=d) (xs:=o)
   exact⟨e,Pr c (l:=t) h1,h2⟩
  .exact HW (l:=t) h
end
def RO(ds:List aa):(iA ds).Pairwise ce:=by
 have:=M1 (c:=co) (fun u v w h k=>mE.2 (uH (mE.1 h) (mE.1 k))) (fun u v h k=>mE.2 (aDu.1 (by omega))) (l:=ds) (o:=[]) List.Pairwise.nil;exact this.imp fun h=>mE.1 h
def Rs{l:ah}(hl:l.ok)(hm:m.ok)(h1:l.value p=0)(h2:m.value p=0){d e:aa}(hd:d=eg l.dir\/d=aO (eg l.dir))(he:e=eg m.dir\/e=aO (eg m.dir))(h:co d e=0):d=e:=by
 obtain⟨hh,hc⟩:=Nk.1 h;have zl:=tA hl;have zm:=tA hm;have zpl:(eg l.dir).half≠0:=by rw[K9 zl];exact zl
 have zpm:(eg m.dir).half≠0:=by rw[K9 zm];exact zm
 have cr:l.dir.cross m.dir=0:=by
  obtain⟨a,a1,e1⟩:=AO zl;obtain⟨b,b1,e2⟩:=AO zm;have c0:(eg l.dir).cross (eg m.dir)=0:=by
   rcases hd with rfl|rfl<;>rcases he with rfl|rfl
   .exact hc
   .rw[ng] at hc;grind
   .rw[fE,ng] at hc;rw[fE];grind
   .rw[ng,fE,ng] at hc;rw[fE];grind
  have e3:(eg l.dir).cross (eg m.dir)=(a*b)*l.dir.cross m.dir:=by rw[e1,e2];unfold aa.cross;grind
  have hab:=bD a1 b1;rw[e3] at c0;clear e1 e2 e3;generalize a*b=k at*;generalize l.dir.cross m.dir=z at*;rcases fg z with q|q|q
  .exact q
  .have:=bD hab q;grind
  .have:=bD (a:=k) (b:= -z) hab (by grind);grind
 have dirR: ∀k:ah,k.rev.dir=aO k.dir:=fun k=>by
  unfold ah.dir ah.rev aO;simp only[aa.mk.injEq,iL]
  try constructor<;>grind
 have cdir: ∀k:ah,k.canon.dir=k.dir\/k.canon.dir=aO k.dir:=fun k=>by
  unfold ah.canon;split
  .exact .inr (dirR k)
  .exact .inl J
 have cval: ∀k:ah,k.value p=0->k.canon.value p=0:=fun k hk=>by rcases Kj k p with e|e<;>rw[e,hk]<;>rfl
 have okc: ∀k:ah,k.ok->k.canon.ok:=fun k hk=>by unfold ah.canon;split;exact hk.rev;exact hk
 have ec:l.canon=m.canon:=aFG (okc l hl) (okc m hm) (Nd hl) (Nd hm) (cval l h1) (cval m h2) (by
  rcases cdir l with e1|e1<;>rcases cdir m with e2|e2<;>rw[e1,e2]
  .exact cr
  .rw[ng,cr];rfl
  .rw[fE,ng,fE,cr];rfl
  .rw[ng,fE,ng,fE,cr];rfl)
 have hdir:l.dir=m.dir\/l.dir=aO m.dir:=by
  have e1:=cdir l;have e2:=cdir m;rw[ec] at e1;rcases e1 with e1|e1<;>rcases e2 with e2|e2
  .exact .inl (e1.symm.trans e2)
  .exact .inr (e1.symm.trans e2)
  .right;rw[<-e2,e1,B4]
  .left;rw[<-B4 l.dir,<-e1,e2,B4]
 have hP:eg l.dir=eg m.dir\/eg l.dir=aO (eg m.dir):=by
  rcases hdir with e|e
  .exact .inl (by rw[e])
  .exact .inr (by rw[e,aDn])
 have hn:=tF zpm;have h3:=gE zpm;have key:d=eg m.dir\/d=aO (eg m.dir):=by
  rcases hd with rfl|rfl<;>rcases hP with e|e
  .exact .inl e
  .exact .inr e
  .exact .inr (by rw[e])
  .exact .inl (by rw[e,B4])
 rcases key with rfl|rfl<;>rcases he with rfl|rfl
 .rfl
 .exfalso;omega
 .exfalso;omega
 .rfl
def O1(ht:t.all ah.ok)(p:aa):(iA (d6 t p)).Pairwise ce/\vR (iA (d6 t p))/\ ∀y,y∈iA (d6 t p)↔y∈d6 t p:=by
 have h2: ∀y,y∈iA (d6 t p)->y∈d6 t p:=fun y hy=>by
  rcases Bb co hy with h|h
  .exact h
  .cases h
 have h3: ∀y,y∈d6 t p->y∈iA (d6 t p):=fun y hy=>by
  obtain⟨e,e1,e2⟩:=HW co (o:=[]) hy;rcases e2 with rfl|e2
  .exact e1
  .obtain⟨l,k1,k2⟩:=pw.1 hy
   obtain⟨m,k3,k4⟩:=pw.1 (h2 e e1);obtain⟨a1,a2⟩:=oz k1;obtain⟨b1,b2⟩:=oz k3;rw[<-Rs (gF ht _ b1) (gF ht _ a1) b2 a2 k4 k2 e2];exact e1
 refine⟨RO _,⟨fun d hd=>?_,fun d hd=>?_⟩,fun y=>⟨h2 y,h3 y⟩⟩
 .obtain⟨l,k1,k2⟩:=pw.1 (h2 d hd)
  have z:=tA (gF ht _ (oz k1).1);have z2:(eg l.dir).half≠0:=by rw[K9 z];exact z
  rcases k2 with rfl|rfl
  .exact z2
  .exact WB z2
 .obtain⟨l,k1,k2⟩:=pw.1 (h2 d hd)
  refine h3 _ (pw.2 ⟨l,k1,?_⟩);rcases k2 with rfl|rfl
  .exact .inr J
  .exact .inl (B4 _)
def Rd(ht:t.all ah.ok)(hv:v∈lc (iA (d6 t p))):Gn (lG t p) p v:=by
 obtain⟨h1,h2,h3⟩:=O1 ht p;have key:(∀d∈iA (d6 t p),d.cross v≠0)->Gn (lG t p) p v:=fun k l hl hz e=>by
  have z:=tA (gF ht _ (oz hl).1);obtain⟨a,a1,a2⟩:=AO z;refine k _ ((h3 _).2 (pw.2 ⟨l,hl, .inl J⟩)) ?_;rw[<-ru] at e;have:(eg l.dir).cross v=a*l.dir.cross v:=by rw[a2];unfold aa.cross;grind
  rw[this,e];grind
 generalize iA (d6 t p)=ds at*;unfold lc at hv;split at hv
 .rename_i hn
  refine key fun d hd=>?_;rw[List.length_eq_zero_iff.1 hn] at hd;cases hd
 .obtain⟨i,hi,rfl⟩:=aU.1 hv
  rw[jR] at hi;have hj:(i+1)%ds.length<ds.length:=dK _ (by omega);have hx:=Q2 h1 h2 hi hj;have mu:=cN hi;have mw:=cN hj;have hp:=hx.pos h2 mu mw;refine key ?_;unfold oP;rw[D2 hi,D2 hj];split
  .rename_i k
   have hc:=(kC _).1 k;rw[N6];exact hx.gen h2 mu mw (by grind) (by decide) (by decide)
  .rename_i k
   exact hx.turn h2 mu mw (by have: ¬0<ds[i].cross ds[(i+1)%ds.length]:=fun e=>k ((kC _).2 e);grind)
def O7(ht:t.all ah.ok){x:aa}(hx:Gn (lG t p) p x): ∃v∈lc (iA (d6 t p)),(gg t p v).1=(gg t p x).1:=by
 obtain⟨h1,h2,h3⟩:=O1 ht p;have cr: ∀l∈lG t p,∃a:Rat,0<a/\ ∀y,(eg l.dir).cross y=a*l.nor.dot y:=fun l hl=>by
  obtain⟨a,a1,a2⟩:=AO (tA (gF ht _ (oz hl).1));exact⟨a,a1,fun y=>by rw[a2,<-ru];unfold aa.cross;grind⟩
 by_cases hn:iA (d6 t p)=[]
 .refine⟨⟨1,0⟩,by unfold lc;rw[if_pos (by rw[hn];rfl)];exact aQ,?_⟩
  rw[CG fun l hl=>?_];have:=(h3 _).2 (pw.2 ⟨l,hl, .inl J⟩);rw[hn] at this;cases this
 .obtain⟨i,hi,hs⟩:=VW h1 h2 hn (x:=x) fun d hd=>by
   obtain⟨l,k1,k2⟩:=pw.1 ((h3 d).1 hd);obtain⟨a,a1,a2⟩:=cr l k1;have hz:=hx l k1 (oz k1).2;have e:(eg l.dir).cross x≠0:=by rw[a2];grind
   rcases k2 with rfl|rfl
   .exact e
   .intro q;apply e;unfold aa.cross aO at*;grind
  refine⟨oP (iA (d6 t p)) i,?_,?_⟩
  .unfold lc
   rw[if_neg (by omega)];exact aU.2 ⟨i,jR.2 hi,J⟩
  .rw[CG fun l hl=>?_]
   have:=hs _ ((h3 _).2 (pw.2 ⟨l,hl, .inl J⟩));obtain⟨a,a1,a2⟩:=cr l hl;rw[a2,a2] at this;have sg: ∀z:Rat,Int.sign (a*z).num=Int.sign z.num:=fun z=>by
    rcases fg z with k|k|k
    .subst k;rw[show a*0=0 by grind]
    .rw[(pi _).2 k,(pi _).2 (bD a1 k)]
    .rw[vV k,vV (by have:=bD (a:=a) (b:= -z) a1 (by grind);grind)]
   rw[sg,sg] at this;exact this.symm
def ra(t:Tr)(p:aa):Bool:=(lc (iA (d6 t p))).any fun v=>(gg t p v).1
def vC(t:Tr)(p:aa):Bool:=(lc (iA (d6 t p))).all fun v=>(gg t p v).1
def d8(t:Tr)(p:aa):Int:=if ra t p&&vC t p then 2 else if ra t p then 1 else 0
def BC(ht:t.all ah.ok):ra t p=true↔i6 t p true:=by
 unfold ra;rw[gQ];constructor
 .rintro ⟨v,h1,h2⟩;exact⟨v,Rd ht h1,h2⟩
 .rintro ⟨x,h1,h2⟩
  obtain⟨v,k1,k2⟩:=O7 ht h1;exact⟨v,k1,by rw[k2,h2]⟩
def EL(ht:t.all ah.ok):vC t p=true↔ ¬i6 t p false:=by
 unfold vC;rw[dW];constructor
 .rintro h ⟨x,h1,h2⟩
  obtain⟨v,k1,k2⟩:=O7 ht h1;have:=h v k1;rw[k2,h2] at this;cases this
 .intro h v hv
  cases hb:(gg t p v).1 with
  |true=>rfl
  |false=>exact absurd ⟨v,Rd ht hv,hb⟩ h
def Xi{u:Tr}(ht:t.all ah.ok)(hu:u.all ah.ok)(h: ∀b,i6 t p b↔i6 u p b):d8 t p=d8 u p:=by
 have h1:ra t p=ra u p:=by rw[oJ,BC ht,BC hu,h]
 have h2:vC t p=vC u p:=by rw[oJ,EL ht,EL hu,h]
 unfold d8;rw[h1,h2]
def aqQ(t:Tr)(p:aa):d8 t p=0\/d8 t p=1\/d8 t p=2:=by
 unfold d8;split
 .exact .inr (.inr J)
 .split
  .exact .inr (.inl J)
  .exact .inl J
def u9(ht:t.all ah.ok):d8 t p=2↔ ¬i6 t p false:=by
 unfold d8;constructor
 .intro h
  split at h
  .rename_i k;rw[bT] at k;exact(EL ht).1 k.2
  .split at h<;>exact absurd h (by decide)
 .intro h
  have h1:=(EL ht).2 h;have h2:=(BC ht).2 ((WD ht p).resolve_right h);rw[h1,h2];rfl
def w7(ht:t.all ah.ok):d8 t p=0↔ ¬i6 t p true:=by
 unfold d8;constructor
 .intro h k
  rw[(BC ht).2 k] at h;split at h
  .exact absurd h (by decide)
  .exact absurd h (by decide)
 .intro h
  have h1:ra t p=false:=by
   cases e:ra t p with
   |false=>rfl
   |true=>exact absurd ((BC ht).1 e) h
  rw[h1];rfl
def aqB(ht:t.all ah.ok)(p:aa):d8 (t.restrict []) p=d8 t p:=by
 have hu:=t.restrict_all ah.ok [] ht;have hv: ∀q,cj t.lns q->(t.restrict []).val q=t.val q:=fun q hq=>t.val_restrict [] q ht bC.nil (JS q) hq;refine Xi hu ht fun b=>⟨fun h=>?_,fun h=>?_⟩
 .obtain⟨x,y,h1,h2,h3⟩:=TE (f:=fun x _=>x) hu ht ht (fun q _ h2 _=>hv q h2) h
  subst h3;exact h1
 .obtain⟨x,y,h1,h2,h3⟩:=TE (f:=fun x _=>x) ht hu hu (fun q h1 _ _=>(hv q h1).symm) h
  subst h3;exact h1
def JY{p v:aa}: ∀{u:Tr},cj u.lns p->(gg u p v).1=u.val p
 | .leaf b,_=>rfl
 | .node l x y,ho=>by
  have h0:=ho.l;rw[gg,if_neg (fun e=>h0 ((me _).1 e))];by_cases k:0<l.value p
  .rw[(pi _).2 k,Tr.val_pos k];exact JY ho.x
  .rw[vV (by grind),Tr.val_neg k];exact JY ho.y
def Wq(ht:t.all ah.ok)(h:cj t.lns p):d8 t p=if t.val p then 2 else 0:=by
 have key: ∀b,i6 t p b->t.val p=b:=fun b ⟨v,_,h2⟩=>by rw[<-h2,JY h]
 cases hb:t.val p with
 |true=>exact(u9 ht).2 fun k=>by have:=key _ k;rw[hb] at this;cases this
 |false=>exact(w7 ht).2 fun k=>by have:=key _ k;rw[hb] at this;cases this
def ry(u:aa): ¬ce u u:=by
 rintro (h|⟨_,h⟩)
 .omega
 .have:u.cross u=0:=by unfold aa.cross;grind
  rw[this] at h;exact absurd h (by decide)
def zt(h:ce u v)(k:ce v u):False:=ry u (uH h k)
def Eb{x y:aa}(h: ¬ce x y)(k: ¬ce y x):co x y=0:=by
 rw[<-mE] at h k;unfold co at*;split at h<;>try omega
 split at h<;>try omega
 split at k<;>try omega
 rw[show y.cross x= -(x.cross y) by unfold aa.cross;grind,mS,Int.sign_neg] at k;omega
def zq(vs:List ao):c9 8 (vs.map eV):=fun d hd=>by
 obtain⟨u,_,rfl⟩:=aU.1 hd;exact⟨rfl,rfl⟩
def e7(qs:List Rat):c9 3 (qs.map eQ):=fun d hd=>by
 obtain⟨u,_,rfl⟩:=aU.1 hd;exact⟨rfl,rfl⟩
def SH(bs:List Bool):c9 1 (bs.map vB):=fun d hd=>by
 obtain⟨u,_,rfl⟩:=aU.1 hd;exact⟨rfl,rfl⟩
def Xb{v:ao}{t:Rat}{a b:Int}(h:l[k]? =some v)(ha:a=if v.nl then 1 else bz t v.lo)(hb:b=if v.nh then-1 else bz t v.hi):
  vE (l.drop k) t=if 0<a/\b<0 then 2 else if(a=0/\b<=0)\/(b=0/\0<=a) then 1 else vE (l.drop (k+1)) t:=by
 obtain⟨hk,rfl⟩:=aS.1 h;rw[bJ hk,vE,ha,hb]
structure n8 (v:ao):Prop where
 lo:BQ v.lo 1200
 hi:BQ v.hi 1200
def ZM{t:Rat}[ht:BQ t i](hb: ∀v∈l,n8 v)(hn:l.length<=100000)(hi:i<=20000:=by decide):PF GB prog 332 [.sl (l.map eV),eQ t] (vI (vE l t)):=by
 have hm:=eO eV l;refine fn (fu:=⟨11⟩) func332 J J ntmps332 J J (fun C=>?_);refine aj 10 (.d (vI (l.length:Nat))) J (by rw[hm]<;>rfl)<|gx J<|lp (X:=Nat) (fun k=>[(11, .d (vI (k:Nat)))]) (fun k=>[]) (fun k=>k<=l.length/\vE (l.drop k) t=vE l t) (fun k=>l.length-k) 0 J ⟨bV _,J⟩ (fun _=>J) (fun k hk=>?_);obtain⟨h1,h2⟩:=hk;refine br J J J (fun hc12=>?_) (fun hc12=>?_)
 .
  obtain⟨v,hz⟩: ∃s,l[k]? =some s:=⟨_,aZ (by omega)⟩;have hv:=hb v (aV hz);haveI:=hv.lo;haveI:=hv.hi;refine ix (fu:=⟨12⟩) _ J (cD hz) J<|mg (fu:=⟨1⟩) (X:=Int) (fun a=>[(7, .d (vI a))]) (fun a=>[]) (fun a=>a=if v.nl then 1 else bz t v.lo) [7] [] rfl ?_ (fun _=>J) (fun a ha=>?_)
  .
   refine gx J<|bb J J J (fun hc17=>?_) (fun hc17=>?_)
   .
    refine cl J (mp (a:=t) (b:=v.lo) (i:=i) (by omega)) J<|at_ (bz t v.lo) (by rw[if_neg (by simpa using hc17)])
   .
    exact at_ 1 (by rw[if_pos (by simpa using hc17)])
  .
   refine mg (X:=Int) (fun b=>[(8, .d (vI b))]) (fun b=>[]) (fun b=>b=if v.nh then-1 else bz t v.hi) [8] [] rfl ?_ (fun _=>J) (fun b hb'=>?_)
   .
    refine gx J<|bb J J J (fun hc24=>?_) (fun hc24=>?_)
    .
     refine cl J (mp (a:=t) (b:=v.hi) (i:=i) (by omega)) J<|at_ (bz t v.hi) (by rw[if_neg (by simpa using hc24)])
    .
     exact at_ (-1) (by rw[if_pos (by simpa using hc24)])
   .
    have hst:=Xb hz ha hb';refine cs 31 J J J (fun hg31=>?_) (fun hg31=>?_)
    .
     refine br J J J (fun hc34=>?_) (fun hc34=>?_)
     .
      exact rz J (by first|(rw[<-h2,fW];rfl)|(rw[<-h2,hst,if_pos (by omega)];rfl)|(rw[<-h2,hst,if_neg (by omega),if_pos (by omega)];rfl))
     .
      refine cs 37 J J J (fun hg37=>?_) (fun hg37=>?_)
      .
       refine cs 41 J J J (fun hg41=>?_) (fun hg41=>?_)
       .
        exact rz J (by first|(rw[<-h2,fW];rfl)|(rw[<-h2,hst,if_pos (by omega)];rfl)|(rw[<-h2,hst,if_neg (by omega),if_pos (by omega)];rfl))
       .
        refine cs 44 J J J (fun hg44=>?_) (fun hg44=>?_)
        .
         refine br J J J (fun hc48=>?_) (fun hc48=>?_)
         .
          exact rz J (by first|(rw[<-h2,fW];rfl)|(rw[<-h2,hst,if_pos (by omega)];rfl)|(rw[<-h2,hst,if_neg (by omega),if_pos (by omega)];rfl))
         .
          exact at_ (k+1) ⟨⟨by omega,by rw[<-h2,hst,if_neg (by omega),if_neg (by omega)]⟩,(by omega)⟩
        .
         exact at_ (k+1) ⟨⟨by omega,by rw[<-h2,hst,if_neg (by omega),if_neg (by omega)]⟩,(by omega)⟩
      .
       refine cs 44 J J J (fun hg44=>?_) (fun hg44=>?_)
       .
        refine br J J J (fun hc48=>?_) (fun hc48=>?_)
        .
         exact rz J (by first|(rw[<-h2,fW];rfl)|(rw[<-h2,hst,if_pos (by omega)];rfl)|(rw[<-h2,hst,if_neg (by omega),if_pos (by omega)];rfl))
        .
         exact at_ (k+1) ⟨⟨by omega,by rw[<-h2,hst,if_neg (by omega),if_neg (by omega)]⟩,(by omega)⟩
       .
        exact at_ (k+1) ⟨⟨by omega,by rw[<-h2,hst,if_neg (by omega),if_neg (by omega)]⟩,(by omega)⟩
    .
     refine cs 37 J J J (fun hg37=>?_) (fun hg37=>?_)
     .
      refine cs 41 J J J (fun hg41=>?_) (fun hg41=>?_)
      .
       exact rz J (by first|(rw[<-h2,fW];rfl)|(rw[<-h2,hst,if_pos (by omega)];rfl)|(rw[<-h2,hst,if_neg (by omega),if_pos (by omega)];rfl))
      .
       refine cs 44 J J J (fun hg44=>?_) (fun hg44=>?_)
       .
        refine br J J J (fun hc48=>?_) (fun hc48=>?_)
        .
         exact rz J (by first|(rw[<-h2,fW];rfl)|(rw[<-h2,hst,if_pos (by omega)];rfl)|(rw[<-h2,hst,if_neg (by omega),if_pos (by omega)];rfl))
        .
         exact at_ (k+1) ⟨⟨by omega,by rw[<-h2,hst,if_neg (by omega),if_neg (by omega)]⟩,(by omega)⟩
       .
        exact at_ (k+1) ⟨⟨by omega,by rw[<-h2,hst,if_neg (by omega),if_neg (by omega)]⟩,(by omega)⟩
     .
      refine cs 44 J J J (fun hg44=>?_) (fun hg44=>?_)
      .
       refine br J J J (fun hc48=>?_) (fun hc48=>?_)
       .
        exact rz J (by first|(rw[<-h2,fW];rfl)|(rw[<-h2,hst,if_pos (by omega)];rfl)|(rw[<-h2,hst,if_neg (by omega),if_pos (by omega)];rfl))
       .
        exact at_ (k+1) ⟨⟨by omega,by rw[<-h2,hst,if_neg (by omega),if_neg (by omega)]⟩,(by omega)⟩
      .
       exact at_ (k+1) ⟨⟨by omega,by rw[<-h2,hst,if_neg (by omega),if_neg (by omega)]⟩,(by omega)⟩
 .
  obtain rfl:k=l.length:=by omega
  exact rz J (by first|(rw[<-h2,fW];rfl)|(rw[<-h2,hst,if_pos (by omega)];rfl)|(rw[<-h2,hst,if_neg (by omega),if_pos (by omega)];rfl))
def Rk{t:Rat}[ht:BQ t i](hb: ∀v∈l,n8 v)(hn:l.length<=100000)(hi:i<=20000:=by decide):PF GB prog 317 [.sl (l.map eV),eQ t] (vB (gO l t)):=by
 refine fn func317 J J ntmps317 J J (fun C=>?_);refine cl J (ZM (l:=l) (t:=t) hb hn hi) J<|rz J J
def J0: ∀{l:List Rat} {i:Nat} {a b:Rat},l[i]? =some a->l[i+1]? =some b->i9 (l.take (i+2))=i9 (l.take (i+1))++[(a+b)/2]
 |[],i,a,b,h,_=>by simp at h
 |[_],i,a,b,h,k=>by simp at k
 |c::d::t,0,a,b,h,k=>by
  simp at h k;subst h;subst k;simp[i9]
 |c::d::t,i+1,a,b,h,k=>by
  have:=J0 (l:=d::t) (i:=i) (by simpa using h) (by simpa using k);rw[show(c::d::t).take (i+1+2)=c::d::t.take (i+1) by simp,show(c::d::t).take (i+1+1)=c::d::t.take i by simp,i9,i9,iX];congr 1
def Cn: ∀l:List Rat,(i9 l).length<=l.length
 |[]=>bW _
 |[_]=>bV _
 |a::b::t=>by rw[i9,aN,aN];exact Nat.succ_le_succ (Cn (b::t))
def Py{a:Rat}{t:List Rat}(h:(a::t)[t.length]? =some z):cp (a::t)=(a-1)::(i9 (a::t)++[z+1]):=by
 rw[cp];have:(a::t).getLast (by simp)=z:=by
  rw[List.getLast_eq_getElem];have:=aS.1 h;obtain⟨h1,h2⟩:=this;rw[<-h2];congr 1
 rw[this]
def aBb(hb: ∀q∈cuts,BQ q 1200)(hn:cuts.length<=100000):PF GB prog 316 [.sl (cuts.map eQ)] (.sl ((cp cuts).map eQ)):=by
 have hm:=eO eQ cuts;refine fn (fu:=⟨10⟩) func316 J J ntmps316 J J (fun C=>?_);refine aj 6 (.d (vI (cuts.length:Nat))) J (by rw[hm]<;>rfl)<|gx J<|br J J J (fun hc7=>?_) (fun hc7=>?_)
 .
  obtain rfl:cuts=[]:=cW (by omega);refine rf J J<|rz J (by rw[cp];show DV.sl [_]=DV.sl [_];rw[GN])
 .
  obtain⟨a,ct,rfl⟩: ∃a t,cuts=a::t:=by cases cuts with|nil=>exact absurd rfl hc7|cons a t=>exact⟨a,t,rfl⟩
  haveI hab:=hb a aQ;have hcl:ct.length+1<=100000:=hn;refine ix _ J J J<|cl J (jl (n:=1)) J<|cl (fu:=⟨0⟩) J (rB (a:=a) (b:=((1:Int):Rat))) J<|aj 14 (.d (eQ (a-1))) J J<|gx J<|ro J J<|lp (fu:=⟨6⟩) (X:=Nat) (fun i=>[(4, .d (vI ((i+1:Nat):Int))),(3, .rw 15)]) (fun i=>[(15,some (.b 50 3 (((a-1)::i9 ((a::ct).take (i+1))).map eQ) true))]) (fun i=>i<=ct.length) (fun i=>ct.length-i) 0 J (bV _) (fun _=>J) (fun i hk=>?_);have hm2:=eO eQ (a::ct);have hml:=Cn (a::ct.take i);rw[aN,bR] at hml;have hml2:=Cn (a::ct);rw[aN] at hml2;refine aj 18 (.d (vI ((ct.length+1:Nat):Int))) J (by rw[hm2]<;>rfl)<|gx J<|br (fu2:=⟨11⟩) J J J (fun hc19=>?_) (fun hc19=>?_)
  .
   obtain⟨u,hu⟩: ∃s,(a::ct)[i]? =some s:=⟨_,aZ (by simp;omega)⟩;obtain⟨w,hw⟩: ∃s,(a::ct)[i+1]? =some s:=⟨_,aZ (by simp;omega)⟩;haveI:=hb u (aV hu);haveI:=hb w (aV hw);refine ix _ J (by rw[show((((i+1:Nat):Int))-1).toNat=i by omega,cV,hu];rfl) J<|ix _ J (by rw[cZ,cV,hw];rfl) J<|?_;refine cl J (EM (a:=u) (b:=w)) J<|rf J J<|ap (hv:=by simp only[ak];exact⟨by kernel_rfl,by omega⟩) (((a-1)::i9 ((a::ct).take (i+1+1))).map eQ) J (by rw[J0 hu hw,<-iX,bX];rfl) (e7 [(u+w)/2]) J<|fw 34 15 J<|at_ (i+1) ⟨(by omega),(by omega)⟩
  .
   obtain rfl:i=ct.length:=by omega
   obtain⟨z,hz⟩: ∃s,(a::ct)[ct.length]? =some s:=⟨_,aZ (by simp)⟩;haveI:=hb z (aV hz);rw[show(a::ct).take (ct.length+1)=a::ct from dQ (l:=a::ct)];refine aj 38 (.d (vI ((ct.length+1:Nat):Int))) J (by rw[hm2]<;>rfl)<|gx J<|ix _ J (by rw[show((((ct.length+1:Nat):Int))-1).toNat=ct.length by omega,cV,hz];rfl) J<|cl J (jl (n:=1)) J<|?_;refine cl J (nE (a:=z) (b:=((1:Int):Rat))) J<|rf J J<|ap ((cp (a::ct)).map eQ) J (by rw[Py hz,<-iX,bX];rfl) (e7 [z+1]) J<|iu 45 J<|rz J J
def N2(o:List Rat)(s:ao):(oo o s).length<=o.length+2:=by
 unfold oo;have h:=fun(x:Rat) (l:List Rat)=>Ac (x:=x) (l:=l)▸D6 bz x l;have h1:=h s.lo o;have h2:=h s.hi o;have h3:=h s.hi (kE s.lo o);split<;>split<;>omega
def qn(l:List ao)(k:Nat):List Rat:=kz (l.take k)
def Lc{v:ao}(h:l[k]? =some v):qn l (k+1)=oo (qn l k) v:=by
 unfold qn kz;rw[dR,h,oT];rfl
def E1(l:List ao): ∀k,(qn l k).length<=2*k
 |0=>bW _
 |k+1=>by
  cases h:l[k]? with
  |none=>
   have:=E1 l k;unfold qn at*;rw[dR,h];simp;omega
  |some v=>rw[Lc h];have:=E1 l k;have:=N2 (qn l k) v;omega
theorem Rr(hb: ∀v∈l,n8 v): ∀y∈qn l k,BQ y 1200:=fun y hy=>by
 obtain⟨s,hs,h⟩:=(Sa _).2 y hy;have:=hb s (eX hs);rcases h with⟨_,rfl⟩|⟨_,rfl⟩
 .exact this.lo
 .exact this.hi
def sv(o:List Rat)(v:ao)(j:Nat):List Rat:=if j=0 then o else if j=1 then(if v.nl then o else kE v.lo o) else oo o v
def A3(v:ao)(j:Nat):Rat:=if j=0 then v.lo else v.hi
def qo(v:ao)(j:Nat):Bool:=if j=0 then v.nl else v.nh
def uS{v:ao}(hj:j<2:=by decide):sv o v (j+1)=if qo v j then sv o v j else dw bz (A3 v j) (sv o v j):=by
 have:j=0\/j=1:=by omega
 rcases this with rfl|rfl
 .simp[sv,qo,A3,Ac]
 .simp[sv,qo,A3,oo,Ac]
def ayY{v:ao}(hj:j<=2):(sv o v j).length<=o.length+2:=by
 unfold sv;have:=N2 o v;have h:=Ac (x:=v.lo) (l:=o)▸D6 bz v.lo o;split
 .omega
 .split
  .split<;>omega
  .exact this
theorem aDc(ho: ∀q∈o,BQ q 1200){v:ao}(hv:n8 v)(hj:j<=2): ∀q∈sv o v j,BQ q 1200:=fun q hq=>by
 unfold sv oo at hq;have lo:=hv.lo;have hi:=hv.hi;split at hq
 .exact ho q hq
 .split at hq
  .split at hq
   .exact ho q hq
   .rcases qH.1 hq with rfl|hq
    .exact lo
    .exact ho q hq
  .split at hq
   .split at hq
    .exact ho q hq
    .rcases qH.1 hq with rfl|hq
     .exact lo
     .exact ho q hq
   .rcases qH.1 hq with rfl|hq
    .exact hi
    .split at hq
     .exact ho q hq
     .rcases qH.1 hq with rfl|hq
      .exact lo
      .exact ho q hq
def Yv(hb: ∀v∈l,n8 v)(hn:l.length<=10000):PF GB prog 315 [.sl (l.map eV)] (.sl ((kz l).map eQ)):=by
 have hm:=eO eV l;refine fn (fu:=⟨15⟩) func315 J J ntmps315 J J (fun C=>?_);refine aj 10 (.d (vI (l.length:Nat))) J (by rw[hm]<;>rfl)<|gx J<|CC 3 J<|lp (X:=List Rat×Nat) (fun⟨o,k⟩=>[(11, .d (vI (k:Nat))),(3, .d (.sl (o.map eQ)))]) (fun⟨o,k⟩=>[]) (fun⟨o,k⟩=>o=qn l k/\k<=l.length) (fun⟨o,k⟩=>l.length-k) ([],0) J ⟨J,bV _⟩ (fun _=>J) (fun⟨o,k⟩ hk=>?_);dsimp only at hk⊢;obtain⟨h1,h2⟩:=hk;refine br J J J (fun hc12=>?_) (fun hc12=>?_)
 .
  obtain⟨v,hz⟩: ∃s,l[k]? =some s:=⟨_,aZ (by omega)⟩;have hv:=hb v (aV hz);haveI:=hv.lo;haveI:=hv.hi;have hob:=Rr hb (k:=k);have hol:=E1 l k;rw[<-h1] at hob hol;refine ix _ J (cD hz) J<|rf J J<|lp (X:=List Rat×Nat) (fun⟨xs,j⟩=>[(21, .d (vI (j:Nat))),(3, .d (.sl (xs.map eQ)))]) (fun⟨xs,j⟩=>[]) (fun⟨xs,j⟩=>xs=sv o v j/\j<=2) (fun⟨xs,j⟩=>2-j) (o,0) J ⟨J,by omega⟩ (fun _=>J) (fun⟨xs,j⟩ hk=>?_);dsimp only at hk⊢;obtain⟨g1,g2⟩:=hk;refine br J J J (fun hc22=>?_) (fun hc22=>?_)
  .
   have hj2:j<2:=by have:=hc22;simp only[aN,dT] at this;omega
   obtain⟨m,hm2⟩: ∃m,m=A3 v j:=⟨_,rfl⟩;haveI hmb:BQ m 1200:=by rw[hm2];unfold A3;split;exact hv.lo;exact hv.hi
   have hxl:=eO eQ xs;have hxn:xs.length<=2*k+2:=by rw[g1];have:=ayY (o:=o) (v:=v) (j:=j) g2;omega
   have hxb: ∀q∈xs,BQ q 1200:=by rw[g1];exact aDc hob hv g2
   refine ix (fu:=⟨10⟩) _ rfl (by rw[cZ];exact(show([v.lo,v.hi].map eQ)[j]? =some (eQ m) by rw[hm2];have:j=0\/j=1:=(by omega);rcases this with rfl|rfl<;>rfl)) rfl<|?_;rcases(show j=0\/j=1 by omega) with rfl|rfl
   .
    refine dP J J J<|iC (fu2:=⟨1⟩) 32 J J J (fun hg32=>?_) (fun hg32=>?_)
    .
     exact at_ (xs,0+1) (by dsimp only;exact⟨⟨by rw[uS,if_pos (by simpa[qo] using hg32),<-g1],by omega⟩,(by omega)⟩)
    .
     refine cg (fu:=⟨16⟩) J J J<|mg (fu:=⟨5⟩) (X:=Nat) (fun n=>[(8, .d (vI (n:Nat)))]) (fun n=>[]) (fun n=>mn bz m xs=n) [8] [] rfl ?_ (fun _=>J) (fun n hnx=>?_)
     .
      refine gx J<|lp (fu:=⟨6⟩) (X:=Nat) (fun n=>[(8, .d (vI (n:Nat)))]) (fun n=>[]) (fun n=>n<=xs.length/\ ∀j (h:j<xs.length),j<n->bz xs[j] m<0) (fun n=>xs.length-n) 0 J ⟨bV _,fun j _ hj=>absurd hj (by omega)⟩ (fun _=>J) (fun n hk=>?_);obtain⟨n1,n2⟩:=hk;refine kj (v2:=fun hg43=>by simp only[ak];kernel_rfl) J J J J (fun hg43=>?_) (fun hg43=>?_)
      .
       refine ix _ J (uu) J<|cl J (mp (a:=xs[n]'(by omega)) (b:=m) (ha:=hxb _ (cN (by omega))) (hb:=hmb)) J<|br J J J (fun hc52=>?_) (fun hc52=>?_)
       .
        exact at_ (n+1) ⟨⟨by omega,fun j h hj=>by by_cases q:j=n;(subst q;exact hc52);exact n2 j h (by omega)⟩,(by omega)⟩
       .
        exact at_ n (vG bz n1 n2 (fun h=>hc52))
      .
       exact at_ n (vG bz n1 n2 (fun h=>absurd h (by omega)))
     .
      have hnl:n<=xs.length:=by rw[<-hnx];exact Ep _ _ _
      refine kj (v1:=fun hg58=>by simp only[ak];kernel_rfl) J J J J (fun hg58=>?_) (fun hg58=>?_)
      .
       have hnew: ∀h:n<xs.length,bz xs[n] m≠0:=fun h=>absurd h (by omega);obtain⟨ys,hys⟩: ∃ys,ys=xs.take n++m::xs.drop n:=⟨_,rfl⟩;have hin:dw bz m xs=ys:=by rw[hys];exact tq bz hnx hnew
       have hyl:ys.length<=xs.length+1:=by rw[hys];simp;omega
       refine s3 n _ J J J J (e7 _) (by rw[hxl];exact hnl) J<|ro J J<|kI n xs.length _ J J (by rw[hxl]) J (e7 _) hnl (by omega) J<|ap _ J J (tI e7 _ _ _) J<|lP (hv:=by simp only[ak];exact⟨by kernel_rfl,by omega⟩) (ho:=fun _=>⟨uE e7 _ _,by simp⟩) (ys.map eQ) J (by rw[hys,bX,bU,iT,jV,bM (l:=xs.map eQ) (i:=xs.length) (by simp)];rfl) (vK e7 _ _ _ _) J<|at_ (ys,0+1) (by dsimp only;exact⟨⟨by rw[uS,if_neg (by simpa[qo] using hg32),<-g1,<-hm2,hin],by omega⟩,(by omega)⟩)
      .
       refine ix _ J (uu) J<|cl J (mp (a:=xs[n]'(by omega)) (b:=m) (ha:=hxb _ (cN (by omega))) (hb:=hmb)) J<|br (fu2:=⟨7⟩) J J J (fun hc67=>?_) (fun hc67=>?_)
       .
        have hnew: ∀h:n<xs.length,bz xs[n] m≠0:=fun h=>hc67;obtain⟨ys,hys⟩: ∃ys,ys=xs.take n++m::xs.drop n:=⟨_,rfl⟩;have hin:dw bz m xs=ys:=by rw[hys];exact tq bz hnx hnew
        have hyl:ys.length<=xs.length+1:=by rw[hys];simp;omega
        refine s3 n _ J J J J (e7 _) (by rw[hxl];exact hnl) J<|ro J J<|kI n xs.length _ J J (by rw[hxl]) J (e7 _) hnl (by omega) J<|ap _ J J (tI e7 _ _ _) J<|lP (hv:=by simp only[ak];exact⟨by kernel_rfl,by omega⟩) (ho:=fun _=>⟨uE e7 _ _,by simp⟩) (ys.map eQ) J (by rw[hys,bX,bU,iT,jV,bM (l:=xs.map eQ) (i:=xs.length) (by simp)];rfl) (vK e7 _ _ _ _) J<|at_ (ys,0+1) (by dsimp only;exact⟨⟨by rw[uS,if_neg (by simpa[qo] using hg32),<-g1,<-hm2,hin],by omega⟩,(by omega)⟩)
       .
        have hin:dw bz m xs=xs:=Bw bz hnx (by omega) (Decidable.not_not.1 hc67);exact at_ (xs,0+1) (by dsimp only;exact⟨⟨by rw[uS,if_neg (by simpa[qo] using hg32),<-g1,<-hm2,hin],by omega⟩,(by omega)⟩)
   .
    refine cg (fu:=⟨6⟩) J J J<|dP J J J<|bb (fu2:=⟨8⟩) J J J (fun hc39=>?_) (fun hc39=>?_)
    .
     exact at_ (xs,1+1) (by dsimp only;exact⟨⟨by rw[uS,if_pos (by simpa[qo] using hc39),<-g1],by omega⟩,(by omega)⟩)
    .
     refine mg (fu:=⟨5⟩) (X:=Nat) (fun n=>[(8, .d (vI (n:Nat)))]) (fun n=>[]) (fun n=>mn bz m xs=n) [8] [] rfl ?_ (fun _=>J) (fun n hnx=>?_)
     .
      refine gx J<|lp (fu:=⟨6⟩) (X:=Nat) (fun n=>[(8, .d (vI (n:Nat)))]) (fun n=>[]) (fun n=>n<=xs.length/\ ∀j (h:j<xs.length),j<n->bz xs[j] m<0) (fun n=>xs.length-n) 0 J ⟨bV _,fun j _ hj=>absurd hj (by omega)⟩ (fun _=>J) (fun n hk=>?_);obtain⟨n1,n2⟩:=hk;refine kj (v2:=fun hg43=>by simp only[ak];kernel_rfl) J J J J (fun hg43=>?_) (fun hg43=>?_)
      .
       refine ix _ J (uu) J<|cl J (mp (a:=xs[n]'(by omega)) (b:=m) (ha:=hxb _ (cN (by omega))) (hb:=hmb)) J<|br J J J (fun hc52=>?_) (fun hc52=>?_)
       .
        exact at_ (n+1) ⟨⟨by omega,fun j h hj=>by by_cases q:j=n;(subst q;exact hc52);exact n2 j h (by omega)⟩,(by omega)⟩
       .
        exact at_ n (vG bz n1 n2 (fun h=>hc52))
      .
       exact at_ n (vG bz n1 n2 (fun h=>absurd h (by omega)))
     .
      have hnl:n<=xs.length:=by rw[<-hnx];exact Ep _ _ _
      refine kj (v1:=fun hg58=>by simp only[ak];kernel_rfl) J J J J (fun hg58=>?_) (fun hg58=>?_)
      .
       have hnew: ∀h:n<xs.length,bz xs[n] m≠0:=fun h=>absurd h (by omega);obtain⟨ys,hys⟩: ∃ys,ys=xs.take n++m::xs.drop n:=⟨_,rfl⟩;have hin:dw bz m xs=ys:=by rw[hys];exact tq bz hnx hnew
       have hyl:ys.length<=xs.length+1:=by rw[hys];simp;omega
       refine s3 n _ J J J J (e7 _) (by rw[hxl];exact hnl) J<|ro J J<|kI n xs.length _ J J (by rw[hxl]) J (e7 _) hnl (by omega) J<|ap _ J J (tI e7 _ _ _) J<|lP (hv:=by simp only[ak];exact⟨by kernel_rfl,by omega⟩) (ho:=fun _=>⟨uE e7 _ _,by simp⟩) (ys.map eQ) J (by rw[hys,bX,bU,iT,jV,bM (l:=xs.map eQ) (i:=xs.length) (by simp)];rfl) (vK e7 _ _ _ _) J<|at_ (ys,1+1) (by dsimp only;exact⟨⟨by rw[uS,if_neg (by simpa[qo] using hc39),<-g1,<-hm2,hin],by omega⟩,(by omega)⟩)
      .
       refine ix _ J (uu) J<|cl J (mp (a:=xs[n]'(by omega)) (b:=m) (ha:=hxb _ (cN (by omega))) (hb:=hmb)) J<|br J J J (fun hc67=>?_) (fun hc67=>?_)
       .
        have hnew: ∀h:n<xs.length,bz xs[n] m≠0:=fun h=>hc67;obtain⟨ys,hys⟩: ∃ys,ys=xs.take n++m::xs.drop n:=⟨_,rfl⟩;have hin:dw bz m xs=ys:=by rw[hys];exact tq bz hnx hnew
        have hyl:ys.length<=xs.length+1:=by rw[hys];simp;omega
        refine s3 n _ J J J J (e7 _) (by rw[hxl];exact hnl) J<|ro J J<|kI n xs.length _ J J (by rw[hxl]) J (e7 _) hnl (by omega) J<|ap _ J J (tI e7 _ _ _) J<|lP (hv:=by simp only[ak];exact⟨by kernel_rfl,by omega⟩) (ho:=fun _=>⟨uE e7 _ _,by simp⟩) (ys.map eQ) J (by rw[hys,bX,bU,iT,jV,bM (l:=xs.map eQ) (i:=xs.length) (by simp)];rfl) (vK e7 _ _ _ _) J<|at_ (ys,1+1) (by dsimp only;exact⟨⟨by rw[uS,if_neg (by simpa[qo] using hc39),<-g1,<-hm2,hin],by omega⟩,(by omega)⟩)
       .
        have hin:dw bz m xs=xs:=Bw bz hnx (by omega) (Decidable.not_not.1 hc67);exact at_ (xs,1+1) (by dsimp only;exact⟨⟨by rw[uS,if_neg (by simpa[qo] using hc39),<-g1,<-hm2,hin],by omega⟩,(by omega)⟩)
  .
   have hj2: ¬j<2:=by have:=hc22;simp only[aN,dT] at this;omega
   exact at_ (xs,k+1) (by dsimp only;exact⟨⟨by rw[Lc hz,<-h1,g1,show j=2 by omega];rfl,by omega⟩,(by omega)⟩)
 .
  have hfin:kz l=o:=by rw[h1,show k=l.length by omega];unfold qn;rw[dQ]
  exact rz J (by rw[hfin];rfl)
def ZO(t:Rat):eV ⟨t,0,false,true⟩= .ag [.v (.bool (decide (t.num<0))),dN t.num.natAbs,dD t.den, .v (.bool false), .sl [], .sl [], .v (.bool false), .v (.bool true)]:=by
 unfold eV dD;simp only[show(0:Rat).num=0 from J,show(0:Rat).den=1 from J,lT,nk];rfl
def XM(t:Rat):eV ⟨0,t,true,false⟩= .ag [.v (.bool false), .sl [], .sl [], .v (.bool (decide (t.num<0))),dN t.num.natAbs,dD t.den, .v (.bool true), .v (.bool false)]:=by
 unfold eV dD;simp only[show(0:Rat).num=0 from J,show(0:Rat).den=1 from J,lT,nk];rfl
def A1(l m:ah)(side:Int):DV:= .tp [.sl ((js l m side).map eV),vB (mI l m)]
def Tw{l:ah}(h:crossI l m≠0):mI l m=false:=by unfold mI;rw[decide_eq_false];exact fun e=>h e.1
def Sn{l:ah}(h:crossI l m=0):mI l m=decide ((m.value l.base).num.sign=0):=by unfold mI;simp[h]
def RJ{l:ah}[hl:LB l][hm:LB m](hlo:l.ok)(hmo:m.ok)(hs:side=1\/side= -1):PF GB prog 285 [eL l,eL m,vI side] (A1 l m side):=by
 refine fn func285 J J ntmps285 J J (fun C=>?_);refine cl J (K3 (l:=l) (m:=m)) J<|bb J J J (fun hc19=>?_) (fun hc19=>?_)
 .
  have hc:crossI l m=0:=by simpa using hc19
  refine cl J (Fi hlo.ne) J<|cl J (B6 (l:=m) (p:=l.base)) J<|br J J J (fun hc26=>?_) (fun hc26=>?_)
  .
   refine cl J S1 J<|rf J J<|rz J (by unfold A1 js;rw[if_pos hc,if_pos hc26,Sn hc];rfl)
  .
   exact rz J (by unfold A1 js;rw[if_pos hc,if_neg hc26,Sn hc];rfl)
 .
  have hc:crossI l m≠0:=by simpa using hc19
  haveI hpb:=CQ (l:=l) (m:=m) hlo.ne hc;obtain⟨t,ht⟩: ∃t,t=ju l (dm l m):=⟨_,rfl⟩;refine cl (fu:=⟨0⟩) J (DO (l:=l) (p:=dm l m) hlo.ne) J<|aj 35 (.d (eQ t)) J (by rw[ht]) ?_;rw[<-ht] at hpb;refine gx J<|cl J (jl (n:=1)) J<|cl J (nE (a:=t) (b:=((1:Int):Rat))) J<|cl J (SM (l:=l) (t:=t+((1:Int):Rat)) hlo.ne) J<|cl J (B6 (l:=m) (p:=l.at (t+((1:Int):Rat)))) J<|br J J J (fun hc44=>?_) (fun hc44=>?_)
  .
   refine rf J J<|rz J (by unfold A1 js;rw[if_neg hc,<-ht,if_pos (show(m.value (l.at (t+1))).num.sign=side from hc44),Tw hc,bU,ZO];rfl)
  .
   refine rf J J<|rz J (by unfold A1 js;rw[if_neg hc,<-ht,if_neg (show¬(m.value (l.at (t+1))).num.sign=side from hc44),Tw hc,bU,XM];rfl)
def fA(f:bu):DV:= .ag [.v (.bool (decide (f.l.a<0))),dN f.l.a.natAbs, .v (.bool (decide (f.l.b<0))),dN f.l.b.natAbs, .v (.bool (decide (f.l.c<0))),dN f.l.c.natAbs, .v (.bool (decide (f.v.lo.num<0))),dN f.v.lo.num.natAbs,dD f.v.lo.den, .v (.bool (decide (f.v.hi.num<0))),dN f.v.hi.num.natAbs,dD f.v.hi.den, .v (.bool f.v.nl), .v (.bool f.v.nh)]
def yt(fs:List bu):c9 14 (fs.map fA):=fun d hd=>by
 obtain⟨u,_,rfl⟩:=aU.1 hd;exact⟨rfl,rfl⟩
theorem vg{p:ZP}(h:ZP.le 100 p):aE p.q 12:=by
 haveI:BI p.1 11:=m9 (by have:=h.1;omega);haveI:BI p.2 11:=m9 (by have:=h.2;omega);exact(inferInstance:aE (iP p.1 p.2) 12)
def Ux{v w:ZP}(hv:ZP.le 100 v)(hw:ZP.le 100 w)(h:v≠w):PF GB prog 228 [eP v.q,eP w.q] (.tp [fA (FB v w),vB true]):=by
 have hne: ¬(w.1=v.1/\w.2=v.2):=fun e=>h (Prod.ext e.1.symm e.2.symm);obtain⟨hlb,hlo⟩:=TB (m:=v.1) (n:=v.2) (p:=w.1) (q:=w.2) (by have:=hv.1;omega) (by have:=hv.2;omega) (by have:=hw.1;omega) (by have:=hw.2;omega) hne;haveI:=hlb;haveI:=vg hv;haveI:=vg hw;refine fn func228 J J ntmps228 J J (fun C=>?_);refine cl (fu:=⟨3⟩) J (LR (m:=v.1) (n:=v.2) (m':=w.1) (n':=w.2) (by have:=hv.1;omega) (by have:=hv.2;omega) (by have:=hw.1;omega) (by have:=hw.2;omega) (fun e=>hne ⟨e.1.symm,e.2.symm⟩)) J<|ll 13 J<|gx J<|cl J (DO (l:=nv v.1 v.2 w.1 w.2) (p:=v.q) hlo.ne) J<|cl J (DO (l:=nv v.1 v.2 w.1 w.2) (p:=w.q) hlo.ne) J<|rz J J
def aJv(a b:Bool):eV ⟨0,0,a,b⟩= .ag [.v (.bool false), .sl [], .sl [], .v (.bool false), .sl [], .sl [], .v (.bool a), .v (.bool b)]:=by
 unfold eV dD;simp only[show(0:Rat).num=0 from J,show(0:Rat).den=1 from J,lT,nk];rfl
def M8(t:Rat)(a b:Bool):eV ⟨t,0,a,b⟩= .ag [.v (.bool (decide (t.num<0))),dN t.num.natAbs,dD t.den, .v (.bool false), .sl [], .sl [], .v (.bool a), .v (.bool b)]:=by
 unfold eV dD;simp only[show(0:Rat).num=0 from J,show(0:Rat).den=1 from J,lT,nk];rfl
def aJA(t:Rat)(a b:Bool):eV ⟨0,t,a,b⟩= .ag [.v (.bool false), .sl [], .sl [], .v (.bool (decide (t.num<0))),dN t.num.natAbs,dD t.den, .v (.bool a), .v (.bool b)]:=by
 unfold eV dD;simp only[show(0:Rat).num=0 from J,show(0:Rat).den=1 from J,lT,nk];rfl
def Vu(h:i=0)(k: ¬i<cuts.length):fy cuts i=⟨0,0,decide (i=0),decide (i=cuts.length)⟩:=by unfold fy;rw[if_pos h,if_neg k]
def aCO(h:i=0)(k:cuts[i]? =some y):fy cuts i=⟨0,y,decide (i=0),decide (i=cuts.length)⟩:=by
 unfold fy;rw[if_pos h,if_pos (aS.1 k).1,aW,k];rfl
def aDU(h: ¬i=0)(k:cuts[i-1]? =some x)(k2: ¬i<cuts.length):fy cuts i=⟨x,0,decide (i=0),decide (i=cuts.length)⟩:=by
 unfold fy;rw[if_neg h,if_neg k2,aW,k];rfl
def VK(h: ¬i=0)(k:cuts[i-1]? =some x)(k2:cuts[i]? =some y):fy cuts i=⟨x,y,decide (i=0),decide (i=cuts.length)⟩:=by
 unfold fy;rw[if_neg h,if_pos (aS.1 k2).1,aW,k,aW,k2];rfl
def azS(h:marks[k]? =some false):io cuts marks (k+1)=io cuts marks k:=by
 rw[io,aW,h];rfl
def F3(h:marks[k]? =some true)(hp: ¬(0<k/\marks[k-1]? =some true)):io cuts marks (k+1)=io cuts marks k++[fy cuts k]:=by
 rw[io,aW,h];show(if 0<k/\_ then _ else _)=_;rw[if_neg];rintro ⟨h1,h2⟩;rw[aW] at h2
 cases e:marks[k-1]? with
 |none=>rw[e] at h2;cases h2
 |some b=>rw[e] at h2;exact hp ⟨h1,by rw[e];simp at h2;rw[h2]⟩
def Ua(h:marks[k]? =some true):io cuts marks (k+1)≠[]:=by
 rw[io,aW,h];show(if 0<k/\_ then _ else _)≠[];split
 .split<;>simp
 .simp
def Qt{v:ao}(hk:0<k)(h:marks[k]? =some true)(hp:marks[k-1]? =some true)(hx:io cuts marks k=xs)(hv:xs[xs.length-1]? =some v):io cuts marks (k+1)=xs.set (xs.length-1) (vj v (fy cuts k)):=by
 rw[io,aW,h];show(if 0<k/\_ then _ else _)=_;rw[if_pos ⟨hk,by rw[aW,hp];rfl⟩,hx,oZ,hv];have hn:0<xs.length:=by
  have:=(aS.1 hv).1;omega
 show xs.dropLast++[_]=_;apply kY;intro i;rw[qJ];by_cases hi:i<xs.length-1
 .rw[fN (by rw[mL];exact hi),List.getElem?_dropLast,if_pos hi,if_neg (by omega)]
 .by_cases hi2:i=xs.length-1
  .subst hi2
   rw[gV (by rw[mL];exact bW _),mL,qW,if_pos J,if_pos (by omega)];rfl
  .rw[dS (by rw[aY,mL];simp;omega),if_neg (by omega),dS (by omega)]
def ze{f:α->DV}{l:List α}{x:α}(hk:0<k)(h:l[k-1]? =some x):(l.map f)[(((k:Nat):Int)-1).toNat]? =some (f x):=by
 rw[show(((k:Nat):Int)-1).toNat=k-1 by omega,cV,h];rfl
def rG:decide (k=n)=decide (((k:Nat):Int)=((n:Nat):Int)):=decide_eq_decide.2 (by omega)
def aGq(hn:cuts.length<=100000)(hmk:marks.length<=cuts.length+1):PF GB prog 318 [.sl (cuts.map eQ), .sl (marks.map vB)] (.sl ((wo cuts marks).map eV)):=by
 have hm:=eO vB marks;have hmc:=eO eQ cuts;refine fn (fu:=⟨15⟩) func318 J J ntmps318 J J (fun C=>?_);refine aj 11 (.d (vI (marks.length:Nat))) J (by rw[hm]<;>rfl)<|gx J<|nr 5 5 134 8 J J J<|lp (X:=List ao×Nat) (fun⟨xs,k⟩=>[(12, .d (vI (k:Nat))),(5, .rw 5)]) (fun⟨xs,k⟩=>[(5,some (.b 134 8 (xs.map eV) true))]) (fun⟨xs,k⟩=>xs=io cuts marks k/\k<=marks.length) (fun⟨xs,k⟩=>marks.length-k) ([],0) J ⟨J,bV _⟩ (fun _=>J) (fun⟨xs,k⟩ hk=>?_);dsimp only at hk⊢;obtain⟨h1,h2⟩:=hk;have hml:=eO eV xs;have hxl:xs.length<=k:=by rw[h1];exact IB
 refine br J J J (fun hc13=>?_) (fun hc13=>?_)
 .
  obtain⟨b,hz⟩: ∃s,marks[k]? =some s:=⟨_,aZ (by omega)⟩;refine ix (fu:=⟨8⟩) _ J (cD hz) J<|?_
  cases b
  .
   refine cg (fu:=⟨12⟩) J J J<|at_ (xs,k+1) (by dsimp only;exact⟨⟨by rw[azS hz,<-h1],by omega⟩,(by omega)⟩)
  .
   refine dP (fu:=⟨13⟩) J J J<|?_;rcases(show(k=0/\k<cuts.length)\/(k=0/\ ¬k<cuts.length)\/(0<k/\k<cuts.length)\/(0<k/\ ¬k<cuts.length) by omega) with⟨c1,c2⟩|⟨c1,c2⟩|⟨c1,c2⟩|⟨c1,c2⟩
   .
    obtain⟨y,hy⟩: ∃s,cuts[k]? =some s:=⟨_,aZ (by omega)⟩;have hgap:=aCO (cuts:=cuts) (i:=k) c1 hy;have hnp: ¬(0<k/\marks[k-1]? =some true):=fun e=>by omega
    refine aj 23 (.d (vI (cuts.length:Nat))) J (by rw[hmc]<;>rfl)<|gx (fu:=⟨10⟩) J<|cg (fu:=⟨11⟩) J (by show some (decide _)=some false;rw[decide_eq_false (by omega)]) J<|aj 36 (.d (vI (cuts.length:Nat))) J (by rw[hmc]<;>rfl)<|gx (fu:=⟨0⟩) J<|dP J (by show some (decide _)=some true;rw[decide_eq_true (by omega)]) J<|ix (fu:=⟨10⟩) _ J (cD hy) J<|aj 44 (.d (vI (xs.length:Nat))) J (by rw[hml]<;>rfl)<|gx (fu:=⟨6⟩) J<|cg (fu:=⟨19⟩) J (by show some (decide _)=some false;rw[decide_eq_false (by omega)]) J<|aj 73 (.d (eV (fy cuts k))) J (by rw[hgap,aJA,rG (k:=k) (n:=0),rG (k:=k) (n:=cuts.length)]<;>rfl)<|gx J<|rf J J<|ap (fu:=⟨12⟩) ((xs++[fy cuts k]).map eV) J (by rw[bX];rfl) (zq [fy cuts k]) J<|fw 75 5 J<|at_ (xs++[fy cuts k],k+1) (by dsimp only;exact⟨⟨by rw[F3 hz hnp,<-h1],by omega⟩,(by omega)⟩)
   .
    have hgap:=Vu (cuts:=cuts) (i:=k) c1 c2;have hnp: ¬(0<k/\marks[k-1]? =some true):=fun e=>by omega
    refine aj 23 (.d (vI (cuts.length:Nat))) J (by rw[hmc]<;>rfl)<|gx (fu:=⟨10⟩) J<|cg (fu:=⟨11⟩) J (by show some (decide _)=some false;rw[decide_eq_false (by omega)]) J<|aj 36 (.d (vI (cuts.length:Nat))) J (by rw[hmc]<;>rfl)<|gx (fu:=⟨0⟩) J<|cg (fu:=⟨10⟩) J (by show some (decide _)=some false;rw[decide_eq_false (by omega)]) J<|aj 44 (.d (vI (xs.length:Nat))) J (by rw[hml]<;>rfl)<|gx (fu:=⟨6⟩) J<|cg (fu:=⟨19⟩) J (by show some (decide _)=some false;rw[decide_eq_false (by omega)]) J<|aj 73 (.d (eV (fy cuts k))) J (by rw[hgap,aJv,rG (k:=k) (n:=0),rG (k:=k) (n:=cuts.length)]<;>rfl)<|gx J<|rf J J<|ap (fu:=⟨12⟩) ((xs++[fy cuts k]).map eV) J (by rw[bX];rfl) (zq [fy cuts k]) J<|fw 75 5 J<|at_ (xs++[fy cuts k],k+1) (by dsimp only;exact⟨⟨by rw[F3 hz hnp,<-h1],by omega⟩,(by omega)⟩)
   .
    obtain⟨x,hx⟩: ∃s,cuts[k-1]? =some s:=⟨_,aZ (by omega)⟩;obtain⟨pb,hpb⟩: ∃s,marks[k-1]? =some s:=⟨_,aZ (by omega)⟩;obtain⟨y,hy⟩: ∃s,cuts[k]? =some s:=⟨_,aZ (by omega)⟩;have hgap:=VK (cuts:=cuts) (i:=k) (by omega) hx hy;refine aj 23 (.d (vI (cuts.length:Nat))) J (by rw[hmc]<;>rfl)<|gx (fu:=⟨10⟩) J<|dP J (by show some (decide _)=some true;rw[decide_eq_true (by omega)]) J<|ix (fu:=⟨11⟩) _ J (ze (by omega) hx) J<|aj 36 (.d (vI (cuts.length:Nat))) J (by rw[hmc]<;>rfl)<|gx (fu:=⟨0⟩) J<|dP J (by show some (decide _)=some true;rw[decide_eq_true (by omega)]) J<|ix (fu:=⟨10⟩) _ J (cD hy) J<|aj 44 (.d (vI (xs.length:Nat))) J (by rw[hml]<;>rfl)<|gx (fu:=⟨6⟩) J<|dP J (by show some (decide _)=some true;rw[decide_eq_true (by omega)]) J<|ix _ J (ze (by omega) hpb) J<|iC (fu1:=⟨1⟩) (fu2:=⟨11⟩) 54 J J J (fun hg54=>?_) (fun hg54=>?_)
    .
     have hpb':marks[k-1]? =some true:=by rw[hpb];congr 1
     have hxn:0<xs.length:=by rw[h1];have:=Ua (cuts:=cuts) hpb';rw[show k-1+1=k by omega] at this;exact nX.2 this
     obtain⟨w,hw⟩: ∃s,xs[xs.length-1]? =some s:=⟨_,aZ (by omega)⟩;refine dP J (by show some (decide _)=some true;rw[decide_eq_true (by omega)]) J<|sb (eV w) ((xs.set (xs.length-1) (⟨w.lo,y,w.nl,w.nh⟩:ao)).map eV) J (ze hxn hw) J (by rw[show(((xs.length:Nat):Int)-1).toNat=xs.length-1 by omega,kQ];rfl) J<|sb (hv:=by simp only[ak];exact⟨by kernel_rfl,by omega⟩) (eV (⟨w.lo,y,w.nl,w.nh⟩:ao)) ((xs.set (xs.length-1) (vj w (fy cuts k))).map eV) J (by rw[show(((xs.length:Nat):Int)-1).toNat=xs.length-1 by omega,kQ,pS (by rw[hml];omega)]) J (by rw[show(((xs.length:Nat):Int)-1).toNat=xs.length-1 by omega,kQ,List.set_set,kQ,hgap];unfold vj;dsimp only;rw[rG (k:=k) (n:=cuts.length)]<;>rfl) J<|?_;exact at_ (xs.set (xs.length-1) (vj w (fy cuts k)),k+1) (by dsimp only;exact⟨⟨(Qt (by omega) hz hpb' h1.symm hw).symm,by omega⟩,(by omega)⟩)
    .
     have hnp: ¬(0<k/\marks[k-1]? =some true):=fun e=>by rw[hpb,hg54] at e;simpa using e.2
     refine aj 73 (.d (eV (fy cuts k))) J (by rw[hgap];unfold eV;dsimp only;rw[rG (k:=k) (n:=0),rG (k:=k) (n:=cuts.length)]<;>rfl)<|gx J<|rf J J<|ap (fu:=⟨12⟩) ((xs++[fy cuts k]).map eV) J (by rw[bX];rfl) (zq [fy cuts k]) J<|fw 75 5 J<|at_ (xs++[fy cuts k],k+1) (by dsimp only;exact⟨⟨by rw[F3 hz hnp,<-h1],by omega⟩,(by omega)⟩)
   .
    obtain⟨x,hx⟩: ∃s,cuts[k-1]? =some s:=⟨_,aZ (by omega)⟩;obtain⟨pb,hpb⟩: ∃s,marks[k-1]? =some s:=⟨_,aZ (by omega)⟩;have hgap:=aDU (cuts:=cuts) (i:=k) (by omega) hx c2;refine aj 23 (.d (vI (cuts.length:Nat))) J (by rw[hmc]<;>rfl)<|gx (fu:=⟨10⟩) J<|dP J (by show some (decide _)=some true;rw[decide_eq_true (by omega)]) J<|ix (fu:=⟨11⟩) _ J (ze (by omega) hx) J<|aj 36 (.d (vI (cuts.length:Nat))) J (by rw[hmc]<;>rfl)<|gx (fu:=⟨0⟩) J<|cg (fu:=⟨10⟩) J (by show some (decide _)=some false;rw[decide_eq_false (by omega)]) J<|aj 44 (.d (vI (xs.length:Nat))) J (by rw[hml]<;>rfl)<|gx (fu:=⟨6⟩) J<|dP J (by show some (decide _)=some true;rw[decide_eq_true (by omega)]) J<|ix _ J (ze (by omega) hpb) J<|iC (fu1:=⟨1⟩) (fu2:=⟨11⟩) 54 J J J (fun hg54=>?_) (fun hg54=>?_)
    .
     have hpb':marks[k-1]? =some true:=by rw[hpb];congr 1
     have hxn:0<xs.length:=by rw[h1];have:=Ua (cuts:=cuts) hpb';rw[show k-1+1=k by omega] at this;exact nX.2 this
     obtain⟨w,hw⟩: ∃s,xs[xs.length-1]? =some s:=⟨_,aZ (by omega)⟩;refine dP J (by show some (decide _)=some true;rw[decide_eq_true (by omega)]) J<|sb (eV w) ((xs.set (xs.length-1) (⟨w.lo,0,w.nl,w.nh⟩:ao)).map eV) J (ze hxn hw) J (by rw[show(((xs.length:Nat):Int)-1).toNat=xs.length-1 by omega,kQ,M8];rfl) J<|sb (hv:=by simp only[ak];exact⟨by kernel_rfl,by omega⟩) (eV (⟨w.lo,0,w.nl,w.nh⟩:ao)) ((xs.set (xs.length-1) (vj w (fy cuts k))).map eV) J (by rw[show(((xs.length:Nat):Int)-1).toNat=xs.length-1 by omega,kQ,pS (by rw[hml];omega)]) J (by rw[show(((xs.length:Nat):Int)-1).toNat=xs.length-1 by omega,kQ,List.set_set,kQ,hgap];unfold vj;dsimp only;rw[rG (k:=k) (n:=cuts.length)]<;>rfl) J<|?_;exact at_ (xs.set (xs.length-1) (vj w (fy cuts k)),k+1) (by dsimp only;exact⟨⟨(Qt (by omega) hz hpb' h1.symm hw).symm,by omega⟩,(by omega)⟩)
    .
     have hnp: ¬(0<k/\marks[k-1]? =some true):=fun e=>by rw[hpb,hg54] at e;simpa using e.2
     refine aj 73 (.d (eV (fy cuts k))) J (by rw[hgap,M8,rG (k:=k) (n:=0),rG (k:=k) (n:=cuts.length)]<;>rfl)<|gx J<|rf J J<|ap ((xs++[fy cuts k]).map eV) J (by rw[bX];rfl) (zq [fy cuts k]) J<|fw 75 5 J<|at_ (xs++[fy cuts k],k+1) (by dsimp only;exact⟨⟨by rw[F3 hz hnp,<-h1],by omega⟩,(by omega)⟩)
 .
  have hfin:wo cuts marks=xs:=by rw[h1,wo,show k=marks.length by omega]
  refine iu 5 J<|rz J (by rw[hfin];rfl)
def Kz{g:Rat}: ∀{l:List Rat},g∈i9 l-> ∃a∈l,∃b∈l,g=(a+b)/2
 |[],h=>by cases h
 |[_],h=>by cases h
 |a::b::t,h=>by
  rw[i9] at h;rcases aK.1 h with rfl|h
  .exact⟨a,aQ,b,aJ _ aQ,J⟩
  .obtain⟨c,hc,d,hd,e⟩:=Kz h
   exact⟨c,aJ _ hc,d,aJ _ hd,e⟩
theorem VF{l:List Rat}(h: ∀q∈l,BQ q 1200): ∀g∈cp l,BQ g 2500:=fun g hg=>by
 cases l with
 |nil=>
  rw[cp,aT] at hg;subst hg;exact BQ.mono (k:=1) ⟨by decide,by decide⟩
 |cons a t=>
  rw[cp] at hg;rcases aK.1 hg with rfl|hg
  .haveI:=h a aQ
   exact BQ.mono (inferInstance:BQ (a-1) _) (by omega)
  .rcases aL.1 hg with hg|hg
   .obtain⟨c,hc,d,hd,rfl⟩:=Kz hg
    haveI:=h c hc;haveI:=h d hd;exact BQ.mono (inferInstance:BQ ((c+d)/2) _) (by omega)
   .rw[aT] at hg
    haveI:=h _ (List.getLast_mem (l:=a::t) (by simp));subst hg;exact BQ.mono (inferInstance:BQ ((a::t).getLast (by simp)+1) _) (by omega)
def NO(l:List ao):qn l l.length=kz l:=by unfold qn;rw[dQ]
theorem Wk(h: ∀v∈l,n8 v): ∀y∈kz l,BQ y 1200:=by rw[<-NO];exact Rr h
def Hd(l:List ao):(kz l).length<=2*l.length:=by rw[<-NO];exact E1 l _
def n8.app{b:List ao}(ha: ∀v∈a,n8 v)(hb: ∀v∈b,n8 v): ∀v∈a++b,n8 v:=fun v hv=>(aL.1 hv).elim (ha v) (hb v)
def Lz{b:List ao}(ha: ∀v∈a,n8 v)(hb: ∀v∈b,n8 v)(hna:a.length<=100)(hnb:b.length<=100):PF GB prog 286 [vI 2, .sl (a.map eV), .sl (b.map eV)] (.sl ((rg 2 a b).map eV)):=by
 obtain⟨cuts,hcu⟩: ∃c,c=kz (a++b):=⟨_,rfl⟩;have hab:=n8.app ha hb;have hcb: ∀q∈cuts,BQ q 1200:=by rw[hcu];exact Wk hab
 have hcl:cuts.length<=2*(a.length+b.length):=by rw[hcu];have:=Hd (a++b);rw[aY] at this;exact this
 have hgb:=VF hcb;have hgl:=y6 (l:=cuts);have hmp:=eO eQ (cp cuts);refine fn func286 J J ntmps286 J J (fun C=>?_);refine sA J J<|ap (a.map eV) J J (zq _) J<|lP ((a++b).map eV) J (by rw[bX]) (zq b) J<|cl (fu:=⟨0⟩) J (Yv (l:=a++b) hab (by rw[aY];omega)) J<|aj 19 (.d (.sl (cuts.map eQ))) J (by rw[hcu])<|gx J<|cl (fu:=⟨1⟩) J (aBb (cuts:=cuts) hcb (by omega)) J<|aj 22 (.d (vI ((cuts.length+1:Nat):Int))) J (by rw[hmp,hgl]<;>rfl)<|gx J<|nr 8 8 4 1 J J J<|lp (X:=Nat) (fun k=>[(23, .d (vI (k:Nat))),(8, .rw 8)]) (fun k=>[(8,some (.b 4 1 ((((cp cuts).map (fun t=>ot 2 (gO a t) (gO b t))).take k).map vB) true))]) (fun k=>k<=cuts.length+1) (fun k=>cuts.length+1-k) 0 J (bV _) (fun _=>J) (fun k hk=>?_);have hml:(((((cp cuts).map (fun t=>ot 2 (gO a t) (gO b t))).take k).map vB)).length=k:=by rw[aX,bR,aX,hgl];omega
 refine br (fu2:=⟨0⟩) J J J (fun hc24=>?_) (fun hc24=>?_)
 .
  obtain⟨t,hz⟩: ∃s,(cp cuts)[k]? =some s:=⟨_,aZ (by omega)⟩;haveI:=hgb t (aV hz);have hz2:((cp cuts).map (fun t=>ot 2 (gO a t) (gO b t)))[k]? =some (ot 2 (gO a t) (gO b t)):=by rw[cV,hz];rfl
  refine ix _ J (cD hz) J<|cl J (Rk (l:=a) (t:=t) ha (by omega)) J<|cl (fu:=⟨6⟩) J (Rk (l:=b) (t:=t) hb (by omega)) J<|?_
  cases hx:gO a t
  .
   refine cg (fu:=⟨15⟩) J J J<|dP (fu:=⟨5⟩) J J J<|cg J J J<|rf J J<|ap (fu:=⟨8⟩) ((((cp cuts).map (fun t=>ot 2 (gO a t) (gO b t))).take (k+1)).map vB) J (by rw[<-uZ hz2,hx];rfl) (SH [false]) J<|fw 59 8 J<|at_ (k+1) ⟨(by omega),(by omega)⟩
  .
   refine dP (fu:=⟨15⟩) J J J<|dP (fu:=⟨5⟩) J J J<|dP J J J<|rf J J<|ap ((((cp cuts).map (fun t=>ot 2 (gO a t) (gO b t))).take (k+1)).map vB) J (by rw[<-uZ hz2,hx];rfl) (SH [_]) J<|fw 59 8 J<|at_ (k+1) ⟨(by omega),(by omega)⟩
 .
  obtain rfl:k=cuts.length+1:=by omega
  have htk:((cp cuts).map (fun t=>ot 2 (gO a t) (gO b t))).take (cuts.length+1)=(cp cuts).map (fun t=>ot 2 (gO a t) (gO b t)):=bM (by rw[aX,hgl];exact bW _);rw[htk];refine qf 8 J<|gx J<|cl J (aGq (cuts:=cuts) (marks:=(cp cuts).map (fun t=>ot 2 (gO a t) (gO b t))) (by omega) (by rw[aX,hgl];exact bW _)) J<|rz J (by unfold rg;rw[<-hcu];rfl)
section
variable {C:aG}{Q0:Exit->Act->World->Prop}{fr fr':aC}{own own':aH}{cf cf':Cf}{vc:List Prop}
def YH{dst:Option Nat}{t:TypeId}{gd:Option (Nat×Bool)}{x y:Operand}{k:IntKind}(hu:prog.underlying t=some (.array len e))(hs:(prog.info? e).map (·.size)=some s)
  (e1:aP lk x=some (.ov nm off))(e2:aP lk y=some (.d (.v (.int k (i:Nat)))))(hi:i<len):bO prog GB C n lk bk ⟨dst, .indexAddr t x y,ty',pos,af,gd⟩ (.ov nm (off+i*s)) [] []:= .yd fun ρ G ov a w r=>by
 obtain⟨p,h1,h2⟩:=r.ev e1;obtain⟨q,h3,h4⟩:=r.ev e2;rw[cP] at h4;subst h4;obtain⟨b,hb,rfl⟩:=h2;refine⟨_,⟨b,hb,J⟩,?_⟩;obtain⟨j,hj,hjs⟩: ∃j,prog.info? e=some j/\j.size=s:=by
  cases h:prog.info? e with
  |none=>rw[h] at hs;cases hs
  |some j=>rw[h] at hs;exact⟨j,J,by simpa using hs⟩
 intro a' w' hf hh;simp only[execOp,bw hf h1,bw hf h3];have:(Instr.indexAt t (.pointer (some ⟨b,off,none⟩)) (.int k (i:Nat))).run prog w'= .ok (.pointer (some ⟨b,off+i*s,none⟩)) w':=by
  unfold Instr.indexAt;show(underlying t>>=_).run prog w'=_;rw[bh (qG hu w')];show(underlying t>>=_).run prog w'=_;rw[bh (qG hu w')];have h0:0<=((i:Nat):Int):=Int.natCast_nonneg i;have h1:((i:Nat):Int)<((len:Nat):Int):=by omega
  simp only[h0,h1,and_self,if_true];show(sizeOf e>>=_).run prog w'=_;rw[bh (vx hj w'),q6,hjs,cZ];rfl
 exact c7 this
def T3(fr:aC)(cf:Cf):Option (TypeId×Nat×Nat×Int):=match cG fr cf with
 |some ⟨_, .indexAddr t x y,_,_,_,_⟩=>match aP (b7 fr cf) x with
  |some (.ov nm off)=>match aP (b7 fr cf) y with
   |some (.d (.v (.int _ i)))=>some (t,nm,off,i)
   |_=>none
  |_=>none
 |_=>none
def ow[fu:Fu](i:Nat){t:Nat}(h:T3 fr cf=some (t,nm,off,((i:Nat):Int)))(hu:prog.underlying t=some (.array len e))(hs:(prog.info? e).map (·.size)=some s)(hi:i<len)
  (hgo:cB tt n fu.n fr own cf (.ov nm (off+i*s)) [] []=⟨vc,fr',own',cf'⟩)(k:av prog GB C n Q0 fr' own' cf')
  (hv:autoParam (ak vc) cL._auto_1):av prog GB C n Q0 fr own cf:=by
 unfold T3 at h;split at h<;>try (cases h;done)
 rename_i hh;split at h<;>try (cases h;done)
 rename_i hx;split at h<;>cases h;rename_i hy;exact us hh (YH hu hs hx hy hi) hgo hv k
def aIA{e t:TypeId}{gd:Option (Nat×Bool)}{ps:List (Nat×Operand)}{fo:List (Nat×Nat×Nat)}{i:TI}{z:List FX}{pre post:List DV}(hi:fi prog t=some i)(hk:i.k= .st fo)(hz:i.z=some z)
  (hb:uB lk fo z ps=some zx)(h0:zx[k]? =some .nl)(h1:jn (zx.take k)=some pre)(h2:jn (zx.drop (k+1))=some post):bO prog GB C n lk bk ⟨some d, .build t ⟨ps⟩,ty',pos,af,gd⟩ (.bx false pre d post) [(d,some (.b e s [] true))] [d]:=by
 intro hd tl tb K' s1 s2 hf hk';refine⟨fun ρ G ov a w r Q=>?_⟩;obtain⟨v,hv,hv'⟩:=B5 hi hz;have:=Tq hi hk;have hsp:zx=zx.take k++ .nl::zx.drop (k+1):=by
  obtain⟨hk1,hk2⟩:=aS.1 h0
  conv=>lhs;rw[<-kV k zx,bJ hk1,hk2]
 obtain⟨l,h1',h2'⟩:=Ek (r.mono s1 s2) (fo:=fo) ps _ _ _ hb (hv' ρ G);rw[hsp] at h2';obtain⟨m1,m2',rfl,k1,y,m2,rfl,k2,k3⟩:=MT h2'
 cases (show y= .slice none 0 0 from k2)
 have hy:Yd prog C (cC a) ov G ⟨some d, .build t ⟨ps⟩,ty',pos,af,gd⟩ (.agg ⟨m1++Value.slice none 0 0::m2⟩):=wl h1';have r3:=r.new' (x:=⟨none,0,0⟩) (B':= .b e s [] true) (os:=[]) (ov':=ov) (f:= .bx false pre d post) (y:= .agg ⟨m1++Value.slice none 0 0::m2⟩) hf (bH.refl G) r.h
  ⟨[],by simp only[if_true];exact .inl ⟨J,J,J⟩, .nil,by simp,fun _ o ho=>by cases ho⟩ (fun o ho=>by cases ho) (fun m B _ _ o ho _=>⟨ho,by simp⟩)
  ⟨m1,m2,by simp,r8 k1 h1,r8 k3 h2⟩ (r.putA _ hd)
 exact jP (hy a w (cI a) r.h) (hk'.run _ G ov _ w r3)
def PQ(fr:aC)(cf:Cf):Option (Nat×List FX):=match cG fr cf with
 |some ⟨some d, .build t ⟨ps⟩,_,_,_,_⟩=>match du tt t with
  |some ⟨.st fo,_,some zx,_⟩=>match uB (b7 fr cf) fo zx ps with
   |some l=>some (d,l)
   |none=>none
  |_=>none
 |_=>none
def bzp[fu:Fu](e s kk:Nat)(pre post:List DV)(h:PQ fr cf=some (d,zx))(h0:zx[kk]? =some .nl)(h1:jn (zx.take kk)=some pre)(h2:jn (zx.drop (kk+1))=some post)(hgo:cB tt n fu.n fr own cf (.bx false pre d post) [(d,some (.b e s [] true))] [d]=⟨vc,fr',own',cf'⟩)(k:av prog GB C n Q0 fr' own' cf')
  (hv:autoParam (ak vc) cL._auto_1):av prog GB C n Q0 fr own cf:=by
 unfold PQ at h;split at h<;>try (cases h;done)
 rename_i hh;split at h<;>try (cases h;done)
 rename_i hT;split at h<;>cases h;rename_i hb;exact us hh (aIA (eh _ _ hT) J J hb h0 h1 h2) hgo hv k
end
def sp1(f:bu)(m:ah)(k:Nat):List bu:=if k=0 then [] else fB f m 1
def sp2(f:bu)(m:ah)(k:Nat):List bu:=if k<=1 then [] else fB f m (-1)
def QT{l:ah}(hl:LB l)(hm:LB m)(hlo:l.ok): ∀v∈js l m side,n8 v:=fun v hv=>⟨(KO hl hm hlo v hv).2.1,(KO hl hm hlo v hv).2.2⟩
def Cd{l:ah}:(js l m side).length<=1:=by
 unfold js;split
 .split<;>simp
 .split<;>simp
def TA(op:Int)(a b:List ao):(rg op a b).length<=2*(a.length+b.length)+1:=by
 unfold rg wo;refine cS IB ?_;rw[aX,y6];have:=Hd (a++b);rw[aY] at this;omega
def aEI{f:bu}(h:p8 f)[hm:LB m](hmo:m.ok):PF GB prog 230 [fA f,eL m] (.tp [.sl ((fB f m 1).map fA), .sl ((fB f m (-1)).map fA)]):=by
 haveI:=h.lb;refine fn func230 J J ntmps230 J J (fun C=>?_);refine rf (fu:=⟨1⟩) J J<|aj 14 (.d (vI (2:Nat))) J J<|gx J<|Lb 6 0 60 274 14 J J J J J<|Lb 6 1 61 274 14 J J J J J<|lp (X:=Nat) (fun k=>[(15, .d (vI (k:Nat))),(6, .ov 6 0)]) (fun k=>[(6,some (.o 381 [.rw 60, .rw 61] true)),(60,some (.b 274 14 ((sp1 f m k).map fA) true)),(61,some (.b 274 14 ((sp2 f m k).map fA) true))]) (fun k=>k<=2) (fun k=>2-k) 0 J (by omega) (fun _=>J) (fun k hk=>?_);refine br J J J (fun hc16=>?_) (fun hc16=>?_)
 .
  rcases(show k=0\/k=1 by omega) with rfl|rfl
  .
   refine ix _ J J J<|cl (fu:=⟨0⟩) J (RJ (l:=f.l) (m:=m) (side:=1) h.ok hmo (.inl J)) J<|?_;obtain⟨cs,hcs⟩: ∃c,c=rg 2 [f.v] (js f.l m 1):=⟨_,rfl⟩;have hcl:cs.length<=5:=by rw[hcs];have h1:=TA 2 [f.v] (js f.l m 1);have h2:=Cd (l:=f.l) (m:=m) (side:=1);simp only[gJ] at h1;omega
   refine aj 25 (.d (.tp [.sl ((js f.l m 1).map eV),vB (mI f.l m)])) J J<|gx J<|bb J J J (fun hc28=>?_) (fun hc28=>?_)
   .
    have hon:mI f.l m=true:=hc28;exact rz J (by first|(unfold fB;rw[if_pos hon,if_pos hon];rfl)|rfl)
   .
    have hon:mI f.l m=false:=by simpa using hc28
    refine rf J J<|cl (fu:=⟨0⟩) J (Lz (a:=[f.v]) (b:=js f.l m 1) (fun v hv=>by rw[aT] at hv;subst hv;exact⟨h.lo,h.hi⟩) (QT h.lb hm h.ok) (by show 1<=100;decide) (by have:=Cd (l:=f.l) (m:=m) (side:=1);omega)) J<|aj 33 (.d (.sl (cs.map eV))) J (by rw[hcs])<|gx (fu:=⟨1⟩) J<|aj 34 (.d (vI (cs.length:Nat))) J (by rw[eO eV cs]<;>rfl)<|gx J<|lp (X:=Nat) (fun j=>[(35, .d (vI (j:Nat)))]) (fun j=>[(60,some (.b 274 14 (((cs.take j).map fun v=>(⟨f.l,v⟩:bu)).map fA) true))]) (fun j=>j<=cs.length) (fun j=>cs.length-j) 0 J (bV _) (fun _=>J) (fun j hk=>?_);have hml:(((cs.take j).map fun v=>(⟨f.l,v⟩:bu)).map fA).length<=j:=by rw[aX,aX,bR];omega
    refine br J J J (fun hc36=>?_) (fun hc36=>?_)
    .
     obtain⟨z,hz⟩: ∃s,cs[j]? =some s:=⟨_,aZ (by omega)⟩;refine ix _ J (cD hz) J<|ow 0 (e:=269) (len:=2) (s:=1) J (by kernel_rfl) (by kernel_rfl) (by decide) J<|rf J J<|ap (((cs.take (j+1)).map fun v=>(⟨f.l,v⟩:bu)).map fA) J (by rw[<-uZ hz,bX];rfl) (yt [⟨f.l,z⟩]) J<|ow (hv:=by simp only[ak];exact⟨by kernel_rfl,by omega⟩) 0 (e:=269) (len:=2) (s:=1) J (by kernel_rfl) (by kernel_rfl) (by decide) J<|fw 48 60 J<|at_ (j+1) ⟨(by omega),(by omega)⟩
    .
     obtain rfl:j=cs.length:=by omega
     rw[show(cs.take cs.length).map (fun v=>(⟨f.l,v⟩:bu))=fB f m 1 from by rw[dQ];unfold fB;rw[if_neg (by rw[hon];decide),<-hcs]];exact at_ (0+1) ⟨(by omega),(by omega)⟩
  .
   refine ix _ J J J<|cl (fu:=⟨0⟩) J (RJ (l:=f.l) (m:=m) (side:= -1) h.ok hmo (.inr J)) J<|?_;obtain⟨cs,hcs⟩: ∃c,c=rg 2 [f.v] (js f.l m (-1)):=⟨_,rfl⟩;have hcl:cs.length<=5:=by rw[hcs];have h1:=TA 2 [f.v] (js f.l m (-1));have h2:=Cd (l:=f.l) (m:=m) (side:=(-1));simp only[gJ] at h1;omega
   refine aj 25 (.d (.tp [.sl ((js f.l m (-1)).map eV),vB (mI f.l m)])) J J<|gx J<|bb J J J (fun hc28=>?_) (fun hc28=>?_)
   .
    have hon:mI f.l m=true:=hc28;exact rz J (by first|(unfold fB;rw[if_pos hon,if_pos hon];rfl)|rfl)
   .
    have hon:mI f.l m=false:=by simpa using hc28
    refine rf J J<|cl (fu:=⟨0⟩) J (Lz (a:=[f.v]) (b:=js f.l m (-1)) (fun v hv=>by rw[aT] at hv;subst hv;exact⟨h.lo,h.hi⟩) (QT h.lb hm h.ok) (by show 1<=100;decide) (by have:=Cd (l:=f.l) (m:=m) (side:=(-1));omega)) J<|aj 33 (.d (.sl (cs.map eV))) J (by rw[hcs])<|gx (fu:=⟨1⟩) J<|aj 34 (.d (vI (cs.length:Nat))) J (by rw[eO eV cs]<;>rfl)<|gx J<|lp (X:=Nat) (fun j=>[(35, .d (vI (j:Nat)))]) (fun j=>[(61,some (.b 274 14 (((cs.take j).map fun v=>(⟨f.l,v⟩:bu)).map fA) true))]) (fun j=>j<=cs.length) (fun j=>cs.length-j) 0 J (bV _) (fun _=>J) (fun j hk=>?_);have hml:(((cs.take j).map fun v=>(⟨f.l,v⟩:bu)).map fA).length<=j:=by rw[aX,aX,bR];omega
    refine br J J J (fun hc36=>?_) (fun hc36=>?_)
    .
     obtain⟨z,hz⟩: ∃s,cs[j]? =some s:=⟨_,aZ (by omega)⟩;refine ix _ J (cD hz) J<|ow 1 (e:=269) (len:=2) (s:=1) J (by kernel_rfl) (by kernel_rfl) (by decide) J<|rf J J<|ap (((cs.take (j+1)).map fun v=>(⟨f.l,v⟩:bu)).map fA) J (by rw[<-uZ hz,bX];rfl) (yt [⟨f.l,z⟩]) J<|ow (hv:=by simp only[ak];exact⟨by kernel_rfl,by omega⟩) 1 (e:=269) (len:=2) (s:=1) J (by kernel_rfl) (by kernel_rfl) (by decide) J<|fw 48 61 J<|at_ (j+1) ⟨(by omega),(by omega)⟩
    .
     obtain rfl:j=cs.length:=by omega
     rw[show(cs.take cs.length).map (fun v=>(⟨f.l,v⟩:bu))=fB f m (-1) from by rw[dQ];unfold fB;rw[if_neg (by rw[hon];decide),<-hcs]];exact at_ (1+1) ⟨(by omega),(by omega)⟩
 .
  obtain rfl:k=2:=by omega
  refine ow 0 (e:=269) (len:=2) (s:=1) J (by kernel_rfl) (by kernel_rfl) (by decide) J<|ow 1 (e:=269) (len:=2) (s:=1) J (by kernel_rfl) (by kernel_rfl) (by decide) J<|iu 60 J<|iu 61 J<|rz J (by first|(unfold fB;rw[if_pos hon,if_pos hon];rfl)|rfl)
end Go.Sx
end
