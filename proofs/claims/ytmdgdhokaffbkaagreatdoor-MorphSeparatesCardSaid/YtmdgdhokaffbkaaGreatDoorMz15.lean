import Derived.Test.YtmdgdhokaffbkaaGreatDoorMz14
set_option linter.all false
set_option maxHeartbeats 4000000
set_option maxRecDepth 100000
section
namespace Go.Sx
open Go Go.Proofs Tryz
variable {GB:Gh}{u v d p w:aa}{l a xs:List ao}{m:ah}{ds:List aa}{i e k j n len s nm off:Nat}{z x y:Rat}{t:Tr}{L M:List ah}{b:Bool}{α:Type}{cuts o:List Rat}{marks:List Bool}{lk:LK}{bk:BM}{ty':TypeId}{pos:String}{af:Array Edge}{zx:List FX}
def R5{α:Type}{c:α->α->Int}(hT: ∀u v w,c u v<0->c v w<0->c u w<0)(hA: ∀u v,¬c u v<0->c u v≠0->c v u<0){x:α}: ∀{xs:List α},xs.Pairwise (fun a b=>c a b<0)->(dw c x xs).Pairwise (fun a b=>c a b<0)
 |[],_=>by rw[dw];exact List.pairwise_singleton _ _
 |u::t,h=>by
  obtain⟨h1,h2⟩:=bU.1 h;rw[dw];split
  .rename_i hu
   refine bU.2 ⟨fun y hy=>?_,R5 hT hA h2⟩;rcases II c hy with rfl|hy
   .exact hu
   .exact h1 y hy
  .rename_i hu
   split
   .exact h
   .rename_i hz
    have hx:=hA u x hu hz;refine bU.2 ⟨fun y hy=>?_,h⟩;rcases aV.1 hy with rfl|hy
    .exact hx
    .exact hT _ _ _ hx (h1 y hy)
def Rg{α:Type}{c:α->α->Int}(hT: ∀u v w,c u v<0->c v w<0->c u w<0)(hA: ∀u v,¬c u v<0->c u v≠0->c v u<0): ∀{l o:List α},o.Pairwise (fun a b=>c a b<0)->(l.foldl (fun out x=>dw c x out) o).Pairwise (fun a b=>c a b<0)
 |[],o,h=>h
 |x::l,o,h=>Rg (l:=l) (o:=dw c x o) hT hA (R5 hT hA h)
def aET:0<cE u v↔cA v u:=by
 unfold cE cA;split
 .rename_i h;exact⟨fun e=>absurd e pb,fun e=>by omega⟩
 .rename_i h
  split
  .rename_i h2;exact⟨fun _=> .inl h2,fun _=>by decide⟩
  .rename_i h2
   have e:v.half=u.half:=by omega
   rw[gv u v];constructor
   .intro k
    have:Int.sign (u.cross v).num<0:=by omega
    rw[rm] at this;exact .inr ⟨e,va⟩
   .rintro (k|⟨_,k⟩)
    .omega
    .have:Int.sign (u.cross v).num<0:=(rm _).2 va
     omega
def cA.trans{u v w:aa}(hu:u.half≠0)(hv:v.half≠0)(hw:w.half≠0)(h:cA u v)(k:cA v w):cA u w:=by
 rcases h with h|⟨h,h'⟩<;>rcases k with k|⟨k,k'⟩
 .exact .inl m5
 .exact .inl m5
 .exact .inl m5
 .refine .inr ⟨h.trans k,?_⟩
  have id1:u.cross w*v.y=u.cross v*w.y+v.cross w*u.y:=by unfold aa.cross;grind
  rcases lO v with⟨x,q⟩|⟨x,q⟩|⟨x,q⟩
  .rw[x] at h k
   have qu:=m8.1 h;have qw:=m8.1 k.symm;rcases q with q|⟨q,q'⟩
   .rw[<-fB q,id1]
    have wy:0<=w.y:=by grind
    have uy:0<=u.y:=by grind
    have a1:=cC (cR h') wy;rcases qu with qu|⟨qu,qu'⟩
    .have:=bE k' qu;grind
    .rcases qw with qw|⟨qw,qw'⟩
     .have:=bE h' qw;rw[qu];grind
     .exfalso
      have hx:v.cross w= -(w.x*v.y):=by unfold aa.cross;rw[qw];grind
      have:=bE qw' q;grind
   .exfalso
    have hx:u.cross v= -(v.x*u.y):=by unfold aa.cross;rw[q];grind
    have:=cC (a:=v.x) (b:=u.y) (cR q') va;grind
  .rw[x] at h k
   have qu:=qg.1 h;have qw:=qg.1 k.symm;rcases q with q|⟨q,q'⟩
   .have e1:u.cross w* -v.y=u.cross v* -w.y+v.cross w* -u.y:=by grind
    rw[<-fB (k:= -v.y) va,e1];have a1:=cC (a:=u.cross v) (b:= -w.y) (cR h') va;rcases qu with qu|⟨qu,qu'⟩
    .have:=bE (a:=v.cross w) (b:= -u.y) k' va;grind
    .rcases qw with qw|⟨qw,qw'⟩
     .have:=bE (a:=u.cross v) (b:= -w.y) h' va;rw[qu];grind
     .exfalso
      have hx:v.cross w= -(-w.x* -v.y):=by unfold aa.cross;rw[qw];grind
      have:=bE (a:= -w.x) (b:= -v.y) va va;grind
   .exfalso
    have hx:u.cross v= -(-v.x* -u.y):=by unfold aa.cross;rw[q];grind
    have:=cC (a:= -v.x) (b:= -u.y) va va;grind
  .exact absurd x hv
def Sq{l:ah}(h:l.ok):rh l.canon=false:=by
 have hn:=h.ne;unfold ah.Ne at hn;unfold ah.canon;split
 .rename_i k
  unfold rh at*;rw[decide_eq_true_eq] at k;rw[decide_eq_false_iff_not];show¬(-l.a<0\/(-l.a=0/\ -l.b<0));omega
 .rename_i k;simpa using k
def vp{l:ah}(h:l.ok):l.dir.half≠0:=fun e=>by
 have hn:=h.ne;unfold ah.Ne at hn;rcases lO l.dir with⟨k,_⟩|⟨k,_⟩|⟨_,k1,k2⟩
 .rw[k] at e;cases e
 .rw[k] at e;cases e
 .unfold ah.dir at k1 k2
  simp only at k1 k2;apply hn;refine⟨?_,cS.1 k2⟩;have:(l.a:Rat)=0:=by grind
  exact cS.1 this
def WS(h:d.half≠0):(bD d).half≠0:=by rw[u7 h];have:=iu h;omega
def Cu(d:aa):bD (bD d)=d:=by unfold bD;cases d;simp
def WP{l:ah}(hl:l.ok)(hm:m.ok)(cl:rh l=false)(cm:rh m=false)(h1:l.value p=0)(h2:m.value p=0)(hc:l.dir.cross m.dir=0):l=m:=by
 have key: ∀t,l.value (m.at t)=0:=fun t=>by
  obtain⟨s,rfl⟩:=yn hm.ne h2;rw[kG] at h1⊢;have hk:m.cutK l=0:=by
   unfold ah.cutK;rw[<-tv];exact hc
  rw[hk] at h1⊢;grind
 rcases yq hl hm key with e|e
 .exact e
 .exfalso
  have hn:=hm.ne;unfold ah.Ne at hn;rw[e] at cl;unfold rh at cl cm;rw[decide_eq_false_iff_not] at cl cm;have cl: ¬(-m.a<0\/(-m.a=0/\ -m.b<0)):=cl;omega
def Oj(h:ds.Pairwise cA)(hd:wG ds)(hi:i<ds.length)(hj:(i+1)%ds.length<ds.length):mc ds ds[i] ds[(i+1)%ds.length]:=by
 have hp:=lW.1 h;have irr: ∀{u v:aa},cA u v-> ¬cA v u:=fun{u v} a b=>by
  unfold cA at a b;rw[gv u v] at b;rcases a with a|⟨a,a'⟩<;>rcases b with b|⟨b,b'⟩
  .omega
  .omega
  .omega
  .grind
 have ord: ∀{j k:Nat} (a:j<ds.length) (b:k<ds.length),cA ds[j] ds[k]->j<k:=fun{j k} a b q=>by
  rcases qK j k with e|e|e
  .exact e
  .subst e;exact absurd q (irr q)
  .exact absurd (hp k j b a e) (irr q)
 by_cases hl:i+1<ds.length
 .have e:(i+1)%ds.length=i+1:=iN hl
  simp only[e];refine .inl ⟨hp i (i+1) hi hl m5,fun d hd' ⟨q1,q2⟩=>?_⟩;obtain⟨j,hj',rfl⟩:=mR hd';have:=ord hi hj' q1;have:=ord hj' hl q2;omega
 .have e:(i+1)%ds.length=0:=by rw[show i+1=ds.length by omega];exact Nat.mod_self _
  simp only[e];refine .inr ⟨fun d hd' q=>?_,fun d hd' q=>?_⟩
  .obtain⟨j,hj',rfl⟩:=mR hd'
   have:=ord hi hj' q;omega
  .obtain⟨j,hj',rfl⟩:=mR hd'
   have:=ord hj' m5 q;omega
def aFd(q:Rat):q*((q.den:Nat):Rat)=((q.num:Int):Rat):=by
 have h:((q.den:Nat):Rat)≠0:=fun e=>q.den_nz (by exact_mod_cast e);have h2:((q.num:Int):Rat)/((q.den:Nat):Rat)=q:=by have:=qY q;rwa [mX] at this
 grind
def CH(h:i<ds.length):ds.getD i ⟨0,0⟩=ds[i]:=by
 rw[aK,aZ h,lJ]
def zM(h:z<0):Int.sign z.num= -1:=by
 have:=(rm _).2 h;rcases lU z.num 0 with q|q|q
 .exact dY q
 .rw[q] at this;simp at this
 .rw[eJ q] at this;simp at this
def mp:Tr->aa->List ah
 | .leaf _,_=>[]
 | .node l x y,p=>(if Int.sign (l.value p).num=0 then [l] else [])++((if 0<=Int.sign (l.value p).num then mp x p else [])++(if Int.sign (l.value p).num<=0 then mp y p else []))
def pB: ∀{t:Tr} {p:aa} {l:ah},l∈mp t p->l∈t.lns/\l.value p=0
 | .leaf _,p,l,h=>by cases h
 | .node m x y,p,l,h=>by
  rw[mp,aL,aL] at h;rcases h with h|h|h
  .split at h
   .rw[aY] at h;subst h
    rename_i k;exact⟨aQ,(mm _).1 k⟩
   .cases h
  .split at h
   .have:=pB h;exact⟨aJ _ (bJ _ this.1),this.2⟩
   .cases h
  .split at h
   .have:=pB h;exact⟨aJ _ (aM _ this.1),this.2⟩
   .cases h
def aIv(h:Gn t.lns p v):Gn (mp t p) p v:=fun l hl hz=>h l (pB hl).1 hz
def AV: ∀{t:Tr} {p v w:aa},(∀l∈mp t p,Int.sign (l.nor.dot v).num=Int.sign (l.nor.dot w).num)->gO t p v=gO t p w
 | .leaf _,_,_,_,_=>rfl
 | .node l x y,p,v,w,h=>by
  have hx:0<=Int.sign (l.value p).num->gO x p v=gO x p w:=fun k=>AV fun m hm=>h m (by rw[mp,aL,aL,if_pos k];exact .inr (.inl hm));have hy:Int.sign (l.value p).num<=0->gO y p v=gO y p w:=fun k=>AV fun m hm=>h m (by rw[mp,aL,aL,if_pos k];exact .inr (.inr hm));rw[gO,gO,tv,tv];by_cases k:Int.sign (l.value p).num=0
  .rw[if_pos k,if_pos k,<-h l (by rw[mp,if_pos k];exact aQ),hx m5,hy m5]
  .rw[if_neg k,if_neg k]
   generalize Int.sign (l.value p).num=s at*;split
   .exact hx pb
   .exact hy pb
   .rfl
def RK(hM: ∀l∈M,l.ok)(hL:Gn L p v): ∃w,Gn M p w/\ ∀l∈L,l.value p=0->Int.sign (l.nor.dot v).num=Int.sign (l.nor.dot w).num:=by
 have e2: ∀l:ah,l.value p=0->l.value (cd p v 1)=l.nor.dot v:=fun l hz=>by rw[iC,hz];grind
 have hp':bw ((L.filter fun l=>decide (l.value p=0)).map fun l=>(⟨if 0<l.value (cd p v 1) then l else l.rev,ao.all⟩:bt)) (cd p v 1):=fun s hs=>by
  obtain⟨l,hl,rfl⟩:=aT.1 hs;obtain⟨h1,h2⟩:=kZ.1 hl;have h3:=of_decide_eq_true h2;have h0:l.value (cd p v 1)≠0:=by rw[e2 l h3];exact hL l h1 h3
  simp only;split
  .assumption
  .rw[fh];grind
 obtain⟨q,q1,q2⟩:=Aa hp' M hM;have e: ∀l:ah,l.value p=0->l.value q=l.nor.dot ⟨q.x-p.x,q.y-p.y⟩:=fun l hz=>by
  have h1:=iC l p ⟨q.x-p.x,q.y-p.y⟩ 1;rw[hz] at h1;have h2:cd p ⟨q.x-p.x,q.y-p.y⟩ 1=q:=by
   unfold cd
   cases q
   simp only[aa.mk.injEq];constructor<;>grind
  rw[h2] at h1;rw[h1];grind
 refine⟨⟨q.x-p.x,q.y-p.y⟩,fun m hm hz=>?_,fun l hl hz=>?_⟩
 .rw[<-e m hz];exact q2 m hm
 .have h1:=q1 _ (aT.2 ⟨l,kZ.2 ⟨hl,decide_eq_true hz⟩,J⟩)
  simp only at h1;rw[e2 l hz] at h1;rw[<-e l hz];have h0:=hL l hl hz;split at h1
  .rename_i k
   rw[(nC _).2 k,(nC _).2 h1]
  .rename_i k
   rw[fh] at h1;rw[zM va,zM va]
def ua(t:Tr)(p:aa)(b:Bool):Prop:= ∃v,Gn (mp t p) p v/\(gO t p v).1=b
def Ta(h:Gn t.lns p w):ua t p (gO t p w).1:=⟨w,aIv h,J⟩
def U2(h:ua t p b)(hM: ∀l∈M,l.ok): ∃w,Gn M p w/\(gO t p w).1=b:=by
 obtain⟨v,h1,h2⟩:=h;obtain⟨w,k1,k2⟩:=RK hM h1;exact⟨w,k1,by rw[<-h2,AV fun l hl=>k2 l hl (pB hl).2]⟩
def aMn(hM: ∀l∈M,l.ok)(p:aa): ∃w,Gn M p w:=by
 obtain⟨w,h,_⟩:=RK (L:=[]) (M:=M) (p:=p) (v:=⟨1,0⟩) hM fun l hl=>by cases hl
 exact⟨w,h⟩
def azX(ht:t.all ah.ok)(p:aa):ua t p true\/ua t p false:=by
 obtain⟨w,h⟩:=aMn (jB ht) p;have:=Ta h
 cases hb:(gO t p w).1 with
 |true=>rw[hb] at this;exact .inl this
 |false=>rw[hb] at this;exact .inr this
def min2{a b:Rat}(ha:0<a)(hb:0<b): ∃d:Rat,0<d/\d<=a/\d<=b:=by
 by_cases k:a<=b
 .exact⟨a,ha,va,k⟩
 .exact⟨b,hb,va,va⟩
def aGv(ht:t.all ah.ok)(h:ua t p b)(hM: ∀l∈M,l.ok){c:ar}(hc:bw c p): ∃q,bw c q/\cB t.lns q/\cB M q/\t.val q=b:=by
 obtain⟨w,k1,k2⟩:=U2 h (M:=t.lns++M) fun l hl=>(aL.1 hl).elim (jB ht l) (hM l);obtain⟨e1,a1,b1⟩:=BX (t:=t) fun l hl=>k1 l (bJ _ hl);obtain⟨e2,a2,b2⟩:=hc.open w;obtain⟨d,c1,c2,c3⟩:=min2 a1 a2;obtain⟨o1,v1⟩:=b1 d c1 c2;obtain⟨q,q1,q2⟩:=Aa (c:=c++t.lns.map fun l=>⟨if 0<l.value (cd p w d) then l else l.rev,ao.all⟩) (p:=cd p w d) (fun s hs=>by
  rcases aL.1 hs with hs|hs
  .exact b2 d (cR c1) c3 s hs
  .obtain⟨l,hl,rfl⟩:=aT.1 hs
   have h0:=o1 l hl;simp only;split
   .assumption
   .rw[fh];grind) (t.lns++M) fun l hl=>(aL.1 hl).elim (jB ht l) (hM l)
 refine⟨q,fun s hs=>q1 s (bJ _ hs),(cB.app.1 q2).1,(cB.app.1 q2).2,?_⟩;rw[show t.val q=t.val (cd p w d) from AF (L:=t.lns) (fun l hl=>?_) fun l hl=>hl,<-k2,v1];have h1:=q1 _ (aM _ (aT.2 ⟨l,hl,J⟩));have h0:=o1 l hl;simp only at h1;split at h1
 .rename_i k;exact⟨fun _=>k,fun _=>h1⟩
 .rename_i k;rw[fh] at h1;exact⟨fun e=>by grind,fun e=>absurd e k⟩
def pf(ds:List aa)(i:Nat):aa:=
 if 0<Int.sign ((ds.getD i ⟨0,0⟩).cross (ds.getD ((i+1)%ds.length) ⟨0,0⟩)).num then(ds.getD i ⟨0,0⟩).add (ds.getD ((i+1)%ds.length) ⟨0,0⟩) else f9 (ds.getD i ⟨0,0⟩)
def lG(ds:List aa):List aa:=if ds.length=0 then [⟨1,0⟩] else(List.range ds.length).map (pf ds)
def T'(u w:aa):u.add w=iD 1 1 u w:=by
 unfold aa.add iD;simp only[aa.mk.injEq];constructor<;>grind
def MA{x:aa}: ∀{S:List aa},S≠[]->(∀d∈S,0<d.cross x)-> ∃u∈S,∀d∈S,0<=d.cross u
 |[],h,_=>absurd J h
 |[d],_,_=>⟨d,aQ,fun e he=>by rw[aY] at he;subst he;rw[Mp];exact eY⟩
 |d0::d1::S,_,h=>by
  obtain⟨u,h1,h2⟩:=MA (S:=d1::S) vb fun d hd=>h d (aJ _ hd);by_cases k:0<=d0.cross u
  .exact⟨u,aJ _ h1,fun d hd=>(aV.1 hd).elim (fun e=>e▸k) (h2 d)⟩
  .refine⟨d0,aQ,fun d hd=>(aV.1 hd).elim (fun e=>by rw[e,Mp];exact eY) fun hd=>?_⟩
   have p0:=h d0 aQ;have pu:=h u (aJ _ h1);have pd:=h d (aJ _ hd);have k1:=h2 d hd;have k2:0<u.cross d0:=by rw[gv] at k;grind
   have e:d.cross d0*u.cross x=u.cross d0*d.cross x+d.cross u*d0.cross x:=by unfold aa.cross;grind
   have n1:=bE k2 pd;have n2:=cC k1 (cR p0);generalize d.cross d0=A at*;generalize u.cross x=B at*;by_cases hA:0<=A
   .exact hA
   .have:=bE (a:= -A) (b:=B) va pu
    grind
def XT(h:ds.Pairwise cA)(hd:wG ds)(hn:ds≠[]){x:aa}(hx: ∀d∈ds,d.cross x≠0): ∃i,i<ds.length/\ ∀d∈ds,Int.sign (d.cross x).num=Int.sign (d.cross (pf ds i)).num:=by
 have hne:(ds.filter fun d=>decide (0<d.cross x))≠[]:=by
  obtain⟨d,r,rfl⟩:=List.exists_cons_of_ne_nil hn;intro e;have h1: ¬0<d.cross x:=fun k=>by
   have:d∈(d::r).filter fun d=>decide (0<d.cross x):=kZ.2 ⟨aQ,decide_eq_true k⟩;rw[e] at this;cases this
  have h2:=hx d aQ;have h3:0<(bD d).cross x:=by rw[gv,nD,<-gv];grind
  have:bD d∈(d::r).filter fun d=>decide (0<d.cross x):=kZ.2 ⟨hd.neg d aQ,decide_eq_true h3⟩;rw[e] at this;cases this
 obtain⟨u,hu,hl⟩:=MA hne fun d hd=>of_decide_eq_true (kZ.1 hd).2;obtain⟨hu1,hu2⟩:=kZ.1 hu;have hux:=of_decide_eq_true hu2;obtain⟨i,hi,rfl⟩:=mR hu1;have hj:(i+1)%ds.length<ds.length:=dJ _ m5;have hnx:=Oj h hd hi hj;have mw:=cK hj;refine⟨i,hi,?_⟩;have key: ∀d∈ds,0<d.cross x->0<d.cross (pf ds i):=fun d hdm hdx=>by
  have hdu:0<=d.cross ds[i]:=hl d (kZ.2 ⟨hdm,decide_eq_true hdx⟩);unfold pf;rw[CH hi,CH hj];generalize ds[(i+1)%ds.length]=w at*;generalize ds[i]=u at*;have hp:=hnx.pos hd hu1 mw;have zd:=hd.nz d hdm;have zu:=hd.nz u hu1;split
  .rename_i k
   have hc:=(kg _).1 k;rw[T'];have hg:=hnx.gen hd hu1 mw va (a:=1) (b:=1) pb pb d hdm;have e:d.cross (iD 1 1 u w)=d.cross u+d.cross w:=by unfold aa.cross iD;grind
   rw[e] at hg⊢;by_cases hw:0<=d.cross w
   .grind
   .exfalso
    -- -d xe Av u and w
    rcases fG (d.cross u) with q|q|q
    .-- d runs along u
     have hdd:0<d.dot u:=by
      rcases fG (d.dot u) with r|r|r
      .exact absurd r (Ep zd zu q)
      .exact r
      .exfalso
       have q':(bD d).cross u=0:=by unfold aa.cross bD at*;grind
       have r':0<(bD d).dot u:=by unfold aa.dot bD at*;grind
       obtain⟨g,g1,g2⟩:=wW q' r';have:d.cross x= -(g*u.cross x):=by
        have h1:(bD d).x=g*u.x:=by rw[g2]
        have h2:(bD d).y=g*u.y:=by rw[g2]
        unfold bD at h1 h2;simp only at h1 h2;unfold aa.cross;grind
       have:=bE g1 hux;grind
     obtain⟨g,g1,g2⟩:=wW q hdd;have:d.cross w=g*u.cross w:=by rw[g2];unfold aa.cross;grind
     have:=bE g1 hc;grind
    .have hb:bD d=iD (-(d.cross w)/u.cross w) (d.cross u/u.cross w) u w:=by
      have hz:u.cross w≠0:=by grind
      have e1: -(d.cross w)/u.cross w*u.cross w= -(d.cross w):=by grind
      have e2:d.cross u/u.cross w*u.cross w=d.cross u:=by grind
      unfold bD iD;generalize-(d.cross w)/u.cross w=a at*;generalize d.cross u/u.cross w=b at*;simp only[aa.mk.injEq];have f1:(a*u.x+b*w.x+d.x)*u.cross w=0:=by
       have:(a*u.x+b*w.x+d.x)*u.cross w=a*u.cross w*u.x+b*u.cross w*w.x+d.x*u.cross w:=by grind
       rw[this,e1,e2];unfold aa.cross;grind
      have f2:(a*u.y+b*w.y+d.y)*u.cross w=0:=by
       have:(a*u.y+b*w.y+d.y)*u.cross w=a*u.cross w*u.y+b*u.cross w*w.y+d.y*u.cross w:=by grind
       rw[this,e1,e2];unfold aa.cross;grind
      constructor<;>grind
     refine hnx.none hd hu1 mw va (a:= -(d.cross w)/u.cross w) (b:=d.cross u/u.cross w) ?_ ?_ (by rw[<-hb];exact hd.neg d hdm)
     .refine(fB (k:=u.cross w) hc).1 ?_
      have e1: -(d.cross w)/u.cross w*u.cross w= -(d.cross w):=by grind
      rw[e1];grind
     .refine(fB (k:=u.cross w) hc).1 ?_
      have e1:d.cross u/u.cross w*u.cross w=d.cross u:=by grind
      rw[e1];exact q
    .grind
  .rename_i k
   have hc:u.cross w=0:=by have: ¬0<u.cross w:=fun e=>k ((kg _).2 e);grind
   have hg:=hnx.turn hd hu1 mw hc d hdm;rw[QL] at hg⊢;rcases fG (d.dot u) with r|r|r
   .exact absurd r hg
   .exact r
   .exfalso
    -- all directions run along u
    have hdc:d.cross u=0:=by
     rcases hnx.spec hd hu1 mw with⟨_,h2,_⟩|⟨h1,h2,h3⟩
     .rw[hc] at h2;exact absurd h2 pb
     .have zw:=iu (hd.nz w mw)
      have zu':=iu zu;have zd':=iu zd;have hwu: ∃g:Rat,0<g/\w=⟨g*(bD u).x,g*(bD u).y⟩:=by
       refine wW (d:=bD u) (e:=w) (by rw[nD,gv,hc];grind) ?_;rcases fG (w.dot u) with s|s|s
       .exact absurd s (Ep (hd.nz w mw) zu (by rw[gv,hc];rfl))
       .exfalso
        obtain⟨g,g1,g2⟩:=wW (d:=u) (e:=w) (by rw[gv,hc];rfl) s;apply h1;rw[g2];rcases lO u with⟨x0,s0⟩|⟨x0,s0⟩|⟨x0,s0⟩
        .rw[x0]
         refine(m8.2 ?_).symm;rcases s0 with s0|⟨s0,s1⟩
         .exact .inl (bE g1 s0)
         .exact .inr ⟨by show g*u.y=0;rw[s0];grind,bE g1 s1⟩
        .rw[x0]
         refine(qg.2 ?_).symm;rcases s0 with s0|⟨s0,s1⟩
         .exact .inl (by show g*u.y<0;have:=bE (a:=g) (b:= -u.y) g1 va;grind)
         .exact .inr ⟨by show g*u.y=0;rw[s0];grind,by show g*u.x<0;have:=bE (a:=g) (b:= -u.x) g1 va;grind⟩
        .exact absurd x0 zu
       .unfold aa.dot bD at*;grind
      obtain⟨g,g1,g2⟩:=hwu;have cw: ∀e:aa,w.cross e=g* -(u.cross e):=fun e=>by rw[g2];unfold aa.cross bD;grind
      by_cases hh:d.half=u.half
      .have a1:=h2 d hdm hh
       have a2:=h3 _ (hd.neg d hdm) (by rw[u7 zd];omega);rw[cw,nD,gv d u] at a2;rcases fG (d.cross u) with s|s|s
       .exact s
       .have:=bE g1 s;grind
       .grind
      .have a1:=h2 _ (hd.neg d hdm) (by rw[u7 zd];omega)
       have a2:=h3 d hdm m5;rw[cw,gv d u] at a2;have e3:(bD d).cross u= -(d.cross u):=by unfold aa.cross bD;grind
       rw[e3] at a1;rcases fG (d.cross u) with s|s|s
       .exact s
       .grind
       .have:=bE (a:=g) (b:= -(d.cross u)) g1 va;grind
    have q':(bD d).cross u=0:=by unfold aa.cross bD at*;grind
    have r':0<(bD d).dot u:=by unfold aa.dot bD at*;grind
    obtain⟨g,g1,g2⟩:=wW q' r';have:d.cross x= -(g*u.cross x):=by
     have h1:(bD d).x=g*u.x:=by rw[g2]
     have h2:(bD d).y=g*u.y:=by rw[g2]
     unfold bD at h1 h2;simp only at h1 h2;unfold aa.cross;grind
    have:=bE g1 hux;grind
 intro d hdm;rcases fG (d.cross x) with k|k|k
 .exact absurd k (hx d hdm)
 .rw[(nC _).2 k,(nC _).2 (key d hdm k)]
 .have en: ∀y:aa,(bD d).cross y= -(d.cross y):=fun y=>by unfold aa.cross bD;grind
  have:=key _ (hd.neg d hdm) (by rw[en];grind);rw[en] at this;rw[zM k,zM va]
def fg(v:aa):aa:=v.scale (rgcd v.x v.y)⁻¹
def eG(t:Tr)(p:aa):List aa:=(mp t p).flatMap fun l=>[fg l.dir,bD (fg l.dir)]
def ji(ds:List aa):List aa:=s6 cE ds
def qE:d∈eG t p↔ ∃l∈mp t p,d=fg l.dir\/d=bD (fg l.dir):=by
 unfold eG;rw[gJ];constructor
 .rintro ⟨l,h1,h2⟩
  refine⟨l,h1,?_⟩;rcases aV.1 h2 with h|h
  .exact .inl h
  .exact .inr (aY.1 h)
 .rintro ⟨l,h1,rfl|rfl⟩
  .exact⟨l,h1,aQ⟩
  .exact⟨l,h1,aJ _ aQ⟩
def aBb(h:x≠0\/y≠0):0<rgcd x y:=by
 unfold rgcd;have hd:0<x.den*y.den:=iM x.den_pos y.den_pos;have hg:0<Nat.gcd (x.num.natAbs*y.den) (y.num.natAbs*x.den):=by
  rcases h with h|h
  .exact mV _ (iM (Int.natAbs_pos.2 fun e=>h (lX.1 e)) y.den_pos)
  .exact pZ _ (iM (Int.natAbs_pos.2 fun e=>h (lX.1 e)) x.den_pos)
 generalize Nat.gcd (x.num.natAbs*y.den) (y.num.natAbs*x.den)=g at*;generalize x.den*y.den=d at*;rw[<-KH];have h1:mkRat (g:Int) d=(g:Rat)/(d:Rat):=by rw[mX];rfl
 rw[KH,h1];have hg':(0:Rat)<(g:Rat):=by exact_mod_cast hg
 have hd':(0:Rat)<(d:Rat):=by exact_mod_cast hd
 have e:(g:Rat)/(d:Rat)*(d:Rat)=(g:Rat):=by grind
 exact(fB (k:=(d:Rat)) hd').1 (by rw[e];exact hg')
def aGg(h:v.half≠0):v.x≠0\/v.y≠0:=by
 rcases lO v with⟨_,k⟩|⟨_,k⟩|⟨k,_⟩
 .rcases k with k|⟨_,k⟩
  .exact .inr va
  .exact .inl va
 .rcases k with k|⟨_,k⟩
  .exact .inr va
  .exact .inl va
 .exact absurd k h
def Cp(h:v.half≠0): ∃a:Rat,0<a/\fg v=⟨a*v.x,a*v.y⟩:=by
 have hg:=aBb (aGg h);refine⟨(rgcd v.x v.y)⁻¹,?_,?_⟩
 .generalize rgcd v.x v.y=g at*
  have e:g⁻¹*g=1:=by grind
  exact(fB (k:=g) hg).1 (by rw[e];decide)
 .unfold fg aa.scale
  simp only[aa.mk.injEq];constructor<;>grind
def aHa(v:aa):fg (bD v)=bD (fg v):=by
 have e:rgcd (-v.x) (-v.y)=rgcd v.x v.y:=by
  unfold rgcd;rw[nQ,nQ,qU,qU,jX,jX]
 unfold fg aa.scale bD;simp only[aa.mk.injEq,e];constructor<;>grind
def KT(h:v.half≠0):(fg v).half=v.half:=by
 obtain⟨a,a1,e⟩:=Cp h;have:=Le (a:=a) (b:=a) (u:=v) (w:=v) a1 a1 J h;rw[<-this];have h2:fg v=iD (a*(1/2)) (a*(1/2)) v v:=by rw[e];unfold iD;simp only[aa.mk.injEq];constructor<;>grind
 have h3:=Le (a:=a*(1/2)) (b:=a*(1/2)) (u:=v) (w:=v) (bE a1 va) (bE a1 va) J h;rw[h2,h3,this]
def Qf:cE u v=0↔u.half=v.half/\u.cross v=0:=by
 unfold cE;split
 .constructor
  .intro h;exact absurd h pb
  .intro h;omega
 .split
  .constructor
   .intro h;exact absurd h pb
   .intro h;omega
  .constructor
   .intro h
    exact⟨m5,(mm _).1 m5⟩
   .intro h
    rw[(mm _).2 h.2];rfl
def wE(h:cA u v)(k:cA v w):cA u w:=by
 by_cases hu:u.half=0
 .by_cases hw:w.half=0
  .have z: ∀x y:aa,x.half=0->x.cross y=0:=fun x y hx=>by
    rcases lO x with⟨e,_⟩|⟨e,_⟩|⟨_,e1,e2⟩
    .rw[hx] at e;exact absurd e pb
    .rw[hx] at e;exact absurd e pb
    .unfold aa.cross;rw[e1,e2];grind
   rcases h with h|⟨h,h'⟩
   .rcases k with k|⟨k,k'⟩
    .omega
    .have hv:v.half≠0:=by omega
     omega
   .rw[z u v hu] at h';exact absurd h' pb
  .refine .inl ?_
   have h1:=iu hw;omega
 .have hv:v.half≠0:=by
   intro e;rcases h with h|⟨h,_⟩
   .have:=iu hu;omega
   .omega
  have hw:w.half≠0:=by
   intro e;rcases k with k|⟨k,_⟩
   .have:=iu hv;omega
   .omega
  exact cA.trans hu hv hw h k
section
variable (c:α->α->Int)
def M7{x y:α}: ∀{xs:List α},y∈xs->y∈dw c x xs
 |[],h=>by cases h
 |u::t,h=>by
  rw[dw];split
  .rcases aV.1 h with rfl|h
   .exact aQ
   .exact aJ _ (M7 h)
  .split
   .exact h
   .exact aJ _ h
def PG{x:α}: ∀{xs:List α},∃e∈dw c x xs,e=x\/c e x=0
 |[]=>⟨x,aQ, .inl J⟩
 |u::t=>by
  rw[dw];split
  .obtain⟨e,h1,h2⟩:=PG (x:=x) (xs:=t)
   exact⟨e,aJ _ h1,h2⟩
  .split
   .exact⟨u,aQ, .inr v7⟩
   .exact⟨x,aQ, .inl J⟩
def P5{y:α}: ∀{l o:List α},y∈o->y∈l.foldl (fun out x=>dw c x out) o
 |[],o,h=>h
 |x::t,o,h=>P5 (l:=t) (M7 c h)
def HT{d:α}: ∀{l o:List α},d∈l-> ∃e∈l.foldl (fun out x=>dw c x out) o,e=d\/c e d=0
 |[],o,h=>by cases h
 |x::t,o,h=>by
  rcases aV.1 h with rfl|h
  .obtain⟨e,h1,h2⟩:=PG c (x:=d) (xs:=o)
   exact⟨e,P5 c (l:=t) h1,h2⟩
  .exact HT (l:=t) h
end
def Ls(ds:List aa):(ji ds).Pairwise cA:=by
 have:=Rg (c:=cE) (fun u v w h k=>nH.2 (wE (nH.1 h) (nH.1 k))) (fun u v h k=>nH.2 (aET.1 m5)) (l:=ds) (o:=[]) List.Pairwise.nil;exact this.imp fun h=>nH.1 h
def Mh{l:ah}(hl:l.ok)(hm:m.ok)(h1:l.value p=0)(h2:m.value p=0){e:aa}(hd:d=fg l.dir\/d=bD (fg l.dir))(he:e=fg m.dir\/e=bD (fg m.dir))(h:cE d e=0):d=e:=by
 obtain⟨hh,hc⟩:=Qf.1 h;have zl:=vp hl;have zm:=vp hm;have zpl:(fg l.dir).half≠0:=by rw[KT zl];exact zl
 have zpm:(fg m.dir).half≠0:=by rw[KT zm];exact zm
 have cr:l.dir.cross m.dir=0:=by
  obtain⟨a,a1,e1⟩:=Cp zl;obtain⟨b,b1,e2⟩:=Cp zm;have c0:(fg l.dir).cross (fg m.dir)=0:=by
   rcases hd with rfl|rfl<;>rcases he with rfl|rfl
   .exact hc
   .rw[nD] at hc;grind
   .rw[gv,nD] at hc;rw[gv];grind
   .rw[nD,gv,nD] at hc;rw[gv];grind
  have e3:(fg l.dir).cross (fg m.dir)=(a*b)*l.dir.cross m.dir:=by rw[e1,e2];unfold aa.cross;grind
  have hab:=bE a1 b1;rw[e3] at c0;clear e1 e2 e3;generalize a*b=k at*;generalize l.dir.cross m.dir=z at*;rcases fG z with q|q|q
  .exact q
  .have:=bE hab q;grind
  .have:=bE (a:=k) (b:= -z) hab va;grind
 have dirR: ∀k:ah,k.rev.dir=bD k.dir:=fun k=>by
  unfold ah.dir ah.rev bD;simp only[aa.mk.injEq,jV]
  try constructor<;>grind
 have cdir: ∀k:ah,k.canon.dir=k.dir\/k.canon.dir=bD k.dir:=fun k=>by
  unfold ah.canon;split
  .exact .inr (dirR k)
  .exact .inl J
 have cval: ∀k:ah,k.value p=0->k.canon.value p=0:=fun k hk=>by rcases J4 k p with e|e<;>rw[e,hk]<;>rfl
 have okc: ∀k:ah,k.ok->k.canon.ok:=fun k hk=>by unfold ah.canon;split;exact hk.rev;exact hk
 have ec:l.canon=m.canon:=WP (okc l hl) (okc m hm) (Sq hl) (Sq hm) (cval l h1) (cval m h2) (by
  rcases cdir l with e1|e1<;>rcases cdir m with e2|e2<;>rw[e1,e2]
  .exact cr
  .rw[nD,cr];rfl
  .rw[gv,nD,gv,cr];rfl
  .rw[nD,gv,nD,gv,cr];rfl)
 have hdir:l.dir=m.dir\/l.dir=bD m.dir:=by
  have e1:=cdir l;have e2:=cdir m;rw[ec] at e1;rcases e1 with e1|e1<;>rcases e2 with e2|e2
  .exact .inl (e1.symm.trans e2)
  .exact .inr (e1.symm.trans e2)
  .right;rw[<-e2,e1,Cu]
  .left;rw[<-Cu l.dir,<-e1,e2,Cu]
 have hP:fg l.dir=fg m.dir\/fg l.dir=bD (fg m.dir):=by
  rcases hdir with e|e
  .exact .inl (by rw[e])
  .exact .inr (by rw[e,aHa])
 have hn:=u7 zpm;have h3:=iu zpm;have key:d=fg m.dir\/d=bD (fg m.dir):=by
  rcases hd with rfl|rfl<;>rcases hP with e|e
  .exact .inl e
  .exact .inr e
  .exact .inr (by rw[e])
  .exact .inl (by rw[e,Cu])
 rcases key with rfl|rfl<;>rcases he with rfl|rfl
 .rfl
 .exfalso;omega
 .exfalso;omega
 .rfl
def Vm(ht:t.all ah.ok)(p:aa):(ji (eG t p)).Pairwise cA/\wG (ji (eG t p))/\ ∀y,y∈ji (eG t p)↔y∈eG t p:=by
 have h2: ∀y,y∈ji (eG t p)->y∈eG t p:=fun y hy=>by
  rcases Cs cE hy with h|h
  .exact h
  .cases h
 have h3: ∀y,y∈eG t p->y∈ji (eG t p):=fun y hy=>by
  obtain⟨e,e1,e2⟩:=HT cE (o:=[]) hy;rcases e2 with rfl|e2
  .exact e1
  .obtain⟨l,k1,k2⟩:=qE.1 hy
   obtain⟨m,k3,k4⟩:=qE.1 (h2 e e1);obtain⟨a1,a2⟩:=pB k1;obtain⟨b1,b2⟩:=pB k3;rw[<-Mh (jB ht _ b1) (jB ht _ a1) b2 a2 k4 k2 e2];exact e1
 refine⟨Ls _,⟨fun d hd=>?_,fun d hd=>?_⟩,fun y=>⟨h2 y,h3 y⟩⟩
 .obtain⟨l,k1,k2⟩:=qE.1 (h2 d hd)
  have z:=vp (jB ht _ (pB k1).1);have z2:(fg l.dir).half≠0:=by rw[KT z];exact z
  rcases k2 with rfl|rfl
  .exact z2
  .exact WS z2
 .obtain⟨l,k1,k2⟩:=qE.1 (h2 d hd)
  refine h3 _ (qE.2 ⟨l,k1,?_⟩);rcases k2 with rfl|rfl
  .exact .inr J
  .exact .inl (Cu _)
def T3(ht:t.all ah.ok)(hv:v∈lG (ji (eG t p))):Gn (mp t p) p v:=by
 obtain⟨h1,h2,h3⟩:=Vm ht p;have key:(∀d∈ji (eG t p),d.cross v≠0)->Gn (mp t p) p v:=fun k l hl hz e=>by
  have z:=vp (jB ht _ (pB hl).1);obtain⟨a,a1,a2⟩:=Cp z;refine k _ ((h3 _).2 (qE.2 ⟨l,hl, .inl J⟩)) ?_;rw[<-tv] at e;have:(fg l.dir).cross v=a*l.dir.cross v:=by rw[a2];unfold aa.cross;grind
  rw[this,e];grind
 generalize ji (eG t p)=ds at*;unfold lG at hv;split at hv
 .rename_i hn
  refine key fun d hd=>?_;rw[List.length_eq_zero_iff.1 hn] at hd;cases hd
 .obtain⟨i,hi,rfl⟩:=aT.1 hv
  rw[jU] at hi;have hj:(i+1)%ds.length<ds.length:=dJ _ m5;have hx:=Oj h1 h2 hi hj;have mu:=cK hi;have mw:=cK hj;have hp:=hx.pos h2 mu mw;refine key ?_;unfold pf;rw[CH hi,CH hj];split
  .rename_i k
   have hc:=(kg _).1 k;rw[T'];exact hx.gen h2 mu mw va pb pb
  .rename_i k
   exact hx.turn h2 mu mw (by have: ¬0<ds[i].cross ds[(i+1)%ds.length]:=fun e=>k ((kg _).2 e);grind)
def Qz(ht:t.all ah.ok){x:aa}(hx:Gn (mp t p) p x): ∃v∈lG (ji (eG t p)),(gO t p v).1=(gO t p x).1:=by
 obtain⟨h1,h2,h3⟩:=Vm ht p;have cr: ∀l∈mp t p,∃a:Rat,0<a/\ ∀y,(fg l.dir).cross y=a*l.nor.dot y:=fun l hl=>by
  obtain⟨a,a1,a2⟩:=Cp (vp (jB ht _ (pB hl).1));exact⟨a,a1,fun y=>by rw[a2,<-tv];unfold aa.cross;grind⟩
 by_cases hn:ji (eG t p)=[]
 .refine⟨⟨1,0⟩,by unfold lG;rw[if_pos (by rw[hn];rfl)];exact aQ,?_⟩
  rw[AV fun l hl=>?_];have:=(h3 _).2 (qE.2 ⟨l,hl, .inl J⟩);rw[hn] at this;cases this
 .obtain⟨i,hi,hs⟩:=XT h1 h2 hn (x:=x) fun d hd=>by
   obtain⟨l,k1,k2⟩:=qE.1 ((h3 d).1 hd);obtain⟨a,a1,a2⟩:=cr l k1;have hz:=hx l k1 (pB k1).2;have e:(fg l.dir).cross x≠0:=by rw[a2];grind
   rcases k2 with rfl|rfl
   .exact e
   .intro q;apply e;unfold aa.cross bD at*;grind
  refine⟨pf (ji (eG t p)) i,?_,?_⟩
  .unfold lG
   rw[if_neg m5];exact aT.2 ⟨i,jU.2 hi,J⟩
  .rw[AV fun l hl=>?_]
   have:=hs _ ((h3 _).2 (qE.2 ⟨l,hl, .inl J⟩));obtain⟨a,a1,a2⟩:=cr l hl;rw[a2,a2] at this;have sg: ∀z:Rat,Int.sign (a*z).num=Int.sign z.num:=fun z=>by
    rcases fG z with k|k|k
    .subst k;rw[show a*0=0 by grind]
    .rw[(nC _).2 k,(nC _).2 (bE a1 k)]
    .rw[zM k,zM (by have:=bE (a:=a) (b:= -z) a1 va;grind)]
   rw[sg,sg] at this;exact this.symm
def vz(t:Tr)(p:aa):Bool:=(lG (ji (eG t p))).any fun v=>(gO t p v).1
def zq(t:Tr)(p:aa):Bool:=(lG (ji (eG t p))).all fun v=>(gO t p v).1
def rk(t:Tr)(p:aa):Int:=if vz t p&&zq t p then 2 else if vz t p then 1 else 0
def Gf(ht:t.all ah.ok):vz t p=true↔ua t p true:=by
 unfold vz;rw[iU];constructor
 .rintro ⟨v,h1,h2⟩;exact⟨v,T3 ht h1,h2⟩
 .rintro ⟨x,h1,h2⟩
  obtain⟨v,k1,k2⟩:=Qz ht h1;exact⟨v,k1,by rw[k2,h2]⟩
def SB(ht:t.all ah.ok):zq t p=true↔ ¬ua t p false:=by
 unfold zq;rw[dW];constructor
 .rintro h ⟨x,h1,h2⟩
  obtain⟨v,k1,k2⟩:=Qz ht h1;have:=h v k1;rw[k2,h2] at this;cases this
 .intro h v hv
  cases hb:(gO t p v).1 with
  |true=>rfl
  |false=>exact absurd ⟨v,T3 ht hv,hb⟩ h
def Mm(ht:t.all ah.ok):rk t p=2↔ ¬ua t p false:=by
 unfold rk;constructor
 .intro h
  split at h
  .rename_i k;rw[bR] at k;exact(SB ht).1 k.2
  .split at h<;>exact absurd h pb
 .intro h
  have h1:=(SB ht).2 h;have h2:=(Gf ht).2 ((azX ht p).resolve_right h);rw[h1,h2];rfl
def auD(ht:t.all ah.ok):rk t p=0↔ ¬ua t p true:=by
 unfold rk;constructor
 .intro h k
  rw[(Gf ht).2 k] at h;split at h
  .exact absurd h pb
  .exact absurd h pb
 .intro h
  have h1:vz t p=false:=by
   cases e:vz t p with
   |false=>rfl
   |true=>exact absurd ((Gf ht).1 e) h
  rw[h1];rfl
def sH(u:aa): ¬cA u u:=by
 rintro (h|⟨_,h⟩)
 .omega
 .have:u.cross u=0:=by unfold aa.cross;grind
  rw[this] at h;exact absurd h pb
def yB(h:cA u v)(k:cA v u):False:=sH u (wE h k)
def ED{x y:aa}(h: ¬cA x y)(k: ¬cA y x):cE x y=0:=by
 rw[<-nH] at h k;unfold cE at*;split at h<;>try omega
 split at h<;>try omega
 split at k<;>try omega
 rw[show y.cross x= -(x.cross y) by unfold aa.cross;grind,nQ,Int.sign_neg] at k;omega
def y9(vs:List ao):dm 8 (vs.map eV):=fun d hd=>by
 obtain⟨u,_,rfl⟩:=aT.1 hd;exact⟨rfl,rfl⟩
def fP(qs:List Rat):dm 3 (qs.map eQ):=fun d hd=>by
 obtain⟨u,_,rfl⟩:=aT.1 hd;exact⟨rfl,rfl⟩
def Lx(bs:List Bool):dm 1 (bs.map vB):=fun d hd=>by
 obtain⟨u,_,rfl⟩:=aT.1 hd;exact⟨rfl,rfl⟩
def az9{v:ao}{t:Rat}{a b:Int}(h:l[k]? =some v)(ha:a=if v.nl then 1 else bB t v.lo)(hb:b=if v.nh then-1 else bB t v.hi):
  uj (l.drop k) t=if 0<a/\b<0 then 2 else if(a=0/\b<=0)\/(b=0/\0<=a) then 1 else uj (l.drop (k+1)) t:=by
 obtain⟨hk,rfl⟩:=aS.1 h;rw[bV hk,uj,ha,hb]
structure oo (v:ao):Prop where
 lo:BQ v.lo 1200
 hi:BQ v.hi 1200
theorem ome{p:Prop}(h:p:=by first|(rw[<-h2,fR];rfl)|(rw[<-h2,hst,if_pos m5];rfl)|(rw[<-h2,hst,if_neg m5,if_pos m5];rfl)):p:=h
def az1{t:Rat}[ht:BQ t i](hb: ∀v∈l,oo v)(hn:l.length<=100000)(hi:i<=20000:=by decide):PF GB prog 325 [.sl (l.map eV),eQ t] (vI (uj l t)):=by
 have hm:=fy eV l;refine fn (fu:=⟨11⟩) func325 J J ntmps325 J J (fun C=>?_);refine aj 10 (.d (vI (l.length:Nat))) J oml<|gx J<|lp (X:=Nat) (fun k=>[(11, .d (vI (k:Nat)))]) (fun k=>[]) (fun k=>k<=l.length/\uj (l.drop k) t=uj l t) (fun k=>l.length-k) 0 J ⟨bK _,J⟩ (fun _=>J) (fun k hk=>?_);obtain⟨h1,h2⟩:=hk;refine br J J J (fun hc12=>?_) (fun hc12=>?_)
 .
  obtain⟨v,hz⟩: ∃s,l[k]? =some s:=⟨_,aZ m5⟩;have hv:=hb v (aW hz);haveI:=hv.lo;haveI:=hv.hi;refine ix (fu:=⟨12⟩) _ J (cO hz) J<|mg (fu:=⟨1⟩) (X:=Int) (fun a=>[(7, .d (vI a))]) (fun a=>[]) (fun a=>a=if v.nl then 1 else bB t v.lo) [7] [] rfl ?_ (fun _=>J) (fun a ha=>?_)
  .
   refine gx J<|bb J J J (fun hc17=>?_) (fun hc17=>?_)
   .
    refine cl J (od (a:=t) (b:=v.lo) (i:=i) m5) J<|at_ (bB t v.lo) (by rw[if_neg (by simpa using hc17)])
   .
    exact at_ 1 (by rw[if_pos (by simpa using hc17)])
  .
   refine mg (X:=Int) (fun b=>[(8, .d (vI b))]) (fun b=>[]) (fun b=>b=if v.nh then-1 else bB t v.hi) [8] [] rfl ?_ (fun _=>J) (fun b hb'=>?_)
   .
    refine gx J<|bb J J J (fun hc24=>?_) (fun hc24=>?_)
    .
     refine cl J (od (a:=t) (b:=v.hi) (i:=i) m5) J<|at_ (bB t v.hi) (by rw[if_neg (by simpa using hc24)])
    .
     exact at_ (-1) (by rw[if_pos (by simpa using hc24)])
   .
    have hst:=az9 hz ha hb';refine cs 31 J J J (fun hg31=>?_) (fun hg31=>?_)
    .
     refine br J J J (fun hc34=>?_) (fun hc34=>?_)
     .
      exact rz J ome
     .
      refine cs 37 J J J (fun hg37=>?_) (fun hg37=>?_)
      .
       refine cs 41 J J J (fun hg41=>?_) (fun hg41=>?_)
       .
        exact rz J ome
       .
        refine cs 44 J J J (fun hg44=>?_) (fun hg44=>?_)
        .
         refine br J J J (fun hc48=>?_) (fun hc48=>?_)
         .
          exact rz J ome
         .
          exact at_ (k+1) ⟨⟨m5,by rw[<-h2,hst,if_neg m5,if_neg m5]⟩,m5⟩
        .
         exact at_ (k+1) ⟨⟨m5,by rw[<-h2,hst,if_neg m5,if_neg m5]⟩,m5⟩
      .
       refine cs 44 J J J (fun hg44=>?_) (fun hg44=>?_)
       .
        refine br J J J (fun hc48=>?_) (fun hc48=>?_)
        .
         exact rz J ome
        .
         exact at_ (k+1) ⟨⟨m5,by rw[<-h2,hst,if_neg m5,if_neg m5]⟩,m5⟩
       .
        exact at_ (k+1) ⟨⟨m5,by rw[<-h2,hst,if_neg m5,if_neg m5]⟩,m5⟩
    .
     refine cs 37 J J J (fun hg37=>?_) (fun hg37=>?_)
     .
      refine cs 41 J J J (fun hg41=>?_) (fun hg41=>?_)
      .
       exact rz J ome
      .
       refine cs 44 J J J (fun hg44=>?_) (fun hg44=>?_)
       .
        refine br J J J (fun hc48=>?_) (fun hc48=>?_)
        .
         exact rz J ome
        .
         exact at_ (k+1) ⟨⟨m5,by rw[<-h2,hst,if_neg m5,if_neg m5]⟩,m5⟩
       .
        exact at_ (k+1) ⟨⟨m5,by rw[<-h2,hst,if_neg m5,if_neg m5]⟩,m5⟩
     .
      refine cs 44 J J J (fun hg44=>?_) (fun hg44=>?_)
      .
       refine br J J J (fun hc48=>?_) (fun hc48=>?_)
       .
        exact rz J ome
       .
        exact at_ (k+1) ⟨⟨m5,by rw[<-h2,hst,if_neg m5,if_neg m5]⟩,m5⟩
      .
       exact at_ (k+1) ⟨⟨m5,by rw[<-h2,hst,if_neg m5,if_neg m5]⟩,m5⟩
 .
  obtain rfl:k=l.length:=by omega
  exact rz J ome
def Ts{t:Rat}[ht:BQ t i](hb: ∀v∈l,oo v)(hn:l.length<=100000)(hi:i<=20000:=by decide):PF GB prog 299 [.sl (l.map eV),eQ t] (vB (gD l t)):=by
 refine fn func299 J J ntmps299 J J (fun C=>?_);refine cl J (az1 (l:=l) (t:=t) hb hn hi) J<|rz J J
def H6: ∀{l:List Rat} {i:Nat} {a b:Rat},l[i]? =some a->l[i+1]? =some b->gI (l.take (i+2))=gI (l.take (i+1))++[(a+b)/2]
 |[],i,a,b,h,_=>by simp at h
 |[_],i,a,b,h,k=>by simp at k
 |c::d::t,0,a,b,h,k=>by
  simp at h k;subst h;subst k;simp[gI]
 |c::d::t,i+1,a,b,h,k=>by
  have:=H6 (l:=d::t) (i:=i) omv (by simpa using k);rw[show(c::d::t).take (i+1+2)=c::d::t.take (i+1) by simp,show(c::d::t).take (i+1+1)=c::d::t.take i by simp,gI,gI,iV];congr 1
def BB: ∀l:List Rat,(gI l).length<=l.length
 |[]=>bW _
 |[_]=>bK _
 |a::b::t=>by rw[gI,aN,aN];exact Nat.succ_le_succ (BB (b::t))
def SH{a:Rat}{t:List Rat}(h:(a::t)[t.length]? =some z):cx (a::t)=(a-1)::(gI (a::t)++[z+1]):=by
 rw[cx];have:(a::t).getLast vb=z:=by
  rw[List.getLast_eq_getElem];have:=aS.1 h;obtain⟨h1,h2⟩:=this;rw[<-h2];congr 1
 rw[this]
theorem oks{p:Prop}(h:p:=by rw[show((((ct.length+1:Nat):Int))-1).toNat=ct.length by omega,cZ,hz];rfl):p:=h
theorem okM{p:Prop}(h:p:=by rw[hm2]<;>rfl):p:=h
theorem okO{p:Prop}(h:p:=by rw[show((((i+1:Nat):Int))-1).toNat=i by omega,cZ,hu];rfl):p:=h
def aBk(hb: ∀q∈cuts,BQ q 1200)(hn:cuts.length<=100000):PF GB prog 298 [.sl (cuts.map eQ)] (.sl ((cx cuts).map eQ)):=by
 have hm:=fy eQ cuts;refine fn (fu:=⟨10⟩) func298 J J ntmps298 J J (fun C=>?_);refine aj 6 (.d (vI (cuts.length:Nat))) J oml<|gx J<|br J J J (fun hc7=>?_) (fun hc7=>?_)
 .
  obtain rfl:cuts=[]:=cJ m5;refine rf J J<|rz J (by rw[cx];show DV.sl [_]=DV.sl [_];rw[Jl])
 .
  obtain⟨a,ct,rfl⟩: ∃a t,cuts=a::t:=by cases cuts with|nil=>exact absurd rfl hc7|cons a t=>exact⟨a,t,rfl⟩
  haveI hab:=hb a aQ;have hcl:ct.length+1<=100000:=hn;refine ix _ J J J<|cl J (lB (n:=1)) J<|cl (fu:=⟨0⟩) J (sG (a:=a) (b:=((1:Int):Rat))) J<|aj 14 (.d (eQ (a-1))) J J<|gx J<|ro J J<|lp (fu:=⟨6⟩) (X:=Nat) (fun i=>[(4, .d (vI ((i+1:Nat):Int))),(3, .rw 15)]) (fun i=>[(15,some (.b 34 3 (((a-1)::gI ((a::ct).take (i+1))).map eQ) true))]) (fun i=>i<=ct.length) (fun i=>ct.length-i) 0 J (bK _) (fun _=>J) (fun i hk=>?_);have hm2:=fy eQ (a::ct);have hml:=BB (a::ct.take i);rw[aN,bL] at hml;have hml2:=BB (a::ct);rw[aN] at hml2;refine aj 18 (.d (vI ((ct.length+1:Nat):Int))) J okM<|gx J<|br (fu2:=⟨11⟩) J J J (fun hc19=>?_) (fun hc19=>?_)
  .
   obtain⟨u,hu⟩: ∃s,(a::ct)[i]? =some s:=⟨_,aZ omg⟩;obtain⟨w,hw⟩: ∃s,(a::ct)[i+1]? =some s:=⟨_,aZ omg⟩;haveI:=hb u (aW hu);haveI:=hb w (aW hw);refine ix _ J okO J<|ix _ J (by rw[cX,cZ,hw];rfl) J<|?_;refine cl J (FS (a:=u) (b:=w)) J<|rf J J<|ap (hv:=by simp only[ak];exact⟨v6,m5⟩) (((a-1)::gI ((a::ct).take (i+1+1))).map eQ) J (by rw[H6 hu hw,<-iV,bX];rfl) (fP [(u+w)/2]) J<|fI 34 15 J<|at_ (i+1) ⟨m5,m5⟩
  .
   obtain rfl:i=ct.length:=by omega
   obtain⟨z,hz⟩: ∃s,(a::ct)[ct.length]? =some s:=⟨_,aZ vb⟩;haveI:=hb z (aW hz);rw[show(a::ct).take (ct.length+1)=a::ct from dX (l:=a::ct)];refine aj 38 (.d (vI ((ct.length+1:Nat):Int))) J okM<|gx J<|ix _ J oks J<|cl J (lB (n:=1)) J<|?_;refine cl J (oe (a:=z) (b:=((1:Int):Rat))) J<|rf J J<|ap ((cx (a::ct)).map eQ) J (by rw[SH hz,<-iV,bX];rfl) (fP [z+1]) J<|iH 45 J<|rz J J
def QX(o:List Rat)(s:ao):(mi o s).length<=o.length+2:=by
 unfold mi;have h:=fun(x:Rat) (l:List Rat)=>yZ (x:=x) (l:=l)▸Eq bB x l;have h1:=h s.lo o;have h2:=h s.hi o;have h3:=h s.hi (lP s.lo o);split<;>split<;>omega
def r5(l:List ao)(k:Nat):List Rat:=ja (l.take k)
def Np{v:ao}(h:l[k]? =some v):r5 l (k+1)=mi (r5 l k) v:=by
 unfold r5 ja;rw[dT,h,oM];rfl
def D9(l:List ao): ∀k,(r5 l k).length<=2*k
 |0=>bW _
 |k+1=>by
  cases h:l[k]? with
  |none=>
   have:=D9 l k;unfold r5 at*;rw[dT,h];simp;omega
  |some v=>rw[Np h];have:=D9 l k;have:=QX (r5 l k) v;omega
theorem S0(hb: ∀v∈l,oo v): ∀y∈r5 l k,BQ y 1200:=fun y hy=>by
 obtain⟨s,hs,h⟩:=(Ge _).2 y hy;have:=hb s (dS hs);rcases h with⟨_,rfl⟩|⟨_,rfl⟩
 .exact this.lo
 .exact this.hi
def tr(o:List Rat)(v:ao)(j:Nat):List Rat:=if j=0 then o else if j=1 then(if v.nl then o else lP v.lo o) else mi o v
def Bh(v:ao)(j:Nat):Rat:=if j=0 then v.lo else v.hi
def rP(v:ao)(j:Nat):Bool:=if j=0 then v.nl else v.nh
def wX{v:ao}(hj:j<2:=by decide):tr o v (j+1)=if rP v j then tr o v j else dw bB (Bh v j) (tr o v j):=by
 have:j=0\/j=1:=by omega
 rcases this with rfl|rfl
 .simp[tr,rP,Bh,yZ]
 .simp[tr,rP,Bh,mi,yZ]
def aBz{v:ao}(hj:j<=2):(tr o v j).length<=o.length+2:=by
 unfold tr;have:=QX o v;have h:=yZ (x:=v.lo) (l:=o)▸Eq bB v.lo o;split
 .omega
 .split
  .split<;>omega
  .exact this
theorem Yv(ho: ∀q∈o,BQ q 1200){v:ao}(hv:oo v)(hj:j<=2): ∀q∈tr o v j,BQ q 1200:=fun q hq=>by
 unfold tr mi at hq;have lo:=hv.lo;have hi:=hv.hi;split at hq
 .exact ho q hq
 .split at hq
  .split at hq
   .exact ho q hq
   .rcases qI.1 hq with rfl|hq
    .exact lo
    .exact ho q hq
  .split at hq
   .split at hq
    .exact ho q hq
    .rcases qI.1 hq with rfl|hq
     .exact lo
     .exact ho q hq
   .rcases qI.1 hq with rfl|hq
    .exact hi
    .split at hq
     .exact ho q hq
     .rcases qI.1 hq with rfl|hq
      .exact lo
      .exact ho q hq
theorem omq{p:Prop}(h:p:=by rw[hys,bX,bY,gM,iT,bM (l:=xs.map eQ) (i:=xs.length) vb];rfl):p:=h
theorem omA{p:Prop}(h:p:=by dsimp only;exact⟨⟨by rw[wX,if_neg (by simpa[rP] using hg32),<-g1,<-hm2,hin],m5⟩,m5⟩):p:=h
theorem omB{p:Prop}(h:p:=by dsimp only;exact⟨⟨by rw[wX,if_neg (by simpa[rP] using hc39),<-g1,<-hm2,hin],m5⟩,m5⟩):p:=h
def aIk(hb: ∀v∈l,oo v)(hn:l.length<=10000):PF GB prog 297 [.sl (l.map eV)] (.sl ((ja l).map eQ)):=by
 have hm:=fy eV l;refine fn (fu:=⟨15⟩) func297 J J ntmps297 J J (fun C=>?_);refine aj 10 (.d (vI (l.length:Nat))) J oml<|gx J<|Bj 3 J<|lp (X:=List Rat×Nat) (fun⟨o,k⟩=>[(11, .d (vI (k:Nat))),(3, .d (.sl (o.map eQ)))]) (fun⟨o,k⟩=>[]) (fun⟨o,k⟩=>o=r5 l k/\k<=l.length) (fun⟨o,k⟩=>l.length-k) ([],0) J ⟨J,bK _⟩ (fun _=>J) (fun⟨o,k⟩ hk=>?_);dsimp only at hk⊢;obtain⟨h1,h2⟩:=hk;refine br J J J (fun hc12=>?_) (fun hc12=>?_)
 .
  obtain⟨v,hz⟩: ∃s,l[k]? =some s:=⟨_,aZ m5⟩;have hv:=hb v (aW hz);haveI:=hv.lo;haveI:=hv.hi;have hob:=S0 hb (k:=k);have hol:=D9 l k;rw[<-h1] at hob hol;refine ix _ J (cO hz) J<|rf J J<|lp (X:=List Rat×Nat) (fun⟨xs,j⟩=>[(21, .d (vI (j:Nat))),(3, .d (.sl (xs.map eQ)))]) (fun⟨xs,j⟩=>[]) (fun⟨xs,j⟩=>xs=tr o v j/\j<=2) (fun⟨xs,j⟩=>2-j) (o,0) J ⟨J,m5⟩ (fun _=>J) (fun⟨xs,j⟩ hk=>?_);dsimp only at hk⊢;obtain⟨g1,g2⟩:=hk;refine br J J J (fun hc22=>?_) (fun hc22=>?_)
  .
   have hj2:j<2:=by have:=hc22;simp only[aN,eK] at this;omega
   obtain⟨m,hm2⟩: ∃m,m=Bh v j:=⟨_,rfl⟩;haveI hmb:BQ m 1200:=by rw[hm2];unfold Bh;split;exact hv.lo;exact hv.hi
   have hxl:=fy eQ xs;have hxn:xs.length<=2*k+2:=by rw[g1];have:=aBz (o:=o) (v:=v) (j:=j) g2;omega
   have hxb: ∀q∈xs,BQ q 1200:=by rw[g1];exact Yv hob hv g2
   refine ix (fu:=⟨10⟩) _ rfl (by rw[cX];exact(show([v.lo,v.hi].map eQ)[j]? =some (eQ m) by rw[hm2];have:j=0\/j=1:=m5;rcases this with rfl|rfl<;>rfl)) rfl<|?_;rcases(show j=0\/j=1 by omega) with rfl|rfl
   .
    refine d7 J J J<|je (fu2:=⟨1⟩) 32 J J J (fun hg32=>?_) (fun hg32=>?_)
    .
     exact at_ (xs,0+1) (by dsimp only;exact⟨⟨by rw[wX,if_pos (by simpa[rP] using hg32),<-g1],m5⟩,m5⟩)
    .
     refine c9 (fu:=⟨16⟩) J J J<|mg (fu:=⟨5⟩) (X:=Nat) (fun n=>[(8, .d (vI (n:Nat)))]) (fun n=>[]) (fun n=>mf bB m xs=n) [8] [] rfl ?_ (fun _=>J) (fun n hnx=>?_)
     .
      refine gx J<|lp (fu:=⟨6⟩) (X:=Nat) (fun n=>[(8, .d (vI (n:Nat)))]) (fun n=>[]) (fun n=>n<=xs.length/\ ∀j (h:j<xs.length),j<n->bB xs[j] m<0) (fun n=>xs.length-n) 0 J ⟨bK _,fun j _ hj=>absurd hj m5⟩ (fun _=>J) (fun n hk=>?_);obtain⟨n1,n2⟩:=hk;refine kC (v2:=fun hg43=>by simp only[ak];kernel_rfl) J J J J (fun hg43=>?_) (fun hg43=>?_)
      .
       refine ix _ J (p8) J<|cl J (od (a:=xs[n]' m5) (b:=m) (ha:=hxb _ (cK m5)) (hb:=hmb)) J<|br J J J (fun hc52=>?_) (fun hc52=>?_)
       .
        exact at_ (n+1) ⟨⟨m5,fun j h hj=>by by_cases q:j=n;(subst q;exact hc52);exact n2 j h m5⟩,m5⟩
       .
        exact at_ n (th bB n1 n2 (fun h=>hc52))
      .
       exact at_ n (th bB n1 n2 (fun h=>absurd h m5))
     .
      have hnl:n<=xs.length:=by rw[<-hnx];exact BP _ _ _
      refine kC (v1:=fun hg58=>by simp only[ak];kernel_rfl) J J J J (fun hg58=>?_) (fun hg58=>?_)
      .
       have hnew: ∀h:n<xs.length,bB xs[n] m≠0:=fun h=>absurd h m5;obtain⟨ys,hys⟩: ∃ys,ys=xs.take n++m::xs.drop n:=⟨_,rfl⟩;have hin:dw bB m xs=ys:=by rw[hys];exact rO bB hnx hnew
       have hyl:ys.length<=xs.length+1:=by rw[hys];simp;omega
       refine s3 n _ J J J J (fP _) omu J<|ro J J<|kt n xs.length _ J J omZ J (fP _) hnl m5 J<|ap _ J J (rI fP _ _ _) J<|mz (hv:=by simp only[ak];exact⟨v6,m5⟩) (ho:=fun _=>⟨ur fP _ _,vb⟩) (ys.map eQ) J omq (sP fP _ _ _ _) J<|at_ (ys,0+1) omA
      .
       refine ix _ J (p8) J<|cl J (od (a:=xs[n]' m5) (b:=m) (ha:=hxb _ (cK m5)) (hb:=hmb)) J<|br (fu2:=⟨7⟩) J J J (fun hc67=>?_) (fun hc67=>?_)
       .
        have hnew: ∀h:n<xs.length,bB xs[n] m≠0:=fun h=>hc67;obtain⟨ys,hys⟩: ∃ys,ys=xs.take n++m::xs.drop n:=⟨_,rfl⟩;have hin:dw bB m xs=ys:=by rw[hys];exact rO bB hnx hnew
        have hyl:ys.length<=xs.length+1:=by rw[hys];simp;omega
        refine s3 n _ J J J J (fP _) omu J<|ro J J<|kt n xs.length _ J J omZ J (fP _) hnl m5 J<|ap _ J J (rI fP _ _ _) J<|mz (hv:=by simp only[ak];exact⟨v6,m5⟩) (ho:=fun _=>⟨ur fP _ _,vb⟩) (ys.map eQ) J omq (sP fP _ _ _ _) J<|at_ (ys,0+1) omA
       .
        have hin:dw bB m xs=xs:=z7 bB hnx m5 (Decidable.not_not.1 hc67);exact at_ (xs,0+1) omA
   .
    refine c9 (fu:=⟨6⟩) J J J<|d7 J J J<|bb (fu2:=⟨8⟩) J J J (fun hc39=>?_) (fun hc39=>?_)
    .
     exact at_ (xs,1+1) (by dsimp only;exact⟨⟨by rw[wX,if_pos (by simpa[rP] using hc39),<-g1],m5⟩,m5⟩)
    .
     refine mg (fu:=⟨5⟩) (X:=Nat) (fun n=>[(8, .d (vI (n:Nat)))]) (fun n=>[]) (fun n=>mf bB m xs=n) [8] [] rfl ?_ (fun _=>J) (fun n hnx=>?_)
     .
      refine gx J<|lp (fu:=⟨6⟩) (X:=Nat) (fun n=>[(8, .d (vI (n:Nat)))]) (fun n=>[]) (fun n=>n<=xs.length/\ ∀j (h:j<xs.length),j<n->bB xs[j] m<0) (fun n=>xs.length-n) 0 J ⟨bK _,fun j _ hj=>absurd hj m5⟩ (fun _=>J) (fun n hk=>?_);obtain⟨n1,n2⟩:=hk;refine kC (v2:=fun hg43=>by simp only[ak];kernel_rfl) J J J J (fun hg43=>?_) (fun hg43=>?_)
      .
       refine ix _ J (p8) J<|cl J (od (a:=xs[n]' m5) (b:=m) (ha:=hxb _ (cK m5)) (hb:=hmb)) J<|br J J J (fun hc52=>?_) (fun hc52=>?_)
       .
        exact at_ (n+1) ⟨⟨m5,fun j h hj=>by by_cases q:j=n;(subst q;exact hc52);exact n2 j h m5⟩,m5⟩
       .
        exact at_ n (th bB n1 n2 (fun h=>hc52))
      .
       exact at_ n (th bB n1 n2 (fun h=>absurd h m5))
     .
      have hnl:n<=xs.length:=by rw[<-hnx];exact BP _ _ _
      refine kC (v1:=fun hg58=>by simp only[ak];kernel_rfl) J J J J (fun hg58=>?_) (fun hg58=>?_)
      .
       have hnew: ∀h:n<xs.length,bB xs[n] m≠0:=fun h=>absurd h m5;obtain⟨ys,hys⟩: ∃ys,ys=xs.take n++m::xs.drop n:=⟨_,rfl⟩;have hin:dw bB m xs=ys:=by rw[hys];exact rO bB hnx hnew
       have hyl:ys.length<=xs.length+1:=by rw[hys];simp;omega
       refine s3 n _ J J J J (fP _) omu J<|ro J J<|kt n xs.length _ J J omZ J (fP _) hnl m5 J<|ap _ J J (rI fP _ _ _) J<|mz (hv:=by simp only[ak];exact⟨v6,m5⟩) (ho:=fun _=>⟨ur fP _ _,vb⟩) (ys.map eQ) J omq (sP fP _ _ _ _) J<|at_ (ys,1+1) omB
      .
       refine ix _ J (p8) J<|cl J (od (a:=xs[n]' m5) (b:=m) (ha:=hxb _ (cK m5)) (hb:=hmb)) J<|br J J J (fun hc67=>?_) (fun hc67=>?_)
       .
        have hnew: ∀h:n<xs.length,bB xs[n] m≠0:=fun h=>hc67;obtain⟨ys,hys⟩: ∃ys,ys=xs.take n++m::xs.drop n:=⟨_,rfl⟩;have hin:dw bB m xs=ys:=by rw[hys];exact rO bB hnx hnew
        have hyl:ys.length<=xs.length+1:=by rw[hys];simp;omega
        refine s3 n _ J J J J (fP _) omu J<|ro J J<|kt n xs.length _ J J omZ J (fP _) hnl m5 J<|ap _ J J (rI fP _ _ _) J<|mz (hv:=by simp only[ak];exact⟨v6,m5⟩) (ho:=fun _=>⟨ur fP _ _,vb⟩) (ys.map eQ) J omq (sP fP _ _ _ _) J<|at_ (ys,1+1) omB
       .
        have hin:dw bB m xs=xs:=z7 bB hnx m5 (Decidable.not_not.1 hc67);exact at_ (xs,1+1) omB
  .
   have hj2: ¬j<2:=by have:=hc22;simp only[aN,eK] at this;omega
   exact at_ (xs,k+1) (by dsimp only;exact⟨⟨by rw[Np hz,<-h1,g1,show j=2 by omega];rfl,m5⟩,m5⟩)
 .
  have hfin:ja l=o:=by rw[h1,show k=l.length by omega];unfold r5;rw[dX]
  exact rz J okU
def aCF(t:Rat):eV ⟨t,0,false,true⟩= .ag [.v (.bool (decide (t.num<0))),dN t.num.natAbs,dD t.den, .v (.bool false), .sl [], .sl [], .v (.bool false), .v (.bool true)]:=by
 unfold eV dD;simp only[show(0:Rat).num=0 from J,show(0:Rat).den=1 from J,lN,pe];rfl
def aCn(t:Rat):eV ⟨0,t,true,false⟩= .ag [.v (.bool false), .sl [], .sl [], .v (.bool (decide (t.num<0))),dN t.num.natAbs,dD t.den, .v (.bool true), .v (.bool false)]:=by
 unfold eV dD;simp only[show(0:Rat).num=0 from J,show(0:Rat).den=1 from J,lN,pe];rfl
def BU(l m:ah)(side:Int):DV:= .tp [.sl ((ju l m side).map eV),vB (mD l m)]
def Nz{l:ah}(h:crossI l m≠0):mD l m=false:=by unfold mD;rw[decide_eq_false];exact fun e=>h e.1
def Qs{l:ah}(h:crossI l m=0):mD l m=decide ((m.value l.base).num.sign=0):=by unfold mD;simp[h]
def QR{l:ah}{side:Int}[hl:LB l][hm:LB m](hlo:l.ok)(hmo:m.ok)(hs:side=1\/side= -1):PF GB prog 259 [eL l,eL m,vI side] (BU l m side):=by
 refine fn func259 J J ntmps259 J J (fun C=>?_);refine cl J (Lm (l:=l) (m:=m)) J<|bb J J J (fun hc19=>?_) (fun hc19=>?_)
 .
  have hc:crossI l m=0:=by simpa using hc19
  refine cl J (Di hlo.ne) J<|cl J (BE (l:=m) (p:=l.base)) J<|br J J J (fun hc26=>?_) (fun hc26=>?_)
  .
   refine cl J LH J<|rf J J<|rz J (by unfold BU ju;rw[if_pos hc,if_pos hc26,Qs hc];rfl)
  .
   exact rz J (by unfold BU ju;rw[if_pos hc,if_neg hc26,Qs hc];rfl)
 .
  have hc:crossI l m≠0:=by simpa using hc19
  haveI hpb:=DA (l:=l) (m:=m) hlo.ne hc;obtain⟨t,ht⟩: ∃t,t=gy l (dC l m):=⟨_,rfl⟩;refine cl (fu:=⟨0⟩) J (D0 (l:=l) (p:=dC l m) hlo.ne) J<|aj 35 (.d (eQ t)) J (by rw[ht]) ?_;rw[<-ht] at hpb;refine gx J<|cl J (lB (n:=1)) J<|cl J (oe (a:=t) (b:=((1:Int):Rat))) J<|cl J (Sp (l:=l) (t:=t+((1:Int):Rat)) hlo.ne) J<|cl J (BE (l:=m) (p:=l.at (t+((1:Int):Rat)))) J<|br J J J (fun hc44=>?_) (fun hc44=>?_)
  .
   refine rf J J<|rz J (by unfold BU ju;rw[if_neg hc,<-ht,if_pos (show(m.value (l.at (t+1))).num.sign=side from hc44),Nz hc,bY,aCF];rfl)
  .
   refine rf J J<|rz J (by unfold BU ju;rw[if_neg hc,<-ht,if_neg (show¬(m.value (l.at (t+1))).num.sign=side from hc44),Nz hc,bY,aCn];rfl)
def gn(f:bt):DV:= .ag [.v (.bool (decide (f.l.a<0))),dN f.l.a.natAbs, .v (.bool (decide (f.l.b<0))),dN f.l.b.natAbs, .v (.bool (decide (f.l.c<0))),dN f.l.c.natAbs, .v (.bool (decide (f.v.lo.num<0))),dN f.v.lo.num.natAbs,dD f.v.lo.den, .v (.bool (decide (f.v.hi.num<0))),dN f.v.hi.num.natAbs,dD f.v.hi.den, .v (.bool f.v.nl), .v (.bool f.v.nh)]
def zJ(fs:List bt):dm 14 (fs.map gn):=fun d hd=>by
 obtain⟨u,_,rfl⟩:=aT.1 hd;exact⟨rfl,rfl⟩
theorem HN{p:ZP}(h:ZP.le 100 p):aC p.q 12:=by
 haveI:BI p.1 11:=vo (by have:=h.1;omega);haveI:BI p.2 11:=vo (by have:=h.2;omega);exact(inferInstance:aC (iP p.1 p.2) 12)
def aMB(a b:Bool):eV ⟨0,0,a,b⟩= .ag [.v (.bool false), .sl [], .sl [], .v (.bool false), .sl [], .sl [], .v (.bool a), .v (.bool b)]:=by
 unfold eV dD;simp only[show(0:Rat).num=0 from J,show(0:Rat).den=1 from J,lN,pe];rfl
def Ot(t:Rat)(a b:Bool):eV ⟨t,0,a,b⟩= .ag [.v (.bool (decide (t.num<0))),dN t.num.natAbs,dD t.den, .v (.bool false), .sl [], .sl [], .v (.bool a), .v (.bool b)]:=by
 unfold eV dD;simp only[show(0:Rat).num=0 from J,show(0:Rat).den=1 from J,lN,pe];rfl
def XY(t:Rat)(a b:Bool):eV ⟨0,t,a,b⟩= .ag [.v (.bool false), .sl [], .sl [], .v (.bool (decide (t.num<0))),dN t.num.natAbs,dD t.den, .v (.bool a), .v (.bool b)]:=by
 unfold eV dD;simp only[show(0:Rat).num=0 from J,show(0:Rat).den=1 from J,lN,pe];rfl
def aEp(h:i=0)(k: ¬i<cuts.length):d8 cuts i=⟨0,0,decide (i=0),decide (i=cuts.length)⟩:=by unfold d8;rw[if_pos h,if_neg k]
def aEF(h:i=0)(k:cuts[i]? =some y):d8 cuts i=⟨0,y,decide (i=0),decide (i=cuts.length)⟩:=by
 unfold d8;rw[if_pos h,if_pos (aS.1 k).1,aK,k];rfl
def ZC(h: ¬i=0)(k:cuts[i-1]? =some x)(k2: ¬i<cuts.length):d8 cuts i=⟨x,0,decide (i=0),decide (i=cuts.length)⟩:=by
 unfold d8;rw[if_neg h,if_neg k2,aK,k];rfl
def Zl(h: ¬i=0)(k:cuts[i-1]? =some x)(k2:cuts[i]? =some y):d8 cuts i=⟨x,y,decide (i=0),decide (i=cuts.length)⟩:=by
 unfold d8;rw[if_neg h,if_pos (aS.1 k2).1,aK,k,aK,k2];rfl
def aBW(h:marks[k]? =some false):gA cuts marks (k+1)=gA cuts marks k:=by
 rw[gA,aK,h];rfl
def EF(h:marks[k]? =some true)(hp: ¬(0<k/\marks[k-1]? =some true)):gA cuts marks (k+1)=gA cuts marks k++[d8 cuts k]:=by
 rw[gA,aK,h];show(if 0<k/\_ then _ else _)=_;rw[if_neg];rintro ⟨h1,h2⟩;rw[aK] at h2
 cases e:marks[k-1]? with
 |none=>rw[e] at h2;cases h2
 |some b=>rw[e] at h2;exact hp ⟨h1,by rw[e];simp at h2;rw[h2]⟩
def ME(h:marks[k]? =some true):gA cuts marks (k+1)≠[]:=by
 rw[gA,aK,h];show(if 0<k/\_ then _ else _)≠[];split
 .split<;>simp
 .simp
def TX{v:ao}(hk:0<k)(h:marks[k]? =some true)(hp:marks[k-1]? =some true)(hx:gA cuts marks k=xs)(hv:xs[xs.length-1]? =some v):gA cuts marks (k+1)=xs.set (xs.length-1) (vF v (d8 cuts k)):=by
 rw[gA,aK,h];show(if 0<k/\_ then _ else _)=_;rw[if_pos ⟨hk,by rw[aK,hp];rfl⟩,hx,oY,hv];have hn:0<xs.length:=by
  have:=(aS.1 hv).1;omega
 show xs.dropLast++[_]=_;apply kL;intro i;rw[qW];by_cases hi:i<xs.length-1
 .rw[fS (by rw[nZ];exact hi),List.getElem?_dropLast,if_pos hi,if_neg m5]
 .by_cases hi2:i=xs.length-1
  .subst hi2
   rw[fN (by rw[nZ];exact bW _),nZ,qS,if_pos J,if_pos m5];rfl
  .rw[dR (by rw[aU,nZ];simp;omega),if_neg m5,dR m5]
def yW{f:α->DV}{l:List α}{x:α}(hk:0<k)(h:l[k-1]? =some x):(l.map f)[(((k:Nat):Int)-1).toNat]? =some (f x):=by
 rw[show(((k:Nat):Int)-1).toNat=k-1 by omega,cZ,h];rfl
def tq:decide (k=n)=decide (((k:Nat):Int)=((n:Nat):Int)):=decide_eq_decide.2 m5
theorem omG{p:Prop}(h:p:=by dsimp only;exact⟨⟨by rw[EF hz hnp,<-h1],m5⟩,m5⟩):p:=h
theorem omH{p:Prop}(h:p:=by rw[show(((xs.length:Nat):Int)-1).toNat=xs.length-1 by omega,jM,List.set_set,jM,hgap];unfold vF;dsimp only;rw[tq (k:=k) (n:=cuts.length)]<;>rfl):p:=h
theorem omV{p:Prop}(h:p:=by rw[hmc]<;>rfl):p:=h
theorem okg{p:Prop}(h:p:=by rw[show(((xs.length:Nat):Int)-1).toNat=xs.length-1 by omega,jM,pM (by rw[hml];omega)]):p:=h
theorem okJ{p:Prop}(h:p:=by dsimp only;exact⟨⟨(TX m5 hz hpb' h1.symm hw).symm,m5⟩,m5⟩):p:=h
def aIo(hn:cuts.length<=100000)(hmk:marks.length<=cuts.length+1):PF GB prog 300 [.sl (cuts.map eQ), .sl (marks.map vB)] (.sl ((wl cuts marks).map eV)):=by
 have hm:=fy vB marks;have hmc:=fy eQ cuts;refine fn (fu:=⟨15⟩) func300 J J ntmps300 J J (fun C=>?_);refine aj 11 (.d (vI (marks.length:Nat))) J oml<|gx J<|nr 5 5 205 8 J J J<|lp (X:=List ao×Nat) (fun⟨xs,k⟩=>[(12, .d (vI (k:Nat))),(5, .rw 5)]) (fun⟨xs,k⟩=>[(5,some (.b 205 8 (xs.map eV) true))]) (fun⟨xs,k⟩=>xs=gA cuts marks k/\k<=marks.length) (fun⟨xs,k⟩=>marks.length-k) ([],0) J ⟨J,bK _⟩ (fun _=>J) (fun⟨xs,k⟩ hk=>?_);dsimp only at hk⊢;obtain⟨h1,h2⟩:=hk;have hml:=fy eV xs;have hxl:xs.length<=k:=by rw[h1];exact Gl
 refine br J J J (fun hc13=>?_) (fun hc13=>?_)
 .
  obtain⟨b,hz⟩: ∃s,marks[k]? =some s:=⟨_,aZ m5⟩;refine ix (fu:=⟨8⟩) _ J (cO hz) J<|?_
  cases b
  .
   refine c9 (fu:=⟨12⟩) J J J<|at_ (xs,k+1) (by dsimp only;exact⟨⟨by rw[aBW hz,<-h1],m5⟩,m5⟩)
  .
   refine d7 (fu:=⟨13⟩) J J J<|?_;rcases(show(k=0/\k<cuts.length)\/(k=0/\ ¬k<cuts.length)\/(0<k/\k<cuts.length)\/(0<k/\ ¬k<cuts.length) by omega) with⟨c1,c2⟩|⟨c1,c2⟩|⟨c1,c2⟩|⟨c1,c2⟩
   .
    obtain⟨y,hy⟩: ∃s,cuts[k]? =some s:=⟨_,aZ m5⟩;have hgap:=aEF (cuts:=cuts) (i:=k) c1 hy;have hnp: ¬(0<k/\marks[k-1]? =some true):=fun e=>by omega
    refine aj 23 (.d (vI (cuts.length:Nat))) J omV<|gx (fu:=⟨10⟩) J<|c9 (fu:=⟨11⟩) J (oma m5) J<|aj 36 (.d (vI (cuts.length:Nat))) J omV<|gx (fu:=⟨0⟩) J<|d7 J (we m5) J<|ix (fu:=⟨10⟩) _ J (cO hy) J<|aj 44 (.d (vI (xs.length:Nat))) J omh<|gx (fu:=⟨6⟩) J<|c9 (fu:=⟨19⟩) J (oma m5) J<|aj 73 (.d (eV (d8 cuts k))) J (by rw[hgap,XY,tq (k:=k) (n:=0),tq (k:=k) (n:=cuts.length)]<;>rfl)<|gx J<|rf J J<|ap (fu:=⟨12⟩) ((xs++[d8 cuts k]).map eV) J omD (y9 [d8 cuts k]) J<|fI 75 5 J<|at_ (xs++[d8 cuts k],k+1) omG
   .
    have hgap:=aEp (cuts:=cuts) (i:=k) c1 c2;have hnp: ¬(0<k/\marks[k-1]? =some true):=fun e=>by omega
    refine aj 23 (.d (vI (cuts.length:Nat))) J omV<|gx (fu:=⟨10⟩) J<|c9 (fu:=⟨11⟩) J (oma m5) J<|aj 36 (.d (vI (cuts.length:Nat))) J omV<|gx (fu:=⟨0⟩) J<|c9 (fu:=⟨10⟩) J (oma m5) J<|aj 44 (.d (vI (xs.length:Nat))) J omh<|gx (fu:=⟨6⟩) J<|c9 (fu:=⟨19⟩) J (oma m5) J<|aj 73 (.d (eV (d8 cuts k))) J (by rw[hgap,aMB,tq (k:=k) (n:=0),tq (k:=k) (n:=cuts.length)]<;>rfl)<|gx J<|rf J J<|ap (fu:=⟨12⟩) ((xs++[d8 cuts k]).map eV) J omD (y9 [d8 cuts k]) J<|fI 75 5 J<|at_ (xs++[d8 cuts k],k+1) omG
   .
    obtain⟨x,hx⟩: ∃s,cuts[k-1]? =some s:=⟨_,aZ m5⟩;obtain⟨pb,hpb⟩: ∃s,marks[k-1]? =some s:=⟨_,aZ m5⟩;obtain⟨y,hy⟩: ∃s,cuts[k]? =some s:=⟨_,aZ m5⟩;have hgap:=Zl (cuts:=cuts) (i:=k) m5 hx hy;refine aj 23 (.d (vI (cuts.length:Nat))) J omV<|gx (fu:=⟨10⟩) J<|d7 J (we m5) J<|ix (fu:=⟨11⟩) _ J (yW m5 hx) J<|aj 36 (.d (vI (cuts.length:Nat))) J omV<|gx (fu:=⟨0⟩) J<|d7 J (we m5) J<|ix (fu:=⟨10⟩) _ J (cO hy) J<|aj 44 (.d (vI (xs.length:Nat))) J omh<|gx (fu:=⟨6⟩) J<|d7 J (we m5) J<|ix _ J (yW m5 hpb) J<|je (fu1:=⟨1⟩) (fu2:=⟨11⟩) 54 J J J (fun hg54=>?_) (fun hg54=>?_)
    .
     have hpb':marks[k-1]? =some true:=by rw[hpb];congr 1
     have hxn:0<xs.length:=by rw[h1];have:=ME (cuts:=cuts) hpb';rw[show k-1+1=k by omega] at this;exact nU.2 this
     obtain⟨w,hw⟩: ∃s,xs[xs.length-1]? =some s:=⟨_,aZ m5⟩;refine d7 J (we m5) J<|sb (eV w) ((xs.set (xs.length-1) (⟨w.lo,y,w.nl,w.nh⟩:ao)).map eV) J (yW hxn hw) J (by rw[show(((xs.length:Nat):Int)-1).toNat=xs.length-1 by omega,jM];rfl) J<|sb (hv:=by simp only[ak];exact⟨v6,m5⟩) (eV (⟨w.lo,y,w.nl,w.nh⟩:ao)) ((xs.set (xs.length-1) (vF w (d8 cuts k))).map eV) J okg J omH J<|?_;exact at_ (xs.set (xs.length-1) (vF w (d8 cuts k)),k+1) okJ
    .
     have hnp: ¬(0<k/\marks[k-1]? =some true):=fun e=>by rw[hpb,hg54] at e;simpa using e.2
     refine aj 73 (.d (eV (d8 cuts k))) J (by rw[hgap];unfold eV;dsimp only;rw[tq (k:=k) (n:=0),tq (k:=k) (n:=cuts.length)]<;>rfl)<|gx J<|rf J J<|ap (fu:=⟨12⟩) ((xs++[d8 cuts k]).map eV) J omD (y9 [d8 cuts k]) J<|fI 75 5 J<|at_ (xs++[d8 cuts k],k+1) omG
   .
    obtain⟨x,hx⟩: ∃s,cuts[k-1]? =some s:=⟨_,aZ m5⟩;obtain⟨pb,hpb⟩: ∃s,marks[k-1]? =some s:=⟨_,aZ m5⟩;have hgap:=ZC (cuts:=cuts) (i:=k) m5 hx c2;refine aj 23 (.d (vI (cuts.length:Nat))) J omV<|gx (fu:=⟨10⟩) J<|d7 J (we m5) J<|ix (fu:=⟨11⟩) _ J (yW m5 hx) J<|aj 36 (.d (vI (cuts.length:Nat))) J omV<|gx (fu:=⟨0⟩) J<|c9 (fu:=⟨10⟩) J (oma m5) J<|aj 44 (.d (vI (xs.length:Nat))) J omh<|gx (fu:=⟨6⟩) J<|d7 J (we m5) J<|ix _ J (yW m5 hpb) J<|je (fu1:=⟨1⟩) (fu2:=⟨11⟩) 54 J J J (fun hg54=>?_) (fun hg54=>?_)
    .
     have hpb':marks[k-1]? =some true:=by rw[hpb];congr 1
     have hxn:0<xs.length:=by rw[h1];have:=ME (cuts:=cuts) hpb';rw[show k-1+1=k by omega] at this;exact nU.2 this
     obtain⟨w,hw⟩: ∃s,xs[xs.length-1]? =some s:=⟨_,aZ m5⟩;refine d7 J (we m5) J<|sb (eV w) ((xs.set (xs.length-1) (⟨w.lo,0,w.nl,w.nh⟩:ao)).map eV) J (yW hxn hw) J (by rw[show(((xs.length:Nat):Int)-1).toNat=xs.length-1 by omega,jM,Ot];rfl) J<|sb (hv:=by simp only[ak];exact⟨v6,m5⟩) (eV (⟨w.lo,0,w.nl,w.nh⟩:ao)) ((xs.set (xs.length-1) (vF w (d8 cuts k))).map eV) J okg J omH J<|?_;exact at_ (xs.set (xs.length-1) (vF w (d8 cuts k)),k+1) okJ
    .
     have hnp: ¬(0<k/\marks[k-1]? =some true):=fun e=>by rw[hpb,hg54] at e;simpa using e.2
     refine aj 73 (.d (eV (d8 cuts k))) J (by rw[hgap,Ot,tq (k:=k) (n:=0),tq (k:=k) (n:=cuts.length)]<;>rfl)<|gx J<|rf J J<|ap ((xs++[d8 cuts k]).map eV) J omD (y9 [d8 cuts k]) J<|fI 75 5 J<|at_ (xs++[d8 cuts k],k+1) omG
 .
  have hfin:wl cuts marks=xs:=by rw[h1,wl,show k=marks.length by omega]
  refine iH 5 J<|rz J okU
def GN{g:Rat}: ∀{l:List Rat},g∈gI l-> ∃a∈l,∃b∈l,g=(a+b)/2
 |[],h=>by cases h
 |[_],h=>by cases h
 |a::b::t,h=>by
  rw[gI] at h;rcases aV.1 h with rfl|h
  .exact⟨a,aQ,b,aJ _ aQ,J⟩
  .obtain⟨c,hc,d,hd,e⟩:=GN h
   exact⟨c,aJ _ hc,d,aJ _ hd,e⟩
theorem aFL{l:List Rat}(h: ∀q∈l,BQ q 1200): ∀g∈cx l,BQ g 2500:=fun g hg=>by
 cases l with
 |nil=>
  rw[cx,aY] at hg;subst hg;exact BQ.mono (k:=1) ⟨pb,pb⟩
 |cons a t=>
  rw[cx] at hg;rcases aV.1 hg with rfl|hg
  .haveI:=h a aQ
   exact BQ.mono (inferInstance:BQ (a-1) _) m5
  .rcases aL.1 hg with hg|hg
   .obtain⟨c,hc,d,hd,rfl⟩:=GN hg
    haveI:=h c hc;haveI:=h d hd;exact BQ.mono (inferInstance:BQ ((c+d)/2) _) m5
   .rw[aY] at hg
    haveI:=h _ (List.getLast_mem (l:=a::t) vb);subst hg;exact BQ.mono (inferInstance:BQ ((a::t).getLast vb+1) _) m5
def MI(l:List ao):r5 l l.length=ja l:=by unfold r5;rw[dX]
theorem ZA(h: ∀v∈l,oo v): ∀y∈ja l,BQ y 1200:=by rw[<-MI];exact S0 h
def Ib(l:List ao):(ja l).length<=2*l.length:=by rw[<-MI];exact D9 l _
def oo.app{b:List ao}(ha: ∀v∈a,oo v)(hb: ∀v∈b,oo v): ∀v∈a++b,oo v:=fun v hv=>(aL.1 hv).elim (ha v) (hb v)
def Vf{b:List ao}(ha: ∀v∈a,oo v)(hb: ∀v∈b,oo v)(hna:a.length<=100)(hnb:b.length<=100):PF GB prog 260 [vI 2, .sl (a.map eV), .sl (b.map eV)] (.sl ((pA 2 a b).map eV)):=by
 obtain⟨cuts,hcu⟩: ∃c,c=ja (a++b):=⟨_,rfl⟩;have hab:=oo.app ha hb;have hcb: ∀q∈cuts,BQ q 1200:=by rw[hcu];exact ZA hab
 have hcl:cuts.length<=2*(a.length+b.length):=by rw[hcu];have:=Ib (a++b);rw[aU] at this;exact this
 have hgb:=aFL hcb;have hgl:=xS (l:=cuts);have hmp:=fy eQ (cx cuts);refine fn func260 J J ntmps260 J J (fun C=>?_);refine sB J J<|ap (a.map eV) J J (y9 _) J<|mz ((a++b).map eV) J (by rw[bX]) (y9 b) J<|cl (fu:=⟨0⟩) J (aIk (l:=a++b) hab okm) J<|aj 19 (.d (.sl (cuts.map eQ))) J (by rw[hcu])<|gx J<|cl (fu:=⟨1⟩) J (aBk (cuts:=cuts) hcb m5) J<|aj 22 (.d (vI ((cuts.length+1:Nat):Int))) J (by rw[hmp,hgl]<;>rfl)<|gx J<|nr 8 8 4 1 J J J<|lp (X:=Nat) (fun k=>[(23, .d (vI (k:Nat))),(8, .rw 8)]) (fun k=>[(8,some (.b 4 1 ((((cx cuts).map (fun t=>oH 2 (gD a t) (gD b t))).take k).map vB) true))]) (fun k=>k<=cuts.length+1) (fun k=>cuts.length+1-k) 0 J (bK _) (fun _=>J) (fun k hk=>?_);have hml:(((((cx cuts).map (fun t=>oH 2 (gD a t) (gD b t))).take k).map vB)).length=k:=by rw[aX,bL,aX,hgl];omega
 refine br (fu2:=⟨0⟩) J J J (fun hc24=>?_) (fun hc24=>?_)
 .
  obtain⟨t,hz⟩: ∃s,(cx cuts)[k]? =some s:=⟨_,aZ m5⟩;haveI:=hgb t (aW hz);have hz2:((cx cuts).map (fun t=>oH 2 (gD a t) (gD b t)))[k]? =some (oH 2 (gD a t) (gD b t)):=by rw[cZ,hz];rfl
  refine ix _ J (cO hz) J<|cl J (Ts (l:=a) (t:=t) ha m5) J<|cl (fu:=⟨6⟩) J (Ts (l:=b) (t:=t) hb m5) J<|?_
  cases hx:gD a t
  .
   refine c9 (fu:=⟨15⟩) J J J<|d7 (fu:=⟨5⟩) J J J<|c9 J J J<|rf J J<|ap (fu:=⟨8⟩) ((((cx cuts).map (fun t=>oH 2 (gD a t) (gD b t))).take (k+1)).map vB) J (by rw[<-wc hz2,hx];rfl) (Lx [false]) J<|fI 59 8 J<|at_ (k+1) ⟨m5,m5⟩
  .
   refine d7 (fu:=⟨15⟩) J J J<|d7 (fu:=⟨5⟩) J J J<|d7 J J J<|rf J J<|ap ((((cx cuts).map (fun t=>oH 2 (gD a t) (gD b t))).take (k+1)).map vB) J (by rw[<-wc hz2,hx];rfl) (Lx [_]) J<|fI 59 8 J<|at_ (k+1) ⟨m5,m5⟩
 .
  obtain rfl:k=cuts.length+1:=by omega
  have htk:((cx cuts).map (fun t=>oH 2 (gD a t) (gD b t))).take (cuts.length+1)=(cx cuts).map (fun t=>oH 2 (gD a t) (gD b t)):=bM (by rw[aX,hgl];exact bW _);rw[htk];refine oA 8 J<|gx J<|cl J (aIo (cuts:=cuts) (marks:=(cx cuts).map (fun t=>oH 2 (gD a t) (gD b t))) m5 (by rw[aX,hgl];exact bW _)) J<|rz J (by unfold pA;rw[<-hcu];rfl)
section
variable {C:aG}{Q0:Exit->Act->World->Prop}{fr fr':aD}{own own':aI}{cf cf':Cf}{vc:List Prop}
def aKP{dst:Option Nat}{t:TypeId}{gd:Option (Nat×Bool)}{x y:Operand}{k:IntKind}(hu:prog.underlying t=some (.array len e))(hs:(prog.info? e).map (·.size)=some s)
  (e1:aP lk x=some (.ov nm off))(e2:aP lk y=some (.d (.v (.int k (i:Nat)))))(hi:i<len):cg prog GB C n lk bk ⟨dst, .indexAddr t x y,ty',pos,af,gd⟩ (.ov nm (off+i*s)) [] []:= .yd fun ρ G ov a w r=>by
 obtain⟨p,h1,h2⟩:=r.ev e1;obtain⟨q,h3,h4⟩:=r.ev e2;rw[dl] at h4;subst h4;obtain⟨b,hb,rfl⟩:=h2;refine⟨_,⟨b,hb,J⟩,?_⟩;obtain⟨j,hj,hjs⟩: ∃j,prog.info? e=some j/\j.size=s:=by
  cases h:prog.info? e with
  |none=>rw[h] at hs;cases hs
  |some j=>rw[h] at hs;exact⟨j,J,by simpa using hs⟩
 intro a' w' hf hh;simp only[execOp,bC hf h1,bC hf h3];have:(Instr.indexAt t (.pointer (some ⟨b,off,none⟩)) (.int k (i:Nat))).run prog w'= .ok (.pointer (some ⟨b,off+i*s,none⟩)) w':=by
  unfold Instr.indexAt;show(underlying t>>=_).run prog w'=_;rw[bh (ry hu w')];show(underlying t>>=_).run prog w'=_;rw[bh (ry hu w')];have h0:0<=((i:Nat):Int):=Int.natCast_nonneg i;have h1:((i:Nat):Int)<((len:Nat):Int):=by omega
  simp only[h0,h1,and_self,if_true];show(sizeOf e>>=_).run prog w'=_;rw[bh (wR hj w'),rH,hjs,cX];rfl
 exact dq this
def US(fr:aD)(cf:Cf):Option (TypeId×Nat×Nat×Int):=match de fr cf with
 |some ⟨_, .indexAddr t x y,_,_,_,_⟩=>match aP (cj fr cf) x with
  |some (.ov nm off)=>match aP (cj fr cf) y with
   |some (.d (.v (.int _ i)))=>some (t,nm,off,i)
   |_=>none
  |_=>none
 |_=>none
def pD[fu:Fu](i:Nat){t:Nat}(h:US fr cf=some (t,nm,off,((i:Nat):Int)))(hu:prog.underlying t=some (.array len e))(hs:(prog.info? e).map (·.size)=some s)(hi:i<len)
  (hgo:cF tt n fu.n fr own cf (.ov nm (off+i*s)) [] []=⟨vc,fr',own',cf'⟩)(k:av prog GB C n Q0 fr' own' cf')
  (hv:autoParam (ak vc) cL._auto_1):av prog GB C n Q0 fr own cf:=by
 unfold US at h;split at h<;>try (cases h;done)
 rename_i hh;split at h<;>try (cases h;done)
 rename_i hx;split at h<;>cases h;rename_i hy;exact us hh (aKP hu hs hx hy hi) hgo hv k
def aJF{d:Nat}{e t:TypeId}{gd:Option (Nat×Bool)}{ps:List (Nat×Operand)}{fo:List (Nat×Nat×Nat)}{i:TI}{z:List FX}{pre post:List DV}(hi:f8 prog t=some i)(hk:i.k= .st fo)(hz:i.z=some z)
  (hb:uV lk fo z ps=some zx)(h0:zx[k]? =some .nl)(h1:jP (zx.take k)=some pre)(h2:jP (zx.drop (k+1))=some post):cg prog GB C n lk bk ⟨some d, .build t ⟨ps⟩,ty',pos,af,gd⟩ (.bx false pre d post) [(d,some (.b e s [] true))] [d]:=by
 intro hd tl tb K' s1 s2 hf hk';refine⟨fun ρ G ov a w r Q=>?_⟩;obtain⟨v,hv,hv'⟩:=Br hi hz;have:=Sd hi hk;have hsp:zx=zx.take k++ .nl::zx.drop (k+1):=by
  obtain⟨hk1,hk2⟩:=aS.1 h0
  conv=>lhs;rw[<-kR k zx,bV hk1,hk2]
 obtain⟨l,h1',h2'⟩:=EQ (r.mono s1 s2) (fo:=fo) ps _ _ _ hb (hv' ρ G);rw[hsp] at h2';obtain⟨m1,m2',rfl,k1,y,m2,rfl,k2,k3⟩:=Oc h2'
 cases (show y= .slice none 0 0 from k2)
 have hy:Yd prog C (cI a) ov G ⟨some d, .build t ⟨ps⟩,ty',pos,af,gd⟩ (.agg ⟨m1++Value.slice none 0 0::m2⟩):=xi h1';have r3:=r.new' (x:=⟨none,0,0⟩) (B':= .b e s [] true) (os:=[]) (ov':=ov) (f:= .bx false pre d post) (y:= .agg ⟨m1++Value.slice none 0 0::m2⟩) hf (b9.refl G) r.h
  ⟨[],by simp only[if_true];exact .inl ⟨J,J,J⟩, .nil,vb,fun _ o ho=>by cases ho⟩ (fun o ho=>by cases ho) (fun m B _ _ o ho _=>⟨ho,vb⟩)
  ⟨m1,m2,vb,ti k1 h1,ti k3 h2⟩ (r.putA _ hd)
 exact kI (hy a w (dh a) r.h) (hk'.run _ G ov _ w r3)
def UG(fr:aD)(cf:Cf):Option (Nat×List FX):=match de fr cf with
 |some ⟨some d, .build t ⟨ps⟩,_,_,_,_⟩=>match d9 tt t with
  |some ⟨.st fo,_,some zx,_⟩=>match uV (cj fr cf) fo zx ps with
   |some l=>some (d,l)
   |none=>none
  |_=>none
 |_=>none
def ZQ[fu:Fu]{d:Nat}(e s kk:Nat)(pre post:List DV)(h:UG fr cf=some (d,zx))(h0:zx[kk]? =some .nl)(h1:jP (zx.take kk)=some pre)(h2:jP (zx.drop (kk+1))=some post)(hgo:cF tt n fu.n fr own cf (.bx false pre d post) [(d,some (.b e s [] true))] [d]=⟨vc,fr',own',cf'⟩)(k:av prog GB C n Q0 fr' own' cf')
  (hv:autoParam (ak vc) cL._auto_1):av prog GB C n Q0 fr own cf:=by
 unfold UG at h;split at h<;>try (cases h;done)
 rename_i hh;split at h<;>try (cases h;done)
 rename_i hT;split at h<;>cases h;rename_i hb;exact us hh (aJF (fe _ _ hT) J J hb h0 h1 h2) hgo hv k
end
end Go.Sx
end
