import Derived.Test.YtmdgdhokaffbkaaGreatDoorTf17
set_option linter.all false
set_option maxHeartbeats 2000000
set_option maxRecDepth 100000
section
namespace Go.Sx
open Go Go.Proofs Tryz
variable {l m l' m':aa}{t:Tr}{α:Type}{k i a b d k0 j D B C E kk N:Nat}{c:az}{p q u z:ab}{s w w':bi}{R S A:Rat}{rs:List (List ZP)}{fill n:Int}{L e K:List aa}{es:List Int}{v r:List ab}{ai al ae au:Addr}{ts:List (List ab)}
variable {GB:Gh}
def SS(l m:aa):l.dir.cross m.dir=(crossI l m:Rat):=by
 unfold ab.cross aa.dir crossI;rw[jQ,cK,cK];grind
def Fh(h:0<Int.sign (l.dir.cross m.dir).num):crossI l m≠0:=fun e=>by
 rw[mc,SS,e] at h;exact absurd h v6
def NV(h:crossI l m≠0):l.nor.cross m.nor≠0:=fun e=>by
 have:l.nor.cross m.nor=(crossI l m:Rat):=by
  unfold ab.cross aa.nor crossI;rw[jQ,cK,cK];grind
 rw[this] at e;exact h (dK.1 e)
def Mt(h:crossI l m≠0):du l m=⟨((l.b:Rat)*(m.c:Rat)-(l.c:Rat)*(m.b:Rat))/l.nor.cross m.nor,((l.c:Rat)*(m.a:Rat)-(l.a:Rat)*(m.c:Rat))/l.nor.cross m.nor⟩:=by
 have e1:(meetX l m:Rat)=(l.b:Rat)*(m.c:Rat)-(l.c:Rat)*(m.b:Rat):=by unfold meetX;rw[jQ,cK,cK];grind
 have e2:(meetY l m:Rat)=(l.c:Rat)*(m.a:Rat)-(l.a:Rat)*(m.c:Rat):=by unfold meetY;rw[jQ,cK,cK];grind
 have e3:(crossI l m:Rat)=l.nor.cross m.nor:=by unfold ab.cross aa.nor crossI;rw[jQ,cK,cK];grind
 unfold du;rw[if_neg h,e1,e2,e3]
def C9: ∀{t:Tr} {c:az} {x:Bool×az},t.all LB->t.all aa.ok->gn c->x∈t.parts c->gn x.2/\x.2.length<=c.length+t.depth
 | .leaf b,c,x,_,_,hc,h=>by
  rw[Tr.parts,aW] at h;subst h;exact⟨hc,mJ _ _⟩
 | .node l u v,c,x,hb,ho,hc,h=>by
  have hl:=hb.1;have hd:(Tr.node l u v).depth=1+max u.depth v.depth:=J;rw[Tr.parts] at h;rcases bJ.1 h with h|h
  .split at h
   .obtain⟨k1,k2⟩:=C9 hb.2.1 ho.2.1 (tr ho.1 hc) h
    have:=vo c l;exact⟨k1,pb⟩
   .cases h
  .split at h
   .obtain⟨k1,k2⟩:=C9 hb.2.2 ho.2.2 (tr ho.1.rev hc) h
    have:=vo c l.rev;exact⟨k1,pb⟩
   .cases h
def tq(t:Tr):(b7 t).length<=t.size+1:=by
 unfold b7;rw[aX];exact cJ (lX ..) (zk t [])
def uR(hb:t.all LB)(ho:t.all aa.ok): ∀c∈b7 t,c.length<=t.depth:=fun c hc=>by
 have:=(C9 hb ho gn.nil (tY.1 hc)).2;simpa using this
theorem vd(hb:t.all LB)(ho:t.all aa.ok): ∀c∈b7 t,∀s∈c,LB s.l:=fun c hc s hs=>((C9 hb ho gn.nil (tY.1 hc)).1 s hs).lb
def TA(l:List ab):cd 6 (l.map eZ):=fun d hd=>by
 obtain⟨x,_,rfl⟩:=aN.1 hd;exact⟨J,J⟩
def jd(v:List ab):DV:= .sl (v.map eZ)
def c9(v:List ab):DV:= .sl (v.map fe)
def Fv(l:List (List ab)):cd 1 (l.map jd):=fun d hd=>by
 obtain⟨x,_,rfl⟩:=aN.1 hd;exact⟨J,J⟩
def E0(l:List (List ab)):cd 1 (l.map c9):=fun d hd=>by
 obtain⟨x,_,rfl⟩:=aN.1 hd;exact⟨J,J⟩
def x6{vs:List α}{f:α->Bool}{v:α}(h:vs[k]? =some v):(vs.drop k).all f=(f v&&(vs.drop (k+1)).all f):=by
 obtain⟨h1,h2⟩:=aS.1 h;rw[bW h1,h2,rR]
def Zt[hl:LB l][hm:LB m](hz:crossI l m≠0):PF GB prog 255 [fj l,fj m] (.tp [eZ (du l m),vB true]):=by
 haveI:=aE.nor l;haveI:=aE.nor m;refine fn func255 J J ntmps255 J J (fun C=>?_);refine cl J (w8 (l:=l)) J<|cl J (w8 (l:=m)) J<|cl J (yy (p:=l.nor) (q:=m.nor) (i:=97) (j:=97)) J<|cl (fu:=⟨0⟩) J (Gc (q:=l.nor.cross m.nor)) J<|ah 15 (.d (vB false)) J (by rw[decide_eq_false (NV hz)])<|Bn 15 J<|gx J<|cl J (nO (p:=(l.b:Rat)) (q:=(m.c:Rat)) (i:=97) (j:=97)) J<|cl J (nO (p:=(l.c:Rat)) (q:=(m.b:Rat)) (i:=97) (j:=97)) J<|cl J (pB (p:=(l.b:Rat)*(m.c:Rat)) (q:=(l.c:Rat)*(m.b:Rat))) J<|cl J (x8 (p:=(l.b:Rat)*(m.c:Rat)-(l.c:Rat)*(m.b:Rat)) (q:=l.nor.cross m.nor)) J<|cl J (nO (p:=(l.c:Rat)) (q:=(m.a:Rat)) (i:=97) (j:=97)) J<|cl J (nO (p:=(l.a:Rat)) (q:=(m.c:Rat)) (i:=97) (j:=97)) J<|cl J (pB (p:=(l.c:Rat)*(m.a:Rat)) (q:=(l.a:Rat)*(m.c:Rat))) J<|cl J (x8 (p:=(l.c:Rat)*(m.a:Rat)-(l.a:Rat)*(m.c:Rat)) (q:=l.nor.cross m.nor)) J<|rz J (by rw[Mt hz];rfl)
def Sz(hb: ∀s∈c,LB s.l)(hn:c.length<=100000):PF GB prog 197 [eC c] (.sl ((fA (c.map (·.l))).map eZ)):=by
 have hml:(c.map d4).length=c.length:=aX ..;obtain⟨L,hL⟩: ∃L,L=c.map (·.l):=⟨_,rfl⟩;have hLl:L.length=c.length:=by rw[hL,aX]
 refine fn (fu:=⟨15⟩) func197 J J ntmps197 J J (fun C=>?_);refine ah 10 (.d (vI (c.length:Nat))) J omj<|gx J<|nr 3 3 103 6 J J J<|lp (X:=List ab×Nat) (fun⟨acc,k⟩=>[(11, .d (vI (k:Nat))),(3, .rw 3)]) (fun⟨acc,k⟩=>[(3,some (.b 103 6 (acc.map eZ) true))]) (fun⟨acc,k⟩=>acc=(List.range k).flatMap (nG L)/\k<=c.length) (fun⟨acc,k⟩=>c.length-k) ⟨[],0⟩ J ⟨J,aL _⟩ (fun _=>J) (fun⟨acc,k⟩ hk=>?_)
 try dsimp only at hk⊢
 obtain⟨h1,h2⟩:=hk;have hal:=BG L k;rw[<-h1] at hal;have ham:(acc.map eZ).length=acc.length:=aX ..;refine br J J J (fun hc12=>?_) (fun hc12=>?_)
 .
  obtain⟨s,hx⟩: ∃u,c[k]? =some u:=⟨_,aQ pb⟩;obtain⟨u,hw⟩: ∃w,c[(k+1)%c.length]? =some w:=⟨_,aQ (cR _ pb)⟩;haveI:=hb s (aV hx);haveI:=hb u (aV hw);have hxl:L[k]? =some s.l:=by rw[hL,cY,hx];rfl
  have hwl:L[(k+1)%L.length]? =some u.l:=by rw[hLl,hL,cY,hw];rfl
  refine ix (fu:=⟨13⟩) _ J (bF hx) J<|ah 20 (.d (vI (c.length:Nat))) J omj<|gx (fu:=⟨1⟩) J<|ah 21 (.d (vI (((k+1)%c.length:Nat):Int))) J J<|gx J<|ix _ J (bF hw) J<|cl J (vk (l:=s.l)) J<|cl J (vk (l:=u.l)) J<|cl J (yy (p:=s.l.dir) (q:=u.l.dir) (i:=97) (j:=97)) J<|cl J (mz (q:=s.l.dir.cross u.l.dir)) J<|br J J J (fun hc32=>?_) (fun hc32=>?_)
  .
   refine cl J (Zt (l:=s.l) (m:=u.l) (Fh hc32)) J<|rf J J<|ap ((acc++[du s.l u.l]).map eZ) J omQ (TA [du s.l u.l]) J<|dq 44 3 J<|at_ ⟨acc++[du s.l u.l],k+1⟩ (by dsimp only;exact⟨⟨by rw[xk,uz hxl hwl,if_pos hc32,<-h1],pb⟩,pb⟩)
  .
   exact at_ ⟨acc,k+1⟩ (by dsimp only;exact⟨⟨by rw[xk,uz hxl hwl,if_neg hc32,<-h1,oW],pb⟩,pb⟩)
 .
  have hS:fA L=acc:=by unfold fA;rw[hLl,h1,show k=c.length by omega]
  refine fD 3 J<|rz J (by rw[<-hL,hS];rfl)
def Qh(hn:c.length<=100000):PF GB prog 254 [eC c] (vB (ek c)):=by
 have hml:(c.map d4).length=c.length:=aX ..;refine fn (fu:=⟨10⟩) func254 J J ntmps254 J J (fun C=>?_);refine ah 6 (.d (vI (c.length:Nat))) J omj<|gx J<|lp (X:=Nat) (fun k=>[(7, .d (vI (k:Nat)))]) (fun k=>[]) (fun k=>(c.drop k).all (fun s:bi=>!s.v.nl&&!s.v.nh)=c.all (fun s:bi=>!s.v.nl&&!s.v.nh)/\k<=c.length) (fun k=>c.length-k) 0 J ⟨J,aL _⟩ (fun _=>J) (fun k hk=>?_);obtain⟨h1,h2⟩:=hk;refine br (fu2:=⟨9⟩) J J J (fun hc8=>?_) (fun hc8=>?_)
 .
  obtain⟨s,hx⟩: ∃u,c[k]? =some u:=⟨_,aQ pb⟩;refine ix _ J (bF hx) J<|ja 14 J J J (fun hg14=>?_) (fun hg14=>?_)
  .
   have hF:ek c=false:=by unfold ek;rw[<-h1,x6 hx,hg14];simp
   exact rz J (by rw[hF];rfl)
  .
   refine bb J J J (fun hc18=>?_) (fun hc18=>?_)
   .
    have hF:ek c=false:=by unfold ek;rw[<-h1,x6 hx,hc18];simp
    exact rz J (by rw[hF];rfl)
   .
    exact at_ (k+1) ⟨⟨by rw[<-h1,x6 hx,hg14,hc18];rfl,pb⟩,pb⟩
 .
  have hT:ek c=decide ((0:Int)<(c.length:Nat)):=by unfold ek;rw[<-h1,gS pb];cases c with|nil=>rfl|cons a b=>simp
  refine ah 21 (.d (vI (c.length:Nat))) J omj<|gx J<|rz J (by rw[hT];rfl)
def Tz{cs:List az}(hc:cs=b7 t)(hb:t.all LB)(ho:t.all aa.ok)(hd:t.depth<=1000)(hs:t.size<=900000):PF GB prog 196 [eU t] (vB (cs.all ek)):=by
 have hml:(cs.map eC).length=cs.length:=aX ..;have hcl:=tq t;rw[<-hc] at hcl;have hcn:=uR hb ho;rw[<-hc] at hcn;refine fn func196 J J ntmps196 J J (fun C=>?_);refine cl (fu:=⟨0⟩) J (KR hb ho pb hs) J<|ah 6 (.d (.sl (cs.map eC))) J (by rw[hc])<|gx (fu:=⟨1⟩) J<|ah 7 (.d (vI (cs.length:Nat))) J omj<|gx J<|lp (X:=Nat) (fun k=>[(8, .d (vI (k:Nat)))]) (fun k=>[]) (fun k=>(cs.drop k).all ek=cs.all ek/\k<=cs.length) (fun k=>cs.length-k) 0 J ⟨J,aL _⟩ (fun _=>J) (fun k hk=>?_);obtain⟨h1,h2⟩:=hk;refine br J J J (fun hc9=>?_) (fun hc9=>?_)
 .
  obtain⟨c,hx⟩: ∃u,cs[k]? =some u:=⟨_,aQ pb⟩;refine ix _ J (bF hx) J<|cl J (Qh (c:=c) (by have:=hcn c (aV hx);omega)) J<|bb J J J (fun hc14=>?_) (fun hc14=>?_)
  .
   have hF:cs.all ek=false:=by rw[<-h1,x6 hx,show ek c=false by simpa using hc14];rfl
   exact rz J (by rw[hF];rfl)
  .
   exact at_ (k+1) ⟨⟨by rw[<-h1,x6 hx,show ek c=true by simpa using hc14];rfl,pb⟩,pb⟩
 .
  have hT:cs.all ek=true:=by rw[<-h1,gS pb];rfl
  exact rz J (by rw[hT];rfl)
def GM(h:crossI l m≠0)(h1:l.value p=0)(h2:m.value p=0):p=du l m:=by
 rw[Mt h];have hd:=NV h;rw[iF] at h1 h2;obtain⟨x,y⟩:=p;have e1:x*l.nor.cross m.nor=(l.b:Rat)*(m.c:Rat)-(l.c:Rat)*(m.b:Rat):=by unfold ab.cross aa.nor;grind
 have e2:y*l.nor.cross m.nor=(l.c:Rat)*(m.a:Rat)-(l.a:Rat)*(m.c:Rat):=by unfold ab.cross aa.nor;grind
 generalize l.nor.cross m.nor=d at*;simp only[ab.mk.injEq];constructor<;>grind
def sE(hb:ek c=true):c≠[]/\ ∀s∈c,s.v.nl=false/\s.v.nh=false:=by
 unfold ek at hb;rw[bV,dZ] at hb;refine⟨fun e=>by rw[e] at hb;simp at hb,fun s hs=>?_⟩;have:=hb.2 s hs;simpa using this
def wQ(hc:bO c)(ha:jO c)(hb:ek c=true)(hs:c[i]? =some s)(hw:c[(i+1)%c.length]? =some w):0<s.l.dir.cross w.l.dir/\du s.l w.l=s.l.at s.v.hi/\w.l.at w.v.lo=s.l.at s.v.hi:=by
 have he:=(sE hb).2;have ms:=aV hs;have mw:=aV hw;have hn:uF (c.map fun s=>s.l.dir) s.l.dir w.l.dir:=Ov ha (by rw[cY,hs];rfl) (by rw[aX,cY,hw];rfl);obtain⟨h1,h2⟩:=Uj hc ms mw hn (he s ms).2;have h3:=Qg hc ms mw hn h1 (he w mw).1;have hx:crossI s.l w.l≠0:=Fh ((mc _).2 h1);refine⟨h1,(GM hx (kC (hc.ok s ms).ne _) h2).symm,?_⟩;rw[GM hx h3 (kC (hc.ok w mw).ne _),GM hx (kC (hc.ok s ms).ne _) h2]
def My{α β:Type}(f:α->β): ∀l:List α,l.flatMap (fun x=>[f x])=l.map f
 |[]=>rfl
 |a::t=>by rw[nJ,My f t];rfl
def Oi{α β:Type}{f g:α->List β}: ∀{l:List α},(∀x∈l,f x=g x)->l.flatMap f=l.flatMap g
 |[],_=>rfl
 |a::t,h=>by rw[nJ,nJ,h a aZ,Oi fun x hx=>h x (aK _ hx)]
def Kd(hc:bO c)(ha:jO c)(hb:ek c=true):fA (c.map (·.l))=c.map fun s=>s.l.at s.v.hi:=by
 unfold fA;rw[aX];have h0: ∀i∈List.range c.length,nG (c.map (·.l)) i=[(c.map fun s=>s.l.at s.v.hi).getD i ⟨0,0⟩]:=fun i hi=>by
  have hi':=lU.1 hi;obtain⟨s,hs⟩: ∃s,c[i]? =some s:=⟨_,aQ hi'⟩;obtain⟨w,hw⟩: ∃w,c[(i+1)%c.length]? =some w:=⟨_,aQ (cR _ pb)⟩;obtain⟨h1,h2,h3⟩:=wQ hc ha hb hs hw;rw[uz (l:=s.l) (m:=w.l) (by rw[cY,hs];rfl) (by rw[aX,cY,hw];rfl),if_pos ((mc _).2 h1),h2,aJ,cY,hs];rfl
 rw[Oi h0,My];refine List.ext_getElem v8 fun i h1 h2=>?_;rw[kU,List.getElem_range,aJ,aQ ozq];rfl
def TN(hc:bO c)(ha:jO c)(hb:ek c=true):0<c.length:=by
 have:=(sE hb).1
 cases c with
 |nil=>exact absurd J this
 |cons a t=>simp
def d5{α:Type}(f:α->Rat):List α->Rat
 |[]=>0
 |a::t=>f a+d5 f t
def Ju{α:Type}(f:α->Rat): ∀(l m:List α),d5 f (l++m)=d5 f l+d5 f m
 |[],m=>by rw[kN,d5];grind
 |a::t,m=>by rw[iT,d5,d5,Ju f t m];grind
def O2{α:Type}{f g:α->Rat}: ∀{l:List α},(∀x∈l,f x=g x)->d5 f l=d5 g l
 |[],_=>rfl
 |a::t,h=>by rw[d5,d5,h a aZ,O2 fun x hx=>h x (aK _ hx)]
def HT{α:Type}(k:Rat)(f:α->Rat): ∀l:List α,d5 (fun x=>k*f x) l=k*d5 f l
 |[]=>by simp only[d5];grind
 |a::t=>by rw[d5,d5,HT k f t];grind
def ry(t:Tr):Prop:= ∃(L:List aa) (R:Rat),(∀l∈L,l.ok)/\ ∀p,dP L p->kj R p->t.val p=false
def kj.mono(h:kj S p)(hr:R<=S):kj R p:=by
 unfold kj at*;rcases h with h|h|h|h
 .left;grind
 .right;left;grind
 .right;right;left;grind
 .right;right;right;grind
def O1(fill:Int):qq fill 0=false:=by
 unfold qq;simp
def W6(hr: ∀r∈rs,dl r)(hp:kj 100 p):jA rs fill p=false:=by
 have key: ∀(rs:List (List ZP)),(∀r∈rs,dl r)->rs.foldl (fun n r=>n+i0 r p) (0:Int)=0:=by
  intro rs
  induction rs with
  |nil=>intro _;rfl
  |cons r t ih=>
   intro hr;have e:i0 r p=0:=by
    unfold i0;rw[xB];refine HQ (R:=100) (fun v hv=>?_) hp;obtain⟨h1,h2⟩:=(hr r aZ).le v hv;have c: ∀z:Int,z.natAbs<=100-> -(100:Rat)<=(z:Rat)/\(z:Rat)<=100:=fun z hz=>by
     have a:((-100:Int):Rat)<=(z:Rat):=oV.2 pb;have b:(z:Rat)<=((100:Int):Rat):=oV.2 pb;exact⟨a,b⟩
    exact⟨(c _ h1).1,(c _ h1).2,(c _ h2).1,(c _ h2).2⟩
   rw[iM,e];exact ih fun r h=>hr r (aK _ h)
 unfold jA;rw[key rs hr,O1]
def Kj(hr: ∀r∈rs,dl r):(so rs fill).all aa.ok:=tE fun f hf=>((qA hr).2 f hf).ok
def Dq(hr: ∀r∈rs,dl r):ry (kw rs fill):=
 ⟨(so rs fill).lns,100,vm (Kj hr),fun p ho hp=>by rw[Pu hr ho,W6 hr hp]⟩
def KI(op:Int):xz op false false=false:=by
 unfold xz;split
 .rfl
 .split
  .rfl
  .split<;>rfl
def ry.merge{a b:Tr}(ha:ry a)(hb:ry b)(oa:a.all aa.ok)(ob:b.all aa.ok)(op:Int):ry (a.mergeQ op b []):=by
 obtain⟨L,R,h1,h2⟩:=ha;obtain⟨M,S,k1,k2⟩:=hb;refine⟨(L++M)++(a.lns++b.lns),if R<=S then S else R,fun l hl=>?_,fun p ho hp=>?_⟩
 .rcases bJ.1 hl with h|h
  .exact(bJ.1 h).elim (h1 l) (k1 l)
  .exact(bJ.1 h).elim (vm oa l) (vm ob l)
 .obtain⟨o1,o2⟩:=dP.app.1 ho
  obtain⟨oL,oM⟩:=dP.app.1 o1;obtain⟨oA,oB⟩:=dP.app.1 o2;rw[Tr.val_merge op b ob a [] p oa bO.nil (fun s hs=>by cases hs) oA oB,h2 p oL (hp.mono okB),k2 p oM (hp.mono okB),KI]
def Ln(hA:A≠0)(B:Rat): ∃N:Rat,0<=N/\ ∀n,N<=n->A+n*B≠0:=by
 by_cases hB:B=0
 .exact⟨0,v6,fun n _=>by rw[hB];grind⟩
 .have e:A/B*B=A:=by grind
  generalize A/B=q at*;refine⟨if 0<= -q then-q+1 else 0,by split<;>grind,fun n hn h=>?_⟩;have h2:B*(q+n)=0:=by grind
  rcases fS.1 h2 with k|k
  .exact hB k
  .split at hn<;>grind
def Yu{d:ab}(h:dP L p): ∃N:Rat,0<=N/\ ∀n,N<=n->dP L (ce p d n):=by
 induction L with
 |nil=>exact⟨0,v6,fun n _ l hl=>by cases hl⟩
 |cons l L ih=>
  obtain⟨N,n0,hN⟩:=ih (h.sub fun m hm=>aK _ hm);obtain⟨M,m0,hM⟩:=Ln (h l aZ) (l.nor.dot d);refine⟨N+M,v7,fun n hn m hm=>?_⟩;rcases aT.1 hm with rfl|hm
  .rw[gD];exact hM n v7
  .exact hN n v7 m hm
def wZ{a:Rat}(ha:0<a)(x R:Rat): ∃N:Rat,0<=N/\ ∀n,N<=n->R<x+n*a:=by
 have e:(R-x)/a*a=R-x:=by grind
 generalize (R-x)/a=q at*;refine⟨if 0<=q then q+1 else 0,by split<;>grind,fun n hn=>?_⟩;have h2:=eE (show 0<n-q by split at hn<;>grind) ha;grind
def Zr{d:ab}(hd:d≠⟨0,0⟩)(R:Rat): ∃N:Rat,0<=N/\ ∀n,N<=n->kj R (ce p d n):=by
 obtain⟨x,y⟩:=d;rcases mn x with h|h|h
 .rcases mn y with k|k|k
  .exact absurd (by rw[h,k]) hd
  .obtain⟨N,n0,hN⟩:=wZ k p.y R
   exact⟨N,n0,fun n hn=> .inr (.inr (.inr (hN n hn)))⟩
  .obtain⟨N,n0,hN⟩:=wZ (a:= -y) v7 (-p.y) R
   exact⟨N,n0,fun n hn=> .inr (.inr (.inl (by have:=hN n hn;show p.y+n*y< -R;grind)))⟩
 .obtain⟨N,n0,hN⟩:=wZ h p.x R
  exact⟨N,n0,fun n hn=> .inr (.inl (hN n hn))⟩
 .obtain⟨N,n0,hN⟩:=wZ (a:= -x) v7 (-p.x) R
  exact⟨N,n0,fun n hn=> .inl (by have:=hN n hn;show p.x+n*x< -R;grind)⟩
def Uq(hc:bO c)(h:ek c=false): ∃d:ab,d≠⟨0,0⟩/\ ∀u∈c,0<=u.l.nor.dot d:=by
 unfold ek at h
 cases c with
 |nil=>exact⟨⟨1,0⟩,v8,fun u hu=>by cases hu⟩
 |cons s0 c0=>
  have h':((s0::c0).all fun s=>!s.v.nl&&!s.v.nh)=false:=by simpa using h
  rw[List.all_eq_false] at h';obtain⟨s,hs,hv⟩:=h';have hne:s.l.dir≠⟨0,0⟩:=fun e=>E9 (hc.ok s hs) (by rw[e];decide)
  cases nh:s.v.nh with
  |true=>exact⟨s.l.dir,hne,TS hc hs nh⟩
  |false=>
   have nl:s.v.nl=true:=by simpa[nh] using hv
   refine⟨kO s.l.dir,fun e=>hne ?_,fun u hu=>?_⟩
   .unfold kO at e
    generalize s.l.dir=d at*;obtain⟨x,y⟩:=d;simp only[ab.mk.injEq] at*;constructor<;>grind
   .have:=Vm hc hs nl u hu
    unfold kO ab.dot at*;grind
def IA(ht:t.all aa.ok)(hb:ry t):(b7 t).all ek=true:=by
 rw[dZ];intro c hc;obtain⟨hg,hv⟩:=xX ht bO.nil (tY.1 hc)
 cases hq:ek c with
 |true=>rfl
 |false=>
  exfalso;obtain⟨L,R,h1,h2⟩:=hb;obtain⟨d,d0,hd⟩:=Uq hg hq;obtain⟨p,hp,ho⟩:=JZ hg L h1;obtain⟨N,n0,hN⟩:=Yu (d:=d) ho;obtain⟨M,m0,hM⟩:=Zr (p:=p) d0 R;have hin:bw c (ce p d (N+M)):=fun s hs=>by
   rw[gD];have a:=hp s hs;have b:=cB (show 0<=N+M by grind) (hd s hs);grind
  have:=(hv _ hin).2;rw[h2 _ (hN _ v7) (hM _ v7)] at this
  cases this
def CZ(h: ∀r∈rs,dl r)(hn:rs.length<=2:=by decide):io 12 (kw rs fill):=by
 obtain⟨h1,h2⟩:=qA h;exact((Ht h2 J).restrict []).mono pb
def Ar(ha:a<=es.length):io 12 (lf es a).1/\ry (lf es a).1:=by
 obtain⟨r1,r2⟩:=ti ha;have h3:=e7 (n:=3) r2;unfold lf;dsimp only;split
 .obtain⟨s1,s2⟩:=ti h3
  have hr: ∀r∈[(ew es a).1,(ew es (aC es 3 (ew es a).2).2).1],dl r:=fun r hr=>by simp only[aT,fT,or_false] at hr;rcases hr with rfl|rfl;exact r1;exact s1
  exact⟨CZ hr v8,Dq hr⟩
 .have hr: ∀r∈[(ew es a).1],dl r:=fun r hr=>by simp only[aT,fT,or_false] at hr;subst hr;exact r1
  exact⟨CZ hr v8,Dq hr⟩
def cx(es:List Int):Nat->Nat->Tr×Nat
 |0,a=>lf es a
 |d+1,a=>
  let k:=aC es 3 a
  if(k.1:Int)=0 then
   let x:=cx es d k.2
   let o:=aC es 4 x.2
   let y:=cx es d o.2
   (x.1.mergeQ (1+(o.1:Int)) y.1 [],y.2)
  else lf es k.2
def uv{es:List Int}: ∀{d a:Nat},a<=es.length->io (12*2^d) (cx es d a).1/\ry (cx es d a).1/\(cx es d a).1.Red []/\(cx es d a).2<=es.length
 |0,a,ha=>⟨(Ar ha).1,(Ar ha).2,LR es a,(M0 ha).2⟩
 |d+1,a,ha=>by
  have h0:=e7 (n:=3) ha;rw[cx]
  try dsimp only
  split
  .obtain⟨x1,x2,x3,x4⟩:=uv (d:=d) h0
   have h1:=e7 (n:=4) x4;obtain⟨y1,y2,y3,y4⟩:=uv (d:=d) h1;refine⟨?_,x2.merge y2 x1.gd.ok y1.gd.ok _,Tr.merge_red _ _ _ _,y4⟩;have:=x1.merge (op:=1+((aC es 4 (cx es d (aC es 3 a).2).2).1:Int)) y1;exact this.mono (by rw[gJ];omega)
  .refine⟨(Ar h0).1.mono ?_,(Ar h0).2,LR _ _,(M0 h0).2⟩
   have:1<=2^(d+1):=Nat.one_le_two_pow;omega
def BD(ha:a<=es.length)(hd:d<=2:=by decide):gj 48 (cx es d a).1/\(b7 (cx es d a).1).all ek=true/\(cx es d a).2<=es.length/\(cx es d a).1.restrict []=(cx es d a).1:=by
 obtain⟨h1,h2,h3,h4⟩:=uv (d:=d) ha;have h5:2^d<=2^2:=bU v6 hd;have hx:gj 48 (cx es d a).1:=(h1.mono pb).x h3 v6;exact⟨hx,IA hx.ok h2,h4,Tr.red_restrict h3⟩
def Mc(hc:bO c)(hb:ek c=true)(hs:s∈c):s.v.lo<s.v.hi:=by
 have h:=(hc.edge s hs).1;obtain⟨a,b⟩:=(sE hb).2 s hs;unfold ak.Pos at h;rw[a,b] at h;rcases h with h|h|h
 .cases h
 .cases h
 .exact h
def fP(v:List ab):List (ab×ab):=(List.range v.length).map fun i=>(v.getD i ⟨0,0⟩,v.getD ((i+1)%v.length) ⟨0,0⟩)
def vU(cs:List (List aa)):List (ab×ab):=cs.flatMap fun c=>fP (fA c)
def tB(cs:List az):List (List aa):=cs.map fun c=>c.map (·.l)
def XY(v:List ab)(h1:v[i]? =some p)(h2:v[(i+1)%v.length]? =some q):(fP v)[i]? =some (p,q):=by
 have hi:=(aS.1 h1).1;unfold fP;rw[cY,nU hi,jS,aJ,aJ,h1,h2];rfl
def Ow(v:List ab):(fP v).length=v.length:=by unfold fP;simp

def qv(x:List aa×Bool):DV:= .ag [.sl (x.1.map eL),vB x.2]
def U8(l:List (List aa×Bool)):cd 2 (l.map qv):=fun d hd=>by
 obtain⟨x,_,rfl⟩:=aN.1 hd;exact⟨J,J⟩
def tA(c:List aa):DV:= .sl (c.map eL)
def Rk(l:List (List aa)):cd 1 (l.map tA):=fun d hd=>by
 obtain⟨x,_,rfl⟩:=aN.1 hd;exact⟨J,J⟩
def WU{b:Bool}{c:List aa}(hc: ∀m∈c,LB m)(hok: ∀m∈c,m.ok)(hn:c.length<=1000):PR GB prog 89 [eT (.leaf b), .sl (c.map eL)] 2 168 ((ez (.leaf b) c).map qv):=by
 refine xC func89 J J ntmps89 J J (fun C hmb=>?_);refine cl J (FP hc hok) J<|bb (fu2:=⟨8⟩) J J J (fun hc13=>?_) (fun hc13=>?_)
 .
  exact PA J J (by rw[ez,if_neg oko];rfl)
 .
  refine cj J J J<|ro J J<|?_;exact ze J J J (by rw[ez,if_pos oko]<;>rfl)
def Sj{x y:Tr}{c:List aa}(hc: ∀m∈c,LB m)(hok: ∀m∈c,m.ok)(hl:LB l)(hlo:l.ok)(hn:c.length+(Tr.node l x y).depth<=1000)(hs:(Tr.node l x y).size<=100000)(ihx: ∀{c:List aa},(∀m∈c,LB m)->(∀m∈c,m.ok)->c.length+x.depth<=1000->PR GB prog 89 [eT x, .sl (c.map eL)] 2 168 ((ez x c).map qv))(ihy: ∀{c:List aa},(∀m∈c,LB m)->(∀m∈c,m.ok)->c.length+y.depth<=1000->PR GB prog 89 [eT y, .sl (c.map eL)] 2 168 ((ez y c).map qv)):PR GB prog 89 [eT (.node l x y), .sl (c.map eL)] 2 168 ((ez (.node l x y) c).map qv):=by
 haveI:=hl;have hd:(Tr.node l x y).depth=1+max x.depth y.depth:=J;have hz:(Tr.node l x y).size=1+x.size+y.size:=J;have hcl:=zi c;have go: ∀{P:aa->Prop} {k:aa},(∀m∈c,P m)->P k-> ∀m∈c7 c++[k],P m:=fun{P k} h1 h2 m hm=>by
  rcases bJ.1 hm with h|h
  .exact h1 m (lF.1 h).1
  .rw[aW.1 h];exact h2
 have h1:=zc x (c7 c++[l]);have h2:=zc y (c7 c++[l.rev]);refine xC func89 J J ntmps89 J J (fun C hmb=>?_);refine cl J (FP hc hok) J<|bb (fu2:=⟨8⟩) J J J (fun hc13=>?_) (fun hc13=>?_)
 .
  exact PA J J (by rw[ez,if_neg oko];rfl)
 .
  refine bG J J J<|nD J J<|ap ((c7 c).map eL) J J (e8 _) J<|rf J J<|jo ((c7 c++[l]).map eL) J omQ (e8 [l]) J<|cr J (ihx (c:=c7 c++[l]) (go hc hl) (go hok hlo) ozk) J<|nD J J<|ap ((c7 c).map eL) J J (e8 _) J<|cl J (uD (l:=l)) J<|rf J J<|jo ((c7 c++[l.rev]).map eL) J omQ (e8 [l.rev]) J<|cr J (ihy (c:=c7 c++[l.rev]) (go hc inferInstance) (go hok hlo.rev) ozk) J<|ap ((ez x (c7 c++[l])++ez y (c7 c++[l.rev])).map qv) J (by rw[bQ]) (U8 _) J<|?_;exact ze J J J (by rw[ez,if_pos oko]<;>rfl)
theorem ozh{p:Prop}(h:p:=by have:(Tr.node l x y).size=1+x.size+y.size:=J;omega):p:=h
def Gk: ∀{t:Tr} {c:List aa},t.all LB->t.all aa.ok->t.size<=100000->(∀m∈c,LB m)->(∀m∈c,m.ok)->c.length+t.depth<=1000->PR GB prog 89 [eT t, .sl (c.map eL)] 2 168 ((ez t c).map qv)
 | .leaf _,_,_,_,_,hc,hk,hn=>WU hc hk pb
 | .node l x y,c,hb,ho,hs,hc,hk,hn=>Sj hc hk hb.1 ho.1 hn hs (fun a b d=>Gk hb.2.1 ho.2.1 ozh a b d) (fun a b d=>Gk hb.2.2 ho.2.2 ozh a b d)
def jI(ps:List (List aa×Bool)):List (List aa):=(ps.filter (·.2)).map (·.1)
def MM{ps:List (List aa×Bool)}{b:Bool}(h:ps[k]? =some (e,b)):jI (ps.drop k)=(if b then [e] else [])++jI (ps.drop (k+1)):=by
 obtain⟨h1,h2⟩:=aS.1 h;rw[bW h1,h2];unfold jI
 cases b<;>simp
def Qw{ps:List (List aa×Bool)}(h:ps=ez t [])(hb:t.all LB)(ho:t.all aa.ok)(hd:t.depth<=1000)(hs:t.size<=100000):PR GB prog 89 [eT t, .sl []] 2 168 (ps.map qv):=h▸Gk (c:=[]) hb ho hs (fun m h=>by cases h) (fun m h=>by cases h) (by rw[iQ];omega)
def VF(hb:t.all LB)(ho:t.all aa.ok)(hd:t.depth<=1000)(hs:t.size<=100000):PF GB prog 34 [eT t] (.sl ((jI (ez t [])).map tA)):=by
 obtain⟨ps,hps⟩: ∃ps,ps=ez t []:=⟨_,rfl⟩;have hpl:=zc t [];rw[<-hps] at hpl;have hml:(ps.map qv).length=ps.length:=aX ..;refine fn func34 J J ntmps34 J J (fun C=>?_);refine cr (fu:=⟨1⟩) J (Qw hps hb ho hd hs) J<|ah 8 (.d (vI (ps.length:Nat))) J omj<|gx J<|nr 3 3 89 1 J J J<|lp (X:=List (List aa)×Nat) (fun⟨acc,k⟩=>[(9, .d (vI (k:Nat))),(3, .rw 3)]) (fun⟨acc,k⟩=>[(3,some (.b 89 1 (acc.map tA) true))]) (fun⟨acc,k⟩=>acc++jI (ps.drop k)=jI ps/\k<=ps.length) (fun⟨acc,k⟩=>ps.length-k) ⟨[],0⟩ J ⟨J,aL _⟩ (fun _=>J) (fun⟨acc,k⟩ hk=>?_)
 try dsimp only at hk⊢
 obtain⟨h1,h2⟩:=hk;have hal:acc.length<=ps.length:=by
  have q1:=congrArg List.length h1;have q2:(jI ps).length<=ps.length:=by unfold jI;rw[aX];exact lX ..
  rw[aU] at q1;omega
 have ham:(acc.map tA).length=acc.length:=aX ..;refine br J J J (fun hc10=>?_) (fun hc10=>?_)
 .
  obtain⟨⟨e,b⟩,hx⟩: ∃x,ps[k]? =some x:=⟨_,aQ pb⟩;refine lb _ J (bF hx) J<|bb J J J (fun hc14=>?_) (fun hc14=>?_)
  .
   refine rf J J<|ap ((acc++[e]).map tA) J omQ (Rk [e]) J<|dq 19 3 J<|at_ ⟨acc++[e],k+1⟩ (by dsimp only;exact⟨⟨by rw[<-h1,MM hx,if_pos hc14];simp,pb⟩,pb⟩)
  .
   exact at_ ⟨acc,k+1⟩ (by dsimp only;exact⟨⟨by rw[<-h1,MM hx,if_neg (by simp at hc14;rw[hc14];decide)];rfl,pb⟩,pb⟩)
 .
  obtain rfl:k=ps.length:=by omega
  obtain rfl:acc=jI ps:=by rw[fU] at h1;simpa[jI] using h1
  subst hps;refine fD 3 J<|rz J J
def Z8(l:List ab):cd 6 (l.map eP):=fun d hd=>by
 obtain⟨x,_,rfl⟩:=aN.1 hd;exact⟨J,J⟩
def jy(v:List ab):DV:= .sl (v.map eP)
def Qb(l:List (List ab)):cd 1 (l.map jy):=fun d hd=>by
 obtain⟨x,_,rfl⟩:=aN.1 hd;exact⟨J,J⟩
theorem ozt{p:Prop}(h:p:=by rw[hS];rfl):p:=h
def TY(hb: ∀l∈L,LB l)(hn:L.length<=100000):PF GB prog 36 [.sl (L.map eL)] (.sl ((fA L).map eP)):=by
 have hml:(L.map eL).length=L.length:=aX ..;refine fn (fu:=⟨15⟩) func36 J J ntmps36 J J (fun C=>?_);refine ah 10 (.d (vI (L.length:Nat))) J omj<|gx J<|nr 3 3 36 6 J J J<|lp (X:=List ab×Nat) (fun⟨acc,k⟩=>[(11, .d (vI (k:Nat))),(3, .rw 3)]) (fun⟨acc,k⟩=>[(3,some (.b 36 6 (acc.map eP) true))]) (fun⟨acc,k⟩=>acc=(List.range k).flatMap (nG L)/\k<=L.length) (fun⟨acc,k⟩=>L.length-k) ⟨[],0⟩ J ⟨J,aL _⟩ (fun _=>J) (fun⟨acc,k⟩ hk=>?_)
 try dsimp only at hk⊢
 obtain⟨h1,h2⟩:=hk;have hal:=BG L k;rw[<-h1] at hal;have ham:(acc.map eP).length=acc.length:=aX ..;refine br J J J (fun hc12=>?_) (fun hc12=>?_)
 .
  obtain⟨l,hx⟩: ∃u,L[k]? =some u:=⟨_,aQ pb⟩;obtain⟨m,hw⟩: ∃w,L[(k+1)%L.length]? =some w:=⟨_,aQ (cR _ pb)⟩;haveI:=hb l (aV hx);haveI:=hb m (aV hw);refine ix (fu:=⟨13⟩) _ J (bF hx) J<|ah 20 (.d (vI (L.length:Nat))) J omj<|gx (fu:=⟨1⟩) J<|ah 21 (.d (vI (((k+1)%L.length:Nat):Int))) J J<|gx J<|ix _ J (bF hw) J<|cl J (p8 (l:=l)) J<|cl J (p8 (l:=m)) J<|cl J (vK (p:=l.dir) (q:=m.dir) (i:=97) (j:=97)) J<|cl J (nB (q:=l.dir.cross m.dir)) J<|br J J J (fun hc30=>?_) (fun hc30=>?_)
  .
   refine cl J (GJ (l:=l) (m:=m)) J<|rf J J<|ap ((acc++[du l m]).map eP) J omQ (Z8 [du l m]) J<|dq 40 3 J<|at_ ⟨acc++[du l m],k+1⟩ (by dsimp only;exact⟨⟨by rw[xk,uz hx hw,if_pos hc30,<-h1],pb⟩,pb⟩)
  .
   exact at_ ⟨acc,k+1⟩ (by dsimp only;exact⟨⟨by rw[xk,uz hx hw,if_neg hc30,<-h1,oW],pb⟩,pb⟩)
 .
  have hS:fA L=acc:=by unfold fA;rw[h1,show k=L.length by omega]
  refine fD 3 J<|rz J ozt
structure BV (GB:Gh) (ai al ae au:Addr):Prop extends EG GB ai al ae where
 ErrUnbounded:GB 3=some [.iface 441 (.pointer (some au))]
def DK{f:α->DV}{l:List α}{s:α}(h:l[0]? =some s):(l.map f)[(0:Int).toNat]? =some (f s):=by simp[h]
def d9(c:az):List (List ab):=mp (fA (c.map (·.l)))
def Ai(c:List aa):(fA c).length<=c.length:=BG c _
def Ew{a b d:ab}(h0:v[0]? =some a)(h1:v[i+1]? =some b)(h2:v[i+2]? =some d):oe v i=[a,b,d]:=by
 unfold oe;rw[aJ,aJ,aJ,h0,h1,h2];rfl
theorem Hw{c:List aa}(hb: ∀l∈c,LB l): ∀p∈fA c,aE p 1200:=fun p hp=>by
 obtain⟨l,hl,m,hm,rfl⟩:=Sy hp;have:= @aE.imeet l m (hb l hl) (hb m hm);exact⟨this.x.mono v6,this.y.mono v6⟩
def Jq(h:r∈mp v): ∀p∈r,p∈v:=fun p hp=>by
 obtain⟨i,hi,rfl⟩:=aN.1 h;have hi':=lU.1 hi;have e:oe v i=_:=Ew (aQ (show 0<v.length by omega)) (aQ (show i+1<v.length by omega)) (aQ (show i+2<v.length by omega));rw[e] at hp;simp only[aT,fT,or_false] at hp;rcases hp with rfl|rfl|rfl<;>exact bL _
theorem okw{p:Prop}(h:p:=by dsimp only;exact⟨⟨by rw[L0,<-fK,<-g1,Ew h0 e1 e2],pb,by rw[aU,dS];omega⟩,pb⟩):p:=h
def WS(hE:BV GB ai al ae au)(h:gj k0 t)(hk0:k0<=900)(hr:t.restrict []=t)(hbd:(b7 t).all ek=true):PF GB prog 116 [eA t] (.tp [.sl (((b7 t).flatMap d9).map jd), .v .nilIface]):=by
 have hts:=h.s;have htd:=h.dp;obtain⟨cs,hcs⟩: ∃cs,cs=b7 t:=⟨_,rfl⟩;have hcl:=tq t;have hcn:=uR h.lb h.ok;have hlb:=vd h.lb h.ok;rw[<-hcs] at hcl hcn hlb hbd;have hml:(cs.map eC).length=cs.length:=aX ..;refine fn func116 J J ntmps116 J J (fun C=>?_);refine cl (fu:=⟨12⟩) J (XN h) J<|ii 17 J<|gx J<|cl (fu:=⟨0⟩) J (Gg (t:=t) pb) J<|bG J (omd pb) J<|cl (fu:=⟨0⟩) J (VO (t:=t) h.lb h.ok pb) J<|ah 26 (.d (eU t)) J (by rw[hr])<|gx J<|cl (fu:=⟨0⟩) J (Tz (t:=t) hcs h.lb h.ok pb pb) J<|bG J (by show some _=some false;rw[hbd];rfl) J<|cl (fu:=⟨0⟩) J (KR h.lb h.ok pb pb) J<|ah 32 (.d (.sl (cs.map eC))) J (by rw[hcs])<|gx (fu:=⟨1⟩) J<|ah 33 (.d (vI (cs.length:Nat))) J omj<|gx J<|nr 6 6 106 1 J J J<|lp (X:=List (List ab)×Nat) (fun⟨acc,k⟩=>[(34, .d (vI (k:Nat))),(6, .rw 6)]) (fun⟨acc,k⟩=>[(6,some (.b 106 1 (acc.map jd) true))]) (fun⟨acc,k⟩=>acc=(cs.take k).flatMap d9/\k<=cs.length/\acc.length<=1000*k) (fun⟨acc,k⟩=>cs.length-k) ⟨[],0⟩ J ⟨J,aL _,aL _⟩ (fun _=>J) (fun⟨acc,k⟩ hk=>?_)
 try dsimp only at hk⊢
 obtain⟨h1,h2,h3⟩:=hk;refine br J J J (fun hc35=>?_) (fun hc35=>?_)
 .
  obtain⟨c,hx⟩: ∃u,cs[k]? =some u:=⟨_,aQ pb⟩;have hcm:=aV hx;have hcn1:=hcn c hcm;obtain⟨v,hv⟩: ∃v,v=fA (c.map (·.l)):=⟨_,rfl⟩;have hvl:=Ai (c.map (·.l));rw[<-hv,aX] at hvl;have hvm:(v.map eZ).length=v.length:=aX ..;refine ix _ J (bF hx) J<|cl (fu:=⟨0⟩) J (Sz (c:=c) (hlb c hcm) pb) J<|ah 39 (.d (.sl (v.map eZ))) J (by rw[hv])<|gx (fu:=⟨7⟩) J<|ah 41 (.d (vI (v.length:Nat))) J (by rw[hvm]<;>rfl)<|gx J<|lp (X:=List (List ab)×Nat) (fun⟨acc2,i⟩=>[(43, .d (vI (i:Nat))),(6, .rw 6)]) (fun⟨acc2,i⟩=>[(6,some (.b 106 1 (acc2.map jd) true))]) (fun⟨acc2,i⟩=>acc2=acc++(List.range i).map (oe v)/\i<=v.length-2/\acc2.length<=1000*k+i) (fun⟨acc2,i⟩=>v.length-i) ⟨acc,0⟩ J ⟨v8,aL _,h3⟩ (fun _=>J) (fun⟨acc2,i⟩ hk=>?_)
  try dsimp only at hk⊢
  obtain⟨g1,g2,g3⟩:=hk;have ham:(acc2.map jd).length=acc2.length:=aX ..;refine br J J J (fun hc44=>?_) (fun hc44=>?_)
  .
   obtain⟨p0,h0⟩: ∃u,v[0]? =some u:=⟨_,aQ pb⟩;obtain⟨p1,e1⟩: ∃u,v[i+1]? =some u:=⟨_,aQ pb⟩;obtain⟨p2,e2⟩: ∃u,v[i+2]? =some u:=⟨_,aQ pb⟩;refine ix (fu:=⟨4⟩) _ J (DK h0) J<|ah 52 (.d (vI ((i+1:Nat):Int))) J J<|gx J<|ix (fu:=⟨4⟩) _ J (bF e1) J<|ah 57 (.d (vI ((i+2:Nat):Int))) J J<|gx J<|ix _ J (bF e2) J<|rf J J<|rf J J<|ap (hv:=by simp only[aj];exact⟨we,pb⟩) ((acc2++[[p0,p1,p2]]).map jd) J omQ (Fv [[p0,p1,p2]]) J<|dq 62 6 J<|at_ ⟨acc2++[[p0,p1,p2]],i+1⟩ okw
  .
   have hA:acc2=acc++mp v:=by rw[g1];unfold mp;rw[show i=v.length-2 by omega]
   exact at_ ⟨acc2,k+1⟩ (by dsimp only;exact⟨⟨by rw[hA,eM,hx,nR,<-h1];simp[d9,<-hv],pb,pb⟩,pb⟩)
 .
  have hS:(b7 t).flatMap d9=acc:=by rw[h1,bK pb,hcs]
  refine fD 6 J<|rz J ozt
theorem okT{p:Prop}(h:p:=by rw[eM,hx,bQ]<;>rfl):p:=h
def WP(hb: ∀p∈v,aE p 1200)(hn:v.length<=1000000):PF GB prog 117 [jd v] (c9 v):=by
 have hml:(v.map eZ).length=v.length:=aX ..;refine fn (fu:=⟨15⟩) func117 J J ntmps117 J J (fun C=>?_);refine ah 7 (.d (vI (v.length:Nat))) J omj<|gx J<|nr 3 3 52 6 J J J<|lp (X:=Nat) (fun k=>[(8, .d (vI (k:Nat))),(3, .rw 3)]) (fun k=>[(3,some (.b 52 6 ((v.take k).map fe) true))]) (fun k=>k<=v.length) (fun k=>v.length-k) 0 J (aL _) (fun _=>J) (fun k hk=>?_);have ham:((v.take k).map fe).length=k:=by rw[aX,bR];omega
 refine br J J J (fun hc9=>?_) (fun hc9=>?_)
 .
  obtain⟨p,hx⟩: ∃u,v[k]? =some u:=⟨_,aQ pb⟩;haveI:=hb p (aV hx);refine ix _ J (bF hx) J<|cl J (X' (p:=p) (i:=1200)) J<|rf J J<|ap ((v.take (k+1)).map fe) J okT (xM [p]) J<|dq 16 3 J<|at_ (k+1) ⟨pb,pb⟩
 .
  have hS:v.take k=v:=bK pb;refine fD 3 J<|rz J ozt
def SH(hE:BV GB ai al ae au)(h:gj k0 t)(hk0:k0<=900)(hr:t.restrict []=t)(hbd:(b7 t).all ek=true)(hts:ts=(b7 t).flatMap d9)(hb: ∀r∈ts,(∀p∈r,aE p 1200)/\r.length<=1000)(hn:ts.length<=100000000):PF GB prog 48 [eA t] (.tp [.sl (ts.map c9), .v .nilIface]):=by
 have hml:(ts.map jd).length=ts.length:=aX ..;refine fn func48 J J ntmps48 J J (fun C=>?_);refine cl (fu:=⟨0⟩) J (WS hE h hk0 hr hbd) J<|ah 11 (.d (.tp [.sl (ts.map jd), .v .nilIface])) J (by rw[hts])<|gx (fu:=⟨27⟩) J<|ah 18 (.d (vI (ts.length:Nat))) J omj<|gx J<|nr 6 6 45 1 J J J<|lp (X:=Nat) (fun k=>[(19, .d (vI (k:Nat))),(6, .rw 6)]) (fun k=>[(6,some (.b 45 1 ((ts.take k).map c9) true))]) (fun k=>k<=ts.length) (fun k=>ts.length-k) 0 J (aL _) (fun _=>J) (fun k hk=>?_);have ham:((ts.take k).map c9).length=k:=by rw[aX,bR];omega
 refine br J J J (fun hc20=>?_) (fun hc20=>?_)
 .
  obtain⟨r,hx⟩: ∃u,ts[k]? =some u:=⟨_,aQ pb⟩;have hrb:=hb r (aV hx);refine ix _ J (bF hx) J<|cl J (WP (v:=r) hrb.1 pb) J<|rf J J<|ap ((ts.take (k+1)).map c9) J okT (E0 [r]) J<|dq 27 6 J<|at_ (k+1) ⟨pb,pb⟩
 .
  have hS:ts.take k=ts:=bK pb;refine fD 6 J<|rz J ozt
def JH{p q:Rat}[hp:BQ p i][hq:BQ q j](hi:i<=100000000:=by decide):PF GB prog 21 [eR p,eR q] (vB (decide (p=q))):=by
 refine fn func21 J J ntmps21 J J (fun C=>?_);refine cl J (RT (a:=p.num) (b:=q.num) (i:=i) (j:=j) pb) J<|csd 10 J J J (fun hg10=>?_) (fun hg10=>?_)
 .
  refine cl J (KO (a:=p.den) (b:=q.den) (i:=i) (j:=j) pb) J<|rz J (by rw[show decide (p=q)=decide (p.den=q.den) from decide_eq_decide.2 ⟨fun e=>by rw[e],fun e=>Rat.ext hg10 e⟩]<;>rfl)
 .
  exact rz J (by rw[decide_eq_false (fun e:p=q=>hg10 okE)]<;>rfl)
def DW(h:t.all aa.ok):jI (ez t [])=(b7 t).map fun c=>c.map (·.l):=Z' h
def OD(h:t.all aa.ok):CP (jI (ez t []))=(b7 t).flatMap d9:=by
 rw[DW h];unfold CP;rw[List.flatMap_map];rfl
def ZY(hb:t.all LB)(ho:t.all aa.ok): ∀L∈jI (ez t []),(∀l∈L,LB l)/\L.length<=t.depth:=fun L hL=>by
 rw[DW ho] at hL;obtain⟨c,hc,rfl⟩:=aN.1 hL;exact⟨fun l hl=>by obtain⟨s,hs,rfl⟩:=aN.1 hl;exact vd hb ho c hc s hs,by rw[aX];exact uR hb ho c hc⟩
def TH(ho:t.all aa.ok):(jI (ez t [])).length<=t.size+1:=by
 rw[DW ho,aX];exact tq t
def Nj(c:az):(d9 c).length<=c.length:=by
 unfold d9 mp;rw[aX,lS];have:=Ai (c.map (·.l));rw[aX] at this;omega
def Db{α β:Type}{f:α->List β}{k:Nat}: ∀{l:List α},(∀x∈l,(f x).length<=k)->(l.flatMap f).length<=l.length*k
 |[],_=>by simp
 |a::t,h=>by
  have h1:=h a aZ;have h2:=Db (f:=f) fun x hx=>h x (aK a hx);rw[nJ,aU,bY,iX];omega
def wX(h:gj k0 t)(hk0:k0<=900:=by decide):((b7 t).flatMap d9).length<=2700900/\ ∀r∈(b7 t).flatMap d9,(∀p∈r,aE p 1200)/\r.length=3:=by
 refine⟨?_,fun r hr=>?_⟩
 .have h1:=Db (f:=d9) (k:=900) (l:=b7 t) fun c hc=>cJ (Nj c) (cJ (uR h.lb h.ok c hc) (cJ h.dp hk0))
  have h2:=tq t;have h3:=h.s;have h4:(b7 t).length*900<=3001*900:=bX 900 pb;omega
 .obtain⟨c,hc,hr⟩:=fQ.1 hr
  unfold d9 at hr;have hlb: ∀l∈c.map (·.l),LB l:=fun l hl=>by
   obtain⟨s,hs,rfl⟩:=aN.1 hl;exact vd h.lb h.ok c hc s hs
  have hv:=Hw hlb;generalize fA (c.map (·.l))=v at*;refine⟨fun p hp=>hv p (Jq hr p hp),?_⟩;unfold mp at hr;obtain⟨i,_,rfl⟩:=aN.1 hr;rfl
def AF(h:gj k0 t)(hk0:k0<=900)(hr:t.restrict []=t)(hts:ts=(b7 t).flatMap d9):PF GB prog 7 [eT t] (.sl (ts.map jy)):=by
 obtain⟨cs,hcs⟩: ∃cs,cs=jI (ez t []):=⟨_,rfl⟩;have hcl:=TH h.ok;have hlb:=ZY h.lb h.ok;have hte:ts=cs.flatMap (fun L=>mp (fA L)):=by rw[hts,<-OD h.ok,<-hcs];rfl
 rw[<-hcs] at hcl hlb;have hsz:=h.s;have htd:=h.dp;have hml:(cs.map tA).length=cs.length:=aX ..;refine fn func7 J J ntmps7 J J (fun C=>?_);refine cl (fu:=⟨0⟩) J (KZ (t:=t) h.lb h.ok pb) J<|ah 9 (.d (eT t)) J (by rw[hr])<|gx J<|cl (fu:=⟨0⟩) J (VF (t:=t) h.lb h.ok pb pb) J<|ah 10 (.d (.sl (cs.map tA))) J (by rw[hcs])<|gx (fu:=⟨1⟩) J<|ah 11 (.d (vI (cs.length:Nat))) J omj<|gx J<|nr 3 3 44 1 J J J<|lp (X:=List (List ab)×Nat) (fun⟨acc,k⟩=>[(12, .d (vI (k:Nat))),(3, .rw 3)]) (fun⟨acc,k⟩=>[(3,some (.b 44 1 (acc.map jy) true))]) (fun⟨acc,k⟩=>acc=(cs.take k).flatMap (fun L=>mp (fA L))/\k<=cs.length/\acc.length<=1000*k) (fun⟨acc,k⟩=>cs.length-k) ⟨[],0⟩ J ⟨J,aL _,aL _⟩ (fun _=>J) (fun⟨acc,k⟩ hk=>?_)
 try dsimp only at hk⊢
 obtain⟨h1,h2,h3⟩:=hk;refine br J J J (fun hc13=>?_) (fun hc13=>?_)
 .
  obtain⟨c,hx⟩: ∃u,cs[k]? =some u:=⟨_,aQ pb⟩;have hcb:=hlb c (aV hx);obtain⟨v,hv⟩: ∃v,v=fA c:=⟨_,rfl⟩;have hvl:=Ai c;rw[<-hv] at hvl;have hvm:(v.map eP).length=v.length:=aX ..;refine ix _ J (bF hx) J<|cl (fu:=⟨0⟩) J (TY (L:=c) hcb.1 pb) J<|ah 17 (.d (.sl (v.map eP))) J (by rw[hv])<|gx J<|lp (fu:=⟨7⟩) (X:=List (List ab)×Nat) (fun⟨acc2,i⟩=>[(7, .d (vI ((i+1:Nat):Int))),(3, .rw 3)]) (fun⟨acc2,i⟩=>[(3,some (.b 44 1 (acc2.map jy) true))]) (fun⟨acc2,i⟩=>acc2=acc++(List.range i).map (oe v)/\i<=v.length-2/\acc2.length<=1000*k+i) (fun⟨acc2,i⟩=>v.length-i) ⟨acc,0⟩ J ⟨v8,aL _,h3⟩ (fun _=>J) (fun⟨acc2,i⟩ hk=>?_)
  try dsimp only at hk⊢
  obtain⟨g1,g2,g3⟩:=hk;have ham:(acc2.map jy).length=acc2.length:=aX ..;refine ah 21 (.d (vI (v.length:Nat))) J (by rw[hvm]<;>rfl)<|gx J<|br J J J (fun hc22=>?_) (fun hc22=>?_)
  .
   obtain⟨p0,h0⟩: ∃u,v[0]? =some u:=⟨_,aQ pb⟩;obtain⟨p1,e1⟩: ∃u,v[i+1]? =some u:=⟨_,aQ pb⟩;obtain⟨p2,e2⟩: ∃u,v[i+2]? =some u:=⟨_,aQ pb⟩;refine ix _ J (DK h0) J<|ix (fu:=⟨4⟩) _ J (bF e1) J<|ah 35 (.d (vI ((i+2:Nat):Int))) J J<|gx J<|ix _ J (bF e2) J<|rf J J<|rf J J<|ap (hv:=by simp only[aj];exact⟨we,pb⟩) ((acc2++[[p0,p1,p2]]).map jy) J omQ (Qb [[p0,p1,p2]]) J<|dq 40 3 J<|at_ ⟨acc2++[[p0,p1,p2]],i+1⟩ okw
  .
   have hA:acc2=acc++mp v:=by rw[g1];unfold mp;rw[show i=v.length-2 by omega]
   exact at_ ⟨acc2,k+1⟩ (by dsimp only;exact⟨⟨by rw[hA,eM,hx,nR,<-h1,hv];simp,pb,pb⟩,pb⟩)
 .
  have hS:ts=acc:=by rw[h1,hte,bK pb]
  refine fD 3 J<|rz J ozt
def qe:List ZP:=[(0,0),(1,0),(0,1)]
def Qs:dl qe:=⟨v6,v6,fun p hp=>by
 unfold qe at hp;simp only[aT,fT,or_false] at hp;rcases hp with rfl|rfl|rfl<;>exact⟨v6,v6⟩,v6⟩
def xL: ∀r∈[qe],dl r:=fun r hr=>by rw[aW] at hr;subst hr;exact Qs
def RX:(CP (jI (ez (kw [qe] 2) []))).map List.length=[3]:=by decide+kernel
def Sa: ∃a b c:ab,[[a,b,c]]=(b7 (kw [qe] 2)).flatMap d9:=by
 have h:=CZ (fill:=2) xL;rw[<-OD h.gd.ok];have e:=RX;generalize CP (jI (ez (kw [qe] 2) []))=l at*
 match l,e with
 |[[a,b,c]],_=>exact⟨a,b,c,J⟩
def AJ:gj 12 (kw [qe] 2):=(CZ xL).x (Em _ _) v6
def Q7:(b7 (kw [qe] 2)).all ek=true:=IA AJ.ok (Dq xL)
def w9(hE:BV GB ai al ae au):PF GB prog 16 [] (.v (.bool true)):=by
 obtain⟨a,b,c,hts⟩:=Sa;have htb:=wX AJ;rw[<-hts] at htb;refine fn func16 J J ntmps16 J J (fun C=>?_);refine cl J (kB pb pb) J<|cl J (kB pb pb) J<|cl J (kB pb pb) J<|rf J J<|cl J (w5 (ps:=[iP 0 0,iP 1 0,iP 0 1]) (fun p hp=>by
  simp only[aT,fT,or_false] at hp;rcases hp with rfl|rfl|rfl<;>exact⟨BQ.int1200,BQ.int1200⟩) v6) rfl<|?_
 refine rf J J<|cl J (L2 (rs:=[qe]) (fill:=2) xL v6) J<|cl J (Pc (rs:=[qe]) (fill:=2) xL v6) J<|cl J (WY AJ) J<|cl (fu:=⟨14⟩) J (SH hE AJ v6 (Tr.red_restrict (Em _ _)) Q7 (ts:=[[a,b,c]]) hts (fun r hr=>⟨(htb.2 r hr).1,by rw[(htb.2 r hr).2];decide⟩) v8) J<|ah 22 (.d (vI 1)) J J<|gx (fu:=⟨0⟩) J<|cj J J J<|ix (fu:=⟨2⟩) _ J (DK (show [[a,b,c]][0]? =some [a,b,c] from J)) J<|ah 29 (.d (vI 3)) J J<|gx (fu:=⟨0⟩) J<|cj J J J<|rz J J

def GR(f:α->Rat){l:List α}{x:α}(h:l[k]? =some x):d5 f (l.take (k+1))=d5 f (l.take k)+f x:=by
 have:l.take (k+1)=l.take k++[x]:=by rw[eM,h];rfl
 rw[this,Ju];show _+(f x+0)=_;grind
structure WA (cs:List az) (b:Nat):Prop where
 lb: ∀c∈cs,∀s∈c,LB s.l
 sh: ∀c∈cs,c.length<=100000
 ln:cs.length<=1000000
 pt: ∀x∈vU (tB cs),aE x.1 b/\aE x.2 b
def OR(hn:n.natAbs<=1000)(hd:0<d:=by decide)(hd1:d<=1000:=by decide):PF GB prog 98 [vI n, .v (.int .i64 (d:Nat))] (eQ (mkRat n d)):=by
 haveI:BI n 10:=wx;haveI:BN d 10:=⟨pb⟩;refine fn func98 J J ntmps98 J J (fun C=>?_);refine cl J (N9 (n:=n)) J<|cl J (qo (u:=d)) J<|cl J (uN (x:=n) (d:=d) hd) J<|rz J J
def qF(es:List Int)(a:Nat):Rat×Nat:=
 (if((aC es 6 (aC es 9 a).2).1:Int)=0 then mkRat (2*(((aC es 9 a).1:Int)-4)+1) 2 else if((aC es 6 (aC es 9 a).2).1:Int)=1 then mkRat (3*(((aC es 9 a).1:Int)-4)+1) 3 else(((aC es 9 a).1:Rat)-4:Rat),(aC es 6 (aC es 9 a).2).2)
theorem Dw(ha:a<=es.length):BQ (qF es a).1 12/\(qF es a).2<=es.length:=by
 have h1:=ig (es:=es) (n:=9) (a:=a);refine⟨?_,e7 (e7 ha)⟩;unfold qF;dsimp only;split
 .exact ub v6 pb
 .split
  .exact ub v6 pb
  .haveI:BI (((aC es 9 a).1:Int)-4:Int) 11:=wx
   have e:((((aC es 9 a).1:Rat)-4):Rat)=((((aC es 9 a).1:Int)-4:Int):Rat):=by rw[jQ];rfl
   rw[e];exact inferInstance
def pP(es:List Int)(a:Nat):ab×Nat:=(⟨(qF es a).1,(qF es (qF es a).2).1⟩,(qF es (qF es a).2).2)
theorem Ae(ha:a<=es.length):aE (pP es a).1 1200/\(pP es a).2<=es.length:=by
 obtain⟨h1,h2⟩:=Dw ha;obtain⟨h3,h4⟩:=Dw h2;exact⟨⟨h1.mono v6,h3.mono v6⟩,h4⟩
def q9(z:Nat):(z:Rat)-4=(((z:Int)-4:Int):Rat):=by rw[jQ];rfl
def Jy(hes:es.length<=400)(ha:a<=es.length):PM GB prog 40 (gw [none] b) b 85 [.sl (es.map vI), .v (.int .i64 (a:Nat))] (eQ (qF es a).1) [.sl (es.map vI), .v (.int .i64 ((qF es a).2:Nat))]:=by
 have h1:=ig (es:=es) (n:=9) (a:=a);refine rg func40 J J ntmps40 J J (fun C b m lo hmb=>?_);refine cm J (fun b=>(lI (n:=9) hes ha)) J<|cm J (fun b=>(lI (n:=6) hes (e7 ha))) J<|br J J J (fun hc9=>?_) (fun hc9=>?_)
 .
  refine cl J (OR (n:=2*(((aC es 9 a).1:Int)-4)+1) (d:=2) pb) J<|?_;exact iG hmb J J (by unfold qF;dsimp only;rw[if_pos hc9];rfl) J
 .
  refine br J J J (fun hc15=>?_) (fun hc15=>?_)
  .
   refine cl J (OR (n:=3*(((aC es 9 a).1:Int)-4)+1) (d:=3) pb) J<|?_;exact iG hmb J J (by unfold qF;dsimp only;rw[if_neg hc9,if_pos hc15];rfl) J
  .
   refine cl J (kc (n:=(((aC es 9 a).1:Int)-4)) pb pb) J<|?_;exact iG hmb J J (by unfold qF;dsimp only;rw[if_neg hc9,if_neg hc15,q9];rfl) J
def SE(hes:es.length<=400)(ha:a<=es.length):PM GB prog 9 (gw [none] b) b 85 [.sl (es.map vI), .v (.int .i64 (a:Nat))] (eP (pP es a).1) [.sl (es.map vI), .v (.int .i64 ((pP es a).2:Nat))]:=by
 refine rg func9 J J ntmps9 J J (fun C b m lo hmb=>?_);refine cm J (fun b=>(Jy hes ha)) J<|cm J (fun b=>(Jy hes (Dw ha).2)) J<|?_;exact iG hmb J J J J



structure DQ (D B:Nat) (x:Rat):Prop where
 ex: ∃n:Int,x*((D:Nat):Rat)=(n:Rat)/\n.natAbs<=B*D
theorem DQ.bq{x:Rat}(h:DQ D B x)(h0:0<D)(h1:D<2^k)(h2:B*D<2^k):BQ x k:=by
 obtain⟨n,e,hn⟩:=h.ex;exact BQ.of_frac h0 e pb h1
def DQ.mono{x:Rat}(h:DQ D B x)(hc:B<=C):DQ D C x:=by
 obtain⟨n,e,hn⟩:=h.ex;exact⟨n,e,cJ hn (bX D hc)⟩
def DQ.add{x y:Rat}(h:DQ D B x)(k:DQ D C y):DQ D (B+C) (x+y):=by
 obtain⟨n,e,hn⟩:=h.ex;obtain⟨m,f,hm⟩:=k.ex;refine⟨n+m,by rw[oU,<-e,<-f];grind,?_⟩;have:=Int.natAbs_add_le n m;rw[cN];omega
def DQ.neg{x:Rat}(h:DQ D B x):DQ D B (-x):=by
 obtain⟨n,e,hn⟩:=h.ex;exact⟨-n,by rw[lN,<-e];grind,by rw[iJ];exact hn⟩
def DQ.sub{x y:Rat}(h:DQ D B x)(k:DQ D C y):DQ D (B+C) (x-y):=by
 have:=h.add k.neg;rw[show x-y=x+ -y by grind];exact this
def DQ.mul{x y:Rat}(h:DQ D B x)(k:DQ E C y):DQ (D*E) (B*C) (x*y):=by
 obtain⟨n,e,hn⟩:=h.ex;obtain⟨m,f,hm⟩:=k.ex;refine⟨n*m,?_,?_⟩
 .rw[cK,<-e,<-f,Rat.natCast_mul];grind
 .rw[iR]
  refine cJ (iK hn hm) (Nat.le_of_eq ?_);rw[Nat.mul_mul_mul_comm]
def DQ.zero(D B:Nat):DQ D B 0:=⟨0,v7,v8⟩
def k8(l m:aa):Nat:=if crossI l m=0 then 1 else(crossI l m).natAbs
def X2(l m:aa):0<k8 l m:=by unfold k8;split<;>omega
def ard(l m:aa):crossI l.rev m= -crossI l m:=by
 unfold crossI aa.rev;show-l.a*m.b-m.a* -l.b=_;rw[Int.neg_mul,rN];omega
def Ul(l m:aa):crossI l m.rev= -crossI l m:=by
 unfold crossI aa.rev;show l.a* -m.b- -m.a*l.b=_;rw[Int.neg_mul,rN];omega
def XQ(h:l.same l')(k:m.same m'):k8 l' m'=k8 l m:=by
 have e1:k8 l' m'=k8 l m':=by
  rcases h with rfl|rfl
  .rfl
  .unfold k8;rw[ard];simp only[Int.neg_eq_zero,iJ]
 rw[e1];rcases k with rfl|rfl
 .rfl
 .unfold k8;rw[Ul];simp only[Int.neg_eq_zero,iJ]
def Da(K:List aa):List Nat:=K.flatMap fun l=>K.map (k8 l)
def CG(K:List aa):Nat:=(Da K).foldr (· * ·) 1
def J5{n:Nat}: ∀{l:List Nat},n∈l->n∣l.foldr (· * ·) 1
 |a::t,h=>by
  rw[List.foldr_cons];rcases aT.1 h with rfl|h
  .exact Nat.dvd_mul_right _ _
  .exact rL (J5 h) (Nat.dvd_mul_left _ _)
def Jl: ∀{l:List Nat},(∀n∈l,0<n)->0<l.foldr (· * ·) 1
 |[],_=>by decide
 |a::t,h=>by rw[List.foldr_cons];exact jJ (h a aZ) (Jl fun n hn=>h n (aK _ hn))
def Lg{b:Nat}: ∀{l:List Nat},(∀n∈l,n<=2^b)->l.foldr (· * ·) 1<=2^(b*l.length)
 |[],_=>by simp
 |a::t,h=>by
  rw[List.foldr_cons,bY,Nat.mul_succ,jW,fW];exact iK (h a aZ) (Lg fun n hn=>h n (aK _ hn))
def awp(K:List aa):(Da K).length=K.length*K.length:=by
 unfold Da;rw[List.length_flatMap];have: ∀Jv:List aa,(Jv.map fun l=>(K.map (k8 l)).length).sum=Jv.length*K.length:=by
  intro Jv
  induction Jv with
  |nil=>simp
  |cons a t ih=>rw[cZ,List.sum_cons,ih,aX,bY,iX];omega
 exact this K
def YX(K:List aa):0<CG K:=Jl fun n hn=>by
 obtain⟨l,_,h⟩:=fQ.1 hn;obtain⟨m,_,rfl⟩:=aN.1 h;exact X2 l m
def Vq(hl:l∈K)(hm:m∈K):k8 l m∣CG K:=J5 (fQ.2 ⟨l,hl,eK hm⟩)
def XH(hl:LB l)(hm:LB m):k8 l m<=2^385:=by
 have h1:=(inferInstance:BI (crossI l m) 385).h;generalize 385=kk at h1⊢;unfold k8;split
 .exact Nat.one_le_two_pow
 .exact lW h1
def aAa(h: ∀l∈K,LB l):CG K<=2^(385*(K.length*K.length)):=by
 have:=Lg (b:=385) (l:=Da K) fun n hn=>by
  obtain⟨l,hl,h2⟩:=fQ.1 hn;obtain⟨m,hm,rfl⟩:=aN.1 h2;exact XH (h l hl) (h m hm)
 rw[awp] at this;exact this
def On{x:Rat}{c:Int}(hc:c≠0)(hx:x=(n:Rat)/(c:Rat))(hn:n.natAbs<=2^kk)(hd:c.natAbs∣D):DQ D (2^kk) x:=by
 obtain⟨e,he⟩:=hd;have hc':(c:Rat)≠0:=fun h=>hc (dK.1 h);have hD:((D:Nat):Rat)=((c.natAbs:Int):Rat)*((e:Int):Rat):=by rw[<-cK,<-Rat.intCast_natCast,he];rfl
 have bd:(n*(e:Int)).natAbs<=2^kk*D:=by
  rw[iR,jR];refine iK hn ?_;rw[he];exact Nat.le_mul_of_pos_left e pb
 rcases Int.natAbs_eq c with h|h
 .refine⟨n*(e:Int),?_,bd⟩
  rw[hD,<-h,hx,cK];grind
 .refine⟨-(n*(e:Int)),?_,by rw[iJ];exact bd⟩
  have h2:(c.natAbs:Int)= -c:=by omega
  rw[hD,h2,hx,lN,lN,cK];grind
structure DP (D B:Nat) (p:ab):Prop where
 x:DQ D B p.x
 y:DQ D B p.y
def QM(hl:LB l)(hm:LB m)(h:crossI l m≠0)(hd:k8 l m∣D):DP D (2^385) (du l m):=by
 have h1:=(inferInstance:BI (meetX l m) 385).h;have h2:=(inferInstance:BI (meetY l m) 385).h;generalize 385=kk at h1 h2⊢;unfold k8 at hd;rw[if_neg h] at hd;have e:du l m=⟨(meetX l m:Rat)/(crossI l m:Rat),(meetY l m:Rat)/(crossI l m:Rat)⟩:=by unfold du;rw[if_neg h]
 rw[e];exact⟨On h J (lW h1) hd,On h J (lW h2) hd⟩
def DP.cross{D B C:Nat}{p q:ab}(h:DP D B p)(k:DP D C q):DQ (D*D) (2*(B*C)) (p.cross q):=by
 have:=(h.x.mul k.y).sub (h.y.mul k.x);refine DQ.mono this pb
def Qn(h:gj k t): ∃K:List aa,K.length<=k/\(∀l∈K,LB l)/\t.all fun l=> ∃m∈K,m.same l:=by
 obtain⟨K,h1,h2,h3⟩:=h.o.am;refine⟨K.filter fun m=>t.lns.any fun l=>decide (m.same l),cJ (lX ..) h1,fun m hm=>?_,?_⟩
 .obtain⟨hm1,hm2⟩:=qK.1 hm
  obtain⟨l,hl,e⟩:=jX.1 hm2;have hb:=sD.1 h.lb l hl;have e':m.same l:=by simpa using e
  rcases e' with rfl|rfl
  .exact hb
  .haveI:=hb
   have:LB m.rev.rev:=inferInstance;rwa [show m.rev.rev=m from by unfold aa.rev;cases m;simp] at this
 .have h3:=sD.1 h3
  refine sD.2 fun l hl=>?_;obtain⟨m,hm,e⟩:=h3 l hl;exact⟨m,qK.2 ⟨hm,jX.2 ⟨l,hl,decide_eq_true e⟩⟩,e⟩
def Eg{P:aa->Prop}(hr: ∀l,P l->P l.rev): ∀{t:Tr} {c:az} {x:Bool×az},t.all P->(∀s∈c,P s.l)->x∈t.parts c-> ∀s∈x.2,P s.l
 | .leaf b,c,x,_,hc,h=>by
  rw[Tr.parts,aW] at h;subst h;exact hc
 | .node l u v,c,x,ht,hc,h=>by
  have cl: ∀k,P k-> ∀s∈b4 c k,P s.l:=fun k hk s hs=>by
   unfold b4 at hs;split at hs
   .rcases oH.1 hs with rfl|hs
    .exact hk
    .obtain⟨s0,g,_,rfl⟩:=p6.1 hs
     exact hc s0 g
   .exact hc s hs
  rw[Tr.parts] at h;rcases bJ.1 h with h|h
  .split at h
   .exact Eg hr ht.2.1 (cl l ht.1) h
   .cases h
  .split at h
   .exact Eg hr ht.2.2 (cl l.rev (hr l ht.1)) h
   .cases h
def RU(h:gj k t): ∃D:Nat,0<D/\D<=2^(385*(k*k))/\ ∀c∈b7 t,∀p∈fA (c.map (·.l)),DP D (2^385) p:=by
 obtain⟨K,h1,h2,h3⟩:=Qn h;refine⟨CG K,YX K,cJ (aAa h2) (bU v6 (dY 385 (iK h1 h1))),fun c hc p hp=>?_⟩;have hs:=Eg (P:=fun l=> ∃m∈K,m.same l) (fun l ⟨m,hm,e⟩=>⟨m,hm,by
  rcases e with rfl|rfl
  .exact .inr J
  .exact .inl (by unfold aa.rev;cases m;simp)⟩) h3 (fun s hs=>by cases hs) (tY.1 hc)
 have hb:=vd h.lb h.ok c hc;obtain⟨i,hi,hp⟩:=fQ.1 hp;have hi':=lU.1 hi;have e1:=aQ hi';have e2:=aQ (l:=c.map (·.l)) (cR (i+1) (show 0<(c.map (·.l)).length by omega));rw[uz e1 e2] at hp;split at hp
 .rename_i hx
  rw[aW.1 hp];obtain⟨s,s1,s2⟩:=aN.1 (bL hi');obtain⟨u,u1,u2⟩:=aN.1 (bL (cR (i+1) (show 0<(c.map (·.l)).length by omega)));rw[<-s2,<-u2] at hx⊢;obtain⟨m,hm,em⟩:=hs s s1;obtain⟨n,hn,en⟩:=hs u u1;exact QM (hb s s1) (hb u u1) (Fh hx) (by rw[XQ em en];exact Vq hm hn)
 .cases hp
theorem OJ{x:Rat}(h:DQ D B x)(h0:0<D)(hD:D<=2^a)(hB:B<=2^b)(hk:a+b<k:=by decide):BQ x k:=by
 refine h.bq h0 (gX hD (sZ v6 pb)) ?_;refine gX (iK hB hD) ?_;rw[<-fW];exact sZ v6 pb
def Ko{x y:Nat}(hx:x<=2^a)(hy:y<=2^b):x*y<=2^(a+b):=by
 rw[fW];exact iK hx hy
def Lt{α:Type}{D B:Nat}{f:α->Rat}: ∀{l:List α},(∀x∈l,DQ D B (f x))->DQ D (l.length*B) (d5 f l)
 |[],_=>by show DQ D _ 0;exact DQ.zero D _
 |x::t,h=>by
  have:=(h x aZ).add (Lt fun y hy=>h y (aK _ hy));refine DQ.mono this (Nat.le_of_eq ?_);rw[bY,cN,mS,jW]
def H4{f:α->Rat}{l:List α}(h: ∀x∈l,DQ D B (f x))(hl:l.length<=N)(k:Nat):DQ D (N*B) (d5 f (l.take k)):=by
 have:=Lt (l:=l.take k) fun x hx=>h x (dW hx);exact this.mono (bX B (cJ (by rw[bR];omega) hl))
def X0{x:ab×ab}(h:x∈fP v):x.1∈v/\x.2∈v:=by
 obtain⟨i,hi,rfl⟩:=aN.1 h;have hi':=lU.1 hi;have hj:(i+1)%v.length<v.length:=cR _ pb;dsimp only;rw[aJ,aJ,aQ hi',aQ hj];exact⟨bL _,bL _⟩
def Xe{cs:List az}{x:ab×ab}(h:x∈vU (tB cs)): ∃c∈cs,x.1∈fA (c.map (·.l))/\x.2∈fA (c.map (·.l)):=by
 obtain⟨L,hL,hx⟩:=fQ.1 h;obtain⟨c,hc,rfl⟩:=aN.1 hL;exact⟨c,hc,X0 hx⟩
def X1(h:gj k0 t)(hk:k0<=48):(vU (tB (b7 t))).length<=2^18:=by
 have h1: ∀L∈tB (b7 t),(fP (fA L)).length<=48:=fun L hL=>by
  obtain⟨c,hc,rfl⟩:=aN.1 hL;have h2:=uR h.lb h.ok c hc;have h3:=Ai (c.map (·.l));have h4:=h.dp;rw[aX] at h3;rw[Ow];omega
 have h2:=Db h1;have h3:=tq t;have h4:=h.s;have h5:(tB (b7 t)).length=(b7 t).length:=aX ..;unfold vU;rw[h5] at h2;have:(b7 t).length*48<=3001*48:=bX 48 pb;omega
def GZ{C:aD}{n:Nat}{Q0:Exit->Act->World->Prop}{fr:aA}{own:aF}{K:List Kt}{P:Program}(nm:Nat){ty:TypeId}{cs:List FX}{ds:List DV}{lo:Bool}{own1:aF}{c:Code}(ds':List DV)(hl:aO own nm=some (.o ty cs lo))(hc:gO cs=some ds)(hi: ∀G m,IsLs G ds m->IsLs G ds' m)(ho:q8 own nm (some (.o ty (ds'.map .d) lo)) id=own1)(h:ao P GB C n Q0 fr own1 (.code c K)):ao P GB C n Q0 fr own (.code c K):=by
 rw[sO] at ho;subst ho;refine⟨fun ρ G ov a w r=>?_⟩;have old: ∀m B,aO (jf own nm (some (.o ty (ds'.map .d) lo))) m=some B-> ∃B0,aO own m=some B0:=fun m B e=>by
  rw[ql] at e;split at e
  .rename_i hm;subst hm;exact⟨_,hl⟩
  .exact⟨_,e⟩
 refine SX.run h ρ G ov a w ⟨r.gb,r.h,r.sz,r.df,r.fx,fun m B e=>?_,fun m m' B B' e e'=>?_,r.fxd⟩
 .rw[show id (jf own nm (some (.o ty (ds'.map .d) lo)))=jf own nm (some (.o ty (ds'.map .d) lo)) from J,ql] at e
  split at e
  .rename_i hm;subst hm;cases e
   obtain⟨os,⟨b,q,h1,rfl,h2⟩,h3⟩:=r.bx _ _ hl;exact⟨_,⟨b,q,h1,J,px (hi G q (oq h2 hc))⟩,h3⟩
  .exact r.bx _ _ e
 .obtain⟨B0,h0⟩:=old _ _ e
  obtain⟨B1,h1⟩:=old _ _ e';exact r.dj m m' B0 B1 h0 h1
def Dr:List DV:=[.v (.bool (decide ((0:Rat).num<0))),dN (0:Rat).num.natAbs,dD (0:Rat).den]
def Yg:Dr=[vB false, .sl [], .sl []]:=by unfold Dr;rw[show dN (0:Rat).num.natAbs= .sl [] from kr];rfl
def YO(h:j<4):([vI 1,vI 2,vI 3,vI 4]:List DV)[((j:Nat):Int).toNat]? =some (vI (1+(j:Int))):=by
 have:j=0\/j=1\/j=2\/j=3:=by omega
 rcases this with rfl|rfl|rfl|rfl<;>rfl
def SZ(hes:es.length<=400)(ha:a<=es.length)(hn:n=0):PM GB prog 8 (gw [none,some (.v (.int .i64 n))] b) b 85 [.sl (es.map vI), .v (.int .i64 (a:Nat))] (eT (cx es 0 a).1) [.sl (es.map vI), .v (.int .i64 ((cx es 0 a).2:Nat))]:=by
 refine rg (fu:=⟨9⟩) func8 J J ntmps8 J J (fun C b m lo hmb=>?_);refine bG J (omd pb) J<|cm J (fun b=>(O7 hes ha)) J<|?_;exact iG hmb J J J J
def XF(hes:es.length<=400)(ha:a<=es.length)(hn:n=((d+1:Nat):Int))(hd:d<=1)(ih: ∀{GB:Gh} {b a:Nat} {n:Int},a<=es.length->n=(d:Int)->PM GB prog 8 (gw [none,some (.v (.int .i64 n))] b) b 85 [.sl (es.map vI), .v (.int .i64 (a:Nat))] (eT (cx es d a).1) [.sl (es.map vI), .v (.int .i64 ((cx es d a).2:Nat))]):PM GB prog 8 (gw [none,some (.v (.int .i64 n))] b) b 85 [.sl (es.map vI), .v (.int .i64 (a:Nat))] (eT (cx es (d+1) a).1) [.sl (es.map vI), .v (.int .i64 ((cx es (d+1) a).2:Nat))]:=by
 have hk0:=e7 (n:=3) ha;obtain⟨g1,_,_,g2⟩:=uv (d:=d) hk0;have hj:=e7 (n:=4) g2;have hjl:=ig (es:=es) (n:=4) (a:=(cx es d (aC es 3 a).2).2);obtain⟨g3,_,_,g4⟩:=uv (d:=d) hj;have hpw:12*2^d<=12*2^1:=dY _ (bU v6 hd);refine rg (fu:=⟨9⟩) func8 J J ntmps8 J J (fun C b m lo hmb=>?_);refine cj J (omc pb) J<|cm J (fun b=>(lI (n:=3) hes ha)) J<|br J J J (fun hc12=>?_) (fun hc12=>?_)
 .
  refine cm J (fun b=>(ih hk0 pb)) J<|rf J J<|cm J (fun b=>(lI (n:=4) hes g2)) J<|ix (vI (1+((aC es 4 (cx es d (aC es 3 a).2).2).1:Int))) J (YO pb) J<|cm J (fun b=>(ih hj pb)) J<|cl J (Hg (op:=1+((aC es 4 (cx es d (aC es 3 a).2).2).1:Int)) (t:=(cx es d (aC es 3 a).2).1) (u:=(cx es d (aC es 4 (cx es d (aC es 3 a).2).2).2).1) (c:=[]) g3.gd.lb g3.gd.ok g1.gd.lb g1.gd.ok (fun m h=>by cases h) (fun m h=>by cases h) (by have:=g1.dp;have:=g3.dp;rw[iQ];omega)) J<|?_;exact iG hmb J J (by rw[show cx es (d+1) a=_ from if_pos hc12];show eT (Tr.mergeL _ _ _ _)=eT (Tr.mergeQ _ _ _ _);rw[Tr.mergeL_nil pb g1.gd.ok g3.gd.ok]) (by rw[show cx es (d+1) a=_ from if_pos hc12])
 .
  refine cm J (fun b=>(O7 hes hk0)) J<|?_;exact iG hmb J J (by rw[show cx es (d+1) a=_ from if_neg hc12];rfl) (by rw[show cx es (d+1) a=_ from if_neg hc12])
def J0{es:List Int}(hes:es.length<=400): ∀{d:Nat} {GB:Gh} {b a:Nat} {n:Int},d<=2->a<=es.length->n=(d:Int)->PM GB prog 8 (gw [none,some (.v (.int .i64 n))] b) b 85 [.sl (es.map vI), .v (.int .i64 (a:Nat))] (eT (cx es d a).1) [.sl (es.map vI), .v (.int .i64 ((cx es d a).2:Nat))]
 |0,_,_,_,_,_,ha,hn=>SZ hes ha hn
 |d+1,_,_,_,_,hd,ha,hn=>XF hes ha hn pb (fun h1 h2=>J0 hes pb h1 h2)
def Qd(hes:es.length<=400)(ha:a<=es.length)(hd:d<=2):PM GB prog 8 (gw [none,some (.v (.int .i64 (d:Nat)))] b) b 85 [.sl (es.map vI), .v (.int .i64 (a:Nat))] (eT (cx es d a).1) [.sl (es.map vI), .v (.int .i64 ((cx es d a).2:Nat))]:=J0 (GB:=GB) hes hd ha J


def Oh{v:ab}(hu:u.half≠0)(hv:v.half≠0)(h0:u.cross v=0)(h1:0<u.cross z)(h2:0<v.cross z):u.half=v.half:=by
 have ex:v.x*(u.cross z)=u.x*(v.cross z):=by unfold ab.cross at*;grind
 have ey:v.y*(u.cross z)=u.y*(v.cross z):=by unfold ab.cross at*;grind
 have key: ∀{a b:Rat},a*(u.cross z)=b*(v.cross z)->(0<a↔0<b)/\(a=0↔b=0):=fun{a b} e=>by
  have k1:0<a*(u.cross z)↔0<a:=im h1;have k2:0<b*(v.cross z)↔0<b:=im h2;refine⟨by rw[<-k1,<-k2,e],fun h=>?_,fun h=>?_⟩
  .rw[h,Rat.zero_mul] at e
   rcases fS.1 e.symm with q|q
   .exact q
   .grind
  .rw[h,Rat.zero_mul] at e
   rcases fS.1 e with q|q
   .exact q
   .grind
 obtain⟨x1,x2⟩:=key ex;obtain⟨y1,y2⟩:=key ey;have:u.half=1↔v.half=1:=by rw[mr,mr,x1,y1,y2]
 rcases l9 hu with a|a<;>rcases l9 hv with b|b<;>omega
def ZI(hc:bO c)(ha:jO c)(hb:ek c=true)(hw:c[i]? =some w)(hw':c[(i+1)%c.length]? =some w')(hs:c[j]? =some s)(hz:s.l.value (w.l.at w.v.hi)=0):j=i\/j=(i+1)%c.length:=by
 apply Classical.byContradiction;intro hne;have n1:j≠i:=fun e=>hne (.inl e);have n2:j≠(i+1)%c.length:=fun e=>hne (.inr e);obtain⟨h1,_,h3⟩:=wQ hc ha hb hw hw';have mw:=aV hw;have mw':=aV hw';have ms:=aV hs;have lt: ∀x∈c,x.v.lo<x.v.hi:=fun x hx=>by
  have h:=(hc.edge x hx).1;obtain⟨a,b⟩:=(sE hb).2 x hx;unfold ak.Pos at h;rw[a,b] at h;rcases h with h|h|h
  .cases h
  .cases h
  .exact h
 have a1:s.l.nor.dot w.l.dir<=0:=by
  have k:=((hc.edge w mw).2 _).1 (Ff (hc.edge w mw).1 ((sE hb).2 w mw).1) s ms;rw[show w.v.lo=w.v.hi+(w.v.lo-w.v.hi) by grind,CB,hz] at k;have l1:=lt w mw;apply Classical.byContradiction;intro q;have:=(im (s:=s.l.nor.dot w.l.dir) (k:=w.v.hi-w.v.lo) v7).2 v7;grind
 have a2:0<=s.l.nor.dot w'.l.dir:=by
  have k:=((hc.edge w' mw').2 _).1 (wB (hc.edge w' mw').1 ((sE hb).2 w' mw').2) s ms;rw[show w'.v.hi=w'.v.lo+(w'.v.hi-w'.v.lo) by grind,CB,h3,hz] at k;have l1:=lt w' mw';apply Classical.byContradiction;intro q;have:=(im (s:= -(s.l.nor.dot w'.l.dir)) (k:=w'.v.hi-w'.v.lo) v7).2 v7;grind
 have b1:0<=w.l.dir.cross s.l.dir:=by rw[m7,AL];grind
 have b2:0<=s.l.dir.cross w'.l.dir:=by rw[AL];exact a2
 have nz:=EZ hc;have md: ∀x∈c,x.l.dir∈c.map fun s=>s.l.dir:=fun x hx=>aN.2 ⟨x,hx,J⟩;have hn:uF (c.map fun s=>s.l.dir) w.l.dir w'.l.dir:=Ov ha (by rw[cY,hw];rfl) (by rw[aX,cY,hw'];rfl);have bef: ∀{a b:Nat} {x y:bi},c[a]? =some x->c[b]? =some y->a≠b->x.l.dir.cross y.l.dir=0->x.l.dir.half≠y.l.dir.half:=fun{a b x y} hx hy hab h0 e=>by
  obtain⟨ha',ea⟩:=aS.1 hx;obtain⟨hb',eb⟩:=aS.1 hy;have hp:=lZ.1 ha;have hsw:y.l.dir.cross x.l.dir=0:=by rw[m7,h0];rfl
  rcases Nat.lt_or_gt_of_ne hab with q|q
  .have:=hp a b (by simpa using ha') (by simpa using hb') q
   rw[kU,kU,ea,eb] at this;rcases this with r|⟨_,r⟩
   .omega
   .rw[h0] at r;exact absurd r v6
  .have:=hp b a (by simpa using hb') (by simpa using ha') q
   rw[kU,kU,ea,eb] at this;rcases this with r|⟨_,r⟩
   .omega
   .rw[hsw] at r;exact absurd r v6
 by_cases c1:0<w.l.dir.cross s.l.dir
 .by_cases c2:0<s.l.dir.cross w'.l.dir
  .exact D3 nz (md w mw) (md s ms) (md w' mw') hn c1 c2 h1
  .have z2:s.l.dir.cross w'.l.dir=0:=by grind
   have z2':w'.l.dir.cross s.l.dir=0:=by rw[m7,z2];rfl
   refine bef hs hw' n2 z2 ?_;exact Oh (z:=kO w.l.dir) (nz _ (md s ms)) (nz _ (md w' mw')) z2 (by rw[B8,m7];grind) (by rw[B8,m7];grind)
 .have z1:w.l.dir.cross s.l.dir=0:=by grind
  by_cases c2:0<s.l.dir.cross w'.l.dir
  .exact bef hw hs (Ne.symm n1) z1 (Oh (z:=w'.l.dir) (nz _ (md w mw)) (nz _ (md s ms)) z1 h1 c2)
  .have z2:s.l.dir.cross w'.l.dir=0:=by grind
   have hz0:=nz _ (md s ms);have ex:s.l.dir.x*(w.l.dir.cross w'.l.dir)=0:=by unfold ab.cross at*;grind
   have ey:s.l.dir.y*(w.l.dir.cross w'.l.dir)=0:=by unfold ab.cross at*;grind
   have x0:s.l.dir.x=0:=by rcases fS.1 ex with q|q;exact q;grind
   have y0:s.l.dir.y=0:=by rcases fS.1 ey with q|q;exact q;grind
   rcases l9 hz0 with q|q
   .rw[mr] at q;grind
   .have:s.l.dir.half=0:=by unfold ab.half;rw[x0,y0];decide
    exact hz0 this

section
end
section
end
section
end
def Ph[hp:aE p i][hq:aE q i](hi:i<=1000000:=by decide):PF GB prog 173 [eZ p,eZ q] (vB (decide (p.x=q.x/\p.y=q.y))):=by
 refine fn func173 J J ntmps173 J J (fun C=>?_);refine cl J (Ad (p:=p.x) (q:=q.x) (i:=i) (j:=i) pb pb) J<|csd 10 J J J (fun hg10=>?_) (fun hg10=>?_)
 .
  refine cl J (Ad (p:=p.y) (q:=q.y) (i:=i) (j:=i) pb pb) J<|rz J (by show DV.v (.bool _)= .v (.bool _);simp_all)
 .
  exact rz J (by show DV.v (.bool _)= .v (.bool _);simp_all)
def Ka[hp:aE p i][hq:aE q j](hi:i<=10000000:=by decide)(hj:j<=10000000:=by decide):PF GB prog 175 [eZ p,eZ q] (eZ ⟨p.x-q.x,p.y-q.y⟩):=by
 refine fn func175 J J ntmps175 J J (fun C=>?_);refine cl J (pB (p:=p.x) (q:=q.x) (i:=i) (j:=j) pb pb) J<|cl J (pB (p:=p.y) (q:=q.y) (i:=i) (j:=j) pb pb) J<|rz J J

def kv(v:List ab):List (List DV):=(List.range v.length).map fun i=>[vI (i:Nat),FZ (v.getD i ⟨0,0⟩) (v.getD ((i+1)%v.length) ⟨0,0⟩)]
def LW(h1:v[i]? =some p)(h2:v[(i+1)%v.length]? =some q):(kv v)[i]? =some [vI (i:Nat),FZ p q]:=by
 have hi:=(aS.1 h1).1;unfold kv;rw[cY,nU hi,jS,aJ,aJ,h1,h2];rfl
def At{e:List DV}(h:(kv v)[i]? =some e): ∃p q,v[i]? =some p/\v[(i+1)%v.length]? =some q/\e=[vI (i:Nat),FZ p q]:=by
 have hi:i<v.length:=by
  have:=(aS.1 h).1;unfold kv at this;simpa using this
 have h1:v[i]? =some v[i]:=aQ hi;have hm:(i+1)%v.length<v.length:=cR _ pb;have h2:v[(i+1)%v.length]? =some v[(i+1)%v.length]:=aQ hm;refine⟨_,_,h1,h2,?_⟩;rw[LW h1 h2] at h;exact(Option.some.inj h).symm
def Di: ∀e∈kv v,e.length=2:=fun e he=>by
 obtain⟨i,_,rfl⟩:=aN.1 he;rfl
def Ac(hn:v.length<=100000:=by omega):It GB prog 174 [.pt [.sl (v.map eZ)]] (kv v):=by
 have hml:(v.map eZ).length=v.length:=aX ..;have hrl:(kv v).length=v.length:=by unfold kv;simp
 refine Zo func174 J J ntmps174 J (fun _=>J) (fun l Jv Jx GB' hg H C hp hJ=>?_);refine SA 1 J<|gx J<|ah 6 (.d (vI (v.length:Nat))) J omj<|Xw (X:=Nat) (fun k=>[(0, .d (.v (.func (.yield l) #[] #[]))),(1, .ep [.sl (v.map eZ)]),(5, .d (.sl (v.map eZ))),(6, .d (vI (v.length:Nat))),(7, .d (vI (k:Nat)))]) (fun k C=>k<=v.length/\Jv k C.G0 C.w0) (fun k=>v.length-k) 0 hp ⟨aL _,hJ⟩ (fun _=>J) (fun k C1 hp1 hk=>?_);obtain⟨hk1,hJ1⟩:=hk;refine br J J J (fun hc8=>?_) (fun hc8=>?_)
 .obtain⟨p,hpx⟩: ∃u,v[k]? =some u:=⟨_,aQ pb⟩
  obtain⟨q,hqx⟩: ∃u,v[(k+1)%v.length]? =some u:=⟨_,aQ (cR _ pb)⟩;refine ix _ J (bF hpx) J<|ah 20 (.d (vI (((k+1)%v.length:Nat):Int))) J omj<|gx J<|ix _ J (bF hqx) J<|Wm (len:=2) (s:=6) (e:=103) J we we J<|UO we J ?_;refine cy [(0, .d (.v (.func (.yield l) #[] #[]))),(1, .ep [.sl (v.map eZ)]),(5, .d (.sl (v.map eZ))),(6, .d (vI (v.length:Nat))),(7, .d (vI (k:Nat)))] H hp1 hJ1 J (LW hpx hqx) J (by repeat (first|exact trivial|refine And.intro J ?_)) J J J (fun C3 hp3 hJ3=>?_) (fun C3 hp3 hJ3=>?_)
  .exact R2 (k+1) hp3 ⟨⟨pb,hJ3⟩,pb⟩
  .exact Oo H hp3 (.inr hJ3) J
 .obtain rfl:k=v.length:=by omega
  exact Oo H hp1 (.inl (by rw[hrl];exact hJ1)) J
def CI:E3 GB prog 103 [.sl (v.map eZ)] 174 (.pt [.sl (v.map eZ)]):=by
 refine Rw func103 J J ntmps103 J J (fun C=>?_);refine fz 1 J J<|V' 1 J (fun GB' pv hg hp=>?_);refine S' J J<|RP J J hp
theorem JA(p q:ab)[aE p i][aE q j]:aE ⟨p.x-q.x,p.y-q.y⟩ (i+j+1):=⟨inferInstanceAs (BQ (p.x-q.x) _),inferInstanceAs (BQ (p.y-q.y) _)⟩

end Go.Sx
end
