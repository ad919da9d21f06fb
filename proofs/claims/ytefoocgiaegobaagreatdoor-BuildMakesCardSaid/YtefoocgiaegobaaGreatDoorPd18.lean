import Derived.Test.YtefoocgiaegobaaGreatDoorPd17
set_option linter.all false
set_option maxHeartbeats 2000000
set_option maxRecDepth 100000
section
namespace Go.Sx
open Go Go.Proofs Tryz
variable {GB:Gh}
def cp(lo hi:Rat):aj:=⟨lo,hi,false,false⟩
def pw{lo hi x:Rat}:dE [cp lo hi] x=decide (lo<x/\x<hi):=by
 rw[oQ,wj,decide_eq_true_eq];simp[cp,aj.ins]
def xk{t x:Rat}:dE [⟨t,0,false,true⟩] x=decide (t<x):=by
 rw[oQ,wj,decide_eq_true_eq];simp[aj.ins]
def z6{t x:Rat}:dE [⟨0,t,true,false⟩] x=decide (x<t):=by
 rw[oQ,wj,decide_eq_true_eq];simp[aj.ins]
def pe{a b:List aj}{cuts:List Rat}{marks:List Bool}{out:List aj}(h1:d6 (a++b)=cuts)(h2:(c6 cuts).map (fun t=>dE a t&&dE b t)=marks)(h3:iH cuts marks=out):fm 2 a b=out:=by
 unfold fm;rw[h1,<-h3,<-h2];rfl
def avS{lo hi:Rat}(h:lo<hi):fm 2 [cp lo hi] [aj.all]=[cp lo hi]:=by
 refine pe (cuts:=[lo,hi]) (marks:=[false,true,false]) (by simp[d6,fG,cp,aj.all,en,h]) ?_ (by simp[iH,c9,ck,cp]);have b: ∀x,dE [aj.all] x=true:=fun x=>wj.2 ⟨.inl J, .inl J⟩;simp only[c6,eO,bJ,dR,cK,cY,pw,b,Bool.and_true];simp only[gW,gU,List.cons.injEq,decide_eq_false_iff_not,decide_eq_true_eq,and_true];exact⟨by grind,by grind,by grind⟩
def WS(v:aj):fm 2 [v] []=[]:=by
 unfold fm iH;have key: ∀(cuts:List Rat) (m:List Bool),(∀x∈m,x=false)-> ∀k,c9 cuts m k=[]:=fun cuts m hm k=>by
  induction k with
  |zero=>rfl
  |succ k ih=>
   rw[c9,ih];have:m.getD k false=false:=by
    rw[aX]
    cases e:m[k]? with
    |none=>rfl
    |some x=>exact hm x (bZ e)
   rw[this];rfl
 refine key _ _ (fun x hx=>?_) _;obtain⟨t,_,rfl⟩:=bM.1 hx;have:dE [] t=false:=by unfold dE oP;decide
 rw[this];simp[lx]
def Vg{lo hi t:Rat}(h:lo<hi)(k:t<lo):fm 2 [cp lo hi] [⟨t,0,false,true⟩]=[cp lo hi]:=by
 refine pe (cuts:=[t,lo,hi]) (marks:=[false,false,true,false]) ?_ ?_ (by simp[iH,c9,ck,kb,cp])
 ·simp only[d6,fG,cp,cK,cY,dT,lJ,if_true,dZ,if_false,en]
  grind [en]
 ·simp only[c6,eO,bJ,dR,cK,cY,pw,xk]
  simp only[gW,gU,List.cons.injEq,iU,aN,decide_eq_false_iff_not,decide_eq_true_eq,and_true];exact⟨by grind,by grind,by grind,by grind⟩
def U3{lo hi t:Rat}(h:lo<hi)(k:t=lo):fm 2 [cp lo hi] [⟨t,0,false,true⟩]=[cp lo hi]:=by
 refine pe (cuts:=[lo,hi]) (marks:=[false,true,false]) ?_ ?_ (by simp[iH,c9,ck,kb,cp])
 ·simp only[d6,fG,cp,cK,cY,dT,lJ,if_true,dZ,if_false,en]
  grind [en]
 ·simp only[c6,eO,bJ,dR,cK,cY,pw,xk]
  simp only[gW,gU,List.cons.injEq,iU,aN,decide_eq_false_iff_not,decide_eq_true_eq,and_true];exact⟨by grind,by grind,by grind⟩
def SZ{lo hi t:Rat}(h:lo<hi)(k:lo<t)(k2:t<hi):fm 2 [cp lo hi] [⟨t,0,false,true⟩]=[cp t hi]:=by
 refine pe (cuts:=[lo,t,hi]) (marks:=[false,false,true,false]) ?_ ?_ (by simp[iH,c9,ck,kb,cp])
 ·simp only[d6,fG,cp,cK,cY,dT,lJ,if_true,dZ,if_false,en]
  grind [en]
 ·simp only[c6,eO,bJ,dR,cK,cY,pw,xk]
  simp only[gW,gU,List.cons.injEq,iU,aN,decide_eq_false_iff_not,decide_eq_true_eq,and_true];exact⟨by grind,by grind,by grind,by grind⟩
def QP{lo hi t:Rat}(h:lo<hi)(k:t=hi):fm 2 [cp lo hi] [⟨t,0,false,true⟩]=[]:=by
 refine pe (cuts:=[lo,hi]) (marks:=[false,false,false]) ?_ ?_ (by simp[iH,c9,ck,kb,cp])
 ·simp only[d6,fG,cp,cK,cY,dT,lJ,if_true,dZ,if_false,en]
  grind [en]
 ·simp only[c6,eO,bJ,dR,cK,cY,pw,xk]
  simp only[gW,gU,List.cons.injEq,iU,aN,decide_eq_false_iff_not,decide_eq_true_eq,and_true];exact⟨by grind,by grind,by grind⟩
def Uu{lo hi t:Rat}(h:lo<hi)(k:hi<t):fm 2 [cp lo hi] [⟨t,0,false,true⟩]=[]:=by
 refine pe (cuts:=[lo,hi,t]) (marks:=[false,false,false,false]) ?_ ?_ (by simp[iH,c9,ck,kb,cp])
 ·simp only[d6,fG,cp,cK,cY,dT,lJ,if_true,dZ,if_false,en]
  grind [en]
 ·simp only[c6,eO,bJ,dR,cK,cY,pw,xk]
  simp only[gW,gU,List.cons.injEq,iU,aN,decide_eq_false_iff_not,decide_eq_true_eq,and_true];exact⟨by grind,by grind,by grind,by grind⟩
def Sv{lo hi t:Rat}(h:lo<hi)(k:t<lo):fm 2 [cp lo hi] [⟨0,t,true,false⟩]=[]:=by
 refine pe (cuts:=[t,lo,hi]) (marks:=[false,false,false,false]) ?_ ?_ (by simp[iH,c9,ck,kb,cp])
 ·simp only[d6,fG,cp,cK,cY,dT,lJ,if_true,dZ,if_false,en]
  grind [en]
 ·simp only[c6,eO,bJ,dR,cK,cY,pw,z6]
  simp only[gW,gU,List.cons.injEq,iU,aN,decide_eq_false_iff_not,decide_eq_true_eq,and_true];exact⟨by grind,by grind,by grind,by grind⟩
def Wo{lo hi t:Rat}(h:lo<hi)(k:t=lo):fm 2 [cp lo hi] [⟨0,t,true,false⟩]=[]:=by
 refine pe (cuts:=[lo,hi]) (marks:=[false,false,false]) ?_ ?_ (by simp[iH,c9,ck,kb,cp])
 ·simp only[d6,fG,cp,cK,cY,dT,lJ,if_true,dZ,if_false,en]
  grind [en]
 ·simp only[c6,eO,bJ,dR,cK,cY,pw,z6]
  simp only[gW,gU,List.cons.injEq,iU,aN,decide_eq_false_iff_not,decide_eq_true_eq,and_true];exact⟨by grind,by grind,by grind⟩
def U2{lo hi t:Rat}(h:lo<hi)(k:lo<t)(k2:t<hi):fm 2 [cp lo hi] [⟨0,t,true,false⟩]=[cp lo t]:=by
 refine pe (cuts:=[lo,t,hi]) (marks:=[false,true,false,false]) ?_ ?_ (by simp[iH,c9,ck,kb,cp])
 ·simp only[d6,fG,cp,cK,cY,dT,lJ,if_true,dZ,if_false,en]
  grind [en]
 ·simp only[c6,eO,bJ,dR,cK,cY,pw,z6]
  simp only[gW,gU,List.cons.injEq,iU,aN,decide_eq_false_iff_not,decide_eq_true_eq,and_true];exact⟨by grind,by grind,by grind,by grind⟩
def RO{lo hi t:Rat}(h:lo<hi)(k:t=hi):fm 2 [cp lo hi] [⟨0,t,true,false⟩]=[cp lo hi]:=by
 refine pe (cuts:=[lo,hi]) (marks:=[false,true,false]) ?_ ?_ (by simp[iH,c9,ck,kb,cp])
 ·simp only[d6,fG,cp,cK,cY,dT,lJ,if_true,dZ,if_false,en]
  grind [en]
 ·simp only[c6,eO,bJ,dR,cK,cY,pw,z6]
  simp only[gW,gU,List.cons.injEq,iU,aN,decide_eq_false_iff_not,decide_eq_true_eq,and_true];exact⟨by grind,by grind,by grind⟩
def TV{lo hi t:Rat}(h:lo<hi)(k:hi<t):fm 2 [cp lo hi] [⟨0,t,true,false⟩]=[cp lo hi]:=by
 refine pe (cuts:=[lo,hi,t]) (marks:=[false,true,false,false]) ?_ ?_ (by simp[iH,c9,ck,kb,cp])
 ·simp only[d6,fG,cp,cK,cY,dT,lJ,if_true,dZ,if_false,en]
  grind [en]
 ·simp only[c6,eO,bJ,dR,cK,cY,pw,z6]
  simp only[gW,gU,List.cons.injEq,iU,aN,decide_eq_false_iff_not,decide_eq_true_eq,and_true];exact⟨by grind,by grind,by grind,by grind⟩
def Cq(a b:Rat):a<b\/a=b\/b<a:=by grind
def splitP(f:aG)(m:aa):List aG:=if f.l.cutB f.v m then [⟨f.l,f.l.cutV f.v m⟩] else []
structure f5 (f:aG):Prop where
 ok:f.l.ok
 nl:f.v.nl=false
 nh:f.v.nh=false
 lt:f.v.lo<f.v.hi
def f5.seg{f:aG}(h:f5 f):f.v=cp f.v.lo f.v.hi:=by
 have h1:=h.nl;have h2:=h.nh;unfold cp
 cases hv:f.v with
 |mk a b c d=>rw[hv] at h1 h2;simp_all
def f5.pos{f:aG}(h:f5 f):f.v.Pos:= .inr (.inr h.lt)
def JY{lo hi:Rat}:(cp lo hi).Pos↔lo<hi:=by unfold aj.Pos cp;simp
def KO{lo hi t:Rat}:(cp lo hi).meet ⟨t,0,false,true⟩=cp (if lo<t then t else lo) hi:=by simp[aj.meet,cp];rfl
def I7{lo hi t:Rat}:(cp lo hi).meet ⟨0,t,true,false⟩=cp lo (if t<hi then t else hi):=by simp[aj.meet,cp];rfl
def ZU{lo hi t:Rat}(h:lo<hi):fm 2 [cp lo hi] [⟨t,0,false,true⟩]=if(if lo<t then t else lo)<hi then [cp (if lo<t then t else lo) hi] else []:=by
 rcases Cq t lo with k|k|k
 ·rw[Vg h k,if_neg (show¬lo<t by grind),if_pos h]
 ·rw[U3 h k,if_neg (show¬lo<t by grind),if_pos h]
 ·rw[if_pos k]
  rcases Cq t hi with k2|k2|k2
  ·rw[SZ h k k2,if_pos k2]
  ·rw[QP h k2,if_neg (by grind)]
  ·rw[Uu h k2,if_neg (by grind)]
def WL{lo hi t:Rat}(h:lo<hi):fm 2 [cp lo hi] [⟨0,t,true,false⟩]=if lo<(if t<hi then t else hi) then [cp lo (if t<hi then t else hi)] else []:=by
 rcases Cq t hi with k|k|k
 ·rw[if_pos k]
  rcases Cq t lo with k2|k2|k2
  ·rw[Sv h k2,if_neg (by grind)]
  ·rw[Wo h k2,if_neg (by grind)]
  ·rw[U2 h k2 k,if_pos k2]
 ·rw[RO h k,if_neg (show¬t<hi by grind),if_pos h]
 ·rw[TV h k,if_neg (show¬t<hi by grind),if_pos h]
def XM(l m:aa):l.cutK m.rev= -l.cutK m:=by unfold aa.cutK aa.rev aa.nor aa.dir ab.dot;dsimp only;push_cast;grind
def QW(l m:aa):l.cutC m.rev= -l.cutC m:=fP m l.base
def aCc(a b:Rat): -a/ -b=a/b:=by grind
def Ml{f:aG}(h:f5 f){m:aa}{side:Int}(hs:side=1\/side= -1):dw f m side=splitP f (if side=1 then m else m.rev):=by
 obtain⟨M,hM⟩: ∃M,M=(if side=1 then m else m.rev):=⟨_,rfl⟩;have hK:f.l.cutK M=(side:Rat)*f.l.cutK m:=by
  rcases hs with rfl|rfl
  ·rw[hM,if_pos J];grind
  ·rw[hM,if_neg (by decide),XM];grind
 have hC:f.l.cutC M=(side:Rat)*f.l.cutC m:=by
  rcases hs with rfl|rfl
  ·rw[hM,if_pos J];grind
  ·rw[hM,if_neg (by decide),QW];grind
 have hq:f.l.cutC M/f.l.cutK M=f.l.cutC m/f.l.cutK m:=by
  rw[hK,hC];rcases hs with rfl|rfl
  ·grind
  ·rw[show((-1:Int):Rat)*f.l.cutC m= -f.l.cutC m by grind,show((-1:Int):Rat)*f.l.cutK m= -f.l.cutK m by grind,aCc]
 rw[<-hM];have hseg:=h.seg;have hlt:=h.lt;unfold dw splitP ka gz;by_cases hc:crossI f.l m=0
 ·have k0:f.l.cutK m=0:=H1 hc
  have kM:f.l.cutK M=0:=by rw[hK,k0];grind
  obtain⟨e1,e2⟩:=vf (l:=f.l) (m:=M) f.v kM;by_cases c0:f.l.cutC m=0
  ·rw[if_pos (decide_eq_true ⟨hc,(mr _).2 c0⟩),if_neg (fun e=>by have:=e2.1 e;rw[hC,c0] at this;grind)]
  ·rw[if_neg (by rw[decide_eq_true_eq];exact fun e=>c0 ((mr _).1 e.2)),if_pos hc]
   by_cases g:(m.value f.l.base).num.sign=side
   ·have:0<f.l.cutC M:=by
     rw[hC];rcases hs with rfl|rfl
     ·have:=(nC _).1 g;show 0<((1:Int):Rat)*m.value f.l.base;grind
     ·have:=(pc (m.value f.l.base)).1 (by omega);show 0<((-1:Int):Rat)*m.value f.l.base;grind
    rw[if_pos g,if_pos (e2.2 this),e1,hseg,avS hlt];rfl
   ·have: ¬0<f.l.cutC M:=fun e=>g (PJ hs (by rw[hC] at e;exact e))
    rw[if_neg g,if_neg (fun e=>this (e2.1 e)),WS];rfl
 ·rw[if_neg (by rw[decide_eq_true_eq];exact fun e=>hc e.1),if_neg hc]
  have hp:=wM h.ok.ne hc;have hne:f.l.cutK m≠0:=fun e=>by
   rw[yt] at e;have:(crossI f.l m:Rat)=0:=by grind
   exact hc (iT.1 this)
  have hv1:m.value (f.l.at (er f.l (fD f.l m)+1))=f.l.cutK m:=by rw[mF,hp];grind
  rw[hv1,hp];by_cases g:(f.l.cutK m).num.sign=side
  ·have kM:0<f.l.cutK M:=by
    rw[hK];rcases hs with rfl|rfl
    ·have:=(nC _).1 g;grind
    ·have:=(pc (f.l.cutK m)).1 (by omega);grind
   obtain⟨e1,e2⟩:=wi (l:=f.l) (m:=M) f.v kM;rw[if_pos g,e1] at*;rw[hq,hseg,KO,JY] at e2;rw[hq,hseg,KO,ZU hlt];by_cases q:(if f.v.lo< -(f.l.cutC m/f.l.cutK m) then-(f.l.cutC m/f.l.cutK m) else f.v.lo)<f.v.hi
   ·rw[if_pos q,if_pos (e2.2 q)];rfl
   ·rw[if_neg q,if_neg (fun e=>q (e2.1 e))];rfl
  ·have kM:f.l.cutK M<0:=by
    rw[hK];rcases ny (f.l.cutK m) with k|k|k
    ·exact absurd k hne
    ·rcases hs with rfl|rfl
     ·exact absurd ((nC _).2 k) g
     ·grind
    ·rcases hs with rfl|rfl
     ·grind
     ·exact absurd (by have:=(pc (f.l.cutK m)).2 k;have:=pS (f.l.cutK m).num;omega) g
   obtain⟨e1,e2⟩:=uZ (l:=f.l) (m:=M) f.v kM;rw[if_neg g,e1] at*;rw[hq,hseg,I7,JY] at e2;rw[hq,hseg,I7,WL hlt];by_cases q:f.v.lo<(if-(f.l.cutC m/f.l.cutK m)<f.v.hi then-(f.l.cutC m/f.l.cutK m) else f.v.hi)
   ·rw[if_pos q,if_pos (e2.2 q)];rfl
   ·rw[if_neg q,if_neg (fun e=>q (e2.1 e))];rfl
def gl(acc:ab->Bool):Nat->List aG->aE->Tr
 |_,[],c=> .leaf (acc (pC c))
 |0,_::_,_=> .leaf false
 |n+1,f::t,c=> .node f.l (gl acc n ((f::t).flatMap fun g=>splitP g f.l) (bD c f.l)) (gl acc n ((f::t).flatMap fun g=>splitP g f.l.rev) (bD c f.l.rev))
def Tr.like:Tr->Tr->Prop
 | .leaf _, .leaf _=>True
 | .node l x y, .node m u v=>l=m/\x.like u/\y.like v
 |_,_=>False
def f5.cut{f:aG}(h:f5 f){m:aa}(hb:f.l.cutB f.v m=true):f5 ⟨f.l,f.l.cutV f.v m⟩:=by
 have hp:=vE h.pos hb;have e:(f.l.cutV f.v m).nl=false/\(f.l.cutV f.v m).nh=false:=by
  have h1:=h.nl;have h2:=h.nh;unfold aa.cutV;split
  ·exact⟨h1,h2⟩
  ·split<;>simp[aj.meet,h1,h2]
 refine⟨h.ok,e.1,e.2,?_⟩;rcases hp with h|h|h
 ·rw[e.1] at h;cases h
 ·rw[e.2] at h;cases h
 ·exact h
def f5.split{f g:aG}(h:f5 f){m:aa}(hg:g∈splitP f m):f5 g:=by
 unfold splitP at hg;split at hg
 ·rename_i hb
  rw[aV] at hg;subst hg;exact h.cut hb
 ·cases hg
def DD{l:List aG}(h: ∀f∈l,f5 f)(m:aa):l.flatMap (fun g=>dw g m 1)=l.flatMap (fun g=>splitP g m)/\l.flatMap (fun g=>dw g m (-1))=l.flatMap (fun g=>splitP g m.rev):=by
 induction l with
 |nil=>exact⟨J,J⟩
 |cons f t ih=>
  obtain⟨i1,i2⟩:=ih fun g hg=>h g (aJ _ hg);have hf:=h f aQ;refine⟨?_,?_⟩
  ·rw[mJ,mJ,i1,Ml hf (.inl J),if_pos J]
  ·rw[mJ,mJ,i2,Ml hf (.inr J),if_neg (by decide)]
def f5.splits{l:List aG}(h: ∀f∈l,f5 f)(m:aa): ∀g∈l.flatMap (fun g=>splitP g m),f5 g:=fun g hg=>by
 obtain⟨f,hf,hg⟩:=gX.1 hg;exact(h f hf).split hg
def Em{a b:ab->Bool}: ∀{n:Nat} {l:List aG} {c:aE} {d:List aa},(∀f∈l,f5 f)->(gl a n l c).like (gu b n l d)
 |n,[],c,d,_=>by cases n<;>exact trivial
 |0,f::t,c,d,_=>trivial
 |n+1,f::t,c,d,h=>by
  rw[gl,gu];obtain⟨e1,e2⟩:=DD h f.l;refine⟨J,?_,?_⟩
  ·rw[e1];exact Em (f5.splits h f.l)
  ·rw[e2];exact Em (f5.splits h f.l.rev)
def Tr.like_lns: ∀{t u:Tr},t.like u->t.lns=u.lns
 | .leaf _, .leaf _,_=>rfl
 | .node l x y, .node m u v,⟨h,h1,h2⟩=>by rw[Tr.lns,Tr.lns,h,Tr.like_lns h1,Tr.like_lns h2]
def xo{M:List aa}(hM: ∀l∈M,l.ok): ∀{t u:Tr} {c:aE},t.like u->(∀l∈t.lns,l∈M)->di c->(∀p,bF c p->ij M p->t.val p=u.val p)->t.restrict c=u.restrict c
 | .leaf a, .leaf b,c,_,_,hc,hv=>by
  obtain⟨p,hp,ho⟩:=ZH hc M hM;have:=hv p hp ho;rw[Tr.val,Tr.val] at this;rw[this]
 | .node l x y, .node m u v,c,⟨e,h1,h2⟩,hl,hc,hv=>by
  subst e;have hlM:=hl l aQ;have hx: ∀m∈x.lns,m∈M:=fun m hm=>hl m (aJ _ (cW _ hm));have hy: ∀m∈y.lns,m∈M:=fun m hm=>hl m (aJ _ (cS _ hm));have hok:=hM l hlM
  cases hb:cx c l.rev with
  |false=>
   rw[Tr.restrict_A _ _ hb,Tr.restrict_A _ _ hb];refine xo hM h1 hx hc fun p hp ho=>?_;have q:=Of hc hok hb hp (ho l hlM);have:=hv p hp ho;rwa [Tr.val_pos q,Tr.val_pos q] at this
  |true=>
   cases hb2:cx c l with
   |false=>
    rw[Tr.restrict_B _ _ hb hb2,Tr.restrict_B _ _ hb hb2];refine xo hM h2 hy hc fun p hp ho=>?_;have q:=MB hc hok hb2 hp;have:=hv p hp ho;rwa [Tr.val_neg q,Tr.val_neg q] at this
   |true=>
    obtain⟨g1,i1⟩:=je hc hok hb2;obtain⟨g2,i2⟩:=je hc hok.rev hb;rw[Tr.restrict_C _ _ hb hb2,Tr.restrict_C _ _ hb hb2];congr 1
    ·refine xo hM h1 hx g1 fun p hp ho=>?_
     obtain⟨a1,a2⟩:=(i1 p).1 hp;have:=hv p a1 ho;rwa [Tr.val_pos a2,Tr.val_pos a2] at this
    ·refine xo hM h2 hy g2 fun p hp ho=>?_
     obtain⟨a1,a2⟩:=(i2 p).1 hp;rw[fP] at a2;have:=hv p a1 ho;rwa [Tr.val_neg (by grind),Tr.val_neg (by grind)] at this
def Tr.Prp:Tr->aE->Prop
 | .leaf _,_=>True
 | .node l x y,c=>cx c l=true/\cx c l.rev=true/\x.Prp (bD c l)/\y.Prp (bD c l.rev)
def PQ{c:aE}(hc:di c){l:aa}(hl:l.ok){p:ab}(hp:bF c p)(h0:l.value p=0):cx c l=true/\cx c l.rev=true:=by
 have hn:=n4 hl.ne;obtain⟨e,he,hm⟩:=hp.open l.nor;obtain⟨f,hf,hk⟩:=hp.open (nO l.nor);have hn2:l.nor.dot (nO l.nor)= -(l.nor.dot l.nor):=by unfold nO ab.dot;dsimp only;grind
 refine⟨(pG hc hl).2 ⟨_,hm e (by grind) (by grind),?_⟩,(pG hc hl.rev).2 ⟨_,hk f (by grind) (by grind),?_⟩⟩
 ·rw[jq,h0];have:=jb he hn;grind
 ·rw[fP,jq,h0,hn2];have:=jb hf hn;grind
def uT(l:List aG)(c:aE):Prop:= ∀f∈l,∀t,f.v.ins t->bF c (f.l.at t)
def uT.split{l:List aG}{c:aE}(h:uT l c){m:aa}(i1: ∀p,bF (bD c m) p↔bF c p/\0<m.value p):uT (l.flatMap fun g=>splitP g m) (bD c m):=fun g hg t ht=>by
 obtain⟨f,hf,hg⟩:=gX.1 hg;unfold splitP at hg;split at hg
 ·rename_i hb
  rw[aV] at hg;subst hg;obtain⟨k1,k2⟩:=(CZ hb t).1 ht;exact(i1 _).2 ⟨h f hf t k1,k2⟩
 ·cases hg
def uT.cross{f:aG}{t:List aG}{c:aE}(h:uT (f::t) c)(hf:f5 f)(hc:di c):cx c f.l=true/\cx c f.l.rev=true:=by
 have hs:f.v.ins (iF f.v):=Kj hf.pos;exact PQ hc hf.ok (h f aQ _ hs) (rE hf.ok.ne _)
def Hg{acc:ab->Bool}: ∀{n:Nat} {l:List aG} {c:aE},(∀f∈l,f5 f)->di c->uT l c->(gl acc n l c).Prp c
 |n,[],c,_,_,_=>by cases n<;>exact trivial
 |0,f::t,c,_,_,_=>trivial
 |n+1,f::t,c,h,hc,hl=>by
  rw[gl];have hf:=h f aQ;obtain⟨b1,b2⟩:=hl.cross hf hc;obtain⟨g1,i1⟩:=je hc hf.ok b1;obtain⟨g2,i2⟩:=je hc hf.ok.rev b2;exact⟨b1,b2,Hg (f5.splits h _) g1 (hl.split i1),Hg (f5.splits h _) g2 (hl.split i2)⟩
def BR(E:List aG)(c:aE)(l:List aG):Prop:= ∀e∈E,∀t,e.v.ins t->bF c (e.l.at t)-> ∃f∈l,f.l=e.l/\f.v.ins t
def BR.split{E l:List aG}{c:aE}(h:BR E c l)(hs: ∀f∈l,f5 f){m:aa}(i1: ∀p,bF (bD c m) p↔bF c p/\0<m.value p):BR E (bD c m) (l.flatMap fun g=>splitP g m):=fun e he t ht hin=>by
 obtain⟨h1,h2⟩:=(i1 _).1 hin;obtain⟨f,hf,ef,hft⟩:=h e he t ht h1;have hb:f.l.cutB f.v m=true:=by
  cases q:f.l.cutB f.v m with
  |true=>rfl
  |false=>
   have:=CN (hs f hf).pos q hft.has;rw[ef] at this;exact absurd this (by grind)
 refine⟨⟨f.l,f.l.cutV f.v m⟩,gX.2 ⟨f,hf,by unfold splitP;rw[if_pos hb];exact aV.2 J⟩,ef,?_⟩;exact(CZ hb t).2 ⟨hft,by rw[ef];exact h2⟩
structure FS (f:aG):Prop where
 fo:kE f
 sg:f5 f
def FS.splits{l:List aG}(h: ∀f∈l,FS f){m:aa}(hm:LB m):(∀g∈l.flatMap (fun g=>splitP g m),FS g)/\ ∀g∈l.flatMap (fun g=>splitP g m.rev),FS g:=by
 obtain⟨e1,e2⟩:=DD (fun f hf=>(h f hf).sg) m;refine⟨fun g hg=>⟨?_,f5.splits (fun f hf=>(h f hf).sg) m g hg⟩,fun g hg=>⟨?_,f5.splits (fun f hf=>(h f hf).sg) m.rev g hg⟩⟩
 ·rw[<-e1] at hg
  obtain⟨q,hq,hg⟩:=gX.1 hg;exact(wk (h q hq).fo hm g hg).1
 ·rw[<-e2] at hg
  obtain⟨q,hq,hg⟩:=gX.1 hg;exact(wk (h q hq).fo hm g hg).1
def jc.splitP{n:Nat}{f:aG}{t:List aG}(h:jc (n+1) (f::t))(hok: ∀g∈f::t,FS g):jc n ((f::t).flatMap fun g=>splitP g f.l)/\jc n ((f::t).flatMap fun g=>splitP g f.l.rev):=by
 obtain⟨e1,e2⟩:=DD (fun f hf=>(hok f hf).sg) f.l;rw[<-e1,<-e2];exact⟨h.split (fun g hg=>(hok g hg).fo),h.split (fun g hg=>(hok g hg).fo)⟩
def jc.no{f:aG}{t:List aG}(h:jc 0 (f::t)):False:=by
 obtain⟨K,hK,hs⟩:=h;obtain⟨m,hm,_⟩:=hs f aQ;rw[bK (show K.length=0 by omega)] at hm;cases hm
def EK{acc:ab->Bool}{E:List aG}(ha: ∀(c:aE) (q p:ab),(∀e∈E,∀t,e.v.ins t-> ¬bF c (e.l.at t))->bF c q->bF c p->acc q=acc p): ∀{n:Nat} {l:List aG} {c:aE} {p:ab},(∀f∈l,FS f)->jc n l->di c->uT l c->BR E c l->bF c p->ij (gl acc n l c).lns p->(gl acc n l c).val p=acc p
 |n,[],c,p,_,_,hc,_,hcov,hp,_=>by
  have e:gl acc n [] c= .leaf (acc (pC c)):=by cases n<;>rfl
  rw[e,Tr.val];exact ha c _ _ (fun e he t ht hin=>by obtain⟨f,hf,_⟩:=hcov e he t ht hin;cases hf) (Ry hc) hp
 |0,f::t,_,_,_,hf,_,_,_,_,_=>hf.no.elim
 |n+1,f::t,c,p,hok,hf,hc,hl,hcov,hp,hoff=>by
  have fo:=hok f aQ;have hsg:=fun g hg=>(hok g hg).sg;obtain⟨k1,k2⟩:=FS.splits hok fo.fo.lb;obtain⟨w1,w2⟩:=hf.splitP hok;obtain⟨b1,b2⟩:=hl.cross fo.sg hc;obtain⟨g1,i1⟩:=je hc fo.sg.ok b1;obtain⟨g2,i2⟩:=je hc fo.sg.ok.rev b2;rw[gl] at hoff⊢;by_cases q:0<f.l.value p
  ·rw[Tr.val_pos q]
   exact EK ha k1 w1 g1 (hl.split i1) (hcov.split hsg i1) ((i1 p).2 ⟨hp,q⟩) hoff.x
  ·rw[Tr.val_neg q]
   have:=hoff.l;exact EK ha k2 w2 g2 (hl.split i2) (hcov.split hsg i2) ((i2 p).2 ⟨hp,by rw[fP];grind⟩) hoff.y
def avG{v w:ZP}(h:v≠w)(ho:(cI v w).l.ok):f5 (cI v w):=⟨ho,J,J,(DC h ho).2.2⟩
def yf{rs:List (List ZP)}(hr: ∀r∈rs,cF r): ∀f∈b9 rs,FS f:=fun f hf=>by
 have h2:=(nq hr).2 f hf;obtain⟨v,w,hn,ho,rfl,_⟩:=UV hr hf;exact⟨h2,avG hn ho⟩
def Eu(rs:List (List ZP)):jc (b9 rs).length (b9 rs):=⟨(b9 rs).map (·.l),by rw[aK];exact aL _,fun f hf=>⟨f.l,gM hf, .inl J⟩⟩
def E9{c:aE}{p:ab}:bF c p↔d5 (c.map fun s=>s.l) p:=by
 unfold bF d5;constructor
 ·intro h m hm
  obtain⟨s,hs,rfl⟩:=bM.1 hm;exact h s hs
 ·intro h s hs
  exact h s.l (gM hs)
def jG(rs:List (List ZP))(fill:Int):Tr:=gl (gj rs fill) (b9 rs).length (b9 rs) []
def Vq{rs:List (List ZP)}{fill:Int}(hr: ∀r∈rs,cF r){p:ab}(ho:ij (jG rs fill).lns p):(jG rs fill).val p=gj rs fill p:=
 EK (E:=b9 rs) (fun c q p hno hq hp=>NJ hr (c:=c.map fun s=>s.l) (fun e he t ht hin=>hno e he t ht (E9.2 hin)) (E9.1 hq) (E9.1 hp)) (yf hr) (Eu rs) di.nil (fun f hf t ht s hs=>by cases hs) (fun e he t ht _=>⟨e,he,J,ht⟩) (fun s hs=>by cases hs) ho
def Sn{rs:List (List ZP)}{fill:Int}(hr: ∀r∈rs,cF r){p:ab}(ho:ij (ol rs fill).lns p):(ol rs fill).val p=gj rs fill p:=by
 rw[<-YJ hr ho];unfold kg;rw[Tr.val_restrict (ol rs fill) [] p (r5 fun f hf=>((nq hr).2 f hf).ok) di.nil (fun s hs=>by cases hs) ho]
def Ov{rs:List (List ZP)}{fill:Int}(hr: ∀r∈rs,cF r):(jG rs fill).like (ol rs fill)/\(jG rs fill).Prp []/\(jG rs fill).all aa.ok:=by
 have hl:(jG rs fill).like (ol rs fill):=Em fun f hf=>(yf hr f hf).sg;refine⟨hl,Hg (fun f hf=>(yf hr f hf).sg) di.nil (fun f hf t ht s hs=>by cases hs),?_⟩;have hk:(ol rs fill).all aa.ok:=r5 fun f hf=>((nq hr).2 f hf).ok;rw[uj,Tr.like_lns hl,<-uj];exact hk
def Z4{rs:List (List ZP)}{fill:Int}(hr: ∀r∈rs,cF r):(jG rs fill).restrict []=kg rs fill:=by
 obtain⟨h1,h2,h3⟩:=Ov (fill:=fill) hr;unfold kg;refine xo (M:=(jG rs fill).lns) (uj.1 h3) h1 (fun l hl=>hl) di.nil fun p hp ho=>?_;rw[Vq hr ho,Sn hr (by rw[<-Tr.like_lns h1];exact ho)]
def mB(c:aE)(m:aa):Bool:=cx c m&&cx c m.rev
def s6{c:aE}(hc:di c){m:aa}(hm:m.ok):mB c m=true↔BH m c:=by
 unfold mB;rw[aN];constructor
 ·rintro ⟨h1,h2⟩
  obtain⟨p,hp,k1⟩:=(pG hc hm).1 h1;obtain⟨q,hq,k2⟩:=(pG hc hm.rev).1 h2;rw[fP] at k2;generalize hA:m.value p=A at*;generalize hB:m.value q=B at*;have hAB:0<A-B:=by grind
  have e:A/(A-B)*(A-B)=A:=by grind
  generalize A/(A-B)=r at*;have r0:0<=r:=(jB hAB).1 (by rw[e];exact fT k1);have r1:r<=1:=by
   have:=(jB (s:=1-r) hAB).1 (by grind);grind
  exact⟨bp p q r,hp.seg hq r0 r1,by rw[kr,hA,hB];grind⟩
 ·rintro ⟨p,hp,h0⟩
  exact PQ hc hm hp h0
def xB(c:aE)(m n:aa):Bool:=decide (¬m.same n)&&(decide (n.value (vk m n)=0)&&pq c (vk m n))
def o5{c:aE}{m n:aa}(hm:m.ok)(hn:n.ok):xB c m n=true↔ ¬m.same n/\ ∃z,bF c z/\m.value z=0/\n.value z=0:=by
 unfold xB;rw[aN,aN,decide_eq_true_eq,decide_eq_true_eq,qd];constructor
 ·rintro ⟨h1,h2,h3⟩
  exact⟨h1,_,h3,rE hm.ne _,h2⟩
 ·rintro ⟨h1,z,hz,k1,k2⟩
  rcases B7 hm hn k1 k2 with h|h
  ·exact absurd h h1
  ·rw[<-h];exact⟨h1,k2,hz⟩
def GA{c:aE}{m n:aa}(hm:m.ok)(hn:n.ok):xB c m n=xB c n m:=by
 rw[oQ,o5 hm hn,o5 hn hm];constructor<;>(rintro ⟨h,z,hz,k1,k2⟩;exact⟨fun e=>h e.symm,z,hz,k2,k1⟩)
def gD(f:aa->Nat):List aa->Nat
 |[]=>0
 |m::K=>f m+gD f K
def bN(b:Bool):Nat:=if b then 1 else 0
def M8{f g:aa->Nat}: ∀{K:List aa},(∀m∈K,f m<=g m)->gD f K<=gD g K
 |[],_=>aL _
 |m::K,h=>by
  have:=M8 (f:=f) (g:=g) (K:=K) fun n hn=>h n (aJ _ hn);have:=h m aQ;show f m+gD f K<=g m+gD g K;omega
def wg(f g:aa->Nat): ∀K,gD (fun m=>f m+g m) K=gD f K+gD g K
 |[]=>rfl
 |m::K=>by
  have:=wg f g K;show f m+g m+gD (fun m=>f m+g m) K=f m+gD f K+(g m+gD g K);omega
def x8{f g:aa->Nat}{d:Nat}{m0:aa}: ∀{K:List aa},(∀m∈K,f m<=g m)->m0∈K->f m0+d<=g m0->gD f K+d<=gD g K
 |[],_,h,_=>by cases h
 |m::K,h,hm,hd=>by
  have i1:=M8 (f:=f) (g:=g) (K:=K) fun n hn=>h n (aJ _ hn);have:=h m aQ;show f m+gD f K+d<=g m+gD g K;rcases aT.1 hm with rfl|hm
  ·omega
  ·have:=x8 (f:=f) (g:=g) (d:=d) (K:=K) (fun n hn=>h n (aJ _ hn)) hm hd
   omega
def xh{f:aa->Nat}{B:Nat}: ∀{K:List aa},(∀m∈K,f m<=B)->gD f K<=K.length*B
 |[],_=>bQ _
 |m::K,h=>by
  have:=xh (f:=f) (B:=B) (K:=K) fun n hn=>h n (aJ _ hn);have:=h m aQ;show f m+gD f K<=(K.length+1)*B;rw[gK];omega
def wo(K:List aa)(c:aE):Nat:=gD (fun m=>bN (mB c m)) K
def jy(K:List aa)(c:aE)(m:aa):Nat:=gD (fun n=>bN (xB c m n)) K
def wl(K:List aa)(c:aE):Nat:=gD (jy K c) K
def Pj(b:Bool):bN b<=1:=by cases b<;>decide
def RP{K:List aa}(hK: ∀m∈K,m.ok){c:aE}(hc:di c){n m0:aa}(hn:n.ok)(h0:m0∈K)(hs:m0.same n)(hb:cx c n=true)(hb2:cx c n.rev=true):
  wo K (bD c n)+wo K (bD c n.rev)+1<=wo K c+jy K c m0/\wl K (bD c n)+wl K (bD c n.rev)+2*jy K c m0<=wl K c:=by
 obtain⟨g1,i1⟩:=je hc hn hb;obtain⟨g2,i2⟩:=je hc hn.rev hb2;have i2: ∀p,bF (bD c n.rev) p↔bF c p/\n.value p<0:=fun p=>by rw[i2,fP];constructor<;>(rintro ⟨a,b⟩;exact⟨a,by grind⟩)
 have hm0:=hK m0 h0;have z1: ∀m,m.ok->(mB (bD c n) m=true->mB c m=true)/\(mB (bD c n.rev) m=true->mB c m=true):=fun m hm=>by
  rw[s6 g1 hm,s6 g2 hm,s6 hc hm];exact⟨fun⟨p,hp,k⟩=>⟨p,((i1 p).1 hp).1,k⟩,fun⟨p,hp,k⟩=>⟨p,((i2 p).1 hp).1,k⟩⟩
 have z2: ∀m,m.ok->mB (bD c n) m=true->mB (bD c n.rev) m=true->xB c m0 m=true:=fun m hm h1 h2=>by
  obtain⟨p,hp,k1⟩:=(s6 g1 hm).1 h1;obtain⟨q,hq,k2⟩:=(s6 g2 hm).1 h2;obtain⟨hp,ap⟩:=(i1 p).1 hp;obtain⟨hq,aq⟩:=(i2 q).1 hq;rw[o5 hm0 hm];refine⟨fun e=>?_,?_⟩
  ·rw[o7 hs (o7 e.symm k1)] at ap;grind
  generalize hA:n.value p=A at*;generalize hB:n.value q=B at*;have hAB:0<A-B:=by grind
  have e:A/(A-B)*(A-B)=A:=by grind
  generalize A/(A-B)=r at*;have r0:0<=r:=(jB hAB).1 (by rw[e];exact fT ap);have r1:r<=1:=by
   have:=(jB (s:=1-r) hAB).1 (by grind);grind
  exact⟨bp p q r,hp.seg hq r0 r1,o7 hs.symm (by rw[kr,hA,hB];grind),by rw[kr,k1,k2];grind⟩
 have w1: ∀m m',m.ok->m'.ok->xB (bD c n) m m'=true->xB c m m'=true/\ ¬xB (bD c n.rev) m m'=true:=fun m m' hm hm' h=>by
  rw[o5 hm hm'] at h;obtain⟨e,z,hz,k1,k2⟩:=h;obtain⟨hz,az⟩:=(i1 z).1 hz;refine⟨(o5 hm hm').2 ⟨e,z,hz,k1,k2⟩,fun h=>?_⟩;obtain⟨_,y,hy,j1,j2⟩:=(o5 hm hm').1 h;obtain⟨hy,ay⟩:=(i2 y).1 hy;rcases B7 hm hm' k1 k2 with h|h
  ·exact e h
  ·rcases B7 hm hm' j1 j2 with h'|h'
   ·exact e h'
   ·rw[h'] at ay;rw[h] at az;grind
 have w2: ∀m m',m.ok->m'.ok->xB (bD c n.rev) m m'=true->xB c m m'=true:=fun m m' hm hm' h=>by
  rw[o5 hm hm'] at h⊢;obtain⟨e,z,hz,k1,k2⟩:=h;exact⟨e,z,((i2 z).1 hz).1,k1,k2⟩
 have w3: ∀m,m.ok->xB (bD c n) m m0=false/\xB (bD c n.rev) m m0=false:=fun m hm=>by
  constructor
  ·rw[<-jS,o5 hm hm0]
   rintro ⟨_,z,hz,_,k2⟩;have:=((i1 z).1 hz).2;rw[o7 hs k2] at this;grind
  ·rw[<-jS,o5 hm hm0]
   rintro ⟨_,z,hz,_,k2⟩;have:=((i2 z).1 hz).2;rw[o7 hs k2] at this;grind
 have hmm: ∀d,xB d m0 m0=false:=fun d=>by
  rw[<-jS,o5 hm0 hm0];rintro ⟨h,_⟩;exact h (.inl rfl)
 have n1: ∀d:aE,di d->(∀p,bF d p->n.value p≠0)->mB d m0=false:=fun d hd h=>by
  rw[<-jS,s6 hd hm0];rintro ⟨p,hp,k⟩;exact h p hp (o7 hs k)
 have n2:mB c m0=true:=by
  rw[s6 hc hm0];obtain⟨p,hp,k⟩:=(s6 hc hn).1 (by unfold mB;rw[hb,hb2];rfl);exact⟨p,hp,o7 hs.symm k⟩
 constructor
 ·unfold wo jy
  rw[<-wg,<-wg];refine x8 (m0:=m0) (d:=1) (fun m hm=>?_) h0 ?_
  ·have hmk:=hK m hm
   obtain⟨a1,a2⟩:=z1 m hmk;have a3:=z2 m hmk
   try dsimp only
   cases e1:mB (bD c n) m<;>cases e2:mB (bD c n.rev) m<;>simp only[e1,e2,forall_const,reduceCtorEq,false_implies] at a1 a2 a3<;>simp_all [bN]
  ·try dsimp only
   rw[n1 _ g1 (fun p hp=>by have:=((i1 p).1 hp).2;grind),n1 _ g2 (fun p hp=>by have:=((i2 p).1 hp).2;grind),n2,hmm];decide
 ·have row: ∀m∈K,jy K (bD c n) m+jy K (bD c n.rev) m+bN (xB c m m0)<=jy K c m:=fun m hm=>by
   have hmk:=hK m hm;unfold jy;rw[<-wg];refine x8 (m0:=m0) (d:=bN (xB c m m0)) (fun m' hm'=>?_) h0 ?_
   ·have hmk':=hK m' hm'
    have b1:=w1 m m' hmk hmk';have b2:=w2 m m' hmk hmk'
    try dsimp only
    cases e1:xB (bD c n) m m'<;>cases e2:xB (bD c n.rev) m m'<;>simp_all [bN]
   ·obtain⟨c1,c2⟩:=w3 m hmk
    try dsimp only
    rw[c1,c2];simp[bN]
  have r0:jy K (bD c n) m0=0/\jy K (bD c n.rev) m0=0:=by
   have z: ∀d,(∀m∈K,xB d m0 m=false)->jy K d m0=0:=fun d h=>by
    have:=xh (f:=fun m=>bN (xB d m0 m)) (B:=0) (K:=K) fun m hm=>by rw[h m hm];decide
    unfold jy;omega
   exact⟨z _ fun m hm=>by rw[GA hm0 (hK m hm)];exact(w3 m (hK m hm)).1,z _ fun m hm=>by rw[GA hm0 (hK m hm)];exact(w3 m (hK m hm)).2⟩
  have cs:gD (fun m=>bN (xB c m m0)) K=jy K c m0:=by
   unfold jy;have key: ∀Jv:List aa,(∀m∈Jv,m.ok)->gD (fun m=>bN (xB c m m0)) Jv=gD (fun m=>bN (xB c m0 m)) Jv:=fun Jv=>by
    induction Jv with
    |nil=>intro _;rfl
    |cons a Jv ih=>
     intro h;show bN (xB c a m0)+_=bN (xB c m0 a)+_;rw[ih fun m hm=>h m (aJ _ hm),GA (h a aQ) hm0]
   exact key K hK
  have:=x8 (f:=fun m=>jy K (bD c n) m+jy K (bD c n.rev) m+bN (xB c m m0)) (g:=jy K c) (d:=jy K c m0) (m0:=m0) row h0 (by rw[r0.1,r0.2,hmm];simp[bN]);rw[wg,wg,cs] at this;unfold wl;omega
def HY{K:List aa}(hK: ∀m∈K,m.ok): ∀{t:Tr} {c:aE},t.Prp c->t.all aa.ok->di c->mE K t->2*t.size<=2*wo K c+wl K c
 | .leaf _,_,_,_,_,_=>bQ _
 | .node n x y,c,⟨h1,h2,h3,h4⟩,⟨hn,hx,hy⟩,hc,⟨⟨m0,hm0,hs⟩,kx,ky⟩=>by
  obtain⟨g1,_⟩:=je hc hn h1;obtain⟨g2,_⟩:=je hc hn.rev h2;have a:=HY hK h3 hx g1 kx;have b:=HY hK h4 hy g2 ky;obtain⟨d1,d2⟩:=RP hK hc hn hm0 hs h1 h2;rw[Tr.size];omega
def Wr{K:List aa}(hK: ∀m∈K,m.ok){t:Tr}{c:aE}(h:t.Prp c)(ht:t.all aa.ok)(hc:di c)(hA:mE K t):2*t.size<=K.length*(K.length+1):=by
 have h1:=HY hK h ht hc hA;have h2:wo K c<=K.length*1:=xh fun m _=>Pj _;have h3:wl K c<=K.length*(K.length-1):=xh fun m hm=>by
  have:=x8 (f:=fun n=>bN (xB c m n)) (g:=fun _=>1) (d:=1) (m0:=m) (K:=K) (fun n _=>Pj _) hm (by
   have:xB c m m=false:=by rw[<-jS,o5 (hK m hm) (hK m hm)];rintro ⟨h,_⟩;exact h (.inl rfl)
   rw[this];decide)
  have l1:gD (fun _=>1) K<=K.length*1:=xh fun _ _=>aL _;unfold jy;omega
 have:K.length*(K.length+1)=K.length*(K.length-1)+2*K.length:=by
  cases K.length with
  |zero=>rfl
  |succ k=>rw[Nat.succ_sub_one,Nat.mul_succ,Nat.mul_succ,gK];omega
 omega
section
variable {GB:Gh} {ai al ae:Addr} (hE:EG GB ai al ae) {j k:Nat} {a b:Tr} (ha:rg j a) (hb:rg k b)
include hE ha
include hb
end
section
variable {GB:Gh} {ai al ae:Addr} (hE:EG GB ai al ae)
include hE
end
def ptZ:DV:= .ag [vI 0,vI 0, .v (.pointer none),vI 0,vI 0, .v (.pointer none)]
def apZ:DV:= .ag [.v (.bool false), .sl [], .sl [], .v (.bool false), .sl [], .sl []]
def Yc{c:aE}(hc:i5 c)(hn:c.length<=100000):PF GB prog 255 [eC c] (eZ (pC c)):=by
 cases c with
 |nil=>exact YE
 |cons s cs=>exact QZ hc (by rw[bU] at hn;omega)
def FK(d:Rat):Prop:=True
theorem On{s:aG}{p:ab}: ∀{c:aE} {f:Rat},BQ f 9000->(∀g∈c,BQ (-(g.l.value p/g.l.nor.dot s.l.nor)) 9000)->BQ (iE s.l p c f) 9000
 |[],f,h,_=>h
 |g::c,f,h,k=>by
  rw[iE];refine On ?_ fun u hu=>k u (aJ _ hu);split
  ·split
   ·exact k g aQ
   ·exact h
  ·exact h
theorem Qx{c:aE}(hc:i5 c):aI (pC c) 20000:=by
 cases c with
 |nil=>exact⟨BQ.mono (k:=2) ⟨by decide,by decide⟩ (by decide),BQ.mono (k:=2) ⟨by decide,by decide⟩ (by decide)⟩
 |cons s cs=>
  have hs:=hc s aQ;haveI:=hs.lb;haveI:=D2 hs;haveI:=On (s:=s) (p:=s.l.at s.v.sample) (c:=cs) (f:=1) (BQ.mono (k:=2) ⟨by decide,by decide⟩ (by decide)) fun g hg=>GC hs (hc g (aJ _ hg));rw[Oj];have:=(inferInstance:aI ((s.l.at s.v.sample).add (s.l.nor.scale (iE s.l (s.l.at s.v.sample) cs 1*mkRat 1 2))) _);exact⟨this.x.mono (by decide),this.y.mono (by decide)⟩
def YL(l:List ab):cC 6 (l.map eZ):=fun d hd=>by
 obtain⟨x,_,rfl⟩:=bM.1 hd;exact⟨J,J⟩
instance aI.negp (p:ab) (i:Nat) [h:aI p i]:aI (nO p) i:=⟨inferInstanceAs (BQ (-p.x) i),inferInstanceAs (BQ (-p.y) i)⟩
instance aI.prip (l:aa) [LB l]:aI (zb l.dir) 500:=by
 have h:=(inferInstance:aI (l.dir.scale (rgcd l.dir.x l.dir.y)⁻¹) _);exact⟨h.x.mono (by decide),h.y.mono (by decide)⟩
def azL{p:ab}{i:Nat}[h:aI p i](hi:i<=900000000:=by decide):PF GB prog 242 [eZ p] (eZ (kP p)):=by
 refine fn func242 J J ntmps242 J J (fun C=>?_);refine cl J (o9 (q:=p.y) (i:=i) hi) J<|?_;exact rz J J
def J8{q:Rat}{i:Nat}[h:BQ q i](hi:i<=400000000:=by decide):PF GB prog 198 [eR q] (eF q):=by
 haveI:BN q.num.natAbs i:=⟨h.hn⟩;haveI:BN q.den i:=⟨h.hd⟩;refine fn func198 J J ntmps198 J J (fun C=>?_);refine cl (fu:=⟨0⟩) J (tV (n:=decide (q.num<0)) (a:=q.num.natAbs) (d:=q.den) (i:=i) (j:=i) (by omega) (by omega)) J<|?_;refine ak 7 (.d (eF q)) J (by rw[lw,sU]) ?_;refine gx J<|?_;exact rz J J
def Uj{p:ab}{i:Nat}[h:aI p i](hi:i<=400000000:=by decide):PF GB prog 110 [mm p] (eZ p):=by
 refine fn func110 J J ntmps110 J J (fun C=>?_);refine cl J (J8 (q:=p.x) (i:=i) hi) J<|cl J (J8 (q:=p.y) (i:=i) hi) J<|?_;exact rz J J
def Iy{p q:ab}{i:Nat}[hp:aI p i][hq:aI q i](hi:i<=1000000:=by decide):PF GB prog 192 [eZ p,eZ q] (vB (decide (p.x=q.x/\p.y=q.y))):=by
 refine fn func192 J J ntmps192 J J (fun C=>?_);refine cl J (Qg (p:=p.x) (q:=q.x) (i:=i) (j:=i) (by omega) (by omega)) J<|?_;refine csd 10 J J J (fun hg10=>?_) (fun hg10=>?_)
 .
  refine cl J (Qg (p:=p.y) (q:=q.y) (i:=i) (j:=i) (by omega) (by omega)) J<|?_;exact rz J (by show DV.v (.bool _)= .v (.bool _);simp_all)
 .
  exact rz J (by show DV.v (.bool _)= .v (.bool _);simp_all)
def UG{p q:ab}{i j:Nat}[hp:aI p i][hq:aI q j](hi:i<=10000000:=by decide)(hj:j<=10000000:=by decide):PF GB prog 241 [eZ p,eZ q] (eZ ⟨p.x-q.x,p.y-q.y⟩):=by
 refine fn func241 J J ntmps241 J J (fun C=>?_);refine cl J (sk (p:=p.x) (q:=q.x) (i:=i) (j:=j) (by omega) (by omega)) J<|cl J (sk (p:=p.y) (q:=q.y) (i:=i) (j:=j) (by omega) (by omega)) J<|?_;exact rz J J
def K3{l:aa}{p:ab}{i:Nat}[hl:LB l][hp:aI p i](hi:i<=1000000:=by decide):PF GB prog 254 [eB l,eZ p] (eF (er l p)):=by
 refine fn func254 J J ntmps254 J J (fun C=>?_);refine cl J (vY (l:=l)) J<|cl (fu:=⟨0⟩) J (ui (p:=l.dir) (q:=p) (i:=97) (j:=i) (by decide) (by omega)) J<|?_;refine ak 10 (.d (eF (p.dot l.dir))) J (by rw[show l.dir.dot p=p.dot l.dir by unfold ab.dot;grind]) ?_;refine gx J<|cl J (ui (p:=l.dir) (q:=l.dir) (i:=97) (j:=97) (by decide) (by decide)) J<|cl J (wZ (p:=p.dot l.dir) (q:=l.dir.dot l.dir) (i:=i+97+(i+97)+1) (j:=97+97+(97+97)+1) (by omega) (by decide)) J<|?_;exact rz J J
def Re{G:Gh}{q:Rat}{y:Value}(h: ¬eH q)(hy:Is G (c8 q) y):y= .pointer none:=by
 unfold c8 at hy;rw[decide_eq_false h] at hy;rcases q6.1 hy with⟨_,e⟩|⟨e,_⟩
 ·exact e
 ·cases e
def TJ{G:Gh}{q:Rat}(h: ¬eH q):Is G (c8 q) (.pointer none):=by
 unfold c8;rw[decide_eq_false h];exact q6.2 (.inl ⟨J,J⟩)
def xF(q:Rat):List Value:=[.int .i64 (dm q), .int .i64 (dq q), .pointer none]
def uU{G:Gh}{q:Rat}{t:List DV}{m:List Value}(h: ¬eH q)(hm:IsLs G (vI (dm q)::vI (dq q)::c8 q::t) m): ∃n,m=xF q++n/\IsLs G t n:=by
 obtain⟨y1,m1,rfl,h1,hm1⟩:=bt.1 hm;obtain⟨y2,m2,rfl,h2,hm2⟩:=bt.1 hm1;obtain⟨y3,m3,rfl,h3,hm3⟩:=bt.1 hm2;obtain rfl:=bc.1 h1;obtain rfl:=bc.1 h2;obtain rfl:=Re h h3;exact⟨m3,J,hm3⟩
def wv{G:Gh}{q:Rat}{t:List DV}{n:List Value}(h: ¬eH q)(k:IsLs G t n):IsLs G (vI (dm q)::vI (dq q)::c8 q::t) (xF q++n):= .cons (bc.2 J) (.cons (bc.2 J) (.cons (TJ h) k))
def rV(q:Rat):Value:= .agg ⟨xF q⟩
def Si{G:Gh}{q:Rat}{y:Value}(h: ¬eH q)(hy:Is G (eF q) y):y=rV q:=by
 obtain⟨m,rfl,hm⟩:=dG.1 hy;obtain⟨n,rfl,hn⟩:=uU h hm;rw[dl.1 hn];rfl
def Tk{G:Gh}{q:Rat}(h: ¬eH q):Is G (eF q) (rV q):=dG.2 ⟨_,J,wv h (dl.2 J)⟩
structure EP (f:aG):Prop where
 a: ¬eH (f.l.a:Rat)
 b: ¬eH (f.l.b:Rat)
 c: ¬eH (f.l.c:Rat)
 lo: ¬eH f.v.lo
 hi: ¬eH f.v.hi
def vG(f:aG):Value:= .agg ⟨xF f.l.a++(xF f.l.b++(xF f.l.c++(xF f.v.lo++(xF f.v.hi++[.bool f.v.nl, .bool f.v.nh]))))⟩
def Bw{G:Gh}{f:aG}{y:Value}(h:EP f)(hy:Is G (bj f) y):y=vG f:=by
 obtain⟨m0,rfl,k0⟩:=dG.1 hy;obtain⟨m1,rfl,k1⟩:=uU h.a k0;obtain⟨m2,rfl,k2⟩:=uU h.b k1;obtain⟨m3,rfl,k3⟩:=uU h.c k2;obtain⟨m4,rfl,k4⟩:=uU h.lo k3;obtain⟨m5,rfl,k5⟩:=uU h.hi k4;obtain⟨y1,m6,rfl,h1,k6⟩:=bt.1 k5;obtain⟨y2,m7,rfl,h2,k7⟩:=bt.1 k6;obtain rfl:=bc.1 h1;obtain rfl:=bc.1 h2;obtain rfl:=dl.1 k7;rfl
def CB{G:Gh}{f:aG}(h:EP f):Is G (bj f) (vG f):=dG.2 ⟨_,J,wv h.a (wv h.b (wv h.c (wv h.lo (wv h.hi (.cons (bc.2 J) (.cons (bc.2 J) (dl.2 J)))))))⟩
structure FE (f:aG):Prop where
 fo:kE f
 sm:EP f
 nl:f.v.nl=false
 nh:f.v.nh=false
def JV{f:aG}(hf:FE f):PF GB prog 260 [bj f] (.tp [eZ (f.l.at f.v.lo),vB true]):=by
 haveI:=hf.fo.lb;haveI:=hf.fo.lo;haveI:=hf.fo.hi;refine fn (fu:=⟨13⟩) func260 J J ntmps260 J J (fun C=>?_);refine ak 6 (.d (vB false)) J (by rw[hf.nl]<;>rfl) ?_;refine DS 6 J ?_;refine gx J<|cl J (CC (l:=f.l) (t:=f.v.lo) (i:=1200)) J<|?_;exact rz J J
def Qa{f:aG}(hf:FE f):PF GB prog 261 [bj f] (.tp [eZ (f.l.at f.v.hi),vB true]):=by
 haveI:=hf.fo.lb;haveI:=hf.fo.lo;haveI:=hf.fo.hi;refine fn (fu:=⟨13⟩) func261 J J ntmps261 J J (fun C=>?_);refine ak 6 (.d (vB false)) J (by rw[hf.nh]<;>rfl) ?_;refine DS 6 J ?_;refine gx J<|cl J (CC (l:=f.l) (t:=f.v.hi) (i:=1200)) J<|?_;exact rz J J
theorem I9{l:aa}{t:Rat}(hl:LB l)(ht:BQ t 1200):aI (l.at t) 3000:=aI.mono (inferInstance:aI (l.at t) _) (by decide)
def qf{f:aG}(h1:f.v.nl=false)(h2:f.v.nh=false)(p:ab):qb f p=if Int.sign f.l.dir.y.num=0 then 0 else if Int.sign (f.l.value p).num≠Int.sign f.l.dir.y.num then 0 else
  if Int.sign f.l.dir.y.num<0 then(if 0<bg (f.l.at f.v.hi).y p.y then 0 else if bg (f.l.at f.v.lo).y p.y<=0 then 0 else Int.sign f.l.dir.y.num)
  else(if 0<bg (f.l.at f.v.lo).y p.y then 0 else if bg (f.l.at f.v.hi).y p.y<=0 then 0 else Int.sign f.l.dir.y.num):=by
 unfold qb;rw[h1,h2];generalize Int.sign f.l.dir.y.num=U;generalize Int.sign (f.l.value p).num=S;generalize bg (f.l.at f.v.hi).y p.y=a;generalize bg (f.l.at f.v.lo).y p.y=b;by_cases k:U=0
 ·simp[k]
 ·by_cases k2:S≠U
  ·simp[k2]
  ·rw[if_neg (by simp[k,k2]),if_neg k,if_neg k2]
   by_cases k3:U<0
   ·simp[k3]
   ·simp[k3]
def OG(f:aG)(p:ab):(qb f p).natAbs<=1:=by
 unfold qb;have:=Pm f.l.dir.y.num
 repeat' split
 all_goals omega
def Py{E:List aG}{p:ab}{k:Nat}{f:aG}(h:E[k]? =some f):i0 (E.take (k+1)) p=i0 (E.take k) p+qb f p:=by
 rw[fW,h];show i0 (E.take k++[f]) p=_;rw[GF];unfold i0;simp
def Nk(E:List aG)(p:ab): ∀k,(i0 (E.take k) p).natAbs<=k
 |0=>by simp[i0]
 |k+1=>by
  have ih:=Nk E p k
  cases h:E[k]? with
  |none=>
   have:E.take (k+1)=E.take k:=by rw[fW,h];simp
   rw[this];omega
  |some f=>
   rw[Py h];have:=OG f p;omega
def QM{f:aG}(hf:FE f){p:ab}{i:Nat}[hp:aI p i](hi:i<=100000:=by decide):PF GB prog 169 [bj f,eZ p] (vI (qb f p)):=by
 haveI:=hf.fo.lb;haveI:=hf.fo.lo;haveI:=hf.fo.hi;haveI:aI (f.l.at f.v.hi) 3000:=I9 hf.fo.lb hf.fo.hi;haveI:aI (f.l.at f.v.lo) 3000:=I9 hf.fo.lb hf.fo.lo;refine fn func169 J J ntmps169 J J (fun C=>?_);refine cl J (vY (l:=f.l)) J<|cl (fu:=⟨6⟩) J (nj (q:=f.l.dir.y) (i:=97)) J<|?_;rcases Int.lt_or_le (Int.sign f.l.dir.y.num) 0 with hu|hu
 .
  refine gx J<|?_;refine cs 19 J J J (fun hg19=>?_) (fun hg19=>?_)
  .
   exact rz J (by rw[qf hf.nl hf.nh];(repeat' split)<;>first|rfl|(exfalso;omega))
  .
   refine cl J (Fj (l:=f.l) (p:=p) (i:=i) (by omega)) J<|?_;refine br (fu2:=⟨5⟩) J J J (fun hc26=>?_) (fun hc26=>?_)
   .
    exact rz J (by rw[qf hf.nl hf.nh];(repeat' split)<;>first|rfl|(exfalso;omega))
   .
    refine CL (fu:=⟨1⟩) (vG f) J (fun G y hy=>Bw hf.sm hy) J<|CL (fu:=⟨8⟩) (vG f) J (fun G y hy=>Bw hf.sm hy) J<|dx (fu:=⟨14⟩) J (by show some (decide _)=some true;rw[decide_eq_true (by omega)]) J<|?_;refine zm (fu:=⟨12⟩) (ds1:=[bj f]) (ds2:=[]) J (.cons (CB hf.sm) (dl.2 J)) (dl.2 J) (Qa hf) J<|?_;refine py 41 J ?_;refine gx J<|cl J (pz (i:=3000) (j:=i) (by decide) (by omega)) J<|?_;refine br (fu2:=⟨6⟩) J J J (fun hc48=>?_) (fun hc48=>?_)
    .
     exact rz J (by rw[qf hf.nl hf.nh];(repeat' split)<;>first|rfl|(exfalso;omega))
    .
     refine zm (fu:=⟨12⟩) (ds1:=[bj f]) (ds2:=[]) J (.cons (CB hf.sm) (dl.2 J)) (dl.2 J) (JV hf) J<|?_;refine py 55 J ?_;refine gx J<|cl J (pz (i:=3000) (j:=i) (by decide) (by omega)) J<|?_;refine br J J J (fun hc62=>?_) (fun hc62=>?_)
     .
      exact rz J (by rw[qf hf.nl hf.nh];(repeat' split)<;>first|rfl|(exfalso;omega))
     .
      exact rz J (by rw[qf hf.nl hf.nh];(repeat' split)<;>first|rfl|(exfalso;omega))
 .
  refine gx J<|?_;refine cs 19 J J J (fun hg19=>?_) (fun hg19=>?_)
  .
   exact rz J (by rw[qf hf.nl hf.nh];(repeat' split)<;>first|rfl|(exfalso;omega))
  .
   refine cl J (Fj (l:=f.l) (p:=p) (i:=i) (by omega)) J<|?_;refine br (fu2:=⟨5⟩) J J J (fun hc26=>?_) (fun hc26=>?_)
   .
    exact rz J (by rw[qf hf.nl hf.nh];(repeat' split)<;>first|rfl|(exfalso;omega))
   .
    refine CL (fu:=⟨1⟩) (vG f) J (fun G y hy=>Bw hf.sm hy) J<|CL (fu:=⟨8⟩) (vG f) J (fun G y hy=>Bw hf.sm hy) J<|d7 (fu:=⟨9⟩) J (by show some (decide _)=some false;rw[decide_eq_false (by omega)]) J<|?_;refine zm (fu:=⟨12⟩) (ds1:=[bj f]) (ds2:=[]) J (.cons (CB hf.sm) (dl.2 J)) (dl.2 J) (JV hf) J<|?_;refine py 41 J ?_;refine gx J<|cl J (pz (i:=3000) (j:=i) (by decide) (by omega)) J<|?_;refine br (fu2:=⟨6⟩) J J J (fun hc48=>?_) (fun hc48=>?_)
    .
     exact rz J (by rw[qf hf.nl hf.nh];(repeat' split)<;>first|rfl|(exfalso;omega))
    .
     refine zm (fu:=⟨12⟩) (ds1:=[bj f]) (ds2:=[]) J (.cons (CB hf.sm) (dl.2 J)) (dl.2 J) (Qa hf) J<|?_;refine py 55 J ?_;refine gx J<|cl J (pz (i:=3000) (j:=i) (by decide) (by omega)) J<|?_;refine br J J J (fun hc62=>?_) (fun hc62=>?_)
     .
      exact rz J (by rw[qf hf.nl hf.nh];(repeat' split)<;>first|rfl|(exfalso;omega))
     .
      exact rz J (by rw[qf hf.nl hf.nh];(repeat' split)<;>first|rfl|(exfalso;omega))
def RB{E:List aG}(hE: ∀f∈E,FE f)(hn:E.length<=1000000){p:ab}{i:Nat}[hp:aI p i](hi:i<=100000:=by decide):PF GB prog 77 [.sl (E.map bj),eZ p] (vI (i0 E p)):=by
 have hml:(E.map bj).length=E.length:=aK ..;refine fn (fu:=⟨16⟩) func77 J J ntmps77 J J (fun C=>?_);refine ak 9 (.d (vI (E.length:Nat))) J (by rw[hml]<;>rfl) ?_;refine gx J<|?_;refine lp (X:=Nat) (fun k=>[(10, .d (vI (k:Nat))),(5, .d (vI (i0 (E.take k) p)))]) (fun k=>[]) (fun k=>k<=E.length) (fun k=>E.length-k) 0 J (bQ _) (fun _=>J) (fun k hk=>?_);have hw:=Nk E p k;refine br J J J (fun hc11=>?_) (fun hc11=>?_)
 .
  obtain⟨f,hx⟩: ∃u,E[k]? =some u:=⟨_,aZ (by omega)⟩;have hf:=hE f (bZ hx);have hcl:=OG f p;refine ix _ J (d9 hx) J<|cl J (QM hf (p:=p) (i:=i) hi) J<|?_;refine ak 5 (.d (vI (i0 (E.take (k+1)) p))) J (by rw[Py hx]<;>rfl) ?_;exact at_ (k+1) ⟨(by omega),(by omega)⟩
 .
  obtain rfl:k=E.length:=by omega
  rw[cM];exact rz J J
def od(v:List ab):List (List DV):=(List.range v.length).map fun i=>[vI (i:Nat),Dh (v.getD i ⟨0,0⟩) (v.getD ((i+1)%v.length) ⟨0,0⟩)]
def Ix{v:List ab}{i:Nat}{p q:ab}(h1:v[i]? =some p)(h2:v[(i+1)%v.length]? =some q):(od v)[i]? =some [vI (i:Nat),Dh p q]:=by
 have hi:=(aM.1 h1).1;unfold od;rw[eJ,List.getElem?_range hi,lV,aX,aX,h1,h2];rfl
def Nq{v:List ab}{i:Nat}{e:List DV}(h:(od v)[i]? =some e): ∃p q,v[i]? =some p/\v[(i+1)%v.length]? =some q/\e=[vI (i:Nat),Dh p q]:=by
 have hi:i<v.length:=by
  have:=(aM.1 h).1;unfold od at this;simpa using this
 have h1:v[i]? =some v[i]:=aZ hi;have hm:(i+1)%v.length<v.length:=dW _ (by omega);have h2:v[(i+1)%v.length]? =some v[(i+1)%v.length]:=aZ hm;refine⟨_,_,h1,h2,?_⟩;rw[Ix h1 h2] at h;exact(Option.some.inj h).symm
def JW{v:List ab}: ∀e∈od v,e.length=2:=fun e he=>by
 obtain⟨i,_,rfl⟩:=bM.1 he;rfl
def MW{v:List ab}(hn:v.length<=100000):It GB prog 253 [.pt [.sl (v.map eZ)]] (od v):=by
 have hml:(v.map eZ).length=v.length:=aK ..;have hrl:(od v).length=v.length:=by unfold od;simp
 refine Yg func253 J J ntmps253 J (fun _=>J) (fun l Jv Jx GB' hg H C hp hJ=>?_);refine EQ 1 J<|gx J<|?_;refine ak 6 (.d (vI (v.length:Nat))) J (by rw[hml]<;>rfl) ?_;refine W7 (X:=Nat) (fun k=>[(0, .d (.v (.func (.yield l) #[] #[]))),(1, .ep [.sl (v.map eZ)]),(5, .d (.sl (v.map eZ))),(6, .d (vI (v.length:Nat))),(7, .d (vI (k:Nat)))]) (fun k C=>k<=v.length/\Jv k C.G0 C.w0) (fun k=>v.length-k) 0 hp ⟨bQ _,hJ⟩ (fun _=>J) (fun k C1 hp1 hk=>?_);obtain⟨hk1,hJ1⟩:=hk;refine br J J J (fun hc8=>?_) (fun hc8=>?_)
 ·obtain⟨p,hpx⟩: ∃u,v[k]? =some u:=⟨_,aZ (by omega)⟩
  obtain⟨q,hqx⟩: ∃u,v[(k+1)%v.length]? =some u:=⟨_,aZ (dW _ (by omega))⟩;refine ix _ J (d9 hpx) J<|?_;refine ak 20 (.d (vI (((k+1)%v.length:Nat):Int))) J (by rw[hml]<;>rfl) ?_;refine gx J<|ix _ J (d9 hqx) J<|YV (len:=2) (s:=6) (e:=141) J (by kernel_rfl) (by kernel_rfl) J<|?_;refine Zv (by kernel_rfl) J ?_;refine cy [(0, .d (.v (.func (.yield l) #[] #[]))),(1, .ep [.sl (v.map eZ)]),(5, .d (.sl (v.map eZ))),(6, .d (vI (v.length:Nat))),(7, .d (vI (k:Nat)))] H hp1 hJ1 J (Ix hpx hqx) J (by repeat (first|exact trivial|refine And.intro J ?_)) J J J (fun C3 hp3 hJ3=>?_) (fun C3 hp3 hJ3=>?_)
  ·exact WR (k+1) hp3 ⟨⟨by omega,hJ3⟩,by omega⟩
  ·exact JN H hp3 (.inr hJ3) J
 ·obtain rfl:k=v.length:=by omega
  exact JN H hp1 (.inl (by rw[hrl];exact hJ1)) J
def Pe{v:List ab}:Hv GB prog 165 [.sl (v.map eZ)] 253 (.pt [.sl (v.map eZ)]):=by
 refine aGY func165 J J ntmps165 J J (fun C=>?_);refine fz 1 J J ?_;refine y6 1 J (fun GB' pv hg hp=>?_);refine Ve J J ?_;exact aG5 J J hp
def VS:EB 139:=fun x w=>by kernel_rfl
def VZ(m:List Value):BB 139 (.agg ⟨m⟩) "Mul" 207:=fun w=>by kernel_rfl
def Zp(l:List Rat)(k:Nat)(y:Rat):(l.map eF).set k (eF y)=(l.set k y).map eF:=(jU ..).symm
def ml(L:List Rat)(k:Rat)(j:Nat):List Rat:=(L.take j).map (· *k)++L.drop j
def XJ(L:List Rat)(k:Rat)(j:Nat):(ml L k j).length=L.length:=by
 unfold ml;rw[aY,aK,cJ,gL];omega
def Wl{L:List Rat}{k a:Rat}{j:Nat}(h:L[j]? =some a):(ml L k j)[j]? =some a:=by
 have hj:=(aM.1 h).1;unfold ml;rw[iV (by rw[aK,cJ];omega),aK,cJ,mR,<-h];congr 1;omega
def ZY{L:List Rat}{k a:Rat}{j:Nat}(h:L[j]? =some a):(ml L k j).set j (a*k)=ml L k (j+1):=by
 have hj:=(aM.1 h).1;unfold ml;rw[fW,h,mM _ _ (by rw[aK,cJ];omega),aK,cJ,show j-min j L.length=0 by omega,bX hj];simp only[Option.toList_some,bT,bJ,dR,List.set_cons_zero,dY,cK,cY]
def OJ{L:List Rat}{k:Rat}{i:Nat}[hk:BQ k i](hL: ∀a∈L,¬eH a)(hb: ∀a∈L,BQ a i)(hn:L.length<=1000)(hi:i<=1000000:=by decide):PB GB prog 338 (gA [some (eF k),none]) 3 139 (L.map eF) (fun w=> .v (.slice w.a w.n w.c)) ((L.map (· *k)).map eF):=by
 have hml:(L.map eF).length=L.length:=aK ..;refine SI (fu:=⟨11⟩) func338 J J ntmps338 J J (fun C=>?_);refine ak 7 (.d (vI (L.length:Nat))) J (by rw[hml]<;>rfl) ?_;refine gx J<|?_;refine lp (X:=Nat) (fun j=>[(8, .d (vI (j:Nat)))]) (fun j=>[(1000000,some (.b 139 3 ((ml L k j).map eF) false))]) (fun j=>j<=L.length) (fun j=>L.length-j) 0 J (bQ _) (fun _=>J) (fun j hk=>?_);have hsl:=XJ L k j;have hsm:((ml L k j).map eF).length=(ml L k j).length:=aK ..;refine br J J J (fun hc9=>?_) (fun hc9=>?_)
 .
  obtain⟨a,hx⟩: ∃u,L[j]? =some u:=⟨_,aZ (by omega)⟩;have ham:=bZ hx;haveI:=hb a ham;have hga:(ml L k j)[j]? =some a:=Wl hx;refine lb (fu:=⟨0⟩) _ J (d9 hga) J<|SK (fu:=⟨1⟩) (rV a) J VS (fun G y hy=>Si (hL a ham) hy) J<|R1 J (VZ _) (PF.arg0 (rA (p:=a) (q:=k) (i:=i) (j:=i) (by omega) (by omega)) (fun G y h=>by rw[bc.1 h];exact Tk (hL a ham))) J<|?_;refine sb (hv:=by simp only[ah];exact⟨by kernel_rfl,by omega⟩) _ ((ml L k (j+1)).map eF) J (d9 hga) J (by rw[<-ZY hx,<-Zp]<;>rfl) J<|?_;exact at_ (j+1) ⟨(by omega),(by omega)⟩
 .
  obtain rfl:j=L.length:=by omega
  have hend:ml L k L.length=L.map (· *k):=by unfold ml;rw[cM,fU,jJ]
  exact V2 J J J (by rw[hend])
def EH{a:Int}{g:Nat}(hg:0<g)(hd:g∣a.natAbs):(a:Rat)*(((g:Nat):Int):Rat)⁻¹=((zv (decide (a<0)) (a.natAbs/g):Int):Rat):=by
 obtain⟨q,hq⟩:=hd;have e:zv (decide (a<0)) (a.natAbs/g)*(g:Int)=a:=by
  rw[hq,qL q hg];unfold zv;have hc:((g*q:Nat):Int)=(g:Int)*(q:Int):=by simp
  have hm:=sV (g:Int) (q:Int);split
  ·rename_i h
   have h:=of_decide_eq_true h;rw[Int.neg_mul];omega
  ·rename_i h
   have h: ¬a<0:=fun k=>h (decide_eq_true k);omega
 generalize zv (decide (a<0)) (a.natAbs/g)=z at*;have h0:((g:Int):Rat)≠0:=by
  intro k;have:(g:Int)=0:=by exact_mod_cast k
  omega
 rw[<-e,cN];generalize ((g:Int):Rat)=r at*;grind
def rC{z:Int}(h:z.natAbs<=1000000): ¬eH (z:Rat):=fun k=>k ⟨by show z.natAbs<_;omega,by show 1<_;decide⟩
def ON{q:Rat}{k:Nat}(h:BQ q k)(hk:k<=62): ¬eH q:=fun b=>b (by
 have hp:2^k<=2^62:=bY (by decide) hk;have e:(2:Nat)^62=4611686018427387904:=by decide
 obtain⟨h1,h2⟩:=h;exact⟨by omega,by omega⟩)
theorem UA(p q:ab){i j:Nat}[aI p i][aI q j]:aI ⟨p.x-q.x,p.y-q.y⟩ (i+j+1):=⟨inferInstanceAs (BQ (p.x-q.x) _),inferInstanceAs (BQ (p.y-q.y) _)⟩
theorem mi{z:Int}(h:z.natAbs<=1000000):BQ (z:Rat) 22:=by
 have e:(2:Nat)^21=2097152:=by decide
 haveI:BI z 21:=⟨by omega⟩;exact(inferInstance:BQ (z:Rat) 22)
def Tu{a b c:Int}(ha:a.natAbs<=1000000)(hb:b.natAbs<=1000000)(hc:c.natAbs<=1000000)(h0: ¬(a=0/\b=0)):PF GB prog 243 [eF (a:Rat),eF (b:Rat),eF (c:Rat)] (.tp [eB (gg a b c),vB true]):=by
 haveI:=mi ha;haveI:=mi hb;haveI:=mi hc;have hgn:Nat.gcd a.natAbs b.natAbs≠0:=fun h=>h0 ⟨kR.1 (lW h),kR.1 (lX h)⟩;have hgp:0<Nat.gcd (Nat.gcd a.natAbs b.natAbs) c.natAbs:=mX _ (iY hgn);have eg:rgcd (rgcd (a:Rat) b) c=(((Nat.gcd (Nat.gcd a.natAbs b.natAbs) c.natAbs:Nat):Int):Rat):=by rw[D3,D3];rfl
 have e1:(a:Rat)*(rgcd (rgcd (a:Rat) b) c)⁻¹=((gg a b c).a:Rat):=by rw[eg];exact EH hgp (qZ (jR _ _) (jR _ _))
 have e2:(b:Rat)*(rgcd (rgcd (a:Rat) b) c)⁻¹=((gg a b c).b:Rat):=by rw[eg];exact EH hgp (qZ (jR _ _) (lZ _ _))
 have e3:(c:Rat)*(rgcd (rgcd (a:Rat) b) c)⁻¹=((gg a b c).c:Rat):=by rw[eg];exact EH hgp (lZ _ _)
 haveI:BQ (rgcd (a:Rat) b) 200:=BQ.mono (inferInstance:BQ (rgcd (a:Rat) b) _) (by decide);haveI:BQ (rgcd (rgcd (a:Rat) b) c) 600:=BQ.mono (inferInstance:BQ (rgcd (rgcd (a:Rat) b) c) _) (by decide);haveI:BQ (rgcd (rgcd (a:Rat) b) c)⁻¹ 600:=BQ.mono (inferInstance:BQ (rgcd (rgcd (a:Rat) b) c)⁻¹ _) (by decide);have hl4:([((gg a b c).a:Rat),((gg a b c).b:Rat),((gg a b c).c:Rat)].map eF).length=3:=J;have hl3:[((gg a b c).a:Rat),((gg a b c).b:Rat),((gg a b c).c:Rat)].length=3:=J;refine fn func243 J J ntmps243 J J (fun C=>?_);refine cl J (P8 (q:=(a:Rat))) J<|?_;refine csd 11 J J J (fun hg11=>?_) (fun hg11=>?_)
 .
  refine cl J (P8 (q:=(b:Rat))) J<|?_;refine bd J J J (fun hc14=>?_) (fun hc14=>?_)
  .
   exact absurd ⟨by exact_mod_cast hg11,by exact_mod_cast hc14⟩ h0
  .
   refine cl J (Ct (p:=(a:Rat)) (q:=(b:Rat)) (i:=22) (j:=22)) J<|cl J (Ct (p:=rgcd (a:Rat) b) (q:=(c:Rat)) (i:=200) (j:=22)) J<|?_;refine cl rfl (Hl (q:=rgcd (rgcd (a:Rat) b) c) (i:=600)) rfl<|ro (fu:=⟨0⟩) J J<|cq (hv:=by simp only[ah];exact⟨by kernel_rfl,by omega⟩) ([((gg a b c).a:Rat),((gg a b c).b:Rat),((gg a b c).c:Rat)].map eF) rfl (OJ (L:=[(a:Rat),(b:Rat),(c:Rat)]) (k:=(rgcd (rgcd (a:Rat) b) c)⁻¹) (i:=600) (by intro q hq;simp only[aT,jL,or_false] at hq;rcases hq with rfl|rfl|rfl;exact rC ha;exact rC hb;exact rC hc) (by intro q hq;simp only[aT,jL,or_false] at hq;rcases hq with rfl|rfl|rfl;exact(mi ha).mono (by decide);exact(mi hb).mono (by decide);exact(mi hc).mono (by decide)) (nb rfl)) (by simp only[bJ,dR,e1,e2,e3]) rfl<|?_;refine lb _ J J J<|lb _ J J J<|lb _ J J J<|?_;exact rz J J
 .
  refine cl J (Ct (p:=(a:Rat)) (q:=(b:Rat)) (i:=22) (j:=22)) J<|cl J (Ct (p:=rgcd (a:Rat) b) (q:=(c:Rat)) (i:=200) (j:=22)) J<|?_;refine cl rfl (Hl (q:=rgcd (rgcd (a:Rat) b) c) (i:=600)) rfl<|ro (fu:=⟨0⟩) J J<|cq (hv:=by simp only[ah];exact⟨by kernel_rfl,by omega⟩) ([((gg a b c).a:Rat),((gg a b c).b:Rat),((gg a b c).c:Rat)].map eF) rfl (OJ (L:=[(a:Rat),(b:Rat),(c:Rat)]) (k:=(rgcd (rgcd (a:Rat) b) c)⁻¹) (i:=600) (by intro q hq;simp only[aT,jL,or_false] at hq;rcases hq with rfl|rfl|rfl;exact rC ha;exact rC hb;exact rC hc) (by intro q hq;simp only[aT,jL,or_false] at hq;rcases hq with rfl|rfl|rfl;exact(mi ha).mono (by decide);exact(mi hb).mono (by decide);exact(mi hc).mono (by decide)) (nb rfl)) (by simp only[bJ,dR,e1,e2,e3]) rfl<|?_;refine lb _ J J J<|lb _ J J J<|lb _ J J J<|?_;exact rz J J
theorem tJ{z:ZP}(h:ZP.le 100 z):aI z.q 22:=⟨mi (by have:=h.1;omega),mi (by have:=h.2;omega)⟩
def sP{a b:Int}{m n:Nat}(ha:a.natAbs<=m)(hb:b.natAbs<=n):(a*b).natAbs<=m*n:=by
 rw[jQ];exact kX ha hb
def XZ{v w:ZP}(hv:ZP.le 100 v)(hw:ZP.le 100 w)(h:v≠w):PF GB prog 151 [eZ v.q,eZ w.q] (.tp [eB (ip v.1 v.2 w.1 w.2),vB true]):=by
 haveI:=tJ hv;haveI:=tJ hw;have hv1:=hv.1;have hv2:=hv.2;have hw1:=hw.1;have hw2:=hw.2;obtain⟨A,hA⟩: ∃A,A=jr v.2 w.2:=⟨_,rfl⟩;obtain⟨B,hB⟩: ∃B,B=jA v.1 w.1:=⟨_,rfl⟩;obtain⟨C0,hC⟩: ∃C0,C0=oG v.1 v.2 w.1 w.2:=⟨_,rfl⟩;have bA:A.natAbs<=200:=by rw[hA];unfold jr;omega
 have bB:B.natAbs<=200:=by rw[hB];unfold jA;omega
 have m1:=sP bA hv1;have m2:=sP bB hv2;have eC:C0= -(A*v.1+B*v.2):=by rw[hC,hA,hB];rfl
 have bC:C0.natAbs<=40000:=by rw[eC];omega
 have h0: ¬(A=0/\B=0):=fun k=>h (Prod.ext (by have:=k.2;rw[hB] at this;unfold jA at this;omega) (by have:=k.1;rw[hA] at this;unfold jr at this;omega));haveI:aI (iP A B) 22:=⟨mi (by omega),mi (by omega)⟩;haveI:BQ ((A*v.1+B*v.2:Int):Rat) 22:=mi (by omega);have eT:kP ⟨w.q.x-v.q.x,w.q.y-v.q.y⟩=iP A B:=by rw[hA,hB];unfold kP iP jr jA ZP.q iP;simp only[ab.mk.injEq];push_cast;constructor<;>grind
 have eD:(iP A B).dot v.q=((A*v.1+B*v.2:Int):Rat):=by unfold ab.dot iP ZP.q iP;push_cast;rfl
 have eN: -((A*v.1+B*v.2:Int):Rat)=((C0:Int):Rat):=by rw[eC];push_cast;rfl
 refine fn func151 J J ntmps151 J J (fun C=>?_);refine cl J (UG (p:=w.q) (q:=v.q) (i:=22) (j:=22)) J<|cl (fu:=⟨0⟩) J (azL (p:=⟨w.q.x-v.q.x,w.q.y-v.q.y⟩) (i:=45) (h:=UA w.q v.q)) J<|?_;refine ak 12 (.d (eZ (iP A B))) J (by rw[eT]) ?_;refine gx J<|cl (fu:=⟨0⟩) J (ui (p:=iP A B) (q:=v.q) (i:=22) (j:=22)) J<|?_;refine ak 19 (.d (eF ((A*v.1+B*v.2:Int):Rat))) J (by rw[eD]) ?_;refine gx J<|cl (fu:=⟨0⟩) J (o9 (q:=((A*v.1+B*v.2:Int):Rat)) (i:=22)) J<|?_;refine ak 20 (.d (eF ((C0:Int):Rat))) J (by rw[eN]) ?_;refine gx J<|cl J (Tu (a:=A) (b:=B) (c:=C0) (by omega) (by omega) (by omega) h0) J<|?_;exact rz J (by rw[hA,hB,hC];rfl)
theorem Oa{l:aa}(ho:l.ok)(ha:l.a.natAbs<=200)(hb:l.b.natAbs<=200){m n:Int}(hm:m.natAbs<=100)(hn:n.natAbs<=100):BQ (er l (iP m n)) 60:=by
 have hd:=vC ho.ne;have p1:=sP ha ha;have p2:=sP hb hb;have p3:=sP hm hb;have p4:=sP hn ha;have h60:(2:Nat)^60=1152921504606846976:=by decide
 have hA:BI (l.a*l.a+l.b*l.b) 60:=⟨by omega⟩;have hB:BI (m*l.b-n*l.a) 60:=⟨by omega⟩;have e1:l.dir.dot l.dir=((l.a*l.a+l.b*l.b:Int):Rat):=by
  rw[oJ,cN,cN];simp only[aa.dir,ab.dot];grind
 have e2:(iP m n).dot l.dir=((m*l.b-n*l.a:Int):Rat):=by
  rw[oK,cN,cN];simp only[aa.dir,ab.dot,iP];grind
 have hd':((0:Int):Rat)<((l.a*l.a+l.b*l.b:Int):Rat):=by rw[<-e1];exact hd
 unfold er;rw[e2,e1];clear e1 e2 p1 p2 p3 p4;generalize l.a*l.a+l.b*l.b=D at*;generalize m*l.b-n*l.a=M at*;have hD:0<D:=rZ.1 hd';refine BQ.of_fracI (n:=M) (D:=D) (by omega) ?_ hB hA;have h0:(D:Rat)≠0:=fun e=>by rw[e] at hd';exact absurd hd' (by decide)
 have:((D.natAbs:Nat):Rat)=(D:Rat):=by
  have h1:((D.natAbs:Nat):Int)=D:=by omega
  rw[<-h1];rfl
 rw[this];grind
def NO{v w:ZP}(hv:ZP.le 100 v)(hw:ZP.le 100 w)(h:v≠w):FE (cI v w):=by
 have hf:=JM hv hw h;have hv1:=hv.1;have hv2:=hv.2;have hw1:=hw.1;have hw2:=hw.2;have bA:(jr v.2 w.2).natAbs<=200:=by unfold jr;omega
 have bB:(jA v.1 w.1).natAbs<=200:=by unfold jA;omega
 have m1:=sP bA hv1;have m2:=sP bB hv2;have bC:(oG v.1 v.2 w.1 w.2).natAbs<=40000:=by unfold oG;omega
 obtain⟨k1,k2,k3⟩:=IN (jr v.2 w.2) (jA v.1 w.1) (oG v.1 v.2 w.1 w.2);have ea:(cI v w).l.a.natAbs<=200:=cR k1 bA;have eb:(cI v w).l.b.natAbs<=200:=cR k2 bB;have ec:(cI v w).l.c.natAbs<=40000:=cR k3 bC;exact⟨hf,⟨rC (by omega),rC (by omega),rC (by omega),ON (Oa hf.ok ea eb hv1 hv2) (by decide),ON (Oa hf.ok ea eb hw1 hw2) (by decide)⟩,J,J⟩
def Yl{r:List ZP}(h:cF r): ∀f∈ey r,FE f:=fun f hf=>by
 obtain⟨k,hk,rfl⟩:=FT hf;exact NO (h.le _ (t7 hk)) (h.le _ (vP hk)) (h.ne k hk)
def arH{rs:List (List ZP)}(h: ∀r∈rs,cF r): ∀f∈b9 rs,FE f:=fun f hf=>by
 obtain⟨r,h1,h2⟩:=gX.1 hf;exact Yl (h r h1) f h2
def YS{v w:ZP}(hv:ZP.le 100 v)(hw:ZP.le 100 w)(h:v≠w):PF GB prog 166 [eZ v.q,eZ w.q] (.tp [bj (cI v w),vB true]):=by
 have hf:=NO hv hw h;haveI:LB (ip v.1 v.2 w.1 w.2):=hf.fo.lb;haveI:=tJ hv;haveI:=tJ hw;refine fn func166 J J ntmps166 J J (fun C=>?_);refine cl (fu:=⟨12⟩) J (XZ hv hw h) J<|?_;refine py 14 J ?_;refine gx J<|cl J (K3 (l:=ip v.1 v.2 w.1 w.2) (p:=v.q) (i:=22)) J<|cl J (K3 (l:=ip v.1 v.2 w.1 w.2) (p:=w.q) (i:=22)) J<|?_;exact rz J J
def AJ{r:List ZP}{k:Nat}{p:ab}(h:(r.map ZP.q)[k]? =some p):k<r.length/\p=(r.getD k (0,0)).q:=by
 rw[eJ] at h
 cases e:r[k]? with
 |none=>rw[e] at h;cases h
 |some z=>
  rw[e] at h;cases h;exact⟨(aM.1 e).1,by rw[aX,e];rfl⟩
def AZ(r:List ZP): ∀n,(jh r n).length=n
 |0=>rfl
 |n+1=>by rw[jh,aY,AZ r n];rfl
def J1{r:List ZP}{k:Nat}: ∀{n:Nat},k<n->(jh r n)[k]? =some (cI (r.getD k (0,0)) (d8 r k))
 |0,h=>by omega
 |n+1,h=>by
  rw[jh];by_cases e:k=n
  ·subst e
   rw[iV (by rw[AZ];omega),AZ,pX];rfl
  ·rw[eX (by rw[AZ];omega)]
   exact J1 (by omega)
def zr(l:List aG):cC 17 (l.map bj):=fun d hd=>by
 obtain⟨x,_,rfl⟩:=bM.1 hd;exact⟨J,J⟩
def S0{L:List aG}{k:Nat}{l:aG}(h:L[k]? =some l):((L.take k).map bj)++[bj l]=(L.take (k+1)).map bj:=by
 rw[fW,h,bT];rfl
def Lp{r:List ZP}(h:cF r):PF GB prog 74 [.sl ((r.map ZP.q).map eZ)] (.sl ((ey r).map bj)):=by
 have hn:=h.n6;obtain⟨v,hv⟩: ∃v,v=r.map ZP.q:=⟨_,rfl⟩;have hvl:v.length=r.length:=by rw[hv,aK]
 rw[<-hv];have hel:(ey r).length=r.length:=(rF h).1;have hrl:(od v).length=r.length:=by unfold od;rw[aK,List.length_range,hvl]
 refine NT func74 J J ntmps74 J J (fun C h0=>?_);refine OK J J J Pe (fun _=>J) (fun GB1 pv hg1 hpv=>?_);refine yk 3 0 50 222 17 J J J J J ?_;refine HN 3 2000003 h0.fx J ?_;refine P7 (σ:=Empty) (fun k=>[(2000003,some (.o 130 [.rw 50] true)),(50,some (.b 222 17 (((ey r).take k).map bj) true))]) (fun _=>True) (fun _=>[]) (fun _=>False) [(3, .ov 2000003 0)]
  h0 J (MW (by omega)) (.cons hpv .nil) ⟨J,trivial⟩ J ⟨J,J,trivial⟩ trivial JW J J (fun k e GB' hE hg hp=>?_) (fun D hD hx hp=>?_) (fun D s hD hx hq=>hq.elim)
 ·obtain⟨p,q,hpx,hqx,rfl⟩:=Nq hE
  rw[hvl] at hqx;rw[hv] at hpx hqx;obtain⟨hk,rfl⟩:=AJ hpx;obtain⟨hk2,rfl⟩:=AJ hqx;have hx:(ey r)[k]? =some (cI (r.getD k (0,0)) (d8 r k)):=J1 hk;have hml:(((ey r).take k).map bj).length=k:=by rw[aK,cJ];omega
  refine⟨?_,?_,fun C2=>?_,fun C2=>?_⟩
  rotate_left 2
  ·refine gx J<|MX J J J ⟨J,J,J⟩ J ?_
   exact atR
  ·refine gx J<|qI 0 (e:=141) (len:=2) (s:=6) J (by kernel_rfl) (by kernel_rfl) (by decide) J<|qI 1 (e:=141) (len:=2) (s:=6) J (by kernel_rfl) (by kernel_rfl) (by decide) J<|?_
   refine cl J (YS (h.le _ (t7 hk)) (h.le _ (vP hk)) (h.ne k hk)) J<|?_;refine rf J J<|ap (((ey r).take (k+1)).map bj) J (S0 hx) (zr [cI (r.getD k (0,0)) (d8 r k)]) J<|?_;refine fA 23 50 J ?_;exact rq trivial ⟨J,J,trivial⟩
 ·rw[hrl,<-hel,cM]
  refine gx J<|?_;refine iA 50 J ?_;exact Kv hD hx J J
def Xm{a i:Nat}[h:BN a i](hi:i<=1000000000:=by decide):PF GB prog 348 [dN a] (.v (.bool true)):=
 (MT (ds:=dg a) (ek _).2.1 (by have:=lm (a:=a) hi;omega)).to (by unfold vB;rw[decide_eq_true (ek a).2.2])
def Ja{q:Rat}{i:Nat}[hq:BQ q i](hi:i<=1000000:=by decide):PF GB prog 284 [eR q] (.v (.bool true)):=by
 have hd:=q.den_pos;have hdl:0<(dg q.den).length:=iY fun e=>by have:=tg.1 e;omega
 have hml:((dg q.den).map dU).length=(dg q.den).length:=aK ..;have hco:Nat.gcd q.num.natAbs q.den=1:=q.reduced;refine fn func284 J J ntmps284 J J (fun C=>?_);refine cl (fu:=⟨0⟩) J (Uc (m:=q.num) (i:=i) (h:=⟨hq.hn⟩) (by omega)) J<|?_;refine py 5 J ?_;refine gx J<|cl (fu:=⟨0⟩) J (Xm (a:=q.den) (i:=i) (h:=⟨hq.hd⟩) (by omega)) J<|?_;refine py 10 J ?_;refine gx (fu:=⟨6⟩) J<|d7 J (by show some (decide _)=some false;rw[decide_eq_false (by omega)]) J<|cl (fu:=⟨0⟩) J (Gv (a:=q.num.natAbs) (b:=q.den) (i:=i) (j:=i) (h:=⟨hq.hn⟩) (k:=⟨hq.hd⟩) (by omega) (by omega)) J<|?_;refine ak 24 (.d (dN 1)) J (by rw[hco]) ?_;refine gx J<|cl J (sj (a:=1) (i:=1) (h:=⟨by decide⟩)) J<|?_;exact rz J J
def QA{p:ab}{i:Nat}[hp:aI p i](hi:i<=1000000:=by decide):PF GB prog 189 [mm p] (.v (.bool true)):=by
 refine fn func189 J J ntmps189 J J (fun C=>?_);refine cl (fu:=⟨0⟩) J (Ja (q:=p.x) (i:=i) (by omega)) J<|?_;refine py 5 J ?_;refine gx J<|cl J (Ja (q:=p.y) (i:=i) (by omega)) J<|?_;exact rz J J
def lH(l:List ab)(p:ab):Int:=match l.findIdx? (fun q=>decide (q.x=p.x/\q.y=p.y)) with
 |some i=>(i:Nat)
 |none=> -1
def Cl{l:List ab}{p q:ab}{k:Nat}(hx:l[k]? =some q)(h:(l.take k).all (fun q=>!decide (q.x=p.x/\q.y=p.y))=true)(hq:q.x=p.x/\q.y=p.y):lH l p=(k:Nat):=by
 have hk:=(aM.1 hx).1;have e:l.findIdx? (fun q=>decide (q.x=p.x/\q.y=p.y))=some k:=by
  rw[List.findIdx?_eq_some_iff_getElem];refine⟨hk,?_,fun j hj=>?_⟩
  ·rw[(aM.1 hx).2];exact decide_eq_true hq
  ·have:=eK.1 h l[j] (by rw[List.mem_take_iff_getElem];exact⟨j,by omega,J⟩)
   simp at this⊢;intro a b;rcases this with k|k
   ·exact k a
   ·exact k b
 unfold lH;rw[e]
def TL{l:List ab}{p:ab}(h:l.all (fun q=>!decide (q.x=p.x/\q.y=p.y))=true):lH l p= -1:=by
 have e:l.findIdx? (fun q=>decide (q.x=p.x/\q.y=p.y))=none:=by
  rw[List.findIdx?_eq_none_iff];intro x hx;have:=eK.1 h x hx;simp at this⊢;intro a b;rcases this with k|k
  ·exact k a
  ·exact k b
 unfold lH;rw[e]
def S5{l:List ab}{k:Nat}{q:ab}{g:ab->Bool}(hx:l[k]? =some q)(h:(l.take k).all g=true)(hq:g q=true):(l.take (k+1)).all g=true:=by
 rw[fW,hx,List.all_append,h];simp[hq]
def YP{l:List ab}{p:ab}{i:Nat}[hp:aI p i](hl: ∀q∈l,aI q i)(hn:l.length<=100000)(hi:i<=1000000:=by decide):PF GB prog 191 [.sl (l.map eZ),eZ p] (vI (lH l p)):=by
 have hml:(l.map eZ).length=l.length:=aK ..;refine fn (fu:=⟨11⟩) func191 J J ntmps191 J J (fun C=>?_);refine ak 8 (.d (vI (l.length:Nat))) J (by rw[hml]<;>rfl) ?_;refine gx J<|?_;refine lp (X:=Nat) (fun k=>[(9, .d (vI (k:Nat)))]) (fun k=>[]) (fun k=>k<=l.length/\(l.take k).all (fun q=>!decide (q.x=p.x/\q.y=p.y))=true) (fun k=>l.length-k) 0 J ⟨bQ _,J⟩ (fun _=>J) (fun k hk=>?_);obtain⟨hk,hall⟩:=hk;refine br J J J (fun hc10=>?_) (fun hc10=>?_)
 .
  obtain⟨q,hx⟩: ∃u,l[k]? =some u:=⟨_,aZ (by omega)⟩;haveI:=hl q (bZ hx);refine ix _ J (d9 hx) J<|cl J (Iy (p:=q) (q:=p) (i:=i) hi) J<|?_;refine bd J J J (fun hc16=>?_) (fun hc16=>?_)
  .
   exact rz J (by rw[Cl hx hall hc16];rfl)
  .
   exact at_ (k+1) ⟨⟨by omega,S5 hx hall (by rw[decide_eq_false hc16];rfl)⟩,(by omega)⟩
 .
  obtain rfl:k=l.length:=by omega
  rw[cM] at hall;exact rz J (by rw[TL hall];rfl)
def eo(l:List ab):Nat->Nat
 |0=>0
 |k+1=>eo l k+if lH l (l.getD k ⟨0,0⟩)=(k:Nat) then 1 else 0
def kh(l:List ab)(k:Nat):Nat:=if 3<=eo l k then 3 else eo l k
def YT{l:List ab}{k:Nat}(h:kh l k<3)(e:eo l (k+1)=eo l k+1):((kh l k:Nat):Int)+1=((kh l (k+1):Nat):Int):=by
 have a:kh l k=if 3<=eo l k then 3 else eo l k:=J
 have b:kh l (k+1)=if 3<=eo l (k+1) then 3 else eo l (k+1):=J
 split at a<;>split at b<;>omega
def Lr{l:List ab}{k:Nat}(h: ¬kh l k<3\/eo l (k+1)=eo l k)(m:eo l k<=eo l (k+1)):((kh l k:Nat):Int)=((kh l (k+1):Nat):Int):=by
 have a:kh l k=if 3<=eo l k then 3 else eo l k:=J
 have b:kh l (k+1)=if 3<=eo l (k+1) then 3 else eo l (k+1):=J
 split at a<;>split at b<;>omega
def aFy(l:List ab)(k:Nat):kh l k<=3:=by unfold kh;split<;>omega
def awF{l:List ab}{k:Nat}(h:3<=eo l k):kh l k=3:=by unfold kh;rw[if_pos h]
def CS{l:List ab}{k:Nat}{p:ab}(hx:l[k]? =some p)(h:lH l p=(k:Nat)):eo l (k+1)=eo l k+1:=by
 rw[eo,aX,hx,jK,if_pos h]
def WU{l:List ab}{k:Nat}{p:ab}(hx:l[k]? =some p)(h: ¬lH l p=(k:Nat)):eo l (k+1)=eo l k:=by
 rw[eo,aX,hx,jK,if_neg h];rfl
def LL{l:List ab}{k:Nat}:eo l k<=eo l (k+1):=by rw[eo];split<;>omega
def Zf{v:List ab}{k:Nat}{p:ab}(h:v[k]? =some p):((v.take k).map eZ)++[eZ p]=(v.take (k+1)).map eZ:=by
 rw[fW,h,bT];rfl
def TU{r:List ZP}(h:cF r){k:Nat}(hk:k<r.length):decide ((r.getD k (0,0)).q.x=(d8 r k).q.x/\(r.getD k (0,0)).q.y=(d8 r k).q.y)=false:=decide_eq_false fun e=>h.ne k hk (xb (by
 obtain⟨e1,e2⟩:=e;generalize (r.getD k (0,0)).q=a at*;generalize (d8 r k).q=b at*
 cases a;cases b
 simp only[ab.mk.injEq];exact⟨e1,e2⟩))
def ZB{r:List ZP}(h:cF r)(h3:3<=eo (r.map ZP.q) (r.map ZP.q).length):PF GB prog 102 [mz r] (.tp [.sl ((r.map ZP.q).map eZ), .v .nilIface]):=by
 have hn:=h.n6;obtain⟨v,hv⟩: ∃v,v=r.map ZP.q:=⟨_,rfl⟩;have hvl:v.length=r.length:=by rw[hv,aK]
 have hb: ∀p∈v,aI p 22:=fun p hp=>by rw[hv] at hp;obtain⟨z,hz,rfl⟩:=bM.1 hp;exact tJ (h.le z hz)
 unfold mz;rw[<-hv] at h3⊢;have hm1:(v.map mm).length=v.length:=aK ..;have hm2:(v.map eZ).length=v.length:=aK ..;have hrl:(od v).length=v.length:=by unfold od;rw[aK,List.length_range]
 refine NT (fu:=⟨11⟩) func102 J J ntmps102 J J (fun C h0=>?_);refine ak 13 (.d (vI (v.length:Nat))) J (by rw[hm1]<;>rfl) ?_;refine gx (fu:=⟨0⟩) J<|d7 (fu:=⟨15⟩) J (by show some (decide _)=some false;rw[decide_eq_false (by omega)]) J<|?_;refine ak 20 (.d (vI (v.length:Nat))) J (by rw[hm1]<;>rfl) ?_;refine gx J<|?_;refine nr 4 4 141 6 J J J ?_;refine lp (X:=Nat) (fun k=>[(21, .d (vI (k:Nat))),(4, .rw 4)]) (fun k=>[(4,some (.b 141 6 ((v.take k).map eZ) true))]) (fun k=>k<=v.length) (fun k=>v.length-k) 0 J (bQ _) (fun _=>J) (fun k hk=>?_);have hm3:((v.take k).map eZ).length<=k:=by rw[aK,cJ];omega
 refine br (fu2:=⟨0⟩) J J J (fun hc22=>?_) (fun hc22=>?_)
 .
  obtain⟨p,hx⟩: ∃u,v[k]? =some u:=⟨_,aZ (by omega)⟩;haveI:=hb p (bZ hx);refine ix _ J (d9 hx) J<|cl (fu:=⟨0⟩) J (QA (p:=p) (i:=22)) J<|?_;refine py 27 J ?_;refine gx J<|cl J (Uj (p:=p) (i:=22)) J<|rf J J<|ap ((v.take (k+1)).map eZ) J (Zf hx) (YL [p]) J<|?_;refine fA 41 4 J ?_;exact at_ (k+1) ⟨(by omega),(by omega)⟩
 .
  obtain rfl:k=v.length:=by omega
  rw[cM];refine pp 4 J ?_;refine gx (fu:=⟨15⟩) J<|?_;refine ak 44 (.d (vI (v.length:Nat))) J (by rw[hm2]<;>rfl) ?_;refine gx J<|?_;refine lp (X:=Nat) (fun k=>[(45, .d (vI (k:Nat))),(7, .d (vI ((kh v k):Nat)))]) (fun k=>[]) (fun k=>k<=v.length) (fun k=>v.length-k) 0 J (bQ _) (fun _=>J) (fun k hk=>?_);have hdm:=aFy v k;refine br (fu2:=⟨9⟩) J J J (fun hc46=>?_) (fun hc46=>?_)
  .
   obtain⟨p,hx⟩: ∃u,v[k]? =some u:=⟨_,aZ (by omega)⟩;haveI:=hb p (bZ hx);have hcm:=LL (l:=v) (k:=k);refine ix _ J (d9 hx) J<|?_;refine cs 52 J J J (fun hg52=>?_) (fun hg52=>?_)
   .
    refine cl J (YP (l:=v) (p:=p) (i:=22) hb (by omega)) J<|?_;refine br J J J (fun hc58=>?_) (fun hc58=>?_)
    .
     have he7:=YT (by omega) (CS hx (by omega));refine ak 7 (.d (vI (kh v (k+1):Nat))) J (by rw[he7]<;>rfl) ?_;exact at_ (k+1) ⟨(by omega),(by omega)⟩
    .
     have he7:=Lr (.inr (WU hx (by omega))) hcm;refine ak 7 (.d (vI (kh v (k+1):Nat))) J (by rw[he7]<;>rfl) ?_;exact at_ (k+1) ⟨(by omega),(by omega)⟩
   .
    have he7:=Lr (l:=v) (k:=k) (.inl (by omega)) hcm;refine ak 7 (.d (vI (kh v (k+1):Nat))) J (by rw[he7]<;>rfl) ?_;exact at_ (k+1) ⟨(by omega),(by omega)⟩
  .
   obtain rfl:k=v.length:=by omega
   have hd3:=awF h3;refine d7 (fu:=⟨9⟩) J (by show some (decide _)=some false;rw[decide_eq_false (by omega)]) J<|?_;refine OK J J J Pe (fun _=>J) (fun GB1 pv hg1 hpv=>?_);refine HN 2 2000002 h0.fx J<|HN 3 2000003 h0.fx J ?_;refine P7 (σ:=Empty) (fun _=>[(2000002,some (.o 132 [.nl] true)),(2000003,some (.o 34 [.d (.v .nilIface)] true))]) (fun _=>True) (fun _=>[]) (fun _=>False) [(2, .ov 2000002 0),(3, .ov 2000003 0),(4, .d (.sl (v.map eZ)))] h0 J (MW (by omega)) (.cons hpv .nil) ⟨J,J,J,trivial⟩ J ⟨J,J,trivial⟩ trivial JW J J (fun k e GB' hE hg hp=>?_) (fun D hD hx hp=>?_) (fun D s hD hx hq=>hq.elim)
   ·obtain⟨p,q,hpx,hqx,rfl⟩:=Nq hE
    rw[hvl] at hqx;rw[hv] at hpx hqx;obtain⟨hk,rfl⟩:=AJ hpx;obtain⟨hk2,rfl⟩:=AJ hqx;haveI:=tJ (h.le _ (t7 hk));haveI:=tJ (h.le _ (vP hk));have hne:=TU h hk;refine⟨?_,?_,fun C2=>?_,fun C2=>?_⟩
    rotate_left 2
    ·refine gx J<|MX J J J ⟨J,J,J⟩ J ?_
     exact atR
    ·refine gx J<|qI 0 (e:=141) (len:=2) (s:=6) J (by kernel_rfl) (by kernel_rfl) (by decide) J<|qI 1 (e:=141) (len:=2) (s:=6) J (by kernel_rfl) (by kernel_rfl) (by decide) J<|?_
     refine cl J (Iy (p:=(r.getD k (0,0)).q) (q:=(d8 r k).q) (i:=22)) J<|?_;refine bd J J J (fun hc=>absurd (decide_eq_true hc) (by rw[hne];decide)) (fun hc=>?_);exact rq trivial ⟨J,J,trivial⟩
   ·refine gx J<|?_
    exact Kv hD hx J J
structure mc (r:List ZP):Prop where
 ok:cF r
 c3:3<=eo (r.map ZP.q) (r.map ZP.q).length
def rj(r:List ZP):DV:= .sl ((r.map ZP.q).map eZ)
def U8(l:List (List ZP)):cC 1 (l.map rj):=fun d hd=>by
 obtain⟨x,_,rfl⟩:=bM.1 hd;exact⟨J,J⟩
def Tf{L:List (List ZP)}{k:Nat}{l:List ZP}(h:L[k]? =some l):((L.take k).map rj)++[rj l]=(L.take (k+1)).map rj:=by
 rw[fW,h,bT];rfl
def I8{L:List (List ZP)}{k:Nat}{l:List ZP}(h:L[k]? =some l):((b9 (L.take k)).map bj)++((ey l).map bj)=(b9 (L.take (k+1))).map bj:=by
 rw[Hn h,bT]
def Vk{rs:List (List ZP)}(h: ∀r∈rs,mc r)(hn:rs.length<=200):PF GB prog 73 [.sl (rs.map mz)] (.tp [.sl (rs.map rj), .v .nilIface]):=by
 have hml:(rs.map mz).length=rs.length:=aK ..;refine fn (fu:=⟨11⟩) func73 J J ntmps73 J J (fun C=>?_);refine ak 10 (.d (vI (rs.length:Nat))) J (by rw[hml]<;>rfl) ?_;refine gx (fu:=⟨0⟩) J<|d7 (fu:=⟨15⟩) J (by show some (decide _)=some false;rw[decide_eq_false (by omega)]) J<|?_;refine ak 17 (.d (vI (rs.length:Nat))) J (by rw[hml]<;>rfl) ?_;refine gx J<|?_;refine nr 4 4 132 1 J J J ?_;refine lp (X:=Nat) (fun k=>[(18, .d (vI (k:Nat))),(4, .rw 4)]) (fun k=>[(4,some (.b 132 1 ((rs.take k).map rj) true))]) (fun k=>k<=rs.length) (fun k=>rs.length-k) 0 J (bQ _) (fun _=>J) (fun k hk=>?_);have hm3:((rs.take k).map rj).length<=k:=by rw[aK,cJ];omega
 refine br J J J (fun hc19=>?_) (fun hc19=>?_)
 .
  obtain⟨r,hx⟩: ∃u,rs[k]? =some u:=⟨_,aZ (by omega)⟩;have hr:=h r (bZ hx);refine ix _ J (d9 hx) J<|cl (fu:=⟨11⟩) J (ZB hr.ok hr.c3) J<|d7 J J J<|rf J J<|ap ((rs.take (k+1)).map rj) J (Tf hx) (U8 [r]) J<|?_;refine fA 33 4 J ?_;exact at_ (k+1) ⟨(by omega),(by omega)⟩
 .
  obtain rfl:k=rs.length:=by omega
  rw[cM];refine iA 4 J ?_;exact rz J J
def onR(rs:List (List ZP))(p:ab):Bool:=(b9 rs).any fun f=>HU f p
def ZX{fill n:Int}:PF GB prog 59 [vI fill,vI n] (vB (ng fill n)):=by
 refine fn func59 J J ntmps59 J J (fun C=>?_);refine br J J J (fun hc6=>?_) (fun hc6=>?_)
 .
  exact rz J (by show DV.v (.bool _)= .v (.bool _);unfold ng;simp_all)
 .
  refine br J J J (fun hc11=>?_) (fun hc11=>?_)
  .
   exact rz J (by show DV.v (.bool _)= .v (.bool _);unfold ng;simp_all)
  .
   exact rz J (by show DV.v (.bool _)= .v (.bool _);unfold ng;simp_all)
end Go.Sx
end
