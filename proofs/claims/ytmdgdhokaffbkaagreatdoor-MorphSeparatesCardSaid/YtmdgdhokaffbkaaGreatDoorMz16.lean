import Derived.Test.YtmdgdhokaffbkaaGreatDoorMz15
set_option linter.all false
set_option maxHeartbeats 4000000
set_option maxRecDepth 100000
section
namespace Go.Sx
open Go Go.Proofs Tryz
variable {GB G A:Gh}{l m l1:ah}{side fill a r0:Int}{f g:bt}{r:List ZP}{i n k nm ty len:Nat}{c ls:List ah}{y t:Tr}{u:ZP}{p q b b1 b2 b3 lo:Bool}{ns:List NQ}{es es0:List Int}{v e w:Value}{acs vs:List Value}{C:aG}{Q0:Exit->Act->World->Prop}{fr fr' fr1 fr2:aD}{own' own1 own2:aI}{cf cf' cf1 cf2:Cf}{vc vc1 vc2:List Prop}
def Xk(f:bt)(m:ah)(k:Nat):List bt:=if k=0 then [] else fH f m 1
def Y3(f:bt)(m:ah)(k:Nat):List bt:=if k<=1 then [] else fH f m (-1)
def Uu(hl:LB l)(hm:LB m)(hlo:l.ok): ∀v∈ju l m side,oo v:=fun v hv=>⟨(IE hl hm hlo v hv).2.1,(IE hl hm hlo v hv).2.2⟩
def AJ:(ju l m side).length<=1:=by
 unfold ju;split
 .split<;>simp
 .split<;>simp
def LO(op:Int)(a b:List ao):(pA op a b).length<=2*(a.length+b.length)+1:=by
 unfold pA wl;refine dZ Gl ?_;rw[aX,xS];have:=Ib (a++b);rw[aU] at this;omega
theorem omT{p:Prop}(h:p:=by first|(unfold fH;rw[if_pos hon,if_pos hon];rfl)|rfl):p:=h
def WK(h:lu f)[hm:LB m](hmo:m.ok):PF GB prog 201 [gn f,eL m] (.tp [.sl ((fH f m 1).map gn), .sl ((fH f m (-1)).map gn)]):=by
 haveI:=h.lb;refine fn func201 J J ntmps201 J J (fun C=>?_);refine rf (fu:=⟨1⟩) J J<|aj 14 (.d (vI (2:Nat))) J J<|gx J<|HF 6 0 60 207 14 J J J J J<|HF 6 1 61 207 14 J J J J J<|lp (X:=Nat) (fun k=>[(15, .d (vI (k:Nat))),(6, .ov 6 0)]) (fun k=>[(6,some (.o 364 [.rw 60, .rw 61] true)),(60,some (.b 207 14 ((Xk f m k).map gn) true)),(61,some (.b 207 14 ((Y3 f m k).map gn) true))]) (fun k=>k<=2) (fun k=>2-k) 0 J m5 (fun _=>J) (fun k hk=>?_);refine br J J J (fun hc16=>?_) (fun hc16=>?_)
 .
  rcases(show k=0\/k=1 by omega) with rfl|rfl
  .
   refine ix _ J J J<|cl (fu:=⟨0⟩) J (QR (l:=f.l) (m:=m) (side:=1) h.ok hmo (.inl J)) J<|?_;obtain⟨cs,hcs⟩: ∃c,c=pA 2 [f.v] (ju f.l m 1):=⟨_,rfl⟩;have hcl:cs.length<=5:=by rw[hcs];have h1:=LO 2 [f.v] (ju f.l m 1);have h2:=AJ (l:=f.l) (m:=m) (side:=1);simp only[iJ] at h1;omega
   refine aj 25 (.d (.tp [.sl ((ju f.l m 1).map eV),vB (mD f.l m)])) J J<|gx J<|bb J J J (fun hc28=>?_) (fun hc28=>?_)
   .
    have hon:mD f.l m=true:=hc28;exact rz J omT
   .
    have hon:mD f.l m=false:=by simpa using hc28
    refine rf J J<|cl (fu:=⟨0⟩) J (Vf (a:=[f.v]) (b:=ju f.l m 1) (fun v hv=>by rw[aY] at hv;subst hv;exact⟨h.lo,h.hi⟩) (Uu h.lb hm h.ok) (by show 1<=100;decide) (by have:=AJ (l:=f.l) (m:=m) (side:=1);omega)) J<|aj 33 (.d (.sl (cs.map eV))) J (by rw[hcs])<|gx (fu:=⟨1⟩) J<|aj 34 (.d (vI (cs.length:Nat))) J (by rw[fy eV cs]<;>rfl)<|gx J<|lp (X:=Nat) (fun j=>[(35, .d (vI (j:Nat)))]) (fun j=>[(60,some (.b 207 14 (((cs.take j).map fun v=>(⟨f.l,v⟩:bt)).map gn) true))]) (fun j=>j<=cs.length) (fun j=>cs.length-j) 0 J (bK _) (fun _=>J) (fun j hk=>?_);have hml:(((cs.take j).map fun v=>(⟨f.l,v⟩:bt)).map gn).length<=j:=by rw[aX,aX,bL];omega
    refine br J J J (fun hc36=>?_) (fun hc36=>?_)
    .
     obtain⟨z,hz⟩: ∃s,cs[j]? =some s:=⟨_,aZ m5⟩;refine ix _ J (cO hz) J<|pD 0 (e:=200) (len:=2) (s:=1) J v6 v6 pb J<|rf J J<|ap (((cs.take (j+1)).map fun v=>(⟨f.l,v⟩:bt)).map gn) J (by rw[<-wc hz,bX];rfl) (zJ [⟨f.l,z⟩]) J<|pD (hv:=by simp only[ak];exact⟨v6,m5⟩) 0 (e:=200) (len:=2) (s:=1) J v6 v6 pb J<|fI 48 60 J<|at_ (j+1) ⟨m5,m5⟩
    .
     obtain rfl:j=cs.length:=by omega
     rw[show(cs.take cs.length).map (fun v=>(⟨f.l,v⟩:bt))=fH f m 1 from by rw[dX];unfold fH;rw[if_neg (by rw[hon];decide),<-hcs]];exact at_ (0+1) ⟨m5,m5⟩
  .
   refine ix _ J J J<|cl (fu:=⟨0⟩) J (QR (l:=f.l) (m:=m) (side:= -1) h.ok hmo (.inr J)) J<|?_;obtain⟨cs,hcs⟩: ∃c,c=pA 2 [f.v] (ju f.l m (-1)):=⟨_,rfl⟩;have hcl:cs.length<=5:=by rw[hcs];have h1:=LO 2 [f.v] (ju f.l m (-1));have h2:=AJ (l:=f.l) (m:=m) (side:=(-1));simp only[iJ] at h1;omega
   refine aj 25 (.d (.tp [.sl ((ju f.l m (-1)).map eV),vB (mD f.l m)])) J J<|gx J<|bb J J J (fun hc28=>?_) (fun hc28=>?_)
   .
    have hon:mD f.l m=true:=hc28;exact rz J omT
   .
    have hon:mD f.l m=false:=by simpa using hc28
    refine rf J J<|cl (fu:=⟨0⟩) J (Vf (a:=[f.v]) (b:=ju f.l m (-1)) (fun v hv=>by rw[aY] at hv;subst hv;exact⟨h.lo,h.hi⟩) (Uu h.lb hm h.ok) (by show 1<=100;decide) (by have:=AJ (l:=f.l) (m:=m) (side:=(-1));omega)) J<|aj 33 (.d (.sl (cs.map eV))) J (by rw[hcs])<|gx (fu:=⟨1⟩) J<|aj 34 (.d (vI (cs.length:Nat))) J (by rw[fy eV cs]<;>rfl)<|gx J<|lp (X:=Nat) (fun j=>[(35, .d (vI (j:Nat)))]) (fun j=>[(61,some (.b 207 14 (((cs.take j).map fun v=>(⟨f.l,v⟩:bt)).map gn) true))]) (fun j=>j<=cs.length) (fun j=>cs.length-j) 0 J (bK _) (fun _=>J) (fun j hk=>?_);have hml:(((cs.take j).map fun v=>(⟨f.l,v⟩:bt)).map gn).length<=j:=by rw[aX,aX,bL];omega
    refine br J J J (fun hc36=>?_) (fun hc36=>?_)
    .
     obtain⟨z,hz⟩: ∃s,cs[j]? =some s:=⟨_,aZ m5⟩;refine ix _ J (cO hz) J<|pD 1 (e:=200) (len:=2) (s:=1) J v6 v6 pb J<|rf J J<|ap (((cs.take (j+1)).map fun v=>(⟨f.l,v⟩:bt)).map gn) J (by rw[<-wc hz,bX];rfl) (zJ [⟨f.l,z⟩]) J<|pD (hv:=by simp only[ak];exact⟨v6,m5⟩) 1 (e:=200) (len:=2) (s:=1) J v6 v6 pb J<|fI 48 61 J<|at_ (j+1) ⟨m5,m5⟩
    .
     obtain rfl:j=cs.length:=by omega
     rw[show(cs.take cs.length).map (fun v=>(⟨f.l,v⟩:bt))=fH f m (-1) from by rw[dX];unfold fH;rw[if_neg (by rw[hon];decide),<-hcs]];exact at_ (1+1) ⟨m5,m5⟩
 .
  obtain rfl:k=2:=by omega
  refine pD 0 (e:=200) (len:=2) (s:=1) J v6 v6 pb J<|pD 1 (e:=200) (len:=2) (s:=1) J v6 v6 pb J<|iH 60 J<|iH 61 J<|rz J omT
def uE(p:ZP):DV:=eP p.q
def uY(r:List ZP):DV:= .sl (r.map uE)
def Ip(h:i<r.length):(r.map uE)[((i:Nat):Int).toNat]? =some (uE (r.getD i (0,0))):=by
 rw[cX,cZ,aK,aZ h];rfl
def ZK(h:i<r.length):(r.map uE)[(((i+1)%r.length:Nat):Int).toNat]? =some (uE (ks r i)):=Ip (dJ _ m5)
def Wi(v w p:aa):(qq v w p).natAbs<=1:=by
 unfold qq;split<;>split<;>decide
theorem omz{p:Prop}(h:p:=by show vB _=vB _;unfold ue;congr 1;simp_all):p:=h
def aw6{n:Int}(hn:n.natAbs<=1000):PF GB prog 258 [vI fill,vI n] (vB (ue fill n)):=by
 refine fn func258 J J ntmps258 J J (fun C=>?_);refine cs 7 J J J (fun hg7=>?_) (fun hg7=>?_)
 .
  refine cs 12 J J J (fun hg12=>?_) (fun hg12=>?_)
  .
   exact rz J omz
  .
   refine cs 15 J J J (fun hg15=>?_) (fun hg15=>?_)
   .
    exact rz J omz
   .
    exact rz J omz
 .
  refine cs 15 J J J (fun hg15=>?_) (fun hg15=>?_)
  .
   exact rz J omz
  .
   exact rz J omz
def yr(r:List ZP):DV:= .sl ((r.map ZP.q).map oc)
def aIe(r:List ZP):DV.sl ((r.map ZP.q).map eP)=uY r:=by unfold uY;rw[sL];rfl
def ap9(out:List ah)(l:ah):(ql out l).length<=out.length+1:=by
 unfold ql;split
 .omega
 .simp;omega
def Sb(c:List ah): ∀(t out:List ah),(ow c t out).length<=out.length+t.length
 |[],out=>by simp[ow]
 |l::t,out=>by
  rw[ow];refine dZ (Sb c t _) ?_;have:=ap9 out l;split<;>simp<;>omega
def Am(c:List ah):(jl c).length<=c.length:=dZ (Sb c c []) vb
theorem Qn(h: ∀m∈c,LB m): ∀m∈jl c,LB m:=fun m hm=>h m (uD.1 hm).1
def OK(h: ∀m∈c,m.ok): ∀m∈jl c,m.ok:=fun m hm=>h m (uD.1 hm).1
def RJ(hc: ∀m∈c,LB m)(hok: ∀m∈c,m.ok)(hn:c.length<=900)(hl:LB l)(hlo:l.ok):PF GB prog 95 [.sl (c.map eL),eL l] (.sl ((jl (c++[l])).map eL)):=by
 have hcl:=xR c;refine fn func95 J J ntmps95 J J (fun C=>?_);refine sB J J<|ap (c.map eL) J J (eE _) J<|rf J J<|mz ((c++[l]).map eL) J omD (eE [l]) J<|cl J (aHu (c:=c++[l]) (yi hc hl) (n8 hok hlo) omg) J<|rz J J
def aAs{x u:Tr}:PF GB prog 94 [eL l,eT (.node l1 x y),eT u] (eT (.node l (.node l1 x y) u)):=by
 refine fn (fu:=⟨12⟩) func94 J J ntmps94 J J (fun C=>?_);refine c9 J J J<|iH 33 J<|rz J J
def YF{x:Tr}:PF GB prog 94 [eL l,eT (.leaf p),eT (.node l1 x y)] (eT (.node l (.leaf p) (.node l1 x y))):=by
 refine fn (fu:=⟨12⟩) func94 J J ntmps94 J J (fun C=>?_);refine d7 (fu:=⟨4⟩) J J J<|c9 J J J<|iH 33 J<|rz J J
def Xy:PF GB prog 94 [eL l,eT (.leaf p),eT (.leaf q)] (eT (Tr.joinQ l (.leaf p) (.leaf q))):=by
 refine fn (fu:=⟨12⟩) func94 J J ntmps94 J J (fun C=>?_);refine d7 (fu:=⟨4⟩) J J J<|d7 J J J<|bd J J J (fun hc27=>?_) (fun hc27=>?_)
 .
  exact rz J (by rw[show Tr.joinQ l (.leaf p) (.leaf q)= .leaf p by simp[Tr.joinQ,Tr.isLeaf,Tr.code,hc27]];rfl)
 .
  refine iH 33 J<|rz J (by rw[show Tr.joinQ l (.leaf p) (.leaf q)= .node l (.leaf p) (.leaf q) by simp[Tr.joinQ,Tr.isLeaf,Tr.code,hc27]];rfl)
def aJe: ∀{x y:Tr},PF GB prog 94 [eL l,eT x,eT y] (eT (Tr.joinQ l x y))
 | .leaf _, .leaf _=>Xy
 | .leaf _, .node .. =>YF
 | .node ..,_=>aAs
def aiV:PF GB prog 90 [eT (.leaf b), .sl (c.map eL)] (eT (Tr.restrictL (.leaf b) c)):=by
 refine fn (fu:=⟨11⟩) func90 J J ntmps90 J J (fun C=>?_);refine d7 J J J<|rz J J
def aiT{x:Tr}(hl:LB l)(hlo:l.ok)(hc: ∀m∈c,LB m)(hok: ∀m∈c,m.ok)(hn:c.length+(Tr.node l x y).depth<=900)(ihx: ∀{c:List ah},(∀m∈c,LB m)->(∀m∈c,m.ok)->c.length+x.depth<=900->PF GB prog 90 [eT x, .sl (c.map eL)] (eT (Tr.restrictL x c)))(ihy: ∀{c:List ah},(∀m∈c,LB m)->(∀m∈c,m.ok)->c.length+y.depth<=900->PF GB prog 90 [eT y, .sl (c.map eL)] (eT (Tr.restrictL y c))):PF GB prog 90 [eT (.node l x y), .sl (c.map eL)] (eT (Tr.restrictL (.node l x y) c)):=by
 have hdp:(Tr.node l x y).depth=1+Nat.max x.depth y.depth:=J;have hdx:x.depth<=Nat.max x.depth y.depth:=rL _ _;have hdy:y.depth<=Nat.max x.depth y.depth:=qN _ _;have hca:=Am (c++[l]);have hcb:=Am (c++[l.rev]);rw[aU,iJ] at hca hcb;refine fn (fu:=⟨11⟩) func90 J J ntmps90 J J (fun C=>?_);refine c9 J J J<|cl J (aE0 (c:=c) (l:=l) hc hok m5 hl hlo) J<|br J J J (fun hc16=>?_) (fun hc16=>?_)
 .
  refine cl J (ihx hc hok m5) J<|rz J (by rw[Tr.restrictL,if_pos hc16];rfl)
 .
  refine br J J J (fun hc24=>?_) (fun hc24=>?_)
  .
   refine cl J (ihy hc hok m5) J<|rz J (by rw[Tr.restrictL,if_neg hc16,if_pos hc24];rfl)
  .
   refine cl J (RJ (c:=c) (l:=l) hc hok m5 hl hlo) J<|cl J (ihx (c:=jl (c++[l])) (Qn (yi hc hl)) (OK (n8 hok hlo)) m5) J<|cl J (BV (l:=l)) J<|cl J (RJ (c:=c) (l:=l.rev) hc hok m5 hl.rev hlo.rev) J<|cl J (ihy (c:=jl (c++[l.rev])) (Qn (yi hc hl.rev)) (OK (n8 hok hlo.rev)) m5) J<|cl J aJe J<|rz J (by rw[Tr.restrictL,if_neg hc16,if_neg hc24];rfl)
def HZ: ∀{t:Tr} {c:List ah},t.all LB->t.all ah.ok->(∀m∈c,LB m)->(∀m∈c,m.ok)->c.length+t.depth<=900->PF GB prog 90 [eT t, .sl (c.map eL)] (eT (Tr.restrictL t c))
 | .leaf _,_,_,_,_,_,_=>aiV
 | .node l x y,c,hb,ho,hc,hok,hn=>aiT hb.1 ho.1 hc hok hn (fun h1 h2 h3=>HZ hb.2.1 ho.2.1 h1 h2 h3) (fun h1 h2 h3=>HZ hb.2.2 ho.2.2 h1 h2 h3)

def Q4(xs ys:List NQ)(n:NQ):((xs++(n::ys)).map eN)[((xs.length:Nat):Int).toNat]? =some (eN n):=by simp
def Pu(xs ys:List NQ)(n m:NQ)(e:DV)(h:e=eN m):((xs++(n::ys)).map eN).set ((xs.length:Nat):Int).toNat e=(xs++(m::ys)).map eN:=by subst h;simp
def YU:PB GB prog 67 (eh [some (eT (.leaf true)),none]) 8 233 (ns.map eN) (fun w=> .tp ([]++ .v (.slice w.a w.n w.c)::[.v (.int .i64 (Tr.num (.leaf true) ns.length))])) ((ns++Tr.wr (.leaf true) ns.length).map eN):=by
 refine KA (fu:=⟨12⟩) func67 J J ntmps67 J J (fun C=>?_);refine d7 (fu:=⟨9⟩) J J J<|d7 J J J<|?_;exact Ir J J J J J (by simp[Tr.wr]) J
def YG:PB GB prog 67 (eh [some (eT (.leaf false)),none]) 8 233 (ns.map eN) (fun w=> .tp ([]++ .v (.slice w.a w.n w.c)::[.v (.int .i64 (Tr.num (.leaf false) ns.length))])) ((ns++Tr.wr (.leaf false) ns.length).map eN):=by
 refine KA (fu:=⟨12⟩) func67 J J ntmps67 J J (fun C=>?_);refine d7 (fu:=⟨9⟩) J J J<|c9 J J J<|?_;exact Ir J J J J J (by simp[Tr.wr]) J
theorem okn{p:Prop}(h:p:=by rw[bX]<;>rfl):p:=h
def Y6{l:ah}{s u:Tr}{ns:List NQ}(hl:BL l 96)(hs:ns.length+(1+s.size+u.size)<=1000000)(ihs: ∀{ns:List NQ},ns.length+s.size<=1000000->PB GB prog 67 (eh [some (eT s),none]) 8 233 (ns.map eN) (fun w=> .tp ([]++ .v (.slice w.a w.n w.c)::[.v (.int .i64 (Tr.num s ns.length))])) ((ns++Tr.wr s ns.length).map eN))(ihu: ∀{ns:List NQ},ns.length+u.size<=1000000->PB GB prog 67 (eh [some (eT u),none]) 8 233 (ns.map eN) (fun w=> .tp ([]++ .v (.slice w.a w.n w.c)::[.v (.int .i64 (Tr.num u ns.length))])) ((ns++Tr.wr u ns.length).map eN)):PB GB prog 67 (eh [some (eT (.node l s u)),none]) 8 233 (ns.map eN) (fun w=> .tp ([]++ .v (.slice w.a w.n w.c)::[.v (.int .i64 (Tr.num (.node l s u) ns.length))])) ((ns++Tr.wr (.node l s u) ns.length).map eN):=by
 refine KA (fu:=⟨12⟩) func67 J J ntmps67 J J (fun C=>?_);refine c9 (fu:=⟨9⟩) J J J<|aj 20 (.d (.v (.int .i64 (ns.length:Nat)))) J vb<|gx J<|cl J (aLW hl) J<|rf J J<|Hk ((ns++[(⟨l,0,0⟩:NQ)]).map eN) J okn (aLA [(⟨l,0,0⟩:NQ)]) J<|cb _ J (ihs (ns:=ns++[(⟨l,0,0⟩:NQ)]) omg) J J<|cb (hv:=by simp only[ak];exact omg) ((ns++((⟨l,0,0⟩:NQ)::(s.wr (ns.length+1)++u.wr (ns.length+1+s.size)))).map eN) J (ihu (ns:=ns++[(⟨l,0,0⟩:NQ)]++s.wr (ns++[(⟨l,0,0⟩:NQ)]).length) (by simp[Tr.wr_len];omega)) (by simp[Tr.wr_len,lR,lK 1]) J<|sb (hv:=by simp only[ak];exact omg) (eN ⟨l,0,0⟩) ((ns++((⟨l,s.num (ns.length+1),0⟩:NQ)::(s.wr (ns.length+1)++u.wr (ns.length+1+s.size)))).map eN) J (Q4 ns _ ⟨l,0,0⟩) J (by rw[Pu _ _ _ ⟨l,s.num (ns.length+1),0⟩ _ (by simp[eN,DV.cells])]) J<|sb (eN ⟨l,s.num (ns.length+1),0⟩) ((ns++Tr.wr (.node l s u) ns.length).map eN) J (Q4 ns _ ⟨l,s.num (ns.length+1),0⟩) J (by rw[Pu _ _ _ ⟨l,s.num (ns.length+1),u.num (ns.length+1+s.size)⟩ _ (by simp[eN,DV.cells,Tr.wr_len,lR,lK 1])];simp[Tr.wr]) J<|?_;exact Ir J J J J J J J
def F2: ∀{t:Tr} {ns:List NQ},t.all (fun l=>BL l 96)->ns.length+t.size<=1000000->PB GB prog 67 (eh [some (eT t),none]) 8 233 (ns.map eN) (fun w=> .tp ([]++ .v (.slice w.a w.n w.c)::[.v (.int .i64 (Tr.num t ns.length))])) ((ns++Tr.wr t ns.length).map eN)
 | .leaf true,ns,_,_=>YU
 | .leaf false,ns,_,_=>YG
 | .node l s u,ns,hb,hs=>Y6 hb.1 hs (fun h=>F2 hb.2.1 h) (fun h=>F2 hb.2.2 h)
def Z7(hb:t.all (fun l=>BL l 96))(hs:t.size<=1000000):PF GB prog 23 [eT t] (eA t):=by
 refine fn func23 J J ntmps23 J J (fun C=>?_);refine Zi _ J (F2 (t:=t) (ns:=[]) hb (by simpa using hs)) J J<|iH 6 J<|rz J J
def XK(ds:List Int):dm 1 (ds.map vI):=fun d hd=>by
 obtain⟨n,_,rfl⟩:=aT.1 hd;exact⟨rfl,rfl⟩
def aAo(es:List Int):(es.map vI).take (min es.length 400)=(es.take 400).map vI:=by
 rw[gM];rcases Nat.le_total es.length 400 with h|h
 .rw[jZ h,bM vb,bM omv]
 .rw[Nat.min_eq_right h]
def XP(hb:es.length<=1125899906842624):PN GB prog 6 [.sl (es.map vI)] 85 Unit (fun _=>[.sl ((es.take 400).map vI), .v (.int .i64 (0:Nat))]):=by
 have hel:(es.map vI).length=es.length:=by simp
 refine fnN func6 J J ntmps6 J J (fun C hmb=>?_);refine kt 0 (min es.length 400) ((es.take 400).map vI) J J (by rw[hel];show(if _ then _ else _:Int)=_;split<;>omega) (aAo es) (XK _) m5 m5 J<|?_;exact rzN () J J J J J
def ayF(hb:t.all LB)(hok:t.all ah.ok)(hd:t.depth<=900):PF GB prog 35 [eT t] (eT (t.restrict [])):=by
 refine fn func35 J J ntmps35 J J (fun C=>?_);refine cl J (HZ (t:=t) (c:=[]) hb hok vb vb (by simpa using hd)) J<|rz J (by rw[<-Tr.restrictL_eq t [] [] hok vb bG.nil (fun p=>by unfold bw dP;simp)];rfl)
def Oh{cuts:List Rat}{marks:List Bool}: ∀k,2*(gA cuts marks k).length<=k+(if 0<k/\marks.getD (k-1) false=true then 1 else 0)
 |0=>by rw[gA];simp
 |k+1=>by
  have ih:=Oh (cuts:=cuts) (marks:=marks) k;rw[gA];simp only[mL];by_cases hm:marks.getD k false=true
  .rw[if_pos hm,if_pos (show 0<k+1/\marks.getD k false=true from⟨m5,hm⟩)]
   by_cases hp:0<k/\marks.getD (k-1) false=true
   .rw[if_pos hp] at ih⊢
    cases hv:(gA cuts marks k).getLast? with
    |some v=>
     have:0<(gA cuts marks k).length:=by
      cases e:gA cuts marks k with
      |nil=>rw[e] at hv;simp at hv
      |cons a t=>simp
     show 2*((gA cuts marks k).dropLast++[_]).length<=_;rw[aU,nZ,iJ];omega
    |none=>
     have:gA cuts marks k=[]:=List.getLast?_eq_none_iff.1 hv;simp only[this];simp
   .rw[if_neg hp] at ih⊢
    rw[aU,iJ];omega
  .rw[if_neg hm]
   split at ih<;>split<;>omega
def aAL(op:Int)(a b:List ao):(pA op a b).length<=a.length+b.length+1:=by
 unfold pA wl;have h:=Oh (cuts:=ja (a++b)) (marks:=(cx (ja (a++b))).map fun t=>oH op (gD a t) (gD b t)) ((cx (ja (a++b))).map fun t=>oH op (gD a t) (gD b t)).length;have h2:=Ib (a++b);rw[aU] at h2;have h3:((cx (ja (a++b))).map fun t=>oH op (gD a t) (gD b t)).length=(ja (a++b)).length+1:=by rw[aX,xS]
 split at h<;>omega
def JS(f:bt)(m:ah)(side:Int):(fH f m side).length<=3:=by
 unfold fH;split
 .simp
 .rw[aX]
  have:=aAL 2 [f.v] (ju f.l m side);have h2:=AJ (l:=f.l) (m:=m) (side:=side);rw[iJ] at this;omega
theorem Yu{p v:aa}{s:Rat}[hp:aC p 4500][hv:aC v 97][hm:LB m](hs:BQ s 60000):BQ (ph p v m s) 60000:=by
 unfold ph uz;split
 .exact hs
 .split
  .exact hs
  .split
   .split
    .haveI:BQ (-(m.value p/(m.value (cd p v ((1:Int):Rat))-m.value p))) 45000:=BQ.mono inferInstance
     exact BQ.mono (inferInstance:BQ (-(m.value p/(m.value (cd p v ((1:Int):Rat))-m.value p))/2) _)
    .exact hs
   .exact hs
theorem Ux{p v:aa}[hp:aC p 4500][hv:aC v 97]: ∀{c:List ah} {s:Rat},(∀m∈c,LB m)->BQ s 60000->BQ (nv p v c s) 60000
 |[],_,_,hs=>hs
 |m::t,s,hc,hs=>by
  haveI:=hc m aQ;exact Ux (c:=t) (fun q hq=>hc q (aJ _ hq)) (Yu hs)
theorem N9{c:List ah}(hc: ∀m∈c,LB m)(hok: ∀m∈c,m.ok): ∀{t:List ah},(∀m∈t,m∈c)->aC (jx c t) 70000
 |[],_=>by
  have h0:BQ (0:Rat) 70000:=BQ.mono (k:=1) ⟨pb,pb⟩;exact⟨h0,h0⟩
 |m::t,h=>by
  have hm:=h m aQ;haveI:=hc m hm;rw[jx];split
  .have hbd:=Cz (v:=ao.all) (hok m hm).ne hc jc.all (BQ.mono (k:=1) ⟨pb,pb⟩) (BQ.mono (k:=1) ⟨pb,pb⟩)
   haveI:=hbd.1;haveI:=hbd.2;haveI hsb:=Se (v:=(gt m c ao.all).1) (i:=1200);haveI hpt:aC (m.at (kA (gt m c ao.all).1)) 4500:=by have:=aC.at m (kA (gt m c ao.all).1) (1200+1200+5);exact⟨this.x.mono pb,this.y.mono pb⟩
   haveI hvt:aC (f9 m.dir) 97:=inferInstance;haveI hns:BQ (nv (m.at (kA (gt m c ao.all).1)) (f9 m.dir) c ((1:Int):Rat)) 60000:=Ux hc (BQ.mono (k:=2) ⟨pb,pb⟩);have:=aC.mov (m.at (kA (gt m c ao.all).1)) (f9 m.dir) (nv (m.at (kA (gt m c ao.all).1)) (f9 m.dir) c ((1:Int):Rat)) 4500 97 60000;exact⟨this.x.mono pb,this.y.mono pb⟩
  .exact N9 hc hok (fun q hq=>h q (aJ _ hq))
def NZ{l:List bt}(h:l[k]? =some g):(l.take (k+1)).flatMap (fun g=>fH g m side)=(l.take k).flatMap (fun g=>fH g m side)++fH g m side:=by
 rw[dT,h,pV];simp
def Eg(l:List bt)(m:ah)(side:Int):(l.flatMap fun g=>fH g m side).length<=3*l.length:=by
 induction l with
 |nil=>simp
 |cons a t ih=>rw[kK,aU,aN];have:=JS a m side;omega
def aAj{acc:aa->Bool}:jg acc n [] c= .leaf (acc (jx c c)):=by cases n<;>rfl
def Yk(l:List bt):tE l.length l:=⟨l.map bt.l,by rw[aX];exact bW _,fun f hf=>⟨f.l,dQ hf, .inl J⟩⟩
def aG8(h:n<=18):n*3^n<=6973568802:=dZ (iS h (bT pb h)) pb

def cTd(l:ah)(p q:DV):List DV:=[.v (.bool false), .v (.bool false), .v (.bool (decide (l.a<0))),dN l.a.natAbs, .v (.bool (decide (l.b<0))),dN l.b.natAbs, .v (.bool (decide (l.c<0))),dN l.c.natAbs,p,q]
def aML{l1 l2 l3:List DV}(h:Is G (.ag [.v (.bool b1), .sl l1, .v (.bool b2), .sl l2, .v (.bool b3), .sl l3]) v): ∃x1 x2 x3:SV,v= .agg ⟨[.bool b1, .slice x1.a x1.n x1.c, .bool b2, .slice x2.a x2.n x2.c, .bool b3, .slice x3.a x3.n x3.c]⟩:=by
 obtain⟨m,rfl,g⟩:=eD.1 h;clear h;obtain⟨v1,m,rfl,h1,h⟩:=bj.1 g;obtain⟨v2,m,rfl,h2,h⟩:=bj.1 h;obtain⟨v3,m,rfl,h3,h⟩:=bj.1 h;obtain⟨v4,m,rfl,h4,h⟩:=bj.1 h;obtain⟨v5,m,rfl,h5,h⟩:=bj.1 h;obtain⟨v6,m,rfl,h6,h⟩:=bj.1 h;rw[fj] at h;subst h;obtain⟨_,x1,_,rfl,_,_⟩:=il.1 h2;obtain⟨_,x2,_,rfl,_,_⟩:=il.1 h4;obtain⟨_,x3,_,rfl,_,_⟩:=il.1 h6;rw[aO.1 h1,aO.1 h3,aO.1 h5];exact⟨x1,x2,x3,J⟩
def L1:IsLs G (cT (.leaf b)) [.bool true, .bool b, .bool false, .slice none 0 0, .bool false, .slice none 0 0, .bool false, .slice none 0 0, .pointer none, .pointer none]:=by
 have hs:Is G (.sl []) (.slice none 0 0):=il.2 ⟨0,⟨none,0,0⟩,[],J, .nil G 0, .nil⟩;exact .cons (aO.2 J) (.cons (aO.2 J) (.cons (aO.2 J) (.cons hs (.cons (aO.2 J) (.cons hs (.cons (aO.2 J) (.cons hs (.cons (aO.2 J) (.cons (aO.2 J) .nil)))))))))
def auQ{o:Nat}{a b c d f l r:Value}(h:dd acs o 8=some [a,b,c,d,e,f,l,r]):dd acs (o+0) 6=some [a,b,c,d,e,f]/\acs[o+6]? =some l/\acs[o+7]? =some r:=by
 obtain⟨_,hg⟩:=rE _ _ _ _ h;have h7:=hg 7 pb;have hlen:=(aS.1 h7).1;refine⟨?_,hg 6 pb,h7⟩;rw[l5 _ _ _ m5];congr 1;apply kL;intro i;rw[pS];split
 .rename_i hi
  rw[mQ];have:=hg i m5;rw[gQ,this]
  match i,hi with
  |0,_=>rfl
  |1,_=>rfl
  |2,_=>rfl
  |3,_=>rfl
  |4,_=>rfl
  |5,_=>rfl
 .rename_i hi
  rw[dR (by simp only[aN,eK];omega)]
def Z9{p q:DV}{a b c d f:Value}(h:Is G (eL l) (.agg ⟨[a,b,c,d,e,f]⟩))(hp:Is G p v)(hq:Is G q w):IsLs G (cTd l p q) [.bool false, .bool false,a,b,c,d,e,f,v,w]:=by
 obtain⟨m,e',g⟩:=eD.1 h
 cases e'
 obtain⟨h1,g⟩:=g.uncons;obtain⟨h2,g⟩:=g.uncons;obtain⟨h3,g⟩:=g.uncons;obtain⟨h4,g⟩:=g.uncons;obtain⟨h5,g⟩:=g.uncons;obtain⟨h6,g⟩:=g.uncons;exact .cons (aO.2 J) (.cons (aO.2 J) (.cons h1 (.cons h2 (.cons h3 (.cons h4 (.cons h5 (.cons h6 (.cons hp (.cons hq .nil)))))))))
def RN.of(n:NQ):RN:=⟨⟨decide (n.l.a<0),dg n.l.a.natAbs,decide (n.l.b<0),dg n.l.b.natAbs,decide (n.l.c<0),dg n.l.c.natAbs⟩,n.a,n.b⟩
def aB4(a:Int):sh (decide (a<0)) (dg a.natAbs)=a:=by
 unfold sh;rw[(gE _).1];split
 .rename_i h;have:=of_decide_eq_true h;omega
 .rename_i h;have: ¬a<0:=fun e=>h (decide_eq_true e);omega
def Li(a:Int):uS (decide (a<0)) (dg a.natAbs):=⟨(gE _).2.2,fun h=>w9.2 (by have:=of_decide_eq_true h;omega)⟩
def RN.of_l(n:NQ):(RN.of n).g.l=n.l:=by
 unfold RN.of RL.l;simp only[aB4]
def RN.of_sm{n:NQ}(h:LB n.l):(RN.of n).g.sm:=by
 have key: ∀a:Int,a.natAbs<2^96->bF (dg a.natAbs)/\(dg a.natAbs).length<=3:=fun a ha=>⟨(gE _).2.1,by have:=lx ha;omega⟩;exact⟨key _ h.bl.a,key _ h.bl.b,key _ h.bl.c⟩
def Tr.all_imp{p q:ah->Prop}(h: ∀l,p l->q l): ∀{t:Tr},t.all p->t.all q
 | .leaf _,_=>trivial
 | .node _ _ _,⟨h0,h1,h2⟩=>⟨h _ h0,Tr.all_imp h h1,Tr.all_imp h h2⟩
def m7.red_size(h:m7 k t)(hr:t.Red []):t.size<=k*(1+k):=by
 obtain⟨K,h1,h2,h3⟩:=h.am;exact dZ (Tr.size_le h2 hr h.gd.ok bG.nil h3) (iS h1 m5)
structure kw (k:Nat) (t:Tr):Prop where
 o:m7 k t
 s:t.size<=3000
def kw.gd{k:Nat}{t:Tr}(h:kw k t):t.gd:=h.o.gd
def kw.lb{k:Nat}{t:Tr}(h:kw k t):t.all LB:=h.o.gd.lb
def kw.ok{k:Nat}{t:Tr}(h:kw k t):t.all ah.ok:=h.o.gd.ok
def kw.bl{k:Nat}{t:Tr}(h:kw k t):t.all (fun l=>BL l 96):=Tr.all_imp (fun _ h=>h.bl) h.o.gd.lb
def m7.x(h:m7 k t)(hr:t.Red [])(hk:k<=54):kw k t:=
 ⟨h,dZ (h.red_size hr) (dZ (iS hk (show 1+k<=55 by omega)) pb)⟩
def En(rs:List (List ZP))(fill:Int):(iA rs fill).Red []:=Tr.restrict_red _ _
def jv(r:List ZP)(i k:Nat):Bool:=decide (k=i)||decide (k=(i+1)%r.length)||decide (0<s7 (r.getD i (0,0)).q (ks r i).q (r.getD k (0,0)).q)
def DN(r:List ZP):Bool:=(List.range r.length).all fun i=>(List.range r.length).all fun k=>jv r i k
def TB(hi:i<r.length)(hk:k<r.length)(h:jv r i k=false):DN r=false:=by
 rw[Bool.eq_false_iff];intro e;have:=(dW.1 ((dW.1 e) i (jU.2 hi))) k (jU.2 hk);rw[h] at this;cases this
def M1(h: ∀i,i<r.length-> ∀k,k<r.length->jv r i k=true):DN r=true:=
 dW.2 fun i hi=>dW.2 fun k hk=>h i (jU.1 hi) k (jU.1 hk)
def JK(a b c:ZP):s7 a.q b.q c.q=(kv (b.1-a.1,b.2-a.2) (c.1-a.1,c.2-a.2)).sign:=by
 have e:aa.cross (cd b.q a.q (-1)) (cd c.q a.q (-1))=((kv (b.1-a.1,b.2-a.2) (c.1-a.1,c.2-a.2):Int):Rat):=by
  unfold aa.cross cd kv ZP.q iP;push_cast;grind
 unfold s7;rw[e,lL]
def JR:0<a.sign↔0<a:=by
 rcases lU a 0 with h|h|h
 .rw[dY h];omega
 .subst h;simp
 .rw[eJ h];omega
def X6{p v:ZP}:DN (im p u v)=decide (0<kv u v):=by
 obtain⟨p1,p2⟩:=p;obtain⟨u1,u2⟩:=u;obtain⟨v1,v2⟩:=v;have e1:jv (im (p1,p2) (u1,u2) (v1,v2)) 0 2=decide (0<kv (u1,u2) (v1,v2)):=by
  unfold jv ks im kP;simp only[aN,eK,nT,jS,Nat.reduceAdd,Nat.reduceMod,JK,JR];simp[kv];congr 2
  all_goals (first|omega|grind)
 have e2:jv (im (p1,p2) (u1,u2) (v1,v2)) 1 0=decide (0<kv (u1,u2) (v1,v2)):=by
  unfold jv ks im kP;simp only[aN,eK,nT,jS,Nat.reduceAdd,Nat.reduceMod,JK,JR];simp[kv];constructor<;>intro h<;>grind
 have e3:jv (im (p1,p2) (u1,u2) (v1,v2)) 2 1=decide (0<kv (u1,u2) (v1,v2)):=by
  unfold jv ks im kP;simp only[aN,eK,nT,jS,Nat.reduceAdd,Nat.reduceMod,JK,JR];simp[kv];constructor<;>intro h<;>grind
 by_cases h:0<kv (u1,u2) (v1,v2)
 .rw[decide_eq_true h] at e1 e2 e3⊢
  refine M1 fun i hi k hk=>?_;have hl:(im (p1,p2) (u1,u2) (v1,v2)).length=3:=J;rw[hl] at hi hk;have hs: ∀j,jv (im (p1,p2) (u1,u2) (v1,v2)) j j=true:=fun j=>by unfold jv;simp
  have hn: ∀j,jv (im (p1,p2) (u1,u2) (v1,v2)) j ((j+1)%3)=true:=fun j=>by unfold jv;simp[hl]
  have h1:i=0\/i=1\/i=2:=by omega
  have h2:k=0\/k=1\/k=2:=by omega
  rcases h1 with rfl|rfl|rfl<;>rcases h2 with rfl|rfl|rfl<;>first|assumption|exact hs _|exact hn _
 .rw[decide_eq_false h] at e1⊢
  exact TB (i:=0) (k:=2) (by simp[im]) (by simp[im]) e1
def aye(hle: ∀p∈r,ZP.le 100 p)(h6:r.length<=6):PF GB prog 72 [.sl (r.map uE)] (vB (DN r)):=by
 have hm:=fy uE r;refine fn (fu:=⟨9⟩) func72 J J ntmps72 J J (fun C=>?_);refine aj 7 (.d (vI (r.length:Nat))) J oml<|gx (fu:=⟨8⟩) J<|aj 9 (.d (vI (r.length:Nat))) J oml<|gx J<|lp (X:=Nat) (fun i=>[(10, .d (vI (i:Nat)))]) (fun i=>[]) (fun i=>i<=r.length/\ ∀j,j<i-> ∀q,q<r.length->jv r j q=true) (fun i=>r.length-i) 0 J ⟨bK _,fun j hj=>absurd hj m5⟩ (fun _=>J) (fun i hk=>?_);obtain⟨i1,i2⟩:=hk;refine br (fu1:=⟨14⟩) J J J (fun hc11=>?_) (fun hc11=>?_)
 .
  have hir:i<r.length:=by omega
  refine aj 14 (.d (vI (r.length:Nat))) J oml<|gx J<|lp (X:=Nat) (fun k=>[(15, .d (vI (k:Nat)))]) (fun k=>[]) (fun k=>k<=r.length/\ ∀q,q<k->jv r i q=true) (fun k=>r.length-k) 0 J ⟨bK _,fun j hj=>absurd hj m5⟩ (fun _=>J) (fun k hk=>?_);obtain⟨k1,k2⟩:=hk;refine br (fu1:=⟨14⟩) J J J (fun hc16=>?_) (fun hc16=>?_)
  .
   have hkr:k<r.length:=by omega
   haveI hvb:aC (r.getD i (0,0)).q 12:=HN (hle _ (zN hir));haveI hwb:aC (ks r i).q 12:=HN (hle _ (Fi hir));haveI hub:aC (r.getD k (0,0)).q 12:=HN (hle _ (zN hkr));refine kC (fu1:=⟨6⟩) (v2:=fun hg20=>by simp only[ak];exact⟨v6,m5⟩) J J J J (fun hg20=>?_) (fun hg20=>?_)
   .
    refine aj 26 (.d (vI ((i+1)%r.length:Nat))) J okA<|gx (fu:=⟨0⟩) J<|kC (v2:=fun hg27=>by simp only[ak];exact⟨v6,m5⟩) J J J J (fun hg27=>?_) (fun hg27=>?_)
    .
     refine ix (fu:=⟨6⟩) _ J (Ip hir) J<|aj 38 (.d (vI ((i+1)%r.length:Nat))) J okA<|gx J<|ix _ J (ZK hir) J<|ix _ J (Ip hkr) J<|cl J (IS (a:=(r.getD i (0,0)).q) (b:=(ks r i).q) (c:=(r.getD k (0,0)).q) (i:=12) (j:=12) (k:=12)) J<|br J J J (fun hc47=>?_) (fun hc47=>?_)
     .
      have hcv:jv r i k=false:=by unfold jv;rw[decide_eq_false (show¬k=i by omega),decide_eq_false (show¬k=(i+1)%r.length by omega),decide_eq_false (show¬0<(s7 (r.getD i (0,0)).q (ks r i).q (r.getD k (0,0)).q) by omega)];rfl
      exact rz J (by rw[TB hir hkr hcv];rfl)
     .
      have hcv:jv r i k=true:=by unfold jv;rw[decide_eq_true (show 0<s7 _ _ _ by omega)];simp
      exact at_ (k+1) ⟨⟨m5,fun q hq=>by by_cases e:q=k;(subst e;exact hcv);exact k2 q m5⟩,m5⟩
    .
     have hcv:jv r i k=true:=by unfold jv;rw[decide_eq_true (show k=(i+1)%r.length by omega)];simp
     exact at_ (k+1) ⟨⟨m5,fun q hq=>by by_cases e:q=k;(subst e;exact hcv);exact k2 q m5⟩,m5⟩
   .
    have hcv:jv r i k=true:=by unfold jv;rw[decide_eq_true (show k=i by omega)];rfl
    exact at_ (k+1) ⟨⟨m5,fun q hq=>by by_cases e:q=k;(subst e;exact hcv);exact k2 q m5⟩,m5⟩
  .
   obtain rfl:k=r.length:=by omega
   exact at_ (i+1) ⟨⟨m5,fun j hj q hq=>by by_cases e:j=i;(subst e;exact k2 q m5);exact i2 j m5 q hq⟩,m5⟩
 .
  obtain rfl:i=r.length:=by omega
  exact rz J (by rw[M1 fun j hj q hq=>i2 j hj q hq];rfl)
def aID{p v:ZP}(h1:ZP.le 40 p)(h2:ZP.le 40 u)(h3:ZP.le 40 v): ∀q∈im p u v,ZP.le 100 q:=fun q hq=>by
 unfold ZP.le at*;simp only[im,kP,aV,fJ,or_false] at hq;rcases hq with rfl|rfl|rfl<;>((try dsimp only);omega)
def aq0{p v:ZP}(h1:ZP.le 40 p)(h2:ZP.le 40 u)(h3:ZP.le 40 v):PF GB prog 72 [.sl ((im p u v).map uE)] (vB (decide (0<kv u v))):=by
 have:=aye (GB:=GB) (r:=im p u v) (aID h1 h2 h3) (by simp[im]);rw[X6] at this;exact this
def ay6{b:Nat}(hes:es.length<=400){a:Nat}(ha:a<=es.length):PM GB prog 25 (nk [none] b) b 85 [.sl (es.map vI), .v (.int .i64 (a:Nat))] (uY (dE es a).1) [.sl (es.map vI), .v (.int .i64 ((dE es a).2:Nat))]:=by
 have hk0:=jf (n:=2) ha;have hx1:=jf (n:=3) hk0;have hy1:=jf (n:=3) hx1;have l1:=fp (es:=es) (n:=3) (a:=(au es 2 a).2);have l2:=fp (es:=es) (n:=3) (a:=(au es 3 (au es 2 a).2).2);refine Fh func25 J J ntmps25 J J (fun C b m lo hmb=>?_);refine cm J (fun b=>(pG (n:=2) hes ha)) J<|br J J J (fun hc13=>?_) (fun hc13=>?_)
 .
  have hz1:=jf (n:=2) hy1;have l3:=fp (es:=es) (n:=2) (a:=(au es 3 (au es 3 (au es 2 a).2).2).2);have l4:=fp (es:=es) (n:=2) (a:=(au es 2 (au es 3 (au es 3 (au es 2 a).2).2).2).2);refine cm J (fun b=>(pG (n:=3) hes hk0)) J<|cm J (fun b=>(pG (n:=3) hes hx1)) J<|cm J (fun b=>(pG (n:=2) hes hy1)) J<|cm J (fun b=>(pG (n:=2) hes hz1)) J<|cl J (oB (m:=(((au es 3 (au es 2 a).2).1:Int)-1)) (n:=(((au es 3 (au es 3 (au es 2 a).2).2).1:Int)-1))) J<|cl J (oB (m:=(((au es 3 (au es 2 a).2).1:Int)-1+1+((au es 2 (au es 3 (au es 3 (au es 2 a).2).2).2).1:Int))) (n:=(((au es 3 (au es 3 (au es 2 a).2).2).1:Int)-1))) J<|cl J (oB (m:=(((au es 3 (au es 2 a).2).1:Int)-1+1+((au es 2 (au es 3 (au es 3 (au es 2 a).2).2).2).1:Int))) (n:=(((au es 3 (au es 3 (au es 2 a).2).2).1:Int)-1+1+((au es 2 (au es 2 (au es 3 (au es 3 (au es 2 a).2).2).2).2).1:Int)))) J<|cl J (oB (m:=(((au es 3 (au es 2 a).2).1:Int)-1)) (n:=(((au es 3 (au es 3 (au es 2 a).2).2).1:Int)-1+1+((au es 2 (au es 2 (au es 3 (au es 3 (au es 2 a).2).2).2).2).1:Int)))) J<|rf J J<|?_;exact uk hmb J J (by rw[show dE es a=_ from if_pos hc13];rfl) (by rw[show dE es a=_ from if_pos hc13];rfl)
 .
  have hu1:=jf (n:=2) hy1;have hu2:=jf (n:=3) hu1;have hv1:=jf (n:=3) hu2;have m1:=fp (es:=es) (n:=2) (a:=(au es 3 (au es 3 (au es 2 a).2).2).2);have m2:=fp (es:=es) (n:=3) (a:=(au es 2 (au es 3 (au es 3 (au es 2 a).2).2).2).2);have m3:=fp (es:=es) (n:=3) (a:=(au es 3 (au es 2 (au es 3 (au es 3 (au es 2 a).2).2).2).2).2);have m4:=fp (es:=es) (n:=2) (a:=(au es 3 (au es 3 (au es 2 (au es 3 (au es 3 (au es 2 a).2).2).2).2).2).2);refine cm J (fun b=>(pG (n:=3) hes hk0)) J<|cm J (fun b=>(pG (n:=3) hes hx1)) J<|cl J (oB (m:=(((au es 3 (au es 2 a).2).1:Int)-1)) (n:=(((au es 3 (au es 3 (au es 2 a).2).2).1:Int)-1))) J<|cm J (fun b=>(pG (n:=2) hes hy1)) J<|cm J (fun b=>(pG (n:=3) hes hu1)) J<|cl J (oB (m:=(1+((au es 2 (au es 3 (au es 3 (au es 2 a).2).2).2).1:Int))) (n:=(((au es 3 (au es 2 (au es 3 (au es 3 (au es 2 a).2).2).2).2).1:Int)-1))) J<|cm J (fun b=>(pG (n:=3) hes hu2)) J<|cm J (fun b=>(pG (n:=2) hes hv1)) J<|cl J (oB (m:=(((au es 3 (au es 3 (au es 2 (au es 3 (au es 3 (au es 2 a).2).2).2).2).2).1:Int)-1)) (n:=(1+((au es 2 (au es 3 (au es 3 (au es 2 (au es 3 (au es 3 (au es 2 a).2).2).2).2).2).2).1:Int)))) J<|cl J (lB (n:=1)) J<|cl J (MY (m:=(((au es 3 (au es 2 a).2).1:Int)-1)) (n:=(((au es 3 (au es 3 (au es 2 a).2).2).1:Int)-1)) (m':=(1+((au es 2 (au es 3 (au es 3 (au es 2 a).2).2).2).1:Int))) (n':=(((au es 3 (au es 2 (au es 3 (au es 3 (au es 2 a).2).2).2).2).1:Int)-1)) (k:=1) m5 m5 m5 m5) J<|cl J (lB (n:=1)) J<|cl J (MY (m:=(((au es 3 (au es 2 a).2).1:Int)-1)) (n:=(((au es 3 (au es 3 (au es 2 a).2).2).1:Int)-1)) (m':=(((au es 3 (au es 3 (au es 2 (au es 3 (au es 3 (au es 2 a).2).2).2).2).2).1:Int)-1)) (n':=(1+((au es 2 (au es 3 (au es 3 (au es 2 (au es 3 (au es 3 (au es 2 a).2).2).2).2).2).2).1:Int))) (k:=1) m5 m5 m5 m5) J<|rf J J<|cl J (aq0 (p:=((((au es 3 (au es 2 a).2).1:Int)-1),(((au es 3 (au es 3 (au es 2 a).2).2).1:Int)-1))) (u:=((1+((au es 2 (au es 3 (au es 3 (au es 2 a).2).2).2).1:Int)),(((au es 3 (au es 2 (au es 3 (au es 3 (au es 2 a).2).2).2).2).1:Int)-1))) (v:=((((au es 3 (au es 3 (au es 2 (au es 3 (au es 3 (au es 2 a).2).2).2).2).2).1:Int)-1),(1+((au es 2 (au es 3 (au es 3 (au es 2 (au es 3 (au es 3 (au es 2 a).2).2).2).2).2).2).1:Int)))) ⟨m5,m5⟩ ⟨m5,m5⟩ ⟨m5,m5⟩) J<|bb J J J (fun hc76=>?_) (fun hc76=>?_)
  .
   refine cl J (oB (m:=0) (n:=0) pb pb) J<|cl J (oB (m:=1) (n:=0) pb pb) J<|cl J (oB (m:=0) (n:=1) pb pb) J<|rf J J<|?_;exact uk hmb J J (by rw[show dE es a=_ from(if_neg hc13).trans (congrArg (fun r=>(r,(au es 2 (au es 3 (au es 3 (au es 2 (au es 3 (au es 3 (au es 2 a).2).2).2).2).2).2).2)) (if_neg (by simpa using hc76)))];rfl) (by rw[show dE es a=_ from if_neg hc13])
  .
   exact uk hmb J J (by rw[show dE es a=_ from(if_neg hc13).trans (congrArg (fun r=>(r,(au es 2 (au es 3 (au es 3 (au es 2 (au es 3 (au es 3 (au es 2 a).2).2).2).2).2).2).2)) (if_pos (by simpa using hc76)))];rfl) (by rw[show dE es a=_ from if_neg hc13])
section
variable {own:aI}
end
def ZT(hb:es0.length<=1125899906842624)(he:es=es0.take 400):PN GB prog 6 [.sl (es0.map vI)] 85 Unit (fun _=>[.sl (es.map vI), .v (.int .i64 (0:Nat))]):=by
 subst he;exact XP hb
def LC(h:kw k t):PF GB prog 23 [eT t] (eA t):=Z7 h.bl (by have:=h.s;omega)
def Y2:Option ar->DV
 |some c=> .tp [.sl (c.map dx),vB true]
 |none=> .tp [.sl [],vB false]
def Vd{c:ar}(h:ls[k]? =some l):jE (ls.drop k) c=if cH c l then jE (ls.drop (k+1)) (bH c l) else none:=by
 obtain⟨hk,rfl⟩:=aS.1 h;rw[bV hk,jE]
def fE.nil:fE []:=fun s hs=>by cases hs
def aFY(hb: ∀l∈ls,LB l)(ho: ∀l∈ls,l.ok)(hn:ls.length<=10000):PF GB prog 223 [.sl (ls.map dt)] (Y2 (jE ls [])):=by
 have hm:=vj dt ls;refine fn (fu:=⟨25⟩) func223 J J ntmps223 J J (fun C=>?_);refine aj 9 (.d (vI (ls.length:Nat))) J oml<|gx J<|Bj 4 J<|Kw 5 (vB true) J J<|lp (X:=ar×Nat) (fun⟨c,k⟩=>[(10, .d (vI (k:Nat))),(4, .d (.sl (c.map dx))),(5, .d (vB true))]) (fun⟨c,k⟩=>[]) (fun⟨c,k⟩=>k<=ls.length/\fE c/\c.length<=k/\jE (ls.drop k) c=jE ls []) (fun⟨c,k⟩=>ls.length-k) ([],0) J ⟨bK _,fE.nil,bW _,J⟩ (fun _=>J) (fun⟨c,k⟩ hk=>?_);obtain⟨h1,h2,h3,h4⟩:=hk;dsimp only at*;refine br J J J (fun hc11=>?_) (fun hc11=>?_)
 .
  obtain⟨l,hx0⟩: ∃s,ls[k]? =some s:=⟨_,aZ m5⟩;haveI:=hb l (aW hx0);have hlo:=ho l (aW hx0);refine ix _ J (cO hx0) J<|cl J (JN (c:=c) (l:=l) hlo h2 m5) J<|bb J J J (fun hc21=>?_) (fun hc21=>?_)
  .
   refine bb J J J (fun hc24=>?_) (fun hc24=>?_)
   .
    exact rz J (by rw[<-h4,Vd hx0,if_neg (by simpa using hc21)];rfl)
   .
    exact rz J (by simp only[hc21] at hc24;simp at hc24)
  .
   refine aj 5 (.d (vB true)) J (by rw[show cH c l=true by simpa using hc21])<|at_ (bH c l,k+1) (by dsimp only;exact⟨⟨m5,tA (ho l (aW hx0)) h2,by have:=uB c l;omega,by rw[<-h4,Vd hx0,if_pos (by simpa using hc21)]⟩,m5⟩)
 .
  refine bb J J J (fun hc24=>?_) (fun hc24=>?_)
  .
   exact rz J (absurd hc24 pb)
  .
   exact rz J (by rw[<-h4,jW m5];rfl)
def Xj{c:ar}(hb: ∀l∈ls,LB l)(ho: ∀l∈ls,l.ok)(hn:ls.length<=10000)(h:jE ls []=some c):PF GB prog 223 [.sl (ls.map dt)] (.tp [.sl (c.map dx),vB true]):=by
 have:=aFY (GB:=GB) hb ho hn;rw[h] at this;exact this

section
variable {own:aI}{ops:Array Oper}{r:List Oper}{K:List Kt}
def aLS(k:Nat){d:DV}(hl:bi fr k=some (.d d))(h: ∀(GB':Gh) (pv:Value),b9 GB GB'->Is GB' d pv->av prog GB' C n Q0 ((k, .d (.v pv))::fr) own (.ops ops r K)):av prog GB C n Q0 fr own (.ops ops r K):=by
 refine⟨fun ρ G ov a w r0=>?_⟩;obtain⟨y,hy,hy'⟩:=r0.fx k _ hl;refine(h G y r0.gb hy').run ρ G ov a w ⟨b9.refl _,r0.h,r0.sz,r0.df,fun j f e=>?_,r0.bx,r0.dj,r0.fxd⟩;rw[li] at e;split at e
 .rename_i hj
  cases e;subst hj
  exact⟨y,hy,(aO (G:=G)).2 J⟩
 .exact r0.fx j f e
def S6(fr:aD)(own:aI)(cf:Cf):Option (TypeId×Nat×Nat×List FX×Bool×FX):=match de fr cf with
 |some ⟨_, .store t x y,_,_,_,_⟩=>match aP (cj fr cf) x with
  |some (.ov nm 0)=>match jd fr own cf nm with
   |some (.o ty cs lo)=>match aP (cj fr cf) y with
    |some fv=>some (t,nm,ty,cs,lo,fv)
    |_=>none
   |_=>none
  |_=>none
 |_=>none
def Gz[fu:Fu]{t e:Nat}{cs:List FX}{fv:FX}{j:TypeInfo}(h:S6 fr own cf=some (t,nm,ty,cs,lo,fv))(hu:prog.underlying t=some (.array len e))(hj:prog.info? t=some j)(hc:fv.okc=true/\fv.cells.length=j.size/\j.size=cs.length)
  (hgo:cF tt n fu.n fr own cf .un [(nm,some (.o ty (yh cs 0 fv.cells) lo))] []=⟨vc,fr',own',cf'⟩)(k:av prog GB C n Q0 fr' own' cf')
  (hv:autoParam (ak vc) cL._auto_1):av prog GB C n Q0 fr own cf:=by
 unfold S6 at h;split at h<;>try (cases h;done)
 rename_i hh;split at h<;>try (cases h;done)
 rename_i e1;split at h<;>try (cases h;done)
 rename_i hb;split at h<;>cases h;rename_i e2;obtain⟨c1,c2,c3⟩:=hc;have:lD prog t j.size:=⟨fun w=>BF hu w,fun w=>wR hj w⟩;refine us hh ?_ hgo hv k;intro hd tl tb K s1 s2 hf hk;refine⟨fun ρ G ov a w r Q=>?_⟩;have r1:=r.mono s1 s2;obtain⟨p,h1,h2⟩:=r1.ev e1;obtain⟨q,h3,h4⟩:=r1.ev e2;obtain⟨b,m,rfl,ha,h5,h6⟩:=r1.own h2 hb;obtain⟨h7,h8⟩:=h4.cells c1;obtain⟨own',u1,u2,u3⟩:=i9.of_mem (cs':=cP m 0 (aH q)) h6;exact FF h1 h3 u1 (by rw[h7.len,c2]) (by rw[h5.len,c3];omega) (dW.2 h8) hd (fun a' w' rl=>r.wrote (m:=m) (s2 _ _ hb) ha (h5.ov h7) u2 u3 hk rl) a w Q ⟨r.h,r.sz,dh a,r.df⟩
def aNU:TypeDesc->Bool
 | .struct _=>false
 | .array _ _=>false
 |_=>true
end
def tD(ns:List NQ):Nat->Tr->Prop
 |_, .leaf _=>True
 |k, .node l x y=>ns[k]? =some ⟨l,x.num (k+1),y.num (k+1+x.size)⟩/\tD ns (k+1) x/\tD ns (k+1+x.size) y
def tD.of: ∀{t:Tr} {ns a b:List NQ} {k:Nat},ns=a++t.wr k++b->a.length=k->tD ns k t
 | .leaf _,_,_,_,_,_,_=>trivial
 | .node l x y,ns,a,b,k,e,ha=>by
  simp only[Tr.wr,dK,iV] at e;refine⟨?_,tD.of (a:=a++[⟨l,x.num (k+1),y.num (k+1+x.size)⟩]) (b:=y.wr (k+1+x.size)++b) (by rw[e];simp) (by simp[ha]),tD.of (a:=a++⟨l,x.num (k+1),y.num (k+1+x.size)⟩::x.wr (k+1)) (b:=b) (by rw[e];simp) (by rw[aU,aN,Tr.wr_len,ha];omega)⟩;rw[e,fN m5,ha,qS];rfl
abbrev GS (x:SV) (ns:List NQ) (A:Gh):Prop:= ∃es,gH A 8 x es/\IsLs A (ns.map eN) es
def sK(n k:Nat):List Value:=uF n (fun j=>Nat.blt j k)
def MM(n k:Nat):(sK n k).length=n:=Rr _ _
def Sy(h:k<n):(sK n k)[k]? =some (.bool false):=J1 h (by rw[Bool.eq_false_iff,ne_eq,lY];omega)
def Uv(n k:Nat):(sK n k).set k (.bool true)=sK n (k+1):=by
 refine(Zh n k _).trans (congrArg _ (funext fun j=>?_));unfold yy;rw[oT,gS,lY,lY,Nat.beq_eq];omega
def LY{b:Int}(h:Is G (eN ⟨l,a,b⟩) v): ∃x1 x2 x3:SV,v= .agg ⟨[.bool (decide (l.a<0)), .slice x1.a x1.n x1.c, .bool (decide (l.b<0)), .slice x2.a x2.n x2.c, .bool (decide (l.c<0)), .slice x3.a x3.n x3.c, .int .i64 a, .int .i64 b]⟩/\
  Is G (eL l) (.agg ⟨[.bool (decide (l.a<0)), .slice x1.a x1.n x1.c, .bool (decide (l.b<0)), .slice x2.a x2.n x2.c, .bool (decide (l.c<0)), .slice x3.a x3.n x3.c]⟩):=aMA (n:=RN.of ⟨l,a,b⟩) h
def aJ5(h:Is G (.tp [dt l,vB true]) v): ∃n1 d1 p1 n2 d2 p2 n3 d3 p3,v= .tuple #[.agg ⟨[.int .i64 n1, .int .i64 d1, .pointer p1, .int .i64 n2, .int .i64 d2, .pointer p2, .int .i64 n3, .int .i64 d3, .pointer p3]⟩, .bool true]/\
  Is G (dt l) (.agg ⟨[.int .i64 n1, .int .i64 d1, .pointer p1, .int .i64 n2, .int .i64 d2, .pointer p2, .int .i64 n3, .int .i64 d3, .pointer p3]⟩):=by
 obtain⟨m,rfl,g⟩:=lh.1 h;obtain⟨v1,m,rfl,h1,h⟩:=bj.1 g;obtain⟨v2,m,rfl,h2,h⟩:=bj.1 h;rw[fj] at h;subst h;obtain⟨n1,d1,p1,n2,d2,p2,n3,d3,p3,rfl⟩:=aJy h1;rw[aO.1 h2];exact⟨_,_,_,_,_,_,_,_,_,J,h1⟩
def Wy(h:Is G (.tp [eL l,vB true]) v): ∃x1 x2 x3:SV,v= .tuple #[.agg ⟨[.bool (decide (l.a<0)), .slice x1.a x1.n x1.c, .bool (decide (l.b<0)), .slice x2.a x2.n x2.c, .bool (decide (l.c<0)), .slice x3.a x3.n x3.c]⟩, .bool true]/\
  Is G (eL l) (.agg ⟨[.bool (decide (l.a<0)), .slice x1.a x1.n x1.c, .bool (decide (l.b<0)), .slice x2.a x2.n x2.c, .bool (decide (l.c<0)), .slice x3.a x3.n x3.c]⟩):=by
 obtain⟨m,rfl,g⟩:=lh.1 h;obtain⟨v1,m,rfl,h1,h⟩:=bj.1 g;obtain⟨v2,m,rfl,h2,h⟩:=bj.1 h;rw[fj] at h;subst h;obtain⟨x1,x2,x3,rfl⟩:=aML h1;rw[aO.1 h2];exact⟨_,_,_,J,h1⟩
def XV[hl:LB l](ho:l.ok):PF GB prog 224 [eL l] (.tp [eL l,vB true]):=by
 have hm:(RN.of ⟨l,0,0⟩).g.nm:=⟨Li _,Li _,Li _⟩;refine(aIh (RN.of_sm (n:=⟨l,0,0⟩) hl) hm).to ?_;rw[Fb,if_pos hm,RN.of_l,decide_eq_true ⟨hm,ho⟩]
def OI(hv:IsLs G [eA t] vs): ∃x:SV,x.n=(t.wr 0).length/\vs=[.agg ⟨[.int .i64 (t.num 0), .slice x.a x.n x.c]⟩]/\GS x (t.wr 0) G:=by
 obtain⟨v0,m,rfl,h0,hm⟩:=bj.1 hv;rw[fj] at hm;subst hm;obtain⟨m,rfl,g⟩:=eD.1 h0;obtain⟨v1,m,rfl,h1,hm⟩:=bj.1 g;obtain⟨v2,m,rfl,h2,hm⟩:=bj.1 hm;rw[fj] at hm;subst hm;obtain⟨s0,x,es,rfl,hsl,hes⟩:=il.1 h2;rw[aO.1 h1];have hel:=hes.len;rw[aX] at hel;have hlen:=hsl.len;rw[hel] at hlen;refine⟨x,hlen,J,es,?_,hes⟩;rcases A' (s:=8) hsl hes (fun d hd=>by obtain⟨n,_,rfl⟩:=aT.1 hd;exact⟨rfl,rfl⟩) with e|e
 .exact⟨hsl.len,hsl.cap, .inl e⟩
 .rw[e] at hsl;exact hsl
theorem omL{p:Prop}(h:p:=by repeat (first|exact .hd .. |apply i9.tl)):p:=h
theorem okR{p:Prop}(h:p:=by rw[hel];exact hbn):p:=h
def Zb{x:SV}(hx:GS x ns A)(hn:ns.length<=1000000): ∀{t:Tr} {k:Nat},tD ns k t->k+t.size<=ns.length->t.all LB->t.all ah.ok-> ∀{G:Gh} {rb sb:Nat} {lo lo2:Bool},[GL A G]->
  lg prog 137 [.pointer (some ⟨rb,0,none⟩), .int .i64 (t.num k)] [⟨rb,[.slice x.a x.n x.c, .slice (some ⟨sb,0,none⟩) ns.length ns.length, .int .i64 k, .bool false],239,lo⟩,⟨sb,sK ns.length k,4,lo2⟩] G
   (fun v css G'=> ∃p,v= .pointer p/\Is G' (eU t) (.pointer p)/\css=[[.slice x.a x.n x.c, .slice (some ⟨sb,0,none⟩) ns.length ns.length, .int .i64 (k+t.size:Nat), .bool false],sK ns.length (k+t.size)]):=by
 obtain⟨es,hx,hes⟩:=hx;have hel:=hes.len;rw[aX] at hel;have hlen:=hx.len;rw[hel] at hlen;obtain⟨xa,xn,xc⟩:=x;simp only[] at hlen;subst hlen;intro t
 induction t with
 |leaf bb=>
  intro k _ _ _ _ G rb sb lo lo2 _;refine lg.intro func137 J J ntmps137 J ?_;intro C _ _;show St C _ _ [⟨rb,_,_,false⟩,⟨sb,_,_,false⟩] _ _
  cases bb
  case true=>
   refine sR<|sa J J<|zE<|gh<|xE<|sR<|sm J J<|sy (nn J J) J<|sm J J<|ss J J J J<|ss J J J J<|?_;refine sy (CU J J) J<|sa J J<|zE<|vq J<|sR<|sm J J<|sy (nn J J) J<|?_;refine sc (zC J J (PF.fn0 (uc (b:=true)) (.cons (aO.2 J) .nil)) J ?_);rintro _ G1 _ hp;obtain⟨p,rfl⟩:=xu hp;refine sa J J<|zE<|ml<|?_;exact uH (css:=[_,_]) (.tmp J .nil) J _ (List.Perm.refl _) (List.Sublist.refl _) ⟨p,J,hp,J⟩
  refine sR<|sa J J<|zE<|gh<|xE<|sR<|sm J J<|sy (nn J J) J<|sm J J<|gz J J (nj J) J<|gz J J (nn J J) J<|?_;refine sy (tz J J) J<|sa J J<|zE<|vq J<|sR<|sm J J<|sy (nn J J) J<|?_;refine sc (zC J J (PF.fn0 (uc (b:=false)) (.cons (aO.2 J) .nil)) J ?_);rintro _ G1 _ hp;obtain⟨p,rfl⟩:=xu hp;refine sa J J<|zE<|ml<|?_;exact uH (css:=[_,_]) (.tmp J .nil) J _ (List.Perm.refl _) (List.Sublist.refl _) ⟨p,J,hp,J⟩
 |node l tx ty ih1 ih2=>
  intro k ⟨h0,h1,h2⟩ hk ⟨hb,hb1,hb2⟩ ⟨ho,ho1,ho2⟩ G rb sb lo lo2 _;haveI:=hb;have hsz:k+(Tr.node l tx ty).size=k+1+tx.size+ty.size:=by simp only[Tr.size];omega
  rw[hsz] at hk⊢;have hbn:k<ns.length:=by omega
  obtain⟨z,hzi,hz⟩:=hes.get (i:=k) (by rw[cZ,h0];rfl);obtain⟨x1,x2,x3,rfl,hzg⟩:=LY hz;refine lg.intro func137 J J ntmps137 J ?_;intro C _ _;show St C _ [(0, .pointer (some ⟨rb,0,none⟩)),(1, .int .i64 (k:Int))] [⟨rb,[.slice xa ns.length xc, .slice (some ⟨sb,0,none⟩) ns.length ns.length, .int .i64 k, .bool false],_,false⟩,⟨sb,sK ns.length k,_,false⟩] _ _;refine sR<|sa J J<|zE<|gh<|xE<|sR<|sm J J<|sy (nn J J) J<|sm J J<|?_;refine yU 12 J (fun hg=>absurd hg m5) (fun hg=>?_);refine gz J J (nj J) J<|gz J J (nn J J) J<|sy (tz J J) J<|sa J J<|zE<|?_;refine w5 J (fun hc=>absurd hc m5) (fun _=>?_);refine sR<|sm J J<|sy (Fw J J) J<|sm J J<|?_;refine yU 22 J (fun hg=>absurd hg m5) (fun hg=>?_);refine gz J J (nj J) J<|gz J J (nj J) J<|gz J J (o9 J) J<|gz J J (ta J) J<|gz J J (pP J J) J<|gz J J (vh J) J<|gz J J (Hr J J) J<|sy (tz J J) J<|sm J J<|?_;refine yU 31 J (fun hg=>absurd hg m5) (fun hg=>?_);refine gz J J (nj J) J<|gz J J (o9 J) J<|gz J J (ta J) J<|gz J J (pP J J) J<|gz J J (nj J) J<|gz J J (wq J J) J<|?_;refine gz J J (pP (v:= .bool false) J (by rw[cX,jT];exact Sy hbn)) J<|sy (tz J J) J<|sa J J<|zE<|td J<|zK<|?_;refine sR<|sm J J<|sn J J<|sf J J<|oO J J J<|sm J J<|sy (wq J J) J<|?_;refine sc (vS J J (.tl _ _ _ _ _ _ _ _ (.hd ..)) (by rw[MM,cX,jT];exact hbn) J J ?_);rw[cX,jT,Uv];refine zE<|sR<|sm J J<|sn J J<|sf J J<|oO J J J<|sy (xp J J) J<|sn J J<|sf J J<|?_;refine sc (y4 J J J omL (nb J) J J ?_)
  rw[show(k:Int)+1=((k+1:Nat):Int) by omega];refine zE<|sR<|sm J J<|sn J J<|sf J J<|oO J J J<|sm J J<|sy (Yq (z:=⟨xa,ns.length,xc⟩) hx J J m5 (by show(k:Int)<(ns.length:Int);omega)) J<|?_;rw[cX];refine sy (YN (i:=k) hx J okR hzi) J<|?_;refine sc (wz J ?_);intro b5;refine sc (Dd J J J omL J (nb J) J J ?_);refine zE<|sR<|sf J J<|Fp J J J<|?_;refine sc (zC J J (PF.fn0 (aHW ho) (.cons (hzg.up GL.le) .nil)) J ?_);rintro _ G6 _ hw;obtain⟨n1,d1,p1,n2,d2,p2,n3,d3,p3,rfl,hwl⟩:=aJ5 hw;refine sm J J<|sx J J J<|sx J J J<|?_;refine sc (wz J ?_);intro b6;refine sc (Dd J J J omL J (nb J) J J ?_);refine sa J J<|zE<|gh<|sR<|sm J J<|sy (uO J) J<|zE<|td J<|zK<|?_;refine sR<|sm J J<|sf J J<|oO J J J<|?_;have hrp:=ih1 h1 m5 hb1 ho1 (G:=G6) (rb:=rb) (sb:=sb) (lo:=false) (lo2:=false);refine sc (x7 J J (jJ (l₁:=[_,_]) (l₂:=[_,_])) hrp J ?_);rintro _ css G7 _ _ ⟨q1,rfl,hp1,rfl⟩;show St C _ _ [⟨rb,[.slice xa ns.length xc, .slice (some ⟨sb,0,none⟩) ns.length ns.length, .int .i64 (k+1+tx.size:Nat), .bool false],239,false⟩,⟨sb,sK ns.length (k+1+tx.size),4,false⟩,⟨b6,[.int .i64 n1, .int .i64 d1, .pointer p1, .int .i64 n2, .int .i64 d2, .pointer p2, .int .i64 n3, .int .i64 d3, .pointer p3],243,true⟩,⟨b5,[.bool (decide (l.a<0)), .slice x1.a x1.n x1.c, .bool (decide (l.b<0)), .slice x2.a x2.n x2.c, .bool (decide (l.c<0)), .slice x3.a x3.n x3.c, .int .i64 (tx.num (k+1)), .int .i64 (ty.num (k+1+tx.size))],233,true⟩] _ _
  refine sa J J<|zE<|gh<|?_;refine vL [⟨b6,[.int .i64 n1, .int .i64 d1, .pointer p1, .int .i64 n2, .int .i64 d2, .pointer p2, .int .i64 n3, .int .i64 d3, .pointer p3],243,true⟩,⟨b5,[.bool (decide (l.a<0)), .slice x1.a x1.n x1.c, .bool (decide (l.b<0)), .slice x2.a x2.n x2.c, .bool (decide (l.c<0)), .slice x3.a x3.n x3.c, .int .i64 (tx.num (k+1)), .int .i64 (ty.num (k+1+tx.size))],233,true⟩] (fun _=>false) [(0,true),(1,true),(2,true),(3,true),(4,true),(5,false),(6,false),(7,true)] follows v6<|?_;refine dL J J J J<|dM J J J<|dM J J J<|dF J J J<|rA J J J J<|?_;have hrp:=ih2 h2 hk hb2 ho2 (G:=G7) (rb:=rb) (sb:=sb) (lo:=false) (lo2:=false);refine dc J J (x7 J J (M:=[_,_]) (rest:=[_,_]) (List.Perm.refl _) hrp J ?_);rintro _ css G8 _ _ ⟨q2,rfl,hp2,rfl⟩;show St C _ _ [⟨rb,[.slice xa ns.length xc, .slice (some ⟨sb,0,none⟩) ns.length ns.length, .int .i64 (k+1+tx.size+ty.size:Nat), .bool false],239,false⟩,⟨sb,sK ns.length (k+1+tx.size+ty.size),4,false⟩,⟨b6,[.int .i64 n1, .int .i64 d1, .pointer p1, .int .i64 n2, .int .i64 d2, .pointer p2, .int .i64 n3, .int .i64 d3, .pointer p3],243,true⟩,⟨b5,[.bool (decide (l.a<0)), .slice x1.a x1.n x1.c, .bool (decide (l.b<0)), .slice x2.a x2.n x2.c, .bool (decide (l.c<0)), .slice x3.a x3.n x3.c, .int .i64 (tx.num (k+1)), .int .i64 (ty.num (k+1+tx.size))],233,true⟩] _ _;refine ng<|?_;refine dc J J (zC J J (PF.fn0 (Af (l:=l) (x:=tx) (y:=ty)) (.cons (hwl.up GL.le) (.cons (hp1.up GL.le) (.cons hp2 .nil)))) J ?_);rintro _ G9 _ hp;obtain⟨p,rfl⟩:=xu hp
  refine ng<|dA J J J<|dn<|ml<|?_;exact uH (css:=[_,_]) (.tmp J .nil) J _ (List.Perm.refl _) (.cons_cons _ (.cons_cons _ (kX _))) ⟨p,J,hp,J⟩
def aLI(hb:t.all LB)(ho:t.all ah.ok)(hs:t.size<=65536):PF GB prog 73 [eA t] (.tp [eU t,vB true]):=by
 intro G vs _ hv;obtain⟨⟨xa,xn,xc⟩,rfl,rfl,hx⟩:=OI hv;have hn:=t.wr_len 0;show Fn _ _ [.agg ⟨[.int .i64 (t.num 0), .slice xa (t.wr 0).length xc]⟩] _ _;refine Fn.intro func73 J J ntmps73 J ?_;intro C _ _;refine sR<|?_;refine sc (uU J J ?_);intro b1;refine sa J J<|sa J J<|zE<|gh<|sR<|sf J J<|oO J J J<|uL J J<|sy (Cd J J) J<|zE<|?_;refine w5 J (fun hc=>absurd hc m5) (fun _=>?_);refine zK<|gh<|dr (fun _=>false) [(0,true),(1,true),(2,true),(3,true),(4,true),(5,false),(6,true),(7,false),(8,true)] follows v6<|dF J J J<|?_;refine rA J J J J<|dF J J J<|rA J J J J<|dy J (fun _=>vh J) J J<|?_;refine dc J J (HD J J m5 m5 m5 okA J ?_);intro b2;rw[cX,S5];refine ng<|dy J (fun _=>xi J) J J<|?_;refine dc J J (uU J J ?_);intro b3;refine ng<|dA J J J<|dn<|sR<|sm J J<|sf J J<|oO J J J<|?_;refine sc (x7 J J (M:=[_,_]) (rest:=[_]) (List.Perm.refl _) (Zb hx m5 (tD.of (a:=[]) (b:=[]) (k:=0) vb J) m5 hb ho (G:=G) (rb:=b3) (sb:=b2) (lo:=true) (lo2:=true)) J ?_);rintro _ css G4 _ _ ⟨p,rfl,hp,rfl⟩;show St C _ _ [⟨b3,[.slice xa (t.wr 0).length xc, .slice (some ⟨b2,0,none⟩) (t.wr 0).length (t.wr 0).length, .int .i64 (0+t.size:Nat), .bool false],239,true⟩,⟨b2,sK (t.wr 0).length (0+t.size),4,true⟩,⟨b1,[.int .i64 (t.num 0), .slice xa (t.wr 0).length xc],69,true⟩] _ _;refine sa J J<|zE<|gh<|gh<|dr (fun _=>false) [(0,true),(1,true),(2,true),(3,true),(4,true),(5,true),(6,true),(7,true),(8,true),(9,true),(10,true),(11,true),(12,true),(13,true)] follows v6<|?_
 refine dM J J J<|dy J (fun _=>o9 J) J J<|dF J J J<|rA J J J J<|dM J J J<|?_;refine vU J J J J (fun _=>nj J) J<|vU J J J J (fun _=>o9 J) J<|vU J J J J (fun _=>ta J) J<|vU J J J J (fun _=>pP J J) J<|?_;refine vU J J J J (fun _=>ta J) J<|vU J J J J (fun _=>pP J J) J<|vU J J J J (fun _=>vh J) J<|vU J J J J (fun _=>NX J J) J<|?_;refine dy J (fun _=>tz J J) J J<|dn<|?_;refine w5 J (fun hc=>absurd hc m5) (fun _=>?_);refine zK<|sR<|sm J J<|sa J J<|sa J J<|zE<|ml<|?_;refine zD (.tmp J (.tmp J .nil)) ?_;exact lh.2 ⟨_,J, .cons hp (.cons (aO.2 J) .nil)⟩
def aLP{x:SV}(hx:GS x ns A)(hn:ns.length<=1000000): ∀{t:Tr} {k:Nat},tD ns k t->k+t.size<=ns.length->t.all LB->t.all ah.ok-> ∀{G:Gh} {sb:Nat} {lo2:Bool},[GL A G]->
  lg prog 151 [.agg ⟨[.int .i64 r0, .slice x.a x.n x.c]⟩, .int .i64 (t.num k), .slice (some ⟨sb,0,none⟩) ns.length ns.length] [⟨sb,sK ns.length k,4,lo2⟩] G
   (fun v css G'=> ∃q,v= .tuple #[.pointer q, .bool true]/\Is G' (eT t) (.pointer q)/\css=[sK ns.length (k+t.size)]):=by
 obtain⟨es,hx,hes⟩:=hx;have hel:=hes.len;rw[aX] at hel;have hlen:=hx.len;rw[hel] at hlen;obtain⟨xa,xn,xc⟩:=x;simp only[] at hlen;subst hlen;intro t
 induction t with
 |leaf bb=>
  intro k _ _ _ _ G sb lo2 _;refine lg.intro func151 J J ntmps151 J ?_;intro C _ _;show St C _ [(0, .agg ⟨[.int .i64 r0, .slice xa ns.length xc]⟩),(1, .int .i64 (UX bb)),(2, .slice (some ⟨sb,0,none⟩) ns.length ns.length)] [⟨sb,sK ns.length k,_,false⟩] _ _;refine sR<|?_;refine sc (uU J J ?_);intro b1;refine sa J J<|sa J J<|zE<|gh<|sR<|sm J J<|sy (nn J J) J<|sm J J<|?_
  cases bb
  case true=>
   refine ss J J J J<|ss J J J J<|sy (CU J J) J<|?_;refine zE<|vq J<|sR<|sm J J<|sy (nn J J) J<|sy (xi J) J<|?_;refine sc (uU J J ?_);intro b2;refine sa J J<|sa J J<|zE<|ml<|?_;refine Ay b2 (.hd ..) ?_;intro G9 _ hfz;exact uH (css:=[_]) (.tmp J (.tmp J .nil)) J (_::[_]) (jJ (l₁:=[_]) (l₂:=[_])) (.cons_cons _ (kX _)) ⟨_,J,mO.2 ⟨b2,_,J,hfz.h,L1⟩,J⟩
  refine gz J J (nj J) J<|gz J J (nn J J) J<|sy (tz J J) J<|?_;refine zE<|vq J<|sR<|sm J J<|sy (nn J J) J<|sy (xi J) J<|?_;refine sc (uU J J ?_);intro b2;refine sa J J<|sa J J<|zE<|ml<|?_;refine Ay b2 (.hd ..) ?_;intro G9 _ hfz;exact uH (css:=[_]) (.tmp J (.tmp J .nil)) J (_::[_]) (jJ (l₁:=[_]) (l₂:=[_])) (.cons_cons _ (kX _)) ⟨_,J,mO.2 ⟨b2,_,J,hfz.h,L1⟩,J⟩
 |node l tx ty ih1 ih2=>
  intro k ⟨h0,h1,h2⟩ hk ⟨hb,hb1,hb2⟩ ⟨ho,ho1,ho2⟩ G sb lo2 _;haveI:=hb;have hsz:k+(Tr.node l tx ty).size=k+1+tx.size+ty.size:=by simp only[Tr.size];omega
  rw[hsz] at hk⊢;have hbn:k<ns.length:=by omega
  obtain⟨z,hzi,hz⟩:=hes.get (i:=k) (by rw[cZ,h0];rfl);obtain⟨x1,x2,x3,rfl,hzg⟩:=LY hz;obtain⟨ab,aoff,acs,ha,hga,hca⟩:=hx.mem.resolve_left (fun e=>by rw[e] at hel;simp at hel;omega);simp only at ha;subst ha;haveI:uW A ab acs:=⟨hga⟩;obtain⟨hk0,hk6,hk7⟩:=auQ (by
   have h9:=hca k okR;rw[show es[k]' okR=_ from Option.some.inj ((aZ okR).symm.trans hzi)] at h9;exact h9)
  refine lg.intro func151 J J ntmps151 J ?_;intro C _ _;show St C _ [(0, .agg ⟨[.int .i64 r0, .slice (some ⟨ab,aoff,none⟩) ns.length xc]⟩),(1, .int .i64 (k:Int)),(2, .slice (some ⟨sb,0,none⟩) ns.length ns.length)] [⟨sb,sK ns.length k,_,false⟩] _ _;refine sR<|?_;refine sc (uU J J ?_);intro b1;refine sa J J<|sa J J<|zE<|gh<|sR<|sm J J<|sy (nn J J) J<|sm J J<|?_;refine yU 14 J (fun hg=>absurd hg m5) (fun hg=>?_);refine gz J J (nj J) J<|gz J J (nn J J) J<|sy (tz J J) J<|zE<|?_;refine w5 J (fun hc=>absurd hc m5) (fun _=>?_);refine zK<|gh<|sR<|sm J J<|sy (Fw J J) J<|sm J J<|?_;refine yU 24 J (fun hg=>absurd hg m5) (fun hg=>?_);refine gz J J (nj J) J<|gz J J (ta J) J<|gz J J (pP J J) J<|gz J J (vh J) J<|gz J J (Hr J J) J<|sy (tz J J) J<|sm J J<|?_;refine yU 31 J (fun hg=>absurd hg m5) (fun hg=>?_);refine gz J J (nj J) J<|gz J J (nj J) J<|gz J J (wq J J) J<|?_;refine gz J J (pP (v:= .bool false) J (by rw[cX,jT];exact Sy hbn)) J<|sy (tz J J) J<|zE<|td J<|?_;refine zK<|sR<|sm J J<|sm J J<|sy (wq J J) J<|?_;refine sc (vS J J (.tl _ _ _ _ _ _ _ _ (.hd ..)) (by rw[MM,cX,jT];exact hbn) J J ?_);rw[cX,jT,Uv];refine zE<|sR<|sf J J<|oO J J J<|sm J J<|sy (wK J J) J<|?_;rw[cX];refine sf J J<|slg J hk0 J<|?_;refine sc (zC J J (PF.fn0 (XV ho) (.cons (hzg.up GL.le) .nil)) J ?_);rintro _ G6 _ hw;obtain⟨y1,y2,y3,rfl,hw'⟩:=Wy hw;refine sm J J<|sx J J J<|sx J J J<|?_;refine sc (wz J ?_);intro b3;refine sc (Dd J J J omL J (nb J) J J ?_)
  refine sa J J<|zE<|gh<|sR<|sm J J<|sy (uO J) J<|zE<|?_;refine td J<|zK<|?_;show St C _ _ [⟨b3,[.bool (decide (l.a<0)), .slice y1.a y1.n y1.c, .bool (decide (l.b<0)), .slice y2.a y2.n y2.c, .bool (decide (l.c<0)), .slice y3.a y3.n y3.c],136,true⟩,⟨b1,[.int .i64 r0, .slice (some ⟨ab,aoff,none⟩) ns.length xc],69,true⟩,⟨sb,sK ns.length (k+1),4,false⟩] _ _;refine gh<|vL [⟨b1,[.int .i64 r0, .slice (some ⟨ab,aoff,none⟩) ns.length xc],69,true⟩] (fun _=>false) [(0,true),(1,true),(2,true),(3,true),(4,true),(5,true),(6,true),(7,true),(8,false),(9,true),(10,true),(11,true),(12,true),(13,true)] follows v6<|?_;refine dL J J J J<|dF J J J<|rA J J J J<|dM J J J<|?_;refine dy J (fun _=>wK J J) J J<|dF J J J<|?_;refine dy J (fun _=>te J wT (by rw[cX];exact hk6)) J J<|dM J J J<|?_;have hrp:=ih1 h1 m5 hb1 ho1 (G:=G6) (sb:=sb) (lo2:=false);refine dc J J (x7 J J (M:=[_]) (rest:=[_,_]) (jJ (l₁:=[_,_]) (l₂:=[_])) hrp J ?_);rintro _ css G7 _ _ ⟨a1,rfl,hq1,rfl⟩;show St C _ _ [⟨sb,sK ns.length (k+1+tx.size),4,false⟩,⟨b3,[.bool (decide (l.a<0)), .slice y1.a y1.n y1.c, .bool (decide (l.b<0)), .slice y2.a y2.n y2.c, .bool (decide (l.c<0)), .slice y3.a y3.n y3.c],136,true⟩,⟨b1,[.int .i64 r0, .slice (some ⟨ab,aoff,none⟩) ns.length xc],69,true⟩] _ _;refine ng<|dM J J J<|dy J (fun _=>xv J J) J J<|dy J (fun _=>xv J J) J J<|dA J J J<|?_;refine dA J J J<|dn<|?_;refine gh<|sR<|sm J J<|sy (uO J) J<|zE<|td J<|zK<|?_;refine gh<|vL [⟨b1,[.int .i64 r0, .slice (some ⟨ab,aoff,none⟩) ns.length xc],69,true⟩] (fun _=>false) [(0,true),(1,true),(2,true),(3,true),(4,true),(5,true),(6,true),(7,true),(8,false),(9,true),(10,true),(11,true),(12,true),(13,true)] follows v6<|?_
  refine dL J J J J<|dF J J J<|rA J J J J<|dM J J J<|?_;refine dy J (fun _=>wK J J) J J<|dF J J J<|?_;refine dy J (fun _=>te J wT (by rw[cX];exact hk7)) J J<|dM J J J<|?_;have hrp:=ih2 h2 hk hb2 ho2 (G:=G7) (sb:=sb) (lo2:=false);refine dc J J (x7 J J (M:=[_]) (rest:=[_,_]) (List.Perm.refl _) hrp J ?_);rintro _ css G8 _ _ ⟨a2,rfl,hq2,rfl⟩;show St C _ _ [⟨sb,sK ns.length (k+1+tx.size+ty.size),4,false⟩,⟨b3,[.bool (decide (l.a<0)), .slice y1.a y1.n y1.c, .bool (decide (l.b<0)), .slice y2.a y2.n y2.c, .bool (decide (l.c<0)), .slice y3.a y3.n y3.c],136,true⟩,⟨b1,[.int .i64 r0, .slice (some ⟨ab,aoff,none⟩) ns.length xc],69,true⟩] _ _;refine ng<|dM J J J<|dy J (fun _=>xv J J) J J<|dy J (fun _=>xv J J) J J<|dA J J J<|?_;refine dA J J J<|dn<|?_;refine sR<|Fp J J J<|sm J J<|sm J J<|sy (xi J) J<|?_;refine sc (uU J J ?_);intro b6;refine sm J J<|sa J J<|sa J J<|zE<|ml<|?_;refine Ay b6 (.hd ..) ?_;intro G9 _ hfz;exact uH (css:=[_]) (.tmp J (.tmp J .nil)) J (_::[_,_]) (List.Perm.refl _) (.cons_cons _ (kX _)) ⟨_,J,mO.2 ⟨b6,_,J,hfz.h,Z9 (hw'.up GL.le) (hq1.up GL.le) (hq2.up GL.le)⟩,J⟩
def aEM(hb:t.all LB)(ho:t.all ah.ok)(hs:t.size<=65536):PF GB prog 82 [eA t] (.tp [eT t,vB true]):=by
 intro G vs _ hv;obtain⟨⟨xa,xn,xc⟩,rfl,rfl,hx⟩:=OI hv;have hn:=t.wr_len 0;show Fn _ _ [.agg ⟨[.int .i64 (t.num 0), .slice xa (t.wr 0).length xc]⟩] _ _;refine Fn.intro func82 J J ntmps82 J ?_;intro C _ _;refine sR<|?_;refine sc (uU J J ?_);intro b1;refine sa J J<|sa J J<|zE<|gh<|sR<|sf J J<|oO J J J<|uL J J<|sy (Cd J J) J<|zE<|?_;refine w5 J (fun hc=>absurd hc m5) (fun _=>?_);refine zK<|sR<|sf J J<|oO J J J<|uL J J<|?_;refine sc (HD J J m5 m5 m5 okA J ?_);intro b2;rw[cX,S5];refine sa J J<|zE<|sR<|Fp J J J<|sf J J<|oO J J J<|sm J J<|?_;refine sc (x7 J J (M:=[_]) (rest:=[_]) (List.Perm.refl _) (aLP (r0:=t.num 0) hx m5 (tD.of (a:=[]) (b:=[]) (k:=0) vb J) m5 hb ho (G:=G) (sb:=b2) (lo2:=true)) J ?_);rintro _ css G3 _ _ ⟨q,rfl,hq,rfl⟩;show St C _ _ [⟨b2,sK (t.wr 0).length (0+t.size),4,true⟩,⟨b1,[.int .i64 (t.num 0), .slice xa (t.wr 0).length xc],69,true⟩] _ _;refine sm J J<|sx J J J<|sx J J J<|sa J J<|sa J J<|zE<|gh<|sR<|sm J J<|uL J J<|sm J J<|zE<|xE<|?_;refine Pb (X:=Nat) (fun i=>[(27, .int .i64 (i:Nat)),(26, .int .i64 (t.wr 0).length),(25, .slice (some ⟨b2,0,none⟩) (t.wr 0).length (t.wr 0).length),(6, .bool true),(5, .pointer q)]) (fun _=>[⟨b2,sK (t.wr 0).length (0+t.size),4,true⟩,⟨b1,[.int .i64 (t.num 0), .slice xa (t.wr 0).length xc],69,true⟩]) (fun i _=>i<=(t.wr 0).length) (fun i=>(t.wr 0).length-i) 0 (bK _) (.cons J (.cons J (.cons J (.cons J (.cons J .nil))))) J ?_;rintro i Gx _ hi;refine sR<|sy (Fw J J) J<|zE<|gh<|?_
 refine Pd J (fun hc=>?_) (fun hc=>?_)
 .refine UA<|DT<|DT<|RG<|sR<|sm J J<|sm J J<|sa J J<|sa J J<|zE<|ml<|?_
  exact zD (.tmp J (.tmp J .nil)) (lh.2 ⟨_,J, .cons (hq.up GL.le) (.cons (aO.2 J) .nil)⟩)
 have hi':i<(t.wr 0).length:=by omega
 refine zK<|gh<|xE<|sR<|sy (wq J J) J<|?_;refine sy (pP (v:= .bool true) J (by rw[cX,jT];exact J1 hi' (by rw[lY];omega))) J<|sa J J<|zE<|EC<|sm J J<|sm J J<|?_;refine gz J J (nj J) J<|sy (CU J J) J<|sa J J<|zE<|EC<|sy (xp J J) J<|sm J J<|zE<|?_;exact Gi (i+1) hi' m5 (.cons (by show some (Value.int _ _)=some (.int _ _);congr 2) (.cons J (.cons J (.cons J (.cons J .nil))))) J
def O1(h:kw k t):PF GB prog 73 [eA t] (.tp [eU t,vB true]):=aLI h.lb h.ok (by have:=h.s;omega)
end Go.Sx
end
