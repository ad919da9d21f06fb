import Derived.Test.YtefoocgiaegobaaGreatDoorPd13
import Derived.WalkKit
import Derived.LaidEql
import Derived.Stop.Asserts
import Derived.RowKitTokens
set_option linter.all false
set_option maxHeartbeats 2000000
set_option maxRecDepth 100000
section
namespace Go.Sx
open Go Go.Proofs Tryz
def Zg{G:Gh}{l:aa}{x y:Tr}{m:List Value}(h:IsLs G (cU (.node l x y)) m): ∃n1 d1 p1 n2 d2 p2 n3 d3 p3 q r,m=[.int .i64 n1, .int .i64 d1, .pointer p1, .int .i64 n2, .int .i64 d2, .pointer p2, .int .i64 n3, .int .i64 d3, .pointer p3, .pointer q, .pointer r, .bool false]/\
  Is G (eB l) (.agg ⟨[.int .i64 n1, .int .i64 d1, .pointer p1, .int .i64 n2, .int .i64 d2, .pointer p2, .int .i64 n3, .int .i64 d3, .pointer p3]⟩)/\Is G (eU x) (.pointer q)/\Is G (eU y) (.pointer r):=by
 obtain⟨v1,m,rfl,h1,h⟩:=bt.1 h;obtain⟨v2,m,rfl,h2,h⟩:=bt.1 h;obtain⟨v3,m,rfl,h3,h⟩:=bt.1 h;obtain⟨v4,m,rfl,h4,h⟩:=bt.1 h;obtain⟨v5,m,rfl,h5,h⟩:=bt.1 h;obtain⟨v6,m,rfl,h6,h⟩:=bt.1 h;obtain⟨v7,m,rfl,h7,h⟩:=bt.1 h;obtain⟨v8,m,rfl,h8,h⟩:=bt.1 h;obtain⟨v9,m,rfl,h9,h⟩:=bt.1 h;obtain⟨va,m,rfl,ha,h⟩:=bt.1 h;obtain⟨vb,m,rfl,hb,h⟩:=bt.1 h;obtain⟨vc,m,rfl,hc,h⟩:=bt.1 h;rw[dl] at h;subst h;obtain⟨_,rfl⟩:=Fq h3;obtain⟨_,rfl⟩:=Fq h6;obtain⟨_,rfl⟩:=Fq h9;obtain⟨_,rfl⟩:=Hw ha;obtain⟨_,rfl⟩:=Hw hb
 cases bc.1 h1;cases bc.1 h2;cases bc.1 h4;cases bc.1 h5;cases bc.1 h7;cases bc.1 h8;cases bc.1 hc
 exact⟨_,_,_,_,_,_,_,_,_,_,_,J,dG.2 ⟨_,J, .cons h1 (.cons h2 (.cons h3 (.cons h4 (.cons h5 (.cons h6 (.cons h7 (.cons h8 (.cons h9 .nil))))))))⟩,ha,hb⟩
def Yr{G:Gh}{b:Bool}{m:List Value}(h:IsLs G (cU (.leaf b)) m):m=[.int .i64 0, .int .i64 0, .pointer none, .int .i64 0, .int .i64 0, .pointer none, .int .i64 0, .int .i64 0, .pointer none, .pointer none, .pointer none, .bool b]:=by
 obtain⟨v1,m,rfl,h1,h⟩:=bt.1 h;obtain⟨v2,m,rfl,h2,h⟩:=bt.1 h;obtain⟨v3,m,rfl,h3,h⟩:=bt.1 h;obtain⟨v4,m,rfl,h4,h⟩:=bt.1 h;obtain⟨v5,m,rfl,h5,h⟩:=bt.1 h;obtain⟨v6,m,rfl,h6,h⟩:=bt.1 h;obtain⟨v7,m,rfl,h7,h⟩:=bt.1 h;obtain⟨v8,m,rfl,h8,h⟩:=bt.1 h;obtain⟨v9,m,rfl,h9,h⟩:=bt.1 h;obtain⟨va,m,rfl,ha,h⟩:=bt.1 h;obtain⟨vb,m,rfl,hb,h⟩:=bt.1 h;obtain⟨vc,m,rfl,hc,h⟩:=bt.1 h;rw[dl] at h;subst h
 cases bc.1 h1;cases bc.1 h2;cases bc.1 h3;cases bc.1 h4;cases bc.1 h5;cases bc.1 h6;cases bc.1 h7;cases bc.1 h8;cases bc.1 h9;cases bc.1 ha;cases bc.1 hb;cases bc.1 hc
 rfl
def Dy: ∀{t:Tr} {A A2 G:Gh} {p:Option Addr} {ob wb:Nat} {lo lo2:Bool} {x:SV} {zs:List ND} {ns:List NQ} {B:List ao},Is A (eU t) (.pointer p)->t.all LB->[GL A G]->[GL A2 G]->i8 8 149 x (zs.map ND.val) B->fH (qt 96 A2) zs ns->zs.length+t.size<=1000000->
  gO prog 170 [.pointer p, .pointer (some ⟨ob,0,none⟩), .pointer (some ⟨wb,0,none⟩)] (⟨ob,[.int .i64 0, .slice x.a x.n x.c],32,lo⟩::⟨wb,[mP ob wb],274,lo2⟩::B) G
   (fun v own' G'=> ∃x' zs' B',v= .int .i64 (t.num zs.length)/\own'=⟨ob,[.int .i64 0, .slice x'.a x'.n x'.c],32,false⟩::⟨wb,[mP ob wb],274,false⟩::B'/\i8 8 149 x' (zs'.map ND.val) B'/\fH (qt 96 G') zs' (ns++t.wr zs.length))
 | .leaf bb,A,A2,G,p,ob,wb,lo,lo2,x,zs,ns,B,h,_,_,_,hB,hz,hle=>by
  obtain⟨n,m,e,hg,hm⟩:=oC.1 (id h)
  cases e
  cases Yr hm
  have hG:uI A n _:=⟨hg⟩;have hz':fH (qt 96 G) zs (ns++[]):=by rw[jJ];exact hz.imp fun _ _ h=>h.up
  refine gO.intro func170 J J ntmps170 J ?_;intro C _ _;show St C _ _ (⟨ob,[.int .i64 0, .slice x.a x.n x.c],32,false⟩::⟨wb,[mP ob wb],274,false⟩::asB B) _ _;refine sR<|sa J J<|zE<|bH<|sR<|sm J J<|?_;refine sc (zC J J (PF.fn0 yh (.cons (h.up GL.le) .nil)) J ?_);rintro _ G1 _ hv
  cases bc.1 hv
  refine zE<|Aq J<|?_;refine bH<|sR<|sm J J<|sn J J<|sf J J<|U4 J J J<|zE<|?_
  cases bb
  case true=>
   refine Aq J<|sR<|sa J J<|zE<|dO<|?_;exact yw (.tmp J .nil) _ _ (List.Perm.refl _) (List.Sublist.refl _) ⟨x,zs,_,J,J,hB.asB,hz'.imp fun _ _ h=>h.up⟩
  refine Aw J<|zK<|sR<|sa J J<|zE<|dO<|?_;exact yw (.tmp J .nil) _ _ (List.Perm.refl _) (List.Sublist.refl _) ⟨x,zs,_,J,J,hB.asB,hz'.imp fun _ _ h=>h.up⟩
 | .node l s u,A,A2,G,p,ob,wb,lo,lo2,x,zs,ns,B,h,hall,_,_,hB,hz,hle=>by
  obtain⟨hlb,hall1,hall2⟩:=id hall;haveI:LB l:=hlb;obtain⟨n,m,e,hg,hm⟩:=oC.1 (id h)
  cases e
  obtain⟨n1,d1,p1,n2,d2,p2,n3,d3,p3,q,r,rfl,hzl,hs,hu⟩:=Zg hm;have hG:uI A n _:=⟨hg⟩;have hxn:=hB.len;have hzn:=hz.len;simp only[Tr.size] at hle;obtain⟨xa,xn,xc⟩:=x;rw[aK] at hxn;simp only[] at hxn;subst hxn;refine gO.intro func170 J J ntmps170 J ?_;intro C _ _;show St C _ _ (⟨ob,[.int .i64 0, .slice xa zs.length xc],32,false⟩::⟨wb,[mP ob wb],274,false⟩::asB B) _ _;replace hB:=hB.asB;generalize asB B=B at hB;refine sR<|sa J J<|zE<|bH<|sR<|sm J J<|?_;refine sc (zC J J (PF.fn0 Bc (.cons (h.up GL.le) .nil)) J ?_);rintro _ G1 _ hv
  cases bc.1 hv
  refine zE<|Aw J<|?_;refine zK<|sR<|sf J J<|KW J J J<|cD J J<|sa J J<|zE<|bH<|?_;refine Be [⟨ob,[.int .i64 0, .slice xa zs.length xc],32,false⟩] (fun i=>Nat.beq i 11) [(0,true),(1,true),(2,true),(3,true),(4,true),(5,true),(6,false),(7,true),(8,false),(9,false),(10,true),(11,false)] follows (by kernel_rfl)<|?_;refine dF J J J<|z' J J J J<|dM J J J<|dy J (fun _=>sM J) J J<|?_;refine dF J J J<|dy J (fun _=>Qk J FB J) J J<|?_;refine dc J J (zC J J (PF.fn0 (aDu (l:=l)) (.cons (hzl.up GL.le) .nil)) J ?_);rintro _ G2 _ hv;obtain⟨ia,ib,ic,rfl,hia,hib,hic⟩:=XR hlb.bl hv;refine qa<|dy J (fun _=>Es J) J J<|?_;refine dc J J (SA J (by rfl) (by rfl) (by decide) (by decide) J ?_);intro b3;refine qa<|?_;refine dc J J (Xw (v:=ND.val ⟨ia,ib,ic,0,0⟩) (vs:=zs.map ND.val) [_,_,_] rfl hB J J (vT inferInstance J) J (ND.flat [⟨ia,ib,ic,0,0⟩] _ aQ) (by decide) (by rw[aK];omega) J J ?_);intro x1 B1 hB1;rw[show zs.map ND.val++[ND.val ⟨ia,ib,ic,0,0⟩]=(zs++[(⟨ia,ib,ic,0,0⟩:ND)]).map ND.val by simp] at hB1;show St C _ _ (⟨b3,_,_,true⟩::⟨ob,[.int .i64 0, .slice xa zs.length xc],32,false⟩::⟨wb,[mP ob wb],274,false⟩::B1) _ _;refine qa<|dF J J J<|?_;refine dc J J (DY (cs':=[.int .i64 0, .slice x1.a x1.n x1.c]) J J J (.tl _ _ _ _ _ _ _ _ (.hd ..)) (nb J) J J ?_);refine Y8 J<|dn<|?_;refine O6 _ (qM _ _) ?_;have hz1:fH (qt 96 G2) (zs++[(⟨ia,ib,ic,0,0⟩:ND)]) (ns++[⟨l,0,0⟩]):=(hz.imp fun _ _ h=>h.up).app (.cons ⟨hia,hib,hic,J,J⟩ .nil);refine bH<|Be [⟨wb,[mP ob wb],274,false⟩] (fun _=>false) [(0,true),(1,true),(2,true),(3,true),(4,true),(5,false),(6,true)] follows (by kernel_rfl)<|?_
  refine z' J J J J<|dM J J J<|dy J (fun _=>sM J) J J<|dF J J J<|dy J (fun _=>Ah J FB J) J J<|?_;refine dc J J (Dx (c1:=[]) (M:=_::_::B1) (rest:=[]) J J (by rw[jJ]) (Dy (lo:=false) (lo2:=false) hs hall1 hB1 hz1 (by simp;omega)) J ?_);rintro _ _ G3 fl _ hf _ ⟨x2,K1,B2,rfl,rfl,hB2,hz2⟩;have e1:fl ob=false:=hf _ aQ J;have e2:fl wb=false:=hf _ (aJ _ aQ) J;replace hB2:=hB2.relo fl;refine EE (own':=⟨ob,[.int .i64 0, .slice x2.a x2.n x2.c],32,false⟩::⟨wb,[mP ob wb],274,false⟩::B2.map (relo fl)) (by simp only[bJ,relo,e1,e2,jJ]) ?_;generalize B2.map (relo fl)=B2 at hB2;have hl2:=hz2.len;simp only[aY,Tr.wr_len,fR] at hl2;refine qa<|dA J J J<|dn<|bH<|Be [⟨wb,[mP ob wb],274,false⟩] (fun _=>false) [(0,true),(1,true),(2,true),(3,true),(4,true),(5,false),(6,true)] follows (by kernel_rfl)<|?_;refine z' J J J J<|dM J J J<|dy J (fun _=>sM J) J J<|dF J J J<|dy J (fun _=>Ah J FB J) J J<|?_;refine dc J J (Dx (c1:=[]) (M:=_::_::B2) (rest:=[]) J J (by rw[jJ]) (Dy (lo:=false) (lo2:=false) hu hall2 hB2 hz2 (by omega)) J ?_);rintro _ _ G4 fl _ hf _ ⟨x3,wx,B3,rfl,rfl,hB3,hz3⟩;have e3:fl ob=false:=hf _ aQ J;have e4:fl wb=false:=hf _ (aJ _ aQ) J;replace hB3:=hB3.relo fl;refine EE (own':=⟨ob,[.int .i64 0, .slice x3.a x3.n x3.c],32,false⟩::⟨wb,[mP ob wb],274,false⟩::B3.map (relo fl)) (by simp only[bJ,relo,e3,e4,jJ]) ?_;generalize B3.map (relo fl)=B3 at hB3;have hl3:=hz3.len;simp only[aY,Tr.wr_len,fR] at hl3;have hn3:zs.length<wx.length:=by omega
  rcases hB3 with⟨h1,_,_⟩|⟨nb,rest,lo3,hx3,rfl,hf1,hf2,hf3⟩
  ·have:=congrArg List.length h1;rw[aK,iR] at this;omega
  obtain⟨x3a,x3n,x3c⟩:=x3;simp only[SV.mk.injEq] at hx3;obtain⟨rfl,rfl,_⟩:=hx3;rw[aK] at hf3;have hzz:ns.length=zs.length:=hzn.symm;obtain⟨zn,hzn1,hzn2⟩:=hz3.get (i:=zs.length) (b:=⟨l,0,0⟩) (by rw[dY,dY,<-hzz,iV (aL _),pX];rfl);obtain⟨_,hzn3⟩:=aM.1 hzn1;have hL1:(zs++[(⟨ia,ib,ic,0,0⟩:ND)]).length=zs.length+1:=by simp
  have hL2:K1.length=zs.length+1+s.size:=by omega
  rw[hL1] at hz3;rw[hL1,hL2];rw[hL2] at hz3;refine qa<|dA J J J<|dn<|?_;refine bH<|Be [⟨ob,[.int .i64 0, .slice (some ⟨nb,0,none⟩) (wx.map ND.val).length x3c],32,false⟩] (fun _=>false) [(0,true),(1,true),(2,true),(3,true),(4,true),(5,true),(6,true),(7,true),(8,true),(9,true),(10,false),(11,true),(12,true),(13,false)] follows (by kernel_rfl)<|?_;refine dF J J J<|z' J J J J<|dM J J J<|dF J J J<|?_;refine z' J J J J<|dM J J J<|dM J J J<|dM J J J<|dy J (fun _=>f9 J J (by omega) (by rw[aK];omega)) J J<|?_;refine dF J J J<|?_;refine dc J J (uO J J (.tl _ _ _ _ _ _ _ _ (.tl _ _ _ _ _ _ _ _ (.hd ..))) (by rw[aY,hf1,aK,bW];omega) J J ?_);rw[bW,IU wx rest zs.length 6 _ {zn with l:=s.num (zs.length+1)} hn3 (by decide) (by rw[hzn3];rfl)];refine qa<|dy J (fun _=>f9 J J (by omega) (by rw[aK];omega)) J J<|dF J J J<|?_;refine dc J J (uO J J (.tl _ _ _ _ _ _ _ _ (.tl _ _ _ _ _ _ _ _ (.hd ..))) (by rw[aY,ew (s:=8) _ (ND.len8 _),aK,aS,bW];omega) J J ?_);rw[bW,IU (wx.set zs.length _) rest zs.length 7 _ {zn with l:=s.num (zs.length+1),r:=u.num (zs.length+1+s.size)} (by rw[aS];exact hn3) (by decide) (by rw[List.getElem_set_self];rfl)];refine qa<|dn<|sR<|sm J J<|sa J J<|zE<|dO<|?_;have hfin:=hz3.set (a:={zn with l:=s.num (zs.length+1),r:=u.num (zs.length+1+s.size)}) (b:=⟨l,s.num (zs.length+1),u.num (zs.length+1+s.size)⟩) ⟨hzn2.a,hzn2.b,hzn2.c,J,J⟩ zs.length;have hns:(ns++[(⟨l,0,0⟩:NQ)]++s.wr (zs.length+1)++u.wr (zs.length+1+s.size)).set zs.length ⟨l,s.num (zs.length+1),u.num (zs.length+1+s.size)⟩=ns++(Tr.node l s u).wr zs.length:=by
   rw[dY,dY,mM _ _ (by omega),hzz,pX];simp[Tr.wr]
  rw[hns] at hfin;refine yw (.tmp J .nil) _ _ (List.Perm.refl _) (List.Sublist.refl _) ⟨⟨some ⟨nb,0,none⟩,(wx.map ND.val).length,x3c⟩,_,_,J,J,?_,hfin⟩;refine .inr ⟨nb,rest,lo3,by simp,by rw[List.set_set],?_,?_,?_⟩
  ·rw[ew (s:=8) _ (ND.len8 _)]
  ·rw[ew (s:=8) _ (ND.len8 _),aK,aS];rw[hf1,aK] at hf2;exact hf2
  ·rw[aK,aS];exact hf3
def Po{GB:Gh}{t:Tr}(hb:t.all LB)(hs:t.size<=1000000):PF GB prog 78 [eU t] (eA t):=by
 intro G vs _ hv;obtain⟨v0,m,rfl,h,hm⟩:=bt.1 hv;rw[dl] at hm;subst hm;obtain⟨p,rfl⟩:=Hw h;refine Fn.intro func78 J J ntmps78 J ?_;intro C _ hC;refine sR<|?_;refine sc (AV J ?_);intro b1;refine zE<|sR<|?_;refine sc (AV J ?_);intro b2;refine zE<|sR<|?_;refine sc (AV J ?_);intro b3;refine zE<|sR<|sy (yp J J) J<|?_;refine sc (DY (cs':=[mP b2 b3]) J J J (.hd ..) (nb J) J J ?_);refine zE<|sR<|KW J J J<|sm J J<|?_;refine sc (Dx (c1:=[]) (M:=[⟨b2,[.int .i64 0, .slice none 0 0],32,true⟩,⟨b3,[mP b2 b3],274,true⟩]) (rest:=[⟨b1,[.int .i64 0, .slice none 0 0],32,true⟩]) J J (List.Perm.swap ..) (Dy (A:=G) (A2:=G) (x:=⟨none,0,0⟩) (zs:=[]) (ns:=[]) (B:=[]) h hb (i8.nil ..) .nil (by simpa using hs)) J ?_);rintro _ _ G4 fl _ _ hf ⟨x,zs,B,rfl,rfl,hB,hz⟩;have e1:=hf (by simp) b2;have e2:=hf (by simp) b3;replace hB:=hB.relo fl;refine EE (own':=⟨b2,[.int .i64 0, .slice x.a x.n x.c],32,true⟩::⟨b3,[mP b2 b3],274,true⟩::(B.map (relo fl)++[⟨b1,[.int .i64 0, .slice none 0 0],32,true⟩])) (by simp only[bJ,relo,e1,e2,cK]) ?_;generalize B.map (relo fl)=B at hB;refine Bs (⟨b2,[.int .i64 0, .slice x.a x.n x.c],32,true⟩::⟨b3,[mP b2 b3],274,true⟩::⟨b1,[.int .i64 0, .slice none 0 0],32,true⟩::B) ((oV (l₁:=B) (l₂:=[_])).cons _ |>.cons _) ?_;refine sf J J<|?_;refine sc (DY (cs':=[.int .i64 (t.num 0), .slice x.a x.n x.c]) J J J (.hd ..) (nb J) J J ?_);refine zE<|sR<|Qq J J J<|?_;refine sc (XP (cs':=[.int .i64 (t.num 0), .slice x.a x.n x.c]) J J J (.tl _ _ _ _ _ _ _ _ (.tl _ _ _ _ _ _ _ _ (.hd ..))) J (nb J) J J ?_)
 refine zE<|?_;refine Vs (L:=[_,_,_]) hC hB (ND.len8 _) ?_;intro G5 _ hsl;show St C _ _ [⟨b2,_,_,true⟩,⟨b3,_,_,true⟩,⟨b1,[.int .i64 (t.num 0), .slice x.a x.n x.c],32,true⟩] _ _;refine dO<|?_;exact zD (.agg J ii ii J .nil) (Sc (k:=96) ⟨zs,hsl,by rw[cY] at hz;exact hz.imp fun _ _ h=>h.up⟩)
def Tr.pre:Tr->List Tr
 | .leaf b=>[.leaf b]
 | .node l x y=> .node l x y::(x.pre++y.pre)
structure Vis (f:FuncId) (c2:List Value) (σ:Type) (step:σ->Tr->σ) (ok:σ->Tr->Prop) (Inv:σ->List ao->Gh->Prop):Prop where
 up: ∀{s B G G'},bz G G'->Inv s B G->Inv s B G'
 re: ∀{s B G} (fl:Nat->Bool),Inv s B G->Inv s (B.map (relo fl)) G
 go: ∀{s t p B G},ok s t->Inv s B G->Is G (eU t) (.pointer p)->gO prog f (.pointer p::c2) B G (fun _ B' G'=>Inv (step s t) B' G')
section
variable {P:Program} {C:aC} {n:Nat} {fr:Fr} {own:List ao} {G:Gh}
end
def Kl{σ:Type}(step:σ->Tr->σ)(ok:σ->Tr->Prop):σ->List Tr->Prop
 |_,[]=>True
 |s,t::ts=>ok s t/\Kl step ok (step s t) ts
structure EX (σ:Type) where
 ts:List Tr
 vs:List Value
 rest:List Value
 b:Nat
 cap:Nat
 lo:Bool
 s:σ
 B:List ao
def QB(t:Tr):Nat:=2*t.size+1
def OS(ts:List Tr):List Tr:=ts.reverse.flatMap Tr.pre
structure EI (A:Gh) {σ:Type} (step:σ->Tr->σ) (ok:σ->Tr->Prop) (Inv:σ->List ao->Gh->Prop) (N:Nat) (fin:σ) (x:EX σ) (G:Gh):Prop where
 rel:fH (fun v t=> ∃p,v= .pointer p/\Is A (eU t) (.pointer p)) x.vs x.ts
 cap:x.vs.length+x.rest.length=x.cap
 inv:Inv x.s x.B G
 mu:(x.ts.map QB).sum<=N
 okf:Kl step ok x.s (OS x.ts)
 fin:(OS x.ts).foldl step x.s=fin
def szI(nbk:Nat)(s:Nat)(B:List ao)(_:Gh):Prop:= ∃lo,B=[⟨nbk,[.int .i64 s],3,lo⟩]
def szS(s:Nat):Tr->Nat
 | .leaf _=>s
 | .node .. =>s+1
def aFF(n:Nat)(f:Nat->Bool):Nat:=((List.range n).filter fun j=>!f j).length
def Fg(ns:List RN):Nat->Int->RS->Tr×RS
 |0,_,s=>(.leaf false,s)
 |m+1,rt,s=>
  if rt= -1 then(.leaf false,s) else if rt= -2 then(.leaf true,s) else
  match ns[rt.toNat]? with
  |none=>(.leaf false,⟨s.f,s.c,true⟩)
  |some n=>if rt<0\/s.f rt.toNat=true then(.leaf false,⟨s.f,s.c,true⟩) else
   match n.g.ln with
   |none=>(.leaf false,⟨tK s.f rt.toNat,s.c+1,true⟩)
   |some l=>let a:=Fg ns m n.l ⟨tK s.f rt.toNat,s.c+1,s.b⟩;let b:=Fg ns m n.r a.2;(.node l a.1 b.1,b.2)
def SP(ns:List RN)(rt:Int):Option Tr:=
 let r:=Fg ns (ns.length+1) rt VE
 if r.2.b=false/\r.2.c=ns.length then some r.1 else none
def ofR:Option Tr->DV
 |some t=> .tp [eU t,vB true]
 |none=> .tp [.v (.pointer none),vB false]
end Go.Sx
end
section
namespace Go.Sx
open Go Go.Proofs Go.RowKit Go.Extern.Stop Go.Stop Go.Extern
def aIr:TypeId->Sem Value:=fun t=>do Go.Extern.Rtype.noPackHeld "Comparable" t;pure (.bool (<-typeInfo t).comparable)
def z7(a:Addr):DV:= .v (.iface 499 (.pointer (some a)))
end Go.Sx
end
section
namespace Go.Sx
open Go Go.Proofs Tryz
variable {GB:Gh}
structure EG (GB:Gh) (ai al ae:Addr):Prop where
 ErrInvalid:GB 0=some [.iface 499 (.pointer (some ai))]
 ErrLimit:GB 1=some [.iface 499 (.pointer (some al))]
structure EGE (GB:Gh) (ai al ae:Addr):Prop extends EG GB ai al ae where
 ErrEmpty:GB 4=some [.iface 499 (.pointer (some ae))]
structure Tr.gd (t:Tr):Prop where
 lb:t.all LB
 ok:t.all aa.ok
def Iv(op:Int)(a b:Tr):Option Tr:=if 1024<a.depth+b.depth then none else if 65536<(a.mergeQ op b []).size then none else some (a.mergeQ op b [])
def aIG(al:Addr):Option Tr->DV
 |some t=> .tp [eU t, .v .nilIface]
 |none=> .tp [.v (.pointer none),z7 al]
def Im(op:Int):Tr->List Tr->Option Tr
 |t,[]=>some t
 |t,u::us=>match Iv op t u with
  |none=>none
  |some r=>Im op r us
def Xt{t:Tr}(h:t.gd)(c:aE):(t.restrict c).gd:=⟨t.restrict_all LB c h.lb,t.restrict_all aa.ok c h.ok⟩
def Fc:DV:= .ag [vI 0, .sl []]
def aHM:Tr ⊕ Addr->DV
 | .inl t=> .tp [eA t, .v .nilIface]
 | .inr e=> .tp [Fc,z7 e]
def aHx(ai:Addr):Option Tr->Tr ⊕ Addr
 |some t=> .inl t.compl
 |none=> .inr ai
def JU(al:Addr):Option Tr->Tr ⊕ Addr
 |some t=> .inl t
 |none=> .inr al
def aFC(ai al:Addr)(op:Int):Option Tr->Option Tr->Tr ⊕ Addr
 |some a,some b=>if 1<=op/\op<=4 then JU al (Iv op a b) else .inr ai
 |_,_=> .inr ai
abbrev qm:=Int×List RN
def qm.d(x:qm):DV:=Yb x.1 x.2
def qm.q(x:qm):Option Tr:=SP x.2 x.1
def V1:Option Tr->DV
 |some t=>eU t
 |none=> .v (.pointer none)
def QY(op:Int)(ts:List qm):Bool:=decide (1<=op/\op<=4)&&ts.all fun x=>x.q.isSome
def aIb(ai al ae:Addr)(op:Int)(ts:List qm):Tr ⊕ Addr:=
 if QY op ts then(match ts.filterMap qm.q with
  |[]=> .inr ae
  |a::us=>if 1024<a.depth then .inr al else JU al (Im op (a.restrict []) us)) else .inr ai
def aH9(ts:List qm):List DV:=ts.map fun x=>V1 x.q
structure qm.ok (x:qm):Prop where
 s: ∀n∈x.2,n.g.sm
 n:x.2.length<=65536
def Tr.val:Tr->ab->Bool
 | .leaf b,_=>b
 | .node l x y,p=>if 0<l.value p then x.val p else y.val p
def Tr.lns:Tr->List aa
 | .leaf _=>[]
 | .node l x y=>l::(x.lns++y.lns)
def uj{P:aa->Prop}: ∀{t:Tr},t.all P↔ ∀l∈t.lns,P l
 | .leaf _=>⟨fun _ l hl=>(by cases hl),fun _=>trivial⟩
 | .node l x y=>by
  show(P l/\x.all P/\y.all P)↔ ∀m∈l::(x.lns++y.lns),P m;rw[uj (t:=x),uj (t:=y)];constructor
  ·rintro ⟨h0,h1,h2⟩ m hm
   rcases aT.1 hm with rfl|hm
   ·exact h0
   ·rcases cX.1 hm with hm|hm
    ·exact h1 m hm
    ·exact h2 m hm
  ·intro h
   exact⟨h l aQ,fun m hm=>h m (aJ _ (cW _ hm)),fun m hm=>h m (aJ _ (cS _ hm))⟩
def ij(L:List aa)(p:ab):Prop:= ∀l∈L,l.value p≠0
def ij.sub{L M:List aa}{p:ab}(h:ij L p)(k: ∀l∈M,l∈L):ij M p:=fun l hl=>h l (k l hl)
def ij.l{l:aa}{x y:Tr}{p:ab}(h:ij (Tr.node l x y).lns p):l.value p≠0:=h l aQ
def ij.x{l:aa}{x y:Tr}{p:ab}(h:ij (Tr.node l x y).lns p):ij x.lns p:=h.sub fun m hm=>aJ _ (cW _ hm)
def ij.y{l:aa}{x y:Tr}{p:ab}(h:ij (Tr.node l x y).lns p):ij y.lns p:=h.sub fun m hm=>aJ _ (cS _ hm)
def opB(op:Int)(a b:Bool):Bool:=if op=1 then a||b else if op=2 then a&&b else if op=3 then a&&!b else a !=b
def Tr.val_join(l:aa)(X Y:Tr)(p:ab):(Tr.joinQ l X Y).val p=(Tr.node l X Y).val p:=by
 unfold Tr.joinQ;split
 ·rename_i h
  cases X<;>cases Y<;>simp[Tr.isLeaf,Tr.code] at h
  subst h;simp[Tr.val]
 ·rfl
def Tr.val_pos{l:aa}{x y:Tr}{p:ab}(h:0<l.value p):(Tr.node l x y).val p=x.val p:=by rw[Tr.val,if_pos h]
def Tr.val_neg{l:aa}{x y:Tr}{p:ab}(h: ¬0<l.value p):(Tr.node l x y).val p=y.val p:=by rw[Tr.val,if_neg h]
def Of{c:aE}{l:aa}(hc:di c)(hl:l.ok)(hb:cx c l.rev=false){p:ab}(hp:bF c p)(h0:l.value p≠0):0<l.value p:=by
 by_cases h:0<l.value p
 ·exact h
 ·exfalso
  have:cx c l.rev=true:=(pG hc hl.rev).2 ⟨p,hp,by rw[fP];grind⟩;rw[hb] at this;cases this
def MB{c:aE}{l:aa}(hc:di c)(hl:l.ok)(hb:cx c l=false){p:ab}(hp:bF c p): ¬0<l.value p:=fun h=>by
 have:cx c l=true:=(pG hc hl).2 ⟨p,hp,h⟩;rw[hb] at this;cases this
def Tr.val_restrict: ∀(t:Tr) (c:aE) (p:ab),t.all aa.ok->di c->bF c p->ij t.lns p->(t.restrict c).val p=t.val p
 | .leaf _,_,_,_,_,_,_=>rfl
 | .node l x y,c,p,⟨hl,hx,hy⟩,hc,hp,ho=>by
  cases hb:cx c l.rev with
  |false=>rw[Tr.restrict_A _ _ hb,x.val_restrict c p hx hc hp ho.x,Tr.val_pos (Of hc hl hb hp ho.l)]
  |true=>
   cases hb2:cx c l with
   |false=>rw[Tr.restrict_B _ _ hb hb2,y.val_restrict c p hy hc hp ho.y,Tr.val_neg (MB hc hl hb2 hp)]
   |true=>
    rw[Tr.restrict_C _ _ hb hb2,Tr.val_join];obtain⟨g1,i1⟩:=je hc hl hb2;obtain⟨g2,i2⟩:=je hc hl.rev hb;by_cases h:0<l.value p
    ·rw[Tr.val_pos h,Tr.val_pos h,x.val_restrict _ p hx g1 ((i1 p).2 ⟨hp,h⟩) ho.x]
    ·rw[Tr.val_neg h,Tr.val_neg h,y.val_restrict _ p hy g2 ((i2 p).2 ⟨hp,by rw[fP];have:=ho.l;grind⟩) ho.y]
def M2: ∀(L:List aa) (u:ab) (p:ab),ij L p-> ∃e:Rat,0<e/\ ∀d,0<=d->d<=e->ij L (cv p u d)
 |[],u,p,_=>⟨1,by decide,fun d _ _ l hl=>by cases hl⟩
 |l::L,u,p,h=>by
  obtain⟨e,he,hm⟩:=M2 L u p (h.sub fun m hm=>aJ _ hm);have h0:=h l aQ;have key: ∃f:Rat,0<f/\ ∀d,0<=d->d<=f->l.value (cv p u d)≠0:=by
   by_cases hk:l.nor.dot u=0
   ·exact⟨1,by decide,fun d _ _=>by rw[jq,hk];grind⟩
   ·generalize hA:l.value p=A at*
    generalize hB:l.nor.dot u=B at*;rcases ny A with h|h|h
    ·exact absurd h h0
    ·rcases ny B with k|k|k
     ·exact absurd k hk
     ·exact⟨1,by decide,fun d hd _=>by rw[jq,hA,hB];have:=f6 hd (fT k);grind⟩
     ·refine⟨A/(-B)/2,?_,fun d hd h2=>?_⟩
      ·have:0<A/(-B):=by
        have e1:A/(-B)*(-B)=A:=by grind
        exact(oe (k:= -B) (by grind)).1 (by rw[e1];exact h)
       grind
      ·rw[jq,hA,hB]
       have e1:A/(-B)*(-B)=A:=by grind
       generalize A/(-B)=q at*;have h4:=f6 (a:=q/2-d) (b:= -B) (by grind) (by grind);grind
    ·rcases ny B with k|k|k
     ·exact absurd k hk
     ·refine⟨(-A)/B/2,?_,fun d hd h2=>?_⟩
      ·have:0<(-A)/B:=by
        have e1:(-A)/B*B= -A:=by grind
        exact(oe (k:=B) k).1 (by rw[e1];grind)
       grind
      ·rw[jq,hA,hB]
       have e1:(-A)/B*B= -A:=by grind
       generalize (-A)/B=q at*;have h4:=f6 (a:=q/2-d) (b:=B) (by grind) (by grind);grind
     ·exact⟨1,by decide,fun d hd _=>by rw[jq,hA,hB];have:=f6 hd (b:= -B) (by grind);grind⟩
  obtain⟨f,hf,hk⟩:=key;refine⟨if e<=f then e else f,by split<;>assumption,fun d hd hde m hm'=>?_⟩;have h1:d<=e/\d<=f:=by split at hde<;>grind
  rcases aT.1 hm' with rfl|hm'
  ·exact hk d hd h1.2
  ·exact hm d hd h1.1 m hm'
def Nb{c:aE}{p:ab}(hp:bF c p): ∀(L:List aa),(∀l∈L,l.ok)-> ∃q,bF c q/\ij L q
 |[],_=>⟨p,hp,fun l hl=>by cases hl⟩
 |l::L,h=>by
  obtain⟨q,hq,ho⟩:=Nb hp L fun m hm=>h m (aJ _ hm);by_cases h0:l.value q=0
  ·have hn:=n4 (h l aQ).ne
   obtain⟨e,he,hm⟩:=hq.open l.nor;obtain⟨f,hf,hk⟩:=M2 L l.nor q ho;refine⟨cv q l.nor (if e<=f then e else f),hm _ (by split<;>grind) (by split<;>grind),fun m hm'=>?_⟩;rcases aT.1 hm' with rfl|hm'
   ·rw[jq,h0]
    have:=jb (a:=if e<=f then e else f) (b:=m.nor.dot m.nor) (by split<;>assumption) hn;grind
   ·exact hk _ (by split<;>grind) (by split<;>grind) m hm'
  ·exact⟨q,hq,fun m hm=>by rcases aT.1 hm with rfl|hm;exact h0;exact ho m hm⟩
def ZH{c:aE}(hc:di c)(L:List aa)(h: ∀l∈L,l.ok): ∃q,bF c q/\ij L q:=by
 obtain⟨p,hp⟩:=hc.ne;exact Nb hp L h
def Tr.Red:Tr->aE->Prop
 | .leaf _,_=>True
 | .node l x y,c=>cx c l=true/\cx c l.rev=true/\x.Red (bD c l)/\y.Red (bD c l.rev)/\ ¬(x.isLeaf=true/\y.isLeaf=true/\x.code=y.code)
def Tr.red_leaf{t:Tr}(h:t.isLeaf=true)(c:aE):t.Red c:=by
 cases t with
 |leaf b=>trivial
 |node l x y=>cases h
def Tr.join_red{l:aa}{x y:Tr}{c:aE}(h1:cx c l=true)(h2:cx c l.rev=true)(hx:x.Red (bD c l))(hy:y.Red (bD c l.rev)):(Tr.joinQ l x y).Red c:=by
 rcases Tr.joinQ_cases l x y with⟨e,h⟩|⟨e,h⟩
 ·rw[e];exact Tr.red_leaf h c
 ·rw[e];exact⟨h1,h2,hx,hy,h⟩
def Tr.restrict_red: ∀(t:Tr) (c:aE),(t.restrict c).Red c
 | .leaf _,_=>trivial
 | .node l x y,c=>by
  cases hb:cx c l.rev with
  |false=>rw[Tr.restrict_A _ _ hb];exact x.restrict_red c
  |true=>
   cases hb2:cx c l with
   |false=>rw[Tr.restrict_B _ _ hb hb2];exact y.restrict_red c
   |true=>rw[Tr.restrict_C _ _ hb hb2];exact Tr.join_red hb2 hb (x.restrict_red _) (y.restrict_red _)
def XX(p:ab):bF [] p:=fun s hs=>(by cases hs)
def aa.same(l m:aa):Prop:=m=l\/m=l.rev
instance (l m:aa):Decidable (l.same m):=inferInstanceAs (Decidable (_\/_))
def Tr.cnt(l:aa):Tr->Nat
 | .leaf _=>0
 | .node m x y=>(if l.same m then 1 else 0)+(x.cnt l+y.cnt l)
def o7{l m:aa}(h:l.same m){p:ab}(hp:l.value p=0):m.value p=0:=by
 rcases h with rfl|rfl
 ·exact hp
 ·rw[fP,hp];rfl
def BH(l:aa)(c:aE):Prop:= ∃p,bF c p/\l.value p=0
def Tr.cnt_zero{l:aa}: ∀{t:Tr} {c:aE},t.Red c->t.all aa.ok->di c-> ¬BH l c->t.cnt l=0
 | .leaf _,_,_,_,_,_=>rfl
 | .node m x y,c,⟨h1,h2,h3,h4,_⟩,⟨hm,hx,hy⟩,hc,hn=>by
  obtain⟨g1,i1⟩:=je hc hm h1;obtain⟨g2,i2⟩:=je hc hm.rev h2;have e1:=Tr.cnt_zero (l:=l) h3 hx g1 (fun⟨p,hp,h0⟩=>hn ⟨p,((i1 p).1 hp).1,h0⟩);have e2:=Tr.cnt_zero (l:=l) h4 hy g2 (fun⟨p,hp,h0⟩=>hn ⟨p,((i2 p).1 hp).1,h0⟩);rw[Tr.cnt,e1,e2];by_cases hs:l.same m
  ·exfalso
   -- m crosses the cell
   obtain⟨p,hp,k1⟩:=(pG hc hm).1 h1;obtain⟨q,hq,k2⟩:=(pG hc hm.rev).1 h2;rw[fP] at k2;generalize hA:m.value p=A at*;generalize hB:m.value q=B at*;have hAB:0<A-B:=by grind
   have e:A/(A-B)*(A-B)=A:=by grind
   generalize A/(A-B)=r at*;have r0:0<=r:=(jB hAB).1 (by rw[e];exact fT k1);have r1:r<=1:=by
    have:=(jB (s:=1-r) hAB).1 (by grind);grind
   have hz:=hp.seg hq r0 r1;have hv:m.value (bp p q r)=0:=by rw[kr,hA,hB];grind
   refine hn ⟨_,hz,?_⟩;rcases hs with rfl|rfl
   ·exact hv
   ·rw[fP] at hv;grind
  ·rw[if_neg hs]
def pq(c:aE)(p:ab):Bool:=c.all fun s=>decide (0<s.l.value p)
def qd{c:aE}{p:ab}:pq c p=true↔bF c p:=by
 unfold pq bF;rw[eK];simp
def IH(P:List ab)(l:aa)(t:Tr):Prop:=t.all fun m=>l.same m\/ ∀p,l.value p=0->m.value p=0->p∈P
def Hf{α:Type}{p q r:α->Bool}: ∀(P:List α),(∀x∈P,q x=true->p x=true)->(∀x∈P,r x=true->p x=true)->(∀x∈P,¬(q x=true/\r x=true))->P.countP q+P.countP r<=P.countP p
 |[],_,_,_=>aL _
 |x::P,h1,h2,h3=>by
  have ih:=Hf (p:=p) (q:=q) (r:=r) P (fun y hy=>h1 y (aJ _ hy)) (fun y hy=>h2 y (aJ _ hy)) (fun y hy=>h3 y (aJ _ hy));have a:=h1 x aQ;have b:=h2 x aQ;have c:=h3 x aQ;rw[nR,nR,nR]
  cases hq:q x<;>cases hr:r x<;>simp_all<;>omega
def Lc{α:Type}{p q r:α->Bool}: ∀(P:List α),(∀x∈P,q x=true->p x=true)->(∀x∈P,r x=true->p x=true)->(∀x∈P,¬(q x=true/\r x=true))->(∃x∈P,p x=true/\q x=false/\r x=false)->P.countP q+P.countP r+1<=P.countP p
 |[],_,_,_,⟨x,hx,_⟩=>by cases hx
 |x::P,h1,h2,h3,h4=>by
  have i2:=Hf (p:=p) (q:=q) (r:=r) P (fun y hy=>h1 y (aJ _ hy)) (fun y hy=>h2 y (aJ _ hy)) (fun y hy=>h3 y (aJ _ hy));have a:=h1 x aQ;have b:=h2 x aQ;have c:=h3 x aQ;rw[nR,nR,nR];obtain⟨z,hz,k1,k2,k3⟩:=h4;rcases aT.1 hz with rfl|hz
  ·simp only[k1,k2,k3];simp;omega
  ·have ih:=Lc (p:=p) (q:=q) (r:=r) P (fun y hy=>h1 y (aJ _ hy)) (fun y hy=>h2 y (aJ _ hy)) (fun y hy=>h3 y (aJ _ hy)) ⟨z,hz,k1,k2,k3⟩
   cases hq:q x<;>cases hr:r x<;>simp_all<;>omega
def Tr.cnt_le{l:aa}(hl:l.ok){P:List ab}: ∀{t:Tr} {c:aE},t.Red c->t.all aa.ok->di c->IH P l t->t.cnt l<=1+P.countP (pq c)
 | .leaf _,_,_,_,_,_=>bQ _
 | .node m x y,c,⟨h1,h2,h3,h4,_⟩,⟨hm,hx,hy⟩,hc,⟨v0,v1,v2⟩=>by
  obtain⟨g1,i1⟩:=je hc hm h1;obtain⟨g2,i2⟩:=je hc hm.rev h2;have q1: ∀p∈P,pq (bD c m) p=true->pq c p=true:=fun p _ h=>qd.2 ((i1 p).1 (qd.1 h)).1;have q2: ∀p∈P,pq (bD c m.rev) p=true->pq c p=true:=fun p _ h=>qd.2 ((i2 p).1 (qd.1 h)).1;have q3: ∀p∈P,¬(pq (bD c m) p=true/\pq (bD c m.rev) p=true):=fun p _ ⟨a,b⟩=>by
   have a:=((i1 p).1 (qd.1 a)).2;have b:=((i2 p).1 (qd.1 b)).2;rw[fP] at b;grind
  have ct:=Hf P q1 q2 q3;rw[Tr.cnt];by_cases hs:l.same m
  ·have e1:=Tr.cnt_zero (l:=l) h3 hx g1 (fun⟨p,hp,h0⟩=>by have:=((i1 p).1 hp).2;rw[o7 hs h0] at this;grind)
   have e2:=Tr.cnt_zero (l:=l) h4 hy g2 (fun⟨p,hp,h0⟩=>by have:=((i2 p).1 hp).2;rw[fP,o7 hs h0] at this;grind);rw[e1,e2,if_pos hs];omega
  ·rw[if_neg hs]
   have b1:=Tr.cnt_le hl h3 hx g1 v1;have b2:=Tr.cnt_le hl h4 hy g2 v2;by_cases w1:BH l (bD c m)
   ·by_cases w2:BH l (bD c m.rev)
    ·-- the crossing Ai in the cell
     obtain⟨p,hp,k1⟩:=w1;obtain⟨q,hq,k2⟩:=w2;obtain⟨hp,ap⟩:=(i1 p).1 hp;obtain⟨hq,aq⟩:=(i2 q).1 hq;rw[fP] at aq;generalize hA:m.value p=A at*;generalize hB:m.value q=B at*;have hAB:0<A-B:=by grind
     have e:A/(A-B)*(A-B)=A:=by grind
     generalize A/(A-B)=r at*;have r0:0<=r:=(jB hAB).1 (by rw[e];exact fT ap);have r1:r<=1:=by
      have:=(jB (s:=1-r) hAB).1 (by grind);grind
     have hz:=hp.seg hq r0 r1;have hv:m.value (bp p q r)=0:=by rw[kr,hA,hB];grind
     have hv2:l.value (bp p q r)=0:=by rw[kr,k1,k2];grind
     have hmem:bp p q r∈P:=by
      rcases v0 with h|h
      ·exact absurd h hs
      ·exact h _ hv2 hv
     have c3:=Lc P q1 q2 q3 ⟨_,hmem,qd.2 hz,by
      rw[<-jS,qd,i1];rintro ⟨_,h⟩;rw[hv] at h;grind,by
      rw[<-jS,qd,i2];rintro ⟨_,h⟩;rw[fP,hv] at h;grind⟩
     omega
    ·rw[Tr.cnt_zero h4 hy g2 w2];omega
   ·rw[Tr.cnt_zero h3 hx g1 w1];omega
def N1(l:aa):l.rev.rev=l:=by cases l;simp[aa.rev]
def aa.same.symm{l m:aa}(h:l.same m):m.same l:=by
 rcases h with rfl|rfl
 ·exact .inl J
 ·exact .inr (N1 l).symm
def aa.same.trans{l m n:aa}(h:l.same m)(k:m.same n):l.same n:=by
 rcases h with rfl|rfl
 ·exact k
 ·rcases k with rfl|rfl
  ·exact .inr J
  ·exact .inl (N1 l)
def mE(K:List aa)(t:Tr):Prop:=t.all fun n=> ∃m∈K,m.same n
def vk(l m:aa):ab:=l.at (-(l.cutC m/l.cutK m))
def B7{l m:aa}(hl:l.ok)(hm:m.ok){p:ab}(h1:l.value p=0)(h2:m.value p=0):l.same m\/p=vk l m:=by
 obtain⟨t,rfl⟩:=B9 hl.ne h1;rw[mF] at h2;by_cases hk:l.cutK m=0
 ·left
  have hc:l.cutC m=0:=by rw[hk] at h2;grind
  rcases Gq hm hl (fun s=>by rw[mF,hk,hc];grind) with h|h
  ·exact .inl h
  ·exact .inr h
 ·right
  unfold vk;congr 1;grind
def mE.covers{K:List aa}(hK: ∀m∈K,m.ok){l:aa}(hl:l.ok): ∀{t:Tr},mE K t->IH (K.map (vk l)) l t
 | .leaf _,_=>trivial
 | .node n x y,⟨⟨m,hm,hs⟩,h1,h2⟩=>by
  refine⟨?_,mE.covers hK hl h1,mE.covers hK hl h2⟩;by_cases h:l.same n
  ·exact .inl h
  ·right
   intro p k1 k2;rcases B7 hl (hK m hm) k1 (o7 hs.symm k2) with h3|h3
   ·exact absurd (h3.trans hs) h
   ·rw[h3];exact gM hm
def Kc(t:Tr):List aa->Nat
 |[]=>0
 |l::K=>t.cnt l+Kc t K
def Ks(n:aa):List aa->Nat
 |[]=>0
 |l::K=>(if l.same n then 1 else 0)+Ks n K
def P1{n:aa}{x y:Tr}: ∀K,Kc (.node n x y) K=Ks n K+(Kc x K+Kc y K)
 |[]=>rfl
 |l::K=>by
  have:=P1 (n:=n) (x:=x) (y:=y) K;show(Tr.node n x y).cnt l+Kc (.node n x y) K=_;rw[this,Tr.cnt];show _=(if l.same n then 1 else 0)+Ks n K+(x.cnt l+Kc x K+(y.cnt l+Kc y K));omega
def Qb{n m:aa}(hs:m.same n): ∀{K:List aa},m∈K->1<=Ks n K
 |[],h=>by cases h
 |l::K,h=>by
  show 1<=(if l.same n then 1 else 0)+Ks n K;rcases aT.1 h with rfl|h
  ·rw[if_pos hs];omega
  ·have:=Qb hs h;omega
def Ef{K:List aa}: ∀{t:Tr},mE K t->t.size<=Kc t K
 | .leaf _,_=>bQ _
 | .node n x y,⟨⟨m,hm,hs⟩,h1,h2⟩=>by
  have a:=Ef h1;have b:=Ef h2;have c:=Qb hs hm;rw[P1,Tr.size];omega
def O5{t:Tr}{B:Nat}: ∀{K:List aa},(∀l∈K,t.cnt l<=B)->Kc t K<=K.length*B
 |[],_=>bQ _
 |l::K,h=>by
  have:=O5 (t:=t) (B:=B) (K:=K) fun m hm=>h m (aJ _ hm);have:=h l aQ;show t.cnt l+Kc t K<=(K.length+1)*B;rw[gK];omega
def Tr.size_le{K:List aa}(hK: ∀m∈K,m.ok){t:Tr}{c:aE}(hr:t.Red c)(ht:t.all aa.ok)(hc:di c)(h:mE K t):t.size<=K.length*(1+K.length):=by
 refine cR (Ef h) (O5 fun l hl=>?_);refine cR (Tr.cnt_le (hK l hl) hr ht hc (h.covers hK (hK l hl))) ?_;have:=List.countP_le_length (p:=pq c) (l:=K.map (vk l));rw[aK] at this;omega
def mE.restrict{K:List aa}{t:Tr}(h:mE K t)(c:aE):mE K (t.restrict c):=t.restrict_all _ c h
def Tr.chooseL(op:Int)(b:Bool)(t:Tr)(c:List aa):Tr:=
 if op=1/\b=true then .leaf true
 else if(op=2\/op=3)/\b=false then .leaf false
 else if(op=3\/op=4)/\b=true then(t.restrictL c).compl else t.restrictL c
def Tr.mergeL(op:Int):Tr->Tr->List aa->Tr
 | .leaf b,u,c=>u.chooseL op b c
 | .node l x y,u,c=>if pg c l=1 then x.mergeL op u c else if pg c l= -1 then y.mergeL op u c else joinQ l (x.mergeL op u (il (c++[l]))) (y.mergeL op u (il (c++[l.rev])))
structure Gen (L:List aa) (a b:Tr):Prop where
 oa:a.all aa.ok
 ob:b.all aa.ok
 ok: ∀l∈L,l.ok
 la: ∀l∈a.lns,l∈L
 lb: ∀l∈b.lns,l∈L
def en(x:Rat):List Rat->List Rat
 |[]=>[x]
 |u::t=>if u<x then u::en x t else if u=x then u::t else x::u::t
def FC(l:List Rat):List Rat:=l.foldl (fun out x=>en x out) []
def eO:List Rat->List Rat
 |a::b::t=>(a+b)/2::eO (b::t)
 |_=>[]
def c6:List Rat->List Rat
 |[]=>[0]
 |a::t=>(a-1)::(eO (a::t)++[(a::t).getLast (by simp)+1])
def pd{x y:Rat}: ∀{l:List Rat},y∈en x l↔y=x\/y∈l
 |[]=>by simp[en]
 |u::t=>by
  rw[en];split
  ·rw[aT,pd (l:=t),aT];grind
  ·split
   ·rename_i h;subst h;simp
   ·simp
def zl{x:Rat}: ∀{l:List Rat},l.Pairwise (· < ·)->(en x l).Pairwise (· < ·)
 |[],_=>by simp[en]
 |u::t,h=>by
  rw[cZ] at h;rw[en];split
  ·rename_i hu
   rw[cZ];refine⟨fun y hy=>?_,zl h.2⟩;rcases pd.1 hy with rfl|hy
   ·exact hu
   ·exact h.1 y hy
  ·rename_i hu
   split
   ·rw[cZ];exact h
   ·rename_i hn
    have hx:x<u:=by grind
    rw[cZ,cZ];refine⟨fun y hy=>?_,h⟩;rcases aT.1 hy with rfl|hy
    ·exact hx
    ·have:=h.1 y hy;grind
def JE: ∀{l:List Rat} (h:l.Pairwise (· < ·)) (hn:l≠[]),∀y∈l,y<=l.getLast hn
 |[a],_,_,y,hy=>by rw[aV] at hy;subst hy;exact gR
 |a::b::t,h,_,y,hy=>by
  rw[cZ] at h;rw[List.getLast_cons (by simp)];have ih:=JE h.2 (by simp);rcases aT.1 hy with rfl|hy
  ·have:=h.1 b aQ
   have:=ih b aQ;grind
  ·exact ih y hy
def Qp:List aa->List Rat
 |[]=>[]
 |a::t=>(if a.b=0 then [a.base.x] else [])++(t.filterMap (fun b=>if crossI a b=0 then none else some (fD a b).x)++Qp t)
def yA(a:aa)(x:Rat):Rat:= -(((a.a:Rat)*x+(a.c:Rat))/(a.b:Rat))
def N0(l:List aa)(x:Rat):List Rat:=l.filterMap fun a=>if a.b=0 then none else some (yA a x)
def L5(l:List aa):List ab:=(c6 (FC (Qp l))).flatMap fun x=>(c6 (FC (N0 l x))).map fun y=>⟨x,y⟩
def aFz(l:aa)(p:ab):aa:=if 0<l.value p then l else l.rev
def fG(out:List Rat)(s:aj):List Rat:=if s.nh then(if s.nl then out else en s.lo out) else en s.hi (if s.nl then out else en s.lo out)
def d6(l:List aj):List Rat:=l.foldl fG []
def oP:List aj->Rat->Int
 |[],_=>0
 |s::t,x=>
  let a:=if s.nl then 1 else bg x s.lo
  let b:=if s.nh then-1 else bg x s.hi
  if 0<a/\b<0 then 2 else if(a=0/\b<=0)\/(b=0/\0<=a) then 1 else oP t x
def dE(l:List aj)(x:Rat):Bool:=decide (oP l x=2)
def ck(cuts:List Rat)(i:Nat):aj:=⟨if i=0 then 0 else cuts.getD (i-1) 0,if i<cuts.length then cuts.getD i 0 else 0,decide (i=0),decide (i=cuts.length)⟩
def kb(v w:aj):aj:=⟨v.lo,w.hi,v.nl,w.nh⟩
def c9(cuts:List Rat)(marks:List Bool):Nat->List aj
 |0=>[]
 |k+1=>
  let out:=c9 cuts marks k
  if marks.getD k false then
   (if 0<k/\marks.getD (k-1) false=true then(match out.getLast? with
    |some v=>out.dropLast++[kb v (ck cuts k)]
    |none=>out++[ck cuts k]) else out++[ck cuts k])
  else out
def iH(cuts:List Rat)(marks:List Bool):List aj:=c9 cuts marks marks.length
def lx(op:Int)(x y:Bool):Bool:=if op=2 then x&&y else if op=3 then x&&!y else if op=4 then x !=y else x||y
def fm(op:Int)(a b:List aj):List aj:=iH (d6 (a++b)) ((c6 (d6 (a++b))).map fun t=>lx op (dE a t) (dE b t))
def gz(l m:aa)(side:Int):List aj:=
 if crossI l m=0 then(if(m.value l.base).num.sign=side then [aj.all] else [])
 else if(m.value (l.at (er l (fD l m)+1))).num.sign=side then [⟨er l (fD l m),0,false,true⟩] else [⟨0,er l (fD l m),true,false⟩]
def ka(l m:aa):Bool:=decide (crossI l m=0/\(m.value l.base).num.sign=0)
def dw(f:aG)(m:aa)(side:Int):List aG:=if ka f.l m then [] else(fm 2 [f.v] (gz f.l m side)).map fun v=>⟨f.l,v⟩
def ES(l:List aj):(d6 l).Pairwise (· < ·)/\ ∀y∈d6 l,∃s∈l,(s.nl=false/\y=s.lo)\/(s.nh=false/\y=s.hi):=by
 have key: ∀(l:List aj) (o:List Rat),o.Pairwise (· < ·)->(l.foldl fG o).Pairwise (· < ·)/\ ∀y∈l.foldl fG o,y∈o\/ ∃s∈l,(s.nl=false/\y=s.lo)\/(s.nh=false/\y=s.hi):=by
  intro l
  induction l with
  |nil=>intro o h;exact⟨h,fun y hy=> .inl hy⟩
  |cons s t ih=>
   intro o h;have h1:(fG o s).Pairwise (· < ·)/\ ∀y∈fG o s,y∈o\/(s.nl=false/\y=s.lo)\/(s.nh=false/\y=s.hi):=by
    unfold fG
    cases e1:s.nl<;>cases e2:s.nh<;>simp only[if_true,dZ,if_false]
    ·refine⟨zl (zl h),fun y hy=>?_⟩
     rcases pd.1 hy with h|h
     ·exact .inr (.inr ⟨trivial,h⟩)
     ·rcases pd.1 h with h|h
      ·exact .inr (.inl ⟨trivial,h⟩)
      ·exact .inl h
    ·refine⟨zl h,fun y hy=>?_⟩
     rcases pd.1 hy with h|h
     ·exact .inr (.inl ⟨trivial,h⟩)
     ·exact .inl h
    ·refine⟨zl h,fun y hy=>?_⟩
     rcases pd.1 hy with h|h
     ·exact .inr (.inr ⟨trivial,h⟩)
     ·exact .inl h
    ·exact⟨h,fun y hy=> .inl hy⟩
   obtain⟨k1,k2⟩:=ih (fG o s) h1.1;refine⟨k1,fun y hy=>?_⟩;rcases k2 y hy with h2|⟨q,hq,h2⟩
   ·rcases h1.2 y h2 with h3|h3
    ·exact .inl h3
    ·exact .inr ⟨s,aQ,h3⟩
   ·exact .inr ⟨q,aJ _ hq,h2⟩
 have:=key l [] List.Pairwise.nil;refine⟨this.1,fun y hy=>?_⟩;rcases this.2 y hy with h|h
 ·cases h
 ·exact h
structure FZ (cuts:List Rat) (v:aj):Prop where
 z:gm v
 lo:v.nl=true\/v.lo∈cuts
 hi:v.nh=true\/v.hi∈cuts
def aAB{cuts:List Rat}{i:Nat}(h:i<=cuts.length):FZ cuts (ck cuts i):=by
 unfold ck;refine⟨⟨fun e=>?_,fun e=>?_⟩,?_,?_⟩
 ·simp only[decide_eq_true_eq] at e;simp[e]
 ·simp only[decide_eq_true_eq] at e;simp[e]
 ·by_cases h0:i=0
  ·left;simp[h0]
  ·right
   simp only[if_neg h0];rw[aX,aZ (by omega)];exact cV _
 ·by_cases h0:i=cuts.length
  ·left;simp[h0]
  ·right
   simp only[if_pos (show i<cuts.length by omega)];rw[aX,aZ (by omega)];exact cV _
def Om{cuts:List Rat}{marks:List Bool}: ∀{k:Nat},k<=cuts.length+1-> ∀v∈c9 cuts marks k,FZ cuts v
 |0,_,v,hv=>by cases hv
 |k+1,hk,v,hv=>by
  have ih:=Om (cuts:=cuts) (marks:=marks) (k:=k) (by omega);have hg:=aAB (cuts:=cuts) (i:=k) (by omega);rw[c9] at hv;split at hv
  ·split at hv
   ·split at hv
    ·rename_i w hw
     rcases cX.1 hv with h|h
     ·exact ih v ((rU _).subset h)
     ·rw[aV] at h;subst h
      have hw':=ih w (nJ hw);exact⟨⟨hw'.z.1,hg.z.2⟩,hw'.lo,hg.hi⟩
    ·rcases cX.1 hv with h|h
     ·exact ih v h
     ·rw[aV] at h;subst h;exact hg
   ·rcases cX.1 hv with h|h
    ·exact ih v h
    ·rw[aV] at h;subst h;exact hg
  ·exact ih v hv
def wX{l:List Rat}:(c6 l).length=l.length+1:=by
 have key: ∀(l:List Rat) (a:Rat),(eO (a::l)).length=l.length:=by
  intro l
  induction l with
  |nil=>intro a;rfl
  |cons b t ih=>intro a;rw[eO,bU,ih b,bU]
 cases l with
 |nil=>rfl
 |cons a t=>rw[c6,bU,aY,key];simp
def Rb{op:Int}{a b:List aj}: ∀v∈fm op a b,FZ (d6 (a++b)) v:=fun v hv=>by
 unfold fm iH at hv;refine Om ?_ v hv;rw[aK,wX];omega
def Fv{cuts:List Rat}{marks:List Bool}: ∀{k:Nat},(c9 cuts marks k).length<=k
 |0=>aL _
 |k+1=>by
  have ih:=Fv (cuts:=cuts) (marks:=marks) (k:=k);rw[c9];split
  ·split
   ·split
    ·rename_i w hw
     have:=List.length_pos_of_mem (nJ hw);rw[aY,iZ];simp;omega
    ·rw[aY];simp;omega
   ·rw[aY];simp;omega
  ·omega
structure kE (f:aG):Prop where
 lb:LB f.l
 ok:f.l.ok
 z:gm f.v
 lo:BQ f.v.lo 1200
 hi:BQ f.v.hi 1200
theorem BQ.zero1200:BQ (0:Rat) 1200:=BQ.mono (k:=1) ⟨by decide,by decide⟩ (by decide)
def E1{l m:aa}(hl:LB l)(hm:LB m)(hlo:l.ok){side:Int}: ∀v∈gz l m side,gm v/\BQ v.lo 1200/\BQ v.hi 1200:=fun v hv=>by
 unfold gz at hv;split at hv
 ·split at hv
  ·rw[aV] at hv;subst hv;exact⟨gm.all,BQ.zero1200,BQ.zero1200⟩
  ·cases hv
 ·rename_i hc
  have:=Dn hlo.ne hc;split at hv
  ·rw[aV] at hv;subst hv;exact⟨⟨fun h=>(by cases h),fun _=>J⟩,this,BQ.zero1200⟩
  ·rw[aV] at hv;subst hv;exact⟨⟨fun _=>J,fun h=>(by cases h)⟩,BQ.zero1200,this⟩
def wk{f:aG}{m:aa}(h:kE f)(hm:LB m){side:Int}: ∀g∈dw f m side,kE g/\g.l=f.l/\ka f.l m=false:=fun g hg=>by
 unfold dw at hg;split at hg
 ·cases hg
 ·rename_i ho
  obtain⟨v,hv,rfl⟩:=bM.1 hg;have hi:=Rb v hv;have bd: ∀y∈d6 ([f.v]++gz f.l m side),BQ y 1200:=fun y hy=>by
   obtain⟨s,hs,h1⟩:=(ES _).2 y hy;rcases cX.1 hs with hs|hs
   ·rw[aV] at hs;subst hs
    rcases h1 with⟨_,rfl⟩|⟨_,rfl⟩
    ·exact h.lo
    ·exact h.hi
   ·have:=E1 h.lb hm h.ok s hs
    rcases h1 with⟨_,rfl⟩|⟨_,rfl⟩
    ·exact this.2.1
    ·exact this.2.2
  refine⟨⟨h.lb,h.ok,hi.z,?_,?_⟩,J,by simpa using ho⟩
  ·rcases hi.lo with e|e
   ·rw[hi.z.1 e];exact BQ.zero1200
   ·exact bd _ e
  ·rcases hi.hi with e|e
   ·rw[hi.z.2 e];exact BQ.zero1200
   ·exact bd _ e
def gu(acc:ab->Bool):Nat->List aG->List aa->Tr
 |_,[],c=> .leaf (acc (ik c c))
 |0,_::_,_=> .leaf false
 |n+1,f::t,c=> .node f.l (gu acc n ((f::t).flatMap fun g=>dw g f.l 1) (c++[f.l])) (gu acc n ((f::t).flatMap fun g=>dw g f.l (-1)) (c++[f.l.rev]))
def avh{f g:aG}{m:aa}{side:Int}(h:g∈dw f m side):g.l=f.l:=by
 unfold dw at h;split at h
 ·cases h
 ·obtain⟨v,_,rfl⟩:=bM.1 h;rfl
def r5{acc:ab->Bool}{P:aa->Prop}: ∀{n:Nat} {l:List aG} {c:List aa},(∀f∈l,P f.l)->(gu acc n l c).all P
 |n,[],c,_=>by unfold gu;trivial
 |0,_::_,_,_=>by unfold gu;trivial
 |n+1,f::t,c,h=>by
  rw[gu];refine⟨h f aQ,r5 fun g hg=>?_,r5 fun g hg=>?_⟩<;>
  ·obtain⟨q,hq,hg⟩:=gX.1 hg
   rw[avh hg];exact h q hq
def C6{acc:ab->Bool}: ∀{n:Nat} {l:List aG} {c:List aa},(gu acc n l c).depth<=n
 |n,[],c=>by unfold gu;exact bQ _
 |0,_::_,_=>by unfold gu;exact bQ _
 |n+1,f::t,c=>by
  rw[gu,Tr.depth];have h1:=C6 (acc:=acc) (n:=n) (l:=(f::t).flatMap fun g=>dw g f.l 1) (c:=c++[f.l]);have h2:=C6 (acc:=acc) (n:=n) (l:=(f::t).flatMap fun g=>dw g f.l (-1)) (c:=c++[f.l.rev]);omega
def jc(n:Nat)(l:List aG):Prop:= ∃K:List aa,K.length<=n/\ ∀f∈l,∃m∈K,m.same f.l
def WB{m:aa}(hm:m.Ne):m.value m.base=0:=by
 have h:=rE hm 0;rw[<-rI,jq] at h;grind
def VX{l m:aa}(h:l.same m)(hm:m.Ne):ka m l=true:=by
 unfold ka;rw[decide_eq_true_iff];refine⟨?_,?_⟩
 ·rcases h with rfl|rfl
  ·unfold crossI;omega
  ·unfold crossI aa.rev
   show(-l.a)*l.b-l.a*(-l.b)=0;grind
 ·rw[mr]
  exact o7 h.symm (WB hm)
def jc.split{n:Nat}{f:aG}{t:List aG}(h:jc (n+1) (f::t))(hok: ∀g∈f::t,kE g){side:Int}:jc n ((f::t).flatMap fun g=>dw g f.l side):=by
 obtain⟨K,hK,hs⟩:=h;refine⟨K.filter fun m=>!decide (m.same f.l),?_,fun g hg=>?_⟩
 ·obtain⟨m,hm,hm2⟩:=hs f aQ
  have:(K.filter fun m=>!decide (m.same f.l)).length<K.length:=by
   refine oL.2 ⟨m,hm,by simp[hm2]⟩
  omega
 ·obtain⟨q,hq,hg⟩:=gX.1 hg
  obtain⟨_,e,ho⟩:=wk (hok q hq) (hok f aQ).lb g hg;obtain⟨m,hm,hm2⟩:=hs q hq;refine⟨m,rN.2 ⟨hm,?_⟩,by rw[e];exact hm2⟩;simp only[iX,decide_eq_false_iff_not];intro h;have:=VX (h.symm.trans hm2) (hok q hq).ok.ne;rw[this] at ho;cases ho
def XB{p q r:Bool}{a b c:Nat}(h:Nat.gcd a b≠0):aa.ok ⟨zv p (a/Nat.gcd (Nat.gcd a b) c),zv q (b/Nat.gcd (Nat.gcd a b) c),zv r (c/Nat.gcd (Nat.gcd a b) c)⟩:=by
 have hg:0<Nat.gcd (Nat.gcd a b) c:=mX _ (iY h);have d0:Nat.gcd (Nat.gcd a b) c∣Nat.gcd a b:=jR _ _;have d1:Nat.gcd (Nat.gcd a b) c∣a:=qZ d0 (jR _ _);have d2:Nat.gcd (Nat.gcd a b) c∣b:=qZ d0 (lZ _ _);have d3:Nat.gcd (Nat.gcd a b) c∣c:=lZ _ _;refine⟨?_,?_⟩
 ·rintro ⟨h1,h2⟩
  have h1':=congrArg Int.natAbs h1;have h2':=congrArg Int.natAbs h2;simp only[pA,kU] at h1' h2';have e1:=Nat.div_mul_cancel d1;have e2:=Nat.div_mul_cancel d2;rw[h1',kV] at e1;rw[h2',kV] at e2;exact h (by rw[<-e1,<-e2];rfl)
 ·simp only[pA]
  rw[Nat.gcd_div d1 d2,Nat.gcd_div d0 d3,Nat.div_self hg]
def Gu(p:Bool)(a g:Nat):(zv p (a/g)).natAbs<=a:=by rw[pA];exact kY ..
def PF.eq{P:Program}{f:FuncId}{vs:List DV}{r r':DV}(h:PF GB P f vs r)(e:r=r'):PF GB P f vs r':=e▸h
def iP(m n:Int):ab:=⟨(m:Rat),(n:Rat)⟩
theorem Ic{m:Int}{k:Nat}(h:m.natAbs<2^k):BI m k:=⟨h⟩
theorem ji{m:Int}{k:Nat}(h:m.natAbs<=1000)(hk:10<=k):BI m k:=⟨dK (show m.natAbs<2^10 by omega) (bY (by decide) hk)⟩
instance aI.int (m n:Int) (i:Nat) [h:BI m i] [k:BI n i]:aI (iP m n) (i+1):=⟨inferInstanceAs (BQ (m:Rat) (i+1)),inferInstanceAs (BQ (n:Rat) (i+1))⟩
def sC{q:Rat}{k:Int}(h:q=(k:Rat)):eQ q=eQ (k:Rat):=by rw[h]
def YX{p:ab}{m n:Int}(h1:p.x=(m:Rat))(h2:p.y=(n:Rat)):eP p=eP (iP m n):=by
 obtain⟨x,y⟩:=p;simp only at h1 h2;subst h1 h2;rfl
def gg(a b c:Int):aa:=
 ⟨zv (decide (a<0)) (a.natAbs/Nat.gcd (Nat.gcd a.natAbs b.natAbs) c.natAbs),zv (decide (b<0)) (b.natAbs/Nat.gcd (Nat.gcd a.natAbs b.natAbs) c.natAbs),zv (decide (c<0)) (c.natAbs/Nat.gcd (Nat.gcd a.natAbs b.natAbs) c.natAbs)⟩
def Xl{a b c:Int}(h: ¬(a=0/\b=0)):(gg a b c).ok:=
 XB fun e=>h ⟨kR.1 (lW e),kR.1 (lX e)⟩
def IN(a b c:Int):(gg a b c).a.natAbs<=a.natAbs/\(gg a b c).b.natAbs<=b.natAbs/\(gg a b c).c.natAbs<=c.natAbs:=⟨Gu ..,Gu ..,Gu ..⟩
def lh{m n:Int}(hm:m.natAbs<=1000)(hn:n.natAbs<=1000):PF GB prog 79 [.v (.int .i64 m), .v (.int .i64 n)] (eP (iP m n)):=by
 refine fn func79 J J ntmps79 J J (fun C=>?_);refine cl J (kI (n:=m) (by omega) (by omega)) J<|cl J (kI (n:=n) (by omega) (by omega)) J<|?_;exact rz J J
def HX{m n m' n' k:Int}(hm:m.natAbs<=1000)(hn:n.natAbs<=1000)(hm':m'.natAbs<=1000)(hn':n'.natAbs<=1000)(hk:k.natAbs<=1000):PF GB prog 100 [eP (iP m n),eQ (k:Rat),eP (iP m' n')] (eP (iP (m+k*m') (n+k*n'))):=by
 haveI:=ji (k:=10) hm (by decide);haveI:=ji (k:=10) hn (by decide);haveI:=ji (k:=10) hm' (by decide);haveI:=ji (k:=10) hn' (by decide);haveI:=ji (k:=10) hk (by decide);exact PF.eq (zp (p:=iP m n) (q:=iP m' n') (c:=(k:Rat))) (YX (by show(m:Rat)+(k:Rat)*(m':Rat)=_;push_cast;rfl) (by show(n:Rat)+(k:Rat)*(n':Rat)=_;push_cast;rfl))
def QO{m n m' n':Int}(hm:m.natAbs<=1000)(hn:n.natAbs<=1000)(hm':m'.natAbs<=1000)(hn':n'.natAbs<=1000):PF GB prog 154 [eP (iP m n),eP (iP m' n')] (eP (iP (m-m') (n-n'))):=by
 refine fn func154 J J ntmps154 J J (fun C=>?_);refine cl J (kI (n:= -1) (by decide) (by decide)) J<|cl J (HX (m:=m) (n:=n) (m':=m') (n':=n') (k:= -1) hm hn hm' hn' (by decide)) J<|?_;exact rz J (by rw[show m-m'=m+ -1*m' by omega,show n-n'=n+ -1*n' by omega];rfl)
def E3{m n m' n':Int}(hm:m.natAbs<=1000)(hn:n.natAbs<=1000)(hm':m'.natAbs<=1000)(hn':n'.natAbs<=1000):PF GB prog 61 [eP (iP m n),eP (iP m' n')] (.v (.bool (decide (m=m'/\n=n')))):=by
 haveI:=ji (k:=10) hm (by decide);haveI:=ji (k:=10) hn (by decide);haveI:=ji (k:=10) hm' (by decide);haveI:=ji (k:=10) hn' (by decide);refine fn func61 J J ntmps61 J J (fun C=>?_);refine cl J (lf (a:=(m:Rat)) (b:=(m':Rat))) J<|?_;refine cs 11 J J J (fun hg11=>?_) (fun hg11=>?_)
 .
  refine cl J (lf (a:=(n:Rat)) (b:=(n':Rat))) J<|?_;exact rz J (by rw[r7] at hg11;have e:m=m':=(by exact_mod_cast hg11);exact congrArg (fun z=>DV.v (.bool z)) (decide_eq_decide.2 (by rw[r7,oX];simp[e])))
 .
  exact rz J (by rw[r7] at hg11;have e: ¬m=m':=(fun e=>hg11 (by rw[e]));show DV.v (.bool false)=DV.v (.bool _);rw[decide_eq_false (fun h=>e h.1)])
def Lm{a b k:Nat}(ha:a<k)(hb:b<k):Nat.gcd a b<k:=by
 rcases fL a with rfl|p
 ·simpa using hb
 ·exact fN (Nat.gcd_le_left b p) ha
def US{a b c:Int}{i:Nat}(ha:BI a i)(hb:BI b i)(hc:BI c i)(hi:i<=100000000)(h0: ¬(a=0/\b=0)):PF GB prog 340 [eI a,eI b,eI c] (.tp [eL (gg a b c), .v (.bool true)]):=by
 have hgn:Nat.gcd a.natAbs b.natAbs≠0:=fun h=>h0 ⟨kR.1 (lW h),kR.1 (lX h)⟩;have hgp:0<Nat.gcd (Nat.gcd a.natAbs b.natAbs) c.natAbs:=mX _ (iY hgn);haveI hb1:BN (Nat.gcd a.natAbs b.natAbs) i:=⟨Lm ha.h hb.h⟩;haveI hb2:BN (Nat.gcd (Nat.gcd a.natAbs b.natAbs) c.natAbs) i:=⟨Lm hb1.h hc.h⟩;refine fn func340 J J ntmps340 J J (fun C=>?_);refine cl J (GX (a:=a.natAbs) (b:=b.natAbs) (by omega) (by omega)) J<|?_;refine br J J J (fun hc22=>?_) (fun hc22=>?_)
 .
  exact absurd hc22 (by rw[aK];intro h;exact hgn (tg.1 (by omega)))
 .
  refine cl J (GX (a:=Nat.gcd a.natAbs b.natAbs) (b:=c.natAbs) (by omega) (by omega)) J<|cl J (wh (a:=a.natAbs) (b:=Nat.gcd (Nat.gcd a.natAbs b.natAbs) c.natAbs) hgp (by omega) (by omega)) J<|?_;refine cl J (wh (a:=b.natAbs) (b:=Nat.gcd (Nat.gcd a.natAbs b.natAbs) c.natAbs) hgp (by omega) (by omega)) J<|cl J (wh (a:=c.natAbs) (b:=Nat.gcd (Nat.gcd a.natAbs b.natAbs) c.natAbs) hgp (by omega) (by omega)) J<|?_;refine cl J (jD (m:=a.natAbs/(Nat.gcd (Nat.gcd a.natAbs b.natAbs) c.natAbs)) (neg:=decide (a<0))) J<|cl J (jD (m:=b.natAbs/(Nat.gcd (Nat.gcd a.natAbs b.natAbs) c.natAbs)) (neg:=decide (b<0))) J<|?_;refine cl J (jD (m:=c.natAbs/(Nat.gcd (Nat.gcd a.natAbs b.natAbs) c.natAbs)) (neg:=decide (c<0))) J<|?_;exact rz J J
def jr(n n':Int):Int:= -(n'-n)
def jA(m m':Int):Int:=m'-m
def oG(m n m' n':Int):Int:= -(jr n n'*m+jA m m'*n)
def ip(m n m' n':Int):aa:=gg (jr n n') (jA m m') (oG m n m' n')
def A5{a b:Int}(ha:a.natAbs<=2000)(hb:b.natAbs<=1000):(a*b).natAbs<=2000000:=by
 rw[jQ];exact kX ha hb
def auh{m n m' n':Int}(hm:m.natAbs<=1000)(hn:n.natAbs<=1000)(hm':m'.natAbs<=1000)(hn':n'.natAbs<=1000)(h0: ¬(m=m'/\n=n')):PF GB prog 246 [eP (iP m n),eP (iP m' n')] (.tp [eL (ip m n m' n'), .v (.bool true)]):=by
 obtain⟨a,hA⟩: ∃a,a=jr n n':=⟨_,rfl⟩;obtain⟨b,hB⟩: ∃b,b=jA m m':=⟨_,rfl⟩;have hA':a= -(n'-n):=hA;have hB':b=m'-m:=hB;obtain⟨c,hC⟩: ∃c,c= -(a*m+b*n):=⟨_,rfl⟩;have e1:=A5 (a:=a) (b:=m) (by omega) hm;have e2:=A5 (a:=b) (b:=n) (by omega) hn;haveI hm0:=ji (k:=10) hm (by decide);haveI hn0:=ji (k:=10) hn (by decide);haveI ha:BI a 30:=Ic (by omega);haveI hb:BI b 30:=Ic (by omega);haveI hc:BI c 30:=Ic (by omega);have hthr:ip m n m' n'=gg a b c:=by rw[hC,hA,hB];rfl
 have hne: ¬(a=0/\b=0):=fun h=>h0 (by omega);refine fn func246 J J ntmps246 J J (fun C=>?_);refine cl J (QO (m:=m') (n:=n') (m':=m) (n':=n) hm' hn' hm hn) J<|cl J (PF.eq (uu (q:=(((n'-n):Int):Rat))) (sC (k:=a) (by rw[hA'];push_cast;rfl))) J<|?_;refine cl J (PF.eq (iD (a:=(a:Rat)) (b:=(m:Rat))) (sC (k:=a*m) (by push_cast;rfl))) J<|cl J (PF.eq (by haveI:BI (m'-m) 30:=(by rw[<-hB'];exact hb);exact iD (a:=(((m'-m):Int):Rat)) (b:=(n:Rat))) (sC (k:=b*n) (by rw[hB'];push_cast;rfl))) J<|?_;refine cl J (PF.eq (ot (a:=((a*m:Int):Rat)) (b:=((b*n:Int):Rat))) (sC (k:=a*m+b*n) (by push_cast;rfl))) J<|cl J (PF.eq (uu (q:=((a*m+b*n:Int):Rat))) (sC (k:=c) (by rw[hC];push_cast;rfl))) J<|?_;refine cl J (j' (q:=(a:Rat))) J<|cl J (j' (q:=(((m'-m):Int):Rat))) J<|cl J (PF.eq (ql (a:=1) (b:=1)) J) J<|?_;refine cl J (j' (q:=(c:Rat))) J<|cl J (PF.eq (ql (a:=1) (b:=1)) J) J<|cl (fu:=⟨1⟩) J (jD (neg:=false) (m:=1)) J<|?_;refine ak 40 (.d (eQ ((1:Int):Rat))) J J ?_;refine gx J<|cl J (PF.eq (iD (a:=(a:Rat)) (b:=((1:Int):Rat))) (sC (k:=a) (by push_cast;grind))) J<|cl J (PF.eq (by haveI:BI (m'-m) 30:=(by rw[<-hB'];exact hb);exact iD (a:=(((m'-m):Int):Rat)) (b:=((1:Int):Rat))) (sC (k:=b) (by rw[hB'];push_cast;grind))) J<|?_;refine cl J (PF.eq (iD (a:=(c:Rat)) (b:=((1:Int):Rat))) (sC (k:=c) (by push_cast;grind))) J<|cl J (US (a:=a) (b:=b) (c:=c) ha hb hc (by decide) hne) J<|?_;exact rz J (by rw[hthr];rfl)
def S6{es:List Int}{a:Nat}(h:a<es.length):(es.map vI)[(a:Int).toNat]? =some (vI es[a]):=by simp[h]
def XD:eP (iP 0 0)= .ag [.v (.bool false), .sl [], .sl [], .v (.bool false), .sl [], .sl []]:=by
 unfold eP iP;simp[n5,dD]
def aB(es:List Int)(n:Int)(a:Nat):Nat×Nat:=
 if h:a<es.length then((if Int.tmod es[a] n<0 then Int.tmod es[a] n+n else Int.tmod es[a] n).toNat,a+1) else(0,a)
def ku{es:List Int}{n:Int}{a:Nat}(hn:1<=n):((aB es n a).1:Int)<n:=by
 unfold aB;split
 ·rename_i h
  have q2:=Int.tmod_lt_of_pos es[a] (show 0<n by omega);dsimp only;split<;>omega
 ·exact hn
def jz{es:List Int}{n:Int}{a:Nat}(ha:a<=es.length):(aB es n a).2<=es.length:=by
 unfold aB;split
 ·assumption
 ·exact ha
def pF(es:List Int)(a:Nat):(Int×Int)×Nat:=((((aB es 9 a).1:Int)-4,((aB es 9 (aB es 9 a).2).1:Int)-4),(aB es 9 (aB es 9 a).2).2)
def tY{es:List Int}{a:Nat}(ha:a<=es.length):(pF es a).1.1.natAbs<=4/\(pF es a).1.2.natAbs<=4/\(pF es a).2<=es.length:=by
 have h1:=ku (es:=es) (n:=9) (a:=a) (by decide);have h2:=ku (es:=es) (n:=9) (a:=(aB es 9 a).2) (by decide);have h3:=jz (n:=9) (jz (es:=es) (n:=9) ha);unfold pF;exact⟨by dsimp only;omega,by dsimp only;omega,h3⟩
def vF(es:List Int)(a:Nat):(Int×Int)×Nat:=if(pF es a).1.1=0/\(pF es a).1.2=0 then((1,0),(pF es a).2) else pF es a
def vQ{es:List Int}{a:Nat}(ha:a<=es.length):(vF es a).1.1.natAbs<=4/\(vF es a).1.2.natAbs<=4/\ ¬((vF es a).1.1=0/\(vF es a).1.2=0)/\(vF es a).2<=es.length:=by
 obtain⟨h1,h2,h3⟩:=tY ha;unfold vF;split
 ·exact⟨show(1:Int).natAbs<=4 by decide,show(0:Int).natAbs<=4 by decide,show¬((1:Int)=0/\(0:Int)=0) by decide,h3⟩
 ·rename_i h;exact⟨h1,h2,h,h3⟩
def lF(es:List Int)(a:Nat):aa×Nat:=(ip (pF es a).1.1 (pF es a).1.2 ((pF es a).1.1+1*(vF es (pF es a).2).1.1) ((pF es a).1.2+1*(vF es (pF es a).2).1.2),(vF es (pF es a).2).2)
def ly(es:List Int):Nat->Nat->Tr×Nat
 |0,a=>(.leaf (decide (((aB es 2 a).1:Int)=1)),(aB es 2 a).2)
 |d+1,a=>if((aB es 4 a).1:Int)=0 then(.leaf (decide (((aB es 2 (aB es 4 a).2).1:Int)=1)),(aB es 2 (aB es 4 a).2).2) else
  (.node (lF es (aB es 4 a).2).1 (ly es d (lF es (aB es 4 a).2).2).1 (ly es d (ly es d (lF es (aB es 4 a).2).2).2).1,(ly es d (ly es d (lF es (aB es 4 a).2).2).2).2)
def qc{b:Nat}{es:List Int}(hes:es.length<=400){a:Nat}(ha:a<=es.length){n:Int}(hn:1<=n)(hn2:n<=1000):PM GB prog 18 (iC [none,some (.v (.int .i64 n))] b) b 126 [.sl (es.map vI), .v (.int .i64 (a:Nat))] (.v (.int .i64 ((aB es n a).1:Nat))) [.sl (es.map vI), .v (.int .i64 ((aB es n a).2:Nat))]:=by
 have hel:(es.map vI).length=es.length:=by simp
 refine tM func18 J J ntmps18 J J (fun C b m lo hmb=>?_);refine br J J J (fun hc15=>?_) (fun hc15=>?_)
 .
  have hf:aB es n a=(0,a):=by unfold aB;rw[dif_neg (by omega)]
  exact lG hmb J J (by rw[hf]<;>rfl) (by rw[hf]<;>rfl)
 .
  have hal:a<es.length:=by omega
  obtain⟨e,he⟩: ∃e,e=es[a]:=⟨_,rfl⟩;have q2:=Int.tmod_lt_of_pos e (show 0<n by omega);have q3: -n<Int.tmod e n:=by have:=Int.lt_tmod_of_pos e (show 0<n by omega);omega
  refine ix (fu:=⟨1⟩) _ J (S6 hal) J<|?_;refine ak 25 (.d (vI e)) J (by rw[he]<;>rfl) ?_;refine gx (hv:=by simp only[ah];exact⟨⟨by omega,by kernel_rfl⟩,by omega⟩) J<|?_;refine br J J J (fun hc36=>?_) (fun hc36=>?_)
  .
   have hf:aB es n a=((Int.tmod e n+n).toNat,a+1):=by unfold aB;rw[dif_pos hal,<-he,if_pos hc36]
   exact lG hmb J J (by rw[hf];show DV.v (.int .i64 _)=DV.v (.int .i64 _);rw[pR (by omega)]) (by rw[hf]<;>rfl)
  .
   have hf:aB es n a=((Int.tmod e n).toNat,a+1):=by unfold aB;rw[dif_pos hal,<-he,if_neg hc36]
   exact lG hmb J J (by rw[hf];show DV.v (.int .i64 _)=DV.v (.int .i64 _);rw[pR (by omega)]) (by rw[hf]<;>rfl)
def H'{b:Nat}{es:List Int}(hes:es.length<=400){a:Nat}(ha:a<=es.length):PM GB prog 97 (iC [none] b) b 126 [.sl (es.map vI), .v (.int .i64 (a:Nat))] (eP (iP (pF es a).1.1 (pF es a).1.2)) [.sl (es.map vI), .v (.int .i64 ((pF es a).2:Nat))]:=by
 have h1:=ku (es:=es) (n:=9) (a:=a) (by decide);have h2:=ku (es:=es) (n:=9) (a:=(aB es 9 a).2) (by decide);refine tM func97 J J ntmps97 J J (fun C b m lo hmb=>?_);refine cm J (fun b=>(qc (n:=9) hes ha (by decide) (by decide))) J<|cm J (fun b=>(qc (n:=9) hes (jz ha) (by decide) (by decide))) J<|?_;refine cl J (lh (m:=((aB es 9 a).1:Int)-4) (n:=((aB es 9 (aB es 9 a).2).1:Int)-4) (by omega) (by omega)) J<|?_;exact lG hmb J J J J
def LZ{b:Nat}{es:List Int}(hes:es.length<=400){a:Nat}(ha:a<=es.length):PM GB prog 98 (iC [none] b) b 126 [.sl (es.map vI), .v (.int .i64 (a:Nat))] (eP (iP (vF es a).1.1 (vF es a).1.2)) [.sl (es.map vI), .v (.int .i64 ((vF es a).2:Nat))]:=by
 obtain⟨hm,hn,ha1⟩:=tY ha;refine tM func98 J J ntmps98 J J (fun C b m lo hmb=>?_);refine cm (fu:=⟨9⟩) J (fun b=>(H' hes ha)) J<|?_;refine ak 7 (.d (eP (iP 0 0))) J (by rw[XD]<;>rfl) ?_;refine gx J<|cl J (E3 (m:=(pF es a).1.1) (n:=(pF es a).1.2) (m':=0) (n':=0) (by omega) (by omega) (by decide) (by decide)) J<|?_;refine bd J J J (fun hc8=>?_) (fun hc8=>?_)
 .
  have hf:vF es a=((1,0),(pF es a).2):=by unfold vF;rw[if_pos hc8]
  refine cl J (lh (m:=1) (n:=0) (by decide) (by decide)) J<|?_;exact lG hmb J J (by rw[hf]<;>rfl) (by rw[hf])
 .
  have hf:vF es a=pF es a:=by unfold vF;rw[if_neg hc8]
  exact lG hmb J J (by rw[hf]<;>rfl) (by rw[hf])
def Su{p:Bool}:PF GB prog 161 [.v (.bool p)] (eT (.leaf p)):=by
 refine fn func161 J J ntmps161 J J (fun C=>?_);refine iA 5 J ?_;exact rz J J
abbrev ZP:=Int×Int
def ZP.q(p:ZP):ab:=iP p.1 p.2
def ZP.le(k:Nat)(p:ZP):Prop:=p.1.natAbs<=k/\p.2.natAbs<=k
def tP(p q:ZP):ZP:=(p.1+1*q.1,p.2+1*q.2)
def qG(u v:ZP):Int:=u.1*v.2-u.2*v.1
theorem L6{m n p q:Int}(hm:m.natAbs<=1000)(hn:n.natAbs<=1000)(hp:p.natAbs<=1000)(hq:q.natAbs<=1000)(h: ¬(p=m/\q=n)):LB (ip m n p q)/\(ip m n p q).ok:=by
 have e1:(jr n q).natAbs<=2000:=by unfold jr;omega
 have e2:(jA m p).natAbs<=2000:=by unfold jA;omega
 have e3:=A5 e1 hm;have e4:=A5 e2 hn;have e5:(oG m n p q).natAbs<=4000000:=by unfold oG;omega
 unfold ip;obtain⟨k1,k2,k3⟩:=IN (jr n q) (jA m p) (oG m n p q);have hb:(2:Nat)^96=79228162514264337593543950336:=by decide
 refine⟨⟨⟨?_,?_,?_⟩⟩,Xl ?_⟩
 ·rw[hb];omega
 ·rw[hb];omega
 ·rw[hb];omega
 ·unfold jr jA;omega
def cI(v w:ZP):aG:=⟨ip v.1 v.2 w.1 w.2,⟨er (ip v.1 v.2 w.1 w.2) v.q,er (ip v.1 v.2 w.1 w.2) w.q,false,false⟩⟩
def d8(r:List ZP)(i:Nat):ZP:=r.getD ((i+1)%r.length) (0,0)
def jh(r:List ZP):Nat->List aG
 |0=>[]
 |k+1=>jh r k++[cI (r.getD k (0,0)) (d8 r k)]
def ey(r:List ZP):List aG:=jh r r.length
structure cF (r:List ZP):Prop where
 n3:3<=r.length
 n6:r.length<=6
 le: ∀p∈r,ZP.le 100 p
 ne: ∀i<r.length,r.getD i (0,0)≠d8 r i
def t7{r:List ZP}{i:Nat}(h:i<r.length):r.getD i (0,0)∈r:=by
 rw[aX,aZ h];exact cV h
def vP{r:List ZP}{i:Nat}(h:i<r.length):d8 r i∈r:=t7 (dW _ (by omega))
theorem BQ.int1200{m:Int}(h:m.natAbs<=1000):BQ (m:Rat) 1200:=by
 haveI:BI m 11:=ji h (by decide);exact BQ.mono (inferInstance:BQ (m:Rat) 12) (by decide)
theorem Mp{l:aa}(hl:LB l)(ho:l.ok){m n:Int}(hm:m.natAbs<=1000)(hn:n.natAbs<=1000):BQ (er l (iP m n)) 1200:=by
 haveI:=ji (k:=11) hm (by decide);haveI:=ji (k:=11) hn (by decide);have hd:=vC ho.ne;have hA:BI (l.a*l.a+l.b*l.b) _:=inferInstance;have hB:BI (m*l.b-n*l.a) _:=inferInstance;have hA':=CG (j:=1200) hA (by decide);have hB':=CG (j:=1200) hB (by decide);have e1:l.dir.dot l.dir=((l.a*l.a+l.b*l.b:Int):Rat):=by
  rw[oJ,cN,cN];simp only[aa.dir,ab.dot];grind
 have e2:(iP m n).dot l.dir=((m*l.b-n*l.a:Int):Rat):=by
  rw[oK,cN,cN];simp only[aa.dir,ab.dot,iP];grind
 have hd':((0:Int):Rat)<((l.a*l.a+l.b*l.b:Int):Rat):=by rw[<-e1];exact hd
 unfold er;rw[e2,e1];clear hA hB e1 e2;generalize l.a*l.a+l.b*l.b=D at*;generalize m*l.b-n*l.a=M at*;have hD:0<D:=rZ.1 hd';refine BQ.of_fracI (n:=M) (D:=D) (by omega) ?_ hB' hA';have h0:(D:Rat)≠0:=fun e=>by rw[e] at hd';exact absurd hd' (by decide)
 have:((D.natAbs:Nat):Rat)=(D:Rat):=by
  have h1:((D.natAbs:Nat):Int)=D:=by omega
  rw[<-h1];rfl
 rw[this];grind
def JM{v w:ZP}(hv:ZP.le 100 v)(hw:ZP.le 100 w)(h:v≠w):kE (cI v w):=by
 obtain⟨h1,h2⟩:=L6 (m:=v.1) (n:=v.2) (p:=w.1) (q:=w.2) (by have:=hv.1;omega) (by have:=hv.2;omega) (by have:=hw.1;omega) (by have:=hw.2;omega) (fun e=>h (Prod.ext e.1.symm e.2.symm));exact⟨h1,h2,⟨fun e=>(by cases e),fun e=>(by cases e)⟩,Mp h1 h2 (by have:=hv.1;omega) (by have:=hv.2;omega),Mp h1 h2 (by have:=hw.1;omega) (by have:=hw.2;omega)⟩
def EJ{r:List ZP}(h:cF r): ∀{k:Nat},k<=r.length->(jh r k).length=k/\ ∀f∈jh r k,kE f
 |0,_=>⟨J,fun f hf=>by cases hf⟩
 |k+1,hk=>by
  obtain⟨h1,h2⟩:=EJ h (k:=k) (by omega);rw[jh];refine⟨by simp[h1],fun f hf=>?_⟩;rcases cX.1 hf with hf|hf
  ·exact h2 f hf
  ·rw[aV] at hf;subst hf
   exact JM (h.le _ (t7 (by omega))) (h.le _ (vP (by omega))) (h.ne k (by omega))
def rF{r:List ZP}(h:cF r):(ey r).length=r.length/\ ∀f∈ey r,kE f:=EJ h (aL _)
def b9(rs:List (List ZP)):List aG:=rs.flatMap ey
def nq: ∀{rs:List (List ZP)},(∀r∈rs,cF r)->(b9 rs).length<=6*rs.length/\ ∀f∈b9 rs,kE f
 |[],_=>⟨aL _,fun f hf=>by cases hf⟩
 |r::rs,h=>by
  obtain⟨h1,h2⟩:=nq (rs:=rs) fun q hq=>h q (aJ _ hq);obtain⟨k1,k2⟩:=rF (h r aQ);have:=(h r aQ).n6;unfold b9 at*;rw[mJ];refine⟨by rw[aY,k1,bU];omega,fun f hf=>?_⟩;rcases cX.1 hf with hf|hf
  ·exact k2 f hf
  ·exact h2 f hf
def rm(a b c:ab):Int:=(ab.cross (cv b a (-1)) (cv c a (-1))).num.sign
def ph(v w p:ab):Int:=
 (if bg v.y p.y<=0/\ ¬bg w.y p.y<=0/\0<rm v w p then 1 else 0)-(if¬bg v.y p.y<=0/\bg w.y p.y<=0/\rm v w p<0 then 1 else 0)
def me(r:List ZP)(p:ab):Nat->Int
 |0=>0
 |k+1=>me r p k+ph (r.getD k (0,0)).q (d8 r k).q p
def ja(r:List ZP)(p:ab):Int:=me r p r.length
def ng(fill n:Int):Bool:=(decide (fill=1)&&decide (n.tmod 2≠0))||(decide (fill=2)&&decide (n≠0))
def gj(rs:List (List ZP))(fill:Int)(p:ab):Bool:=ng fill (rs.foldl (fun n r=>n+ja r p) 0)
def ol(rs:List (List ZP))(fill:Int):Tr:=gu (gj rs fill) (b9 rs).length (b9 rs) []
def kg(rs:List (List ZP))(fill:Int):Tr:=(ol rs fill).restrict []
structure m8 (k:Nat) (t:Tr):Prop where
 gd:t.gd
 dp:t.depth<=k
 am: ∃K:List aa,K.length<=k/\(∀l∈K,l.ok)/\mE K t
def Nn{acc:ab->Bool}{n:Nat}{l:List aG}(h: ∀f∈l,kE f)(hn:l.length=n):m8 n (gu acc n l []):=
 ⟨⟨r5 fun f hf=>(h f hf).lb,r5 fun f hf=>(h f hf).ok⟩,C6,l.map (·.l),by rw[aK,hn];exact aL _,fun m hm=>by
  obtain⟨f,hf,rfl⟩:=bM.1 hm;exact(h f hf).ok,r5 fun f hf=>⟨f.l,gM hf, .inl rfl⟩⟩
def m8.restrict{k:Nat}{t:Tr}(h:m8 k t)(c:aE):m8 k (t.restrict c):=by
 obtain⟨K,h1,h2,h3⟩:=h.am;exact⟨Xt h.gd c,cR (t.restrict_depth c) h.dp,K,h1,h2,h3.restrict c⟩
def m8.mono{j k:Nat}{t:Tr}(h:m8 j t)(hk:j<=k):m8 k t:=by
 obtain⟨K,h1,h2,h3⟩:=h.am;exact⟨h.gd,cR h.dp hk,K,by omega,h2,h3⟩
def Jq{rs:List (List ZP)}{fill:Int}(h: ∀r∈rs,cF r)(hn:rs.length<=3):m8 18 (kg rs fill):=by
 obtain⟨h1,h2⟩:=nq h;exact((Nn (acc:=gj rs fill) h2 J).restrict []).mono (by omega)
def kv(p q:ZP):Int:=if p.1<q.1 then-1 else if q.1<p.1 then 1 else if p.2<q.2 then-1 else if q.2<p.2 then 1 else 0
def ke(x:ZP):List ZP->List ZP
 |[]=>[x]
 |u::t=>if kv u x<0 then u::ke x t else if kv u x=0 then u::t else x::u::t
def ow(l:List ZP):List ZP:=l.foldl (fun out x=>ke x out) []
def Il{x:ZP}: ∀{l:List ZP},(ke x l).length<=l.length+1
 |[]=>aL _
 |u::t=>by
  rw[ke];have:=Il (x:=x) (l:=t);split
  ·simp;omega
  ·split<;>simp
def QF(l:List ZP):(ow l).length<=l.length:=by
 have key: ∀(l o:List ZP),(l.foldl (fun out x=>ke x out) o).length<=l.length+o.length:=by
  intro l
  induction l with
  |nil=>intro o;simp
  |cons x t ih=>intro o;have:=ih (ke x o);have:=Il (x:=x) (l:=o);simp only[dT,bU];omega
 have:=key l [];simpa[ow] using this
def qy(a b c d:Int):List ZP:=[(a,b),(c,b),(c,d),(a,d)]
def DZ{r:List ZP}{i:Nat}(h:i+1<r.length):d8 r i=r.getD (i+1) (0,0):=by unfold d8;rw[gQ h]
def GJ{r:List ZP}{i:Nat}(h:i+1=r.length):d8 r i=r.getD 0 (0,0):=by unfold d8;rw[h,Nat.mod_self]
def X5{a b c d:Int}(h1:a.natAbs<=50)(h2:b.natAbs<=50)(h3:c.natAbs<=50)(h4:d.natAbs<=50)(h5:a<c)(h6:b<d):cF (qy a b c d):=by
 refine⟨by simp[qy],by simp[qy],fun p hp=>?_,fun i hi=>?_⟩
 ·simp only[qy,aT,jL,or_false] at hp
  rcases hp with rfl|rfl|rfl|rfl<;>exact⟨by dsimp only;omega,by dsimp only;omega⟩
 ·have:i=0\/i=1\/i=2\/i=3:=by simp[qy] at hi;omega
  rcases this with rfl|rfl|rfl|rfl<;>simp[qy,d8]<;>omega
def qh(p u v:ZP):List ZP:=[p,tP p u,tP p v]
def XG{p u v:ZP}(h1:ZP.le 40 p)(h2:ZP.le 40 u)(h3:ZP.le 40 v)(h:qG u v≠0):cF (qh p u v):=by
 obtain⟨p1,p2⟩:=p;obtain⟨u1,u2⟩:=u;obtain⟨v1,v2⟩:=v;unfold ZP.le at h1 h2 h3;dsimp only at h1 h2 h3;unfold qG at h;dsimp only at h;refine⟨by simp[qh],by simp[qh],fun p hp=>?_,fun i hi=>?_⟩
 ·simp only[qh,tP,aT,jL,or_false] at hp
  rcases hp with rfl|rfl|rfl<;>exact⟨by dsimp only;omega,by dsimp only;omega⟩
 ·have:i=0\/i=1\/i=2:=by simp[qh] at hi;omega
  have hu: ¬(u1=0/\u2=0):=fun e=>h (by rw[e.1,e.2];simp);have hv: ¬(v1=0/\v2=0):=fun e=>h (by rw[e.1,e.2];simp);have huv: ¬(u1=v1/\u2=v2):=fun e=>h (by rw[e.1,e.2,sV];omega);rcases this with rfl|rfl|rfl<;>simp[qh,tP,d8]<;>omega
def mv(es:List Int):Nat->Nat->List ZP->List ZP×Nat
 |0,a,out=>(out,a)
 |n+1,a,out=>mv es n (pF es a).2 (if out.getLast? =some (pF es a).1 then out else out++[(pF es a).1])
structure kt (r:List ZP):Prop where
 ne: ∀i,i+1<r.length->r.getD i (0,0)≠r.getD (i+1) (0,0)
 le: ∀p∈r,ZP.le 100 p
def kt.snoc{r:List ZP}{p:ZP}(h:kt r)(hp:ZP.le 100 p)(hl:r.getLast? ≠some p):kt (r++[p]):=by
 refine⟨fun i hi=>?_,fun q hq=>?_⟩
 ·rw[aY,fR] at hi
  rw[aX,aX];by_cases h1:i+1<r.length
  ·rw[eX (by omega),eX h1]
   have:=h.ne i h1;rwa [aX,aX] at this
  ·have e:i+1=r.length:=by omega
   rw[eX (by omega),e,iV (aL _),pX];rw[lY,<-e,lR] at hl;rw[aZ (by omega)] at hl⊢;intro c;exact hl (by simpa using c)
 ·rcases cX.1 hq with hq|hq
  ·exact h.le q hq
  ·rw[aV] at hq;subst hq;exact hp
def Ff{es:List Int}: ∀{n a:Nat} {out:List ZP},a<=es.length->kt out->kt (mv es n a out).1/\(mv es n a out).1.length<=out.length+n/\(mv es n a out).2<=es.length
 |0,a,out,ha,h=>⟨h,aL _,ha⟩
 |n+1,a,out,ha,h=>by
  obtain⟨h1,h2,h3⟩:=tY ha;rw[mv];by_cases hl:out.getLast? =some (pF es a).1
  ·rw[if_pos hl]
   obtain⟨k1,k2,k3⟩:=Ff (n:=n) h3 h;exact⟨k1,by omega,k3⟩
  ·rw[if_neg hl]
   obtain⟨k1,k2,k3⟩:=Ff (n:=n) h3 (h.snoc (p:=(pF es a).1) ⟨by omega,by omega⟩ hl);rw[aY,fR] at k2;exact⟨k1,by omega,k3⟩
def jO:Nat->List ZP->List ZP
 |0,l=>l
 |n+1,l=>if 1<l.length/\l.getD 0 (0,0)=l.getD (l.length-1) (0,0) then jO n l.dropLast else l
def kt.drop{r:List ZP}(h:kt r):kt r.dropLast:=by
 refine⟨fun i hi=>?_,fun p hp=>h.le p ((rU _).subset hp)⟩;rw[iZ] at hi;have:=h.ne i (by omega);rw[aX,aX] at this⊢;rw[rX,rX,if_pos (by omega),if_pos (by omega)];exact this
def JI: ∀{n:Nat} {l:List ZP},kt l->l.length<=n+1->kt (jO n l)/\(jO n l).length<=l.length/\(1<(jO n l).length->(jO n l).getD 0 (0,0)≠(jO n l).getD ((jO n l).length-1) (0,0))
 |0,l,h,hn=>⟨h,aL _,fun k=>absurd k (by unfold jO;omega)⟩
 |n+1,l,h,hn=>by
  rw[jO];split
  ·obtain⟨h1,h2,h3⟩:=JI (n:=n) h.drop (by rw[iZ];omega)
   rw[iZ] at h2;exact⟨h1,by omega,h3⟩
  ·rename_i hc
   exact⟨h,aL _,fun k e=>hc ⟨k,e⟩⟩
def Qz{r:List ZP}(h:kt r)(h6:r.length<=6)(hc:1<r.length->r.getD 0 (0,0)≠r.getD (r.length-1) (0,0))(h3:3<=(ow r).length):cF r:=by
 have:=QF r;refine⟨by omega,h6,h.le,fun i hi=>?_⟩;by_cases h1:i+1<r.length
 ·rw[DZ h1];exact h.ne i h1
 ·have e:i+1=r.length:=by omega
  rw[GJ e];have:=hc (by omega);rw[show i=r.length-1 by omega];exact fun k=>this k.symm
def wq:List ZP:=[(0,0),(2,0),(0,2)]
def Mb:cF wq:=⟨by decide,by decide,fun p hp=>by
  simp only[wq,aT,jL,or_false] at hp;rcases hp with rfl|rfl|rfl<;>exact⟨by decide,by decide⟩,fun i hi=>by
  have:i=0\/i=1\/i=2:=by simp[wq] at hi;omega
  rcases this with rfl|rfl|rfl<;>decide⟩
def og(es:List Int)(a:Nat):List ZP×Nat:=
 ((if(ow (jO 6 (mv es (3+(aB es 4 a).1) (aB es 4 a).2 []).1)).length<3 then wq else jO 6 (mv es (3+(aB es 4 a).1) (aB es 4 a).2 []).1),(mv es (3+(aB es 4 a).1) (aB es 4 a).2 []).2)
def kt.nil:kt []:=⟨fun i hi=>by simp at hi,fun p hp=>by cases hp⟩
def Eg{es:List Int}{a:Nat}(ha:a<=es.length):cF (og es a).1/\(og es a).2<=es.length:=by
 have h1:=ku (es:=es) (n:=4) (a:=a) (by decide);obtain⟨k1,k2,k3⟩:=Ff (n:=3+(aB es 4 a).1) (jz (n:=4) ha) kt.nil;obtain⟨t1,t2,t3⟩:=JI (n:=6) k1 (by simp at k2;omega);refine⟨?_,k3⟩;unfold og;dsimp only;split
 ·exact Mb
 ·exact Qz t1 (by simp at k2;omega) t3 (by omega)
def zh(es:List Int)(n m k:Int)(a:Nat):List ZP×Nat:=
 let x:=aB es n a
 let y:=aB es n x.2
 let z:=aB es m y.2
 let w:=aB es m z.2
 (qy ((x.1:Int)-k) ((y.1:Int)-k) ((x.1:Int)-k+1+z.1) ((y.1:Int)-k+1+w.1),w.2)
def YO{es:List Int}{n m k:Int}{a:Nat}(ha:a<=es.length)(hn:1<=n)(hn2:n<=10)(hm:1<=m)(hm2:m<=10)(hk:0<=k)(hk2:k<=10):cF (zh es n m k a).1/\(zh es n m k a).2<=es.length:=by
 have h1:=ku (es:=es) (a:=a) hn;have h2:=ku (es:=es) (a:=(aB es n a).2) hn;have h3:=ku (es:=es) (a:=(aB es n (aB es n a).2).2) hm;have h4:=ku (es:=es) (a:=(aB es m (aB es n (aB es n a).2).2).2) hm;exact⟨X5 (by omega) (by omega) (by omega) (by omega) (by omega) (by omega),jz (jz (jz (jz ha)))⟩
def gF(es:List Int)(a:Nat):List ZP×Nat:=
 let k:=aB es 4 a
 if(k.1:Int)=0 then zh es 5 4 4 k.2
 else if(k.1:Int)=1 then
  let p:=pF es k.2
  let u:=vF es p.2
  let v:=vF es u.2
  if qG u.1 v.1≠0 then(qh p.1 u.1 v.1,v.2) else og es v.2
 else og es k.2
def F6{es:List Int}{a:Nat}(ha:a<=es.length):cF (gF es a).1/\(gF es a).2<=es.length:=by
 have h0:=jz (n:=4) ha;unfold gF;dsimp only;split
 ·exact YO h0 (by decide) (by decide) (by decide) (by decide) (by decide) (by decide)
 ·split
  ·obtain⟨p1,p2,p3⟩:=tY h0
   obtain⟨u1,u2,u3,u4⟩:=vQ p3;obtain⟨v1,v2,v3,v4⟩:=vQ u4;split
   ·rename_i hc
    exact⟨XG ⟨by omega,by omega⟩ ⟨by omega,by omega⟩ ⟨by omega,by omega⟩ hc,v4⟩
   ·exact Eg v4
  ·exact Eg h0
def ZK:List ZP:=[(0,0),(1,0),(0,1)]
def P3(es:List Int)(a:Nat):List ZP×Nat:=
 let k:=aB es 2 a
 if(k.1:Int)=0 then zh es 3 2 1 k.2
 else
  let x:=aB es 3 k.2
  let y:=aB es 3 x.2
  let u1:=aB es 2 y.2
  let u2:=aB es 3 u1.2
  let v1:=aB es 3 u2.2
  let v2:=aB es 2 v1.2
  (if 0<qG (1+(u1.1:Int),(u2.1:Int)-1) ((v1.1:Int)-1,1+(v2.1:Int)) then qh ((x.1:Int)-1,(y.1:Int)-1) (1+(u1.1:Int),(u2.1:Int)-1) ((v1.1:Int)-1,1+(v2.1:Int)) else ZK,v2.2)
def sO(es:List Int)(a:Nat):Tr×Nat:=
 let r:=gF es a
 let k:=aB es 3 r.2
 if(k.1:Int)=0 then
  let s:=gF es k.2
  let f:=aB es 2 s.2
  (kg [r.1,s.1] (1+(f.1:Int)),f.2)
 else
  let f:=aB es 2 k.2
  (kg [r.1] (1+(f.1:Int)),f.2)
def HJ(l:aa):Tr:=(Tr.node l (.leaf true) (.leaf false)).restrict []
def rh(es:List Int):Nat->Nat->Tr×Nat
 |0,a=>
  let k:=aB es 6 a
  if(k.1:Int)=1 then(HJ (lF es k.2).1,(lF es k.2).2)
  else if(k.1:Int)=2 then((ly es 3 k.2).1.restrict [],(ly es 3 k.2).2)
  else if(k.1:Int)=3 then((sO es k.2).1.compl,(sO es k.2).2)
  else sO es k.2
 |d+1,a=>
  let k:=aB es 6 a
  if(k.1:Int)=0 then
   let x:=rh es d k.2
   let o:=aB es 4 x.2
   let y:=rh es d o.2
   (x.1.mergeQ (1+(o.1:Int)) y.1 [],y.2)
  else if(k.1:Int)=1 then(HJ (lF es k.2).1,(lF es k.2).2)
  else if(k.1:Int)=2 then((ly es 3 k.2).1.restrict [],(ly es 3 k.2).2)
  else if(k.1:Int)=3 then((sO es k.2).1.compl,(sO es k.2).2)
  else sO es k.2
def aIC(es:List Int)(a:Nat):Tr×Nat:=
 let k:=aB es 4 a
 if(k.1:Int)=0 then(HJ (lF es k.2).1,(lF es k.2).2)
 else if(k.1:Int)=1 then((ly es 2 k.2).1.restrict [],(ly es 2 k.2).2)
 else(kg [(P3 es k.2).1] 2,(P3 es k.2).2)
end Go.Sx
end
