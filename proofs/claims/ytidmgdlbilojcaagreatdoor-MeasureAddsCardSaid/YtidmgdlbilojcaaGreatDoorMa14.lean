import Derived.Test.YtidmgdlbilojcaaGreatDoorMa13
import Derived.WalkKit
import Derived.LaidEql
import Derived.Stop.Asserts
import Derived.RowKitTokens
set_option linter.all false
set_option maxHeartbeats 2000000
set_option maxRecDepth 100000
section
namespace Go.Sx
open Go Go.Proofs Tryz
variable {GB:Gh}
def MI{G:Gh}{l:aa}{x y:Tr}{m:List Value}(h:IsLs G (cU (.node l x y)) m): ∃n1 d1 p1 n2 d2 p2 n3 d3 p3 q r,m=[.int .i64 n1, .int .i64 d1, .pointer p1, .int .i64 n2, .int .i64 d2, .pointer p2, .int .i64 n3, .int .i64 d3, .pointer p3, .pointer q, .pointer r, .bool false]/\
  Is G (eG l) (.agg ⟨[.int .i64 n1, .int .i64 d1, .pointer p1, .int .i64 n2, .int .i64 d2, .pointer p2, .int .i64 n3, .int .i64 d3, .pointer p3]⟩)/\Is G (eU x) (.pointer q)/\Is G (eU y) (.pointer r):=by
 obtain⟨v1,m,rfl,h1,h⟩:=aH.1 h;obtain⟨v2,m,rfl,h2,h⟩:=aH.1 h;obtain⟨v3,m,rfl,h3,h⟩:=aH.1 h;obtain⟨v4,m,rfl,h4,h⟩:=aH.1 h;obtain⟨v5,m,rfl,h5,h⟩:=aH.1 h;obtain⟨v6,m,rfl,h6,h⟩:=aH.1 h;obtain⟨v7,m,rfl,h7,h⟩:=aH.1 h;obtain⟨v8,m,rfl,h8,h⟩:=aH.1 h;obtain⟨v9,m,rfl,h9,h⟩:=aH.1 h;obtain⟨va,m,rfl,ha,h⟩:=aH.1 h;obtain⟨vb,m,rfl,hb,h⟩:=aH.1 h;obtain⟨vc,m,rfl,hc,h⟩:=aH.1 h;rw[er] at h;subst h;obtain⟨_,rfl⟩:=xC h3;obtain⟨_,rfl⟩:=xC h6;obtain⟨_,rfl⟩:=xC h9;obtain⟨_,rfl⟩:=qt ha;obtain⟨_,rfl⟩:=qt hb
 cases aD.1 h1;cases aD.1 h2;cases aD.1 h4;cases aD.1 h5;cases aD.1 h7;cases aD.1 h8;cases aD.1 hc
 exact⟨_,_,_,_,_,_,_,_,_,_,_,J,d7.2 ⟨_,J, .cons h1 (.cons h2 (.cons h3 (.cons h4 (.cons h5 (.cons h6 (.cons h7 (.cons h8 (.cons h9 .nil))))))))⟩,ha,hb⟩
def aCs{G:Gh}{b:Bool}{m:List Value}(h:IsLs G (cU (.leaf b)) m):m=[.int .i64 0, .int .i64 0, .pointer none, .int .i64 0, .int .i64 0, .pointer none, .int .i64 0, .int .i64 0, .pointer none, .pointer none, .pointer none, .bool b]:=by
 obtain⟨v1,m,rfl,h1,h⟩:=aH.1 h;obtain⟨v2,m,rfl,h2,h⟩:=aH.1 h;obtain⟨v3,m,rfl,h3,h⟩:=aH.1 h;obtain⟨v4,m,rfl,h4,h⟩:=aH.1 h;obtain⟨v5,m,rfl,h5,h⟩:=aH.1 h;obtain⟨v6,m,rfl,h6,h⟩:=aH.1 h;obtain⟨v7,m,rfl,h7,h⟩:=aH.1 h;obtain⟨v8,m,rfl,h8,h⟩:=aH.1 h;obtain⟨v9,m,rfl,h9,h⟩:=aH.1 h;obtain⟨va,m,rfl,ha,h⟩:=aH.1 h;obtain⟨vb,m,rfl,hb,h⟩:=aH.1 h;obtain⟨vc,m,rfl,hc,h⟩:=aH.1 h;rw[er] at h;subst h
 cases aD.1 h1;cases aD.1 h2;cases aD.1 h3;cases aD.1 h4;cases aD.1 h5;cases aD.1 h6;cases aD.1 h7;cases aD.1 h8;cases aD.1 h9;cases aD.1 ha;cases aD.1 hb;cases aD.1 hc
 rfl
def Iu: ∀{t:Tr} {A A2 G:Gh} {p:Option Addr} {ob wb:Nat} {lo lo2:Bool} {x:SV} {zs:List ND} {ns:List NQ} {B:List ak},Is A (eU t) (.pointer p)->t.all LB->[GL A G]->[GL A2 G]->jp 8 182 x (zs.map ND.val) B->gk (sr 96 A2) zs ns->zs.length+t.size<=1000000->
  gO prog 129 [.pointer p, .pointer (some ⟨ob,0,none⟩), .pointer (some ⟨wb,0,none⟩)] (⟨ob,[.int .i64 0, .slice x.a x.n x.c],25,lo⟩::⟨wb,[od ob wb],237,lo2⟩::B) G
   (fun v own' G'=> ∃x' zs' B',v= .int .i64 (t.num zs.length)/\own'=⟨ob,[.int .i64 0, .slice x'.a x'.n x'.c],25,false⟩::⟨wb,[od ob wb],237,false⟩::B'/\jp 8 182 x' (zs'.map ND.val) B'/\gk (sr 96 G') zs' (ns++t.wr zs.length))
 | .leaf bb,A,A2,G,p,ob,wb,lo,lo2,x,zs,ns,B,h,_,_,_,hB,hz,hle=>by
  obtain⟨n,m,e,hg,hm⟩:=oP.1 (id h)
  cases e
  cases aCs hm
  have hG:tk A n _:=⟨hg⟩;have hz':gk (sr 96 G) zs (ns++[]):=by rw[jJ];exact hz.imp fun _ _ h=>h.up
  refine gO.intro func129 J J ntmps129 J ?_;intro C _ _;show St C _ _ (⟨ob,[.int .i64 0, .slice x.a x.n x.c],25,false⟩::⟨wb,[od ob wb],237,false⟩::asB B) _ _;refine sR<|sa J J<|zE<|bt<|sR<|sm J J<|?_;refine sc (zC J J (PF.fn0 qI (.cons (h.up GL.le) .nil)) J ?_);rintro _ G1 _ hv
  cases aD.1 hv
  refine zE<|n7 J<|?_;refine bt<|sR<|sm J J<|sn J J<|sf J J<|Wg J J J<|zE<|?_
  cases bb
  case true=>
   refine n7 J<|sR<|sa J J<|zE<|cH<|?_;exact zz (.tmp J .nil) _ _ (List.Perm.refl _) (List.Sublist.refl _) ⟨x,zs,_,J,J,hB.asB,hz'.imp fun _ _ h=>h.up⟩
  refine td J<|zK<|sR<|sa J J<|zE<|cH<|?_;exact zz (.tmp J .nil) _ _ (List.Perm.refl _) (List.Sublist.refl _) ⟨x,zs,_,J,J,hB.asB,hz'.imp fun _ _ h=>h.up⟩
 | .node l s u,A,A2,G,p,ob,wb,lo,lo2,x,zs,ns,B,h,hall,_,_,hB,hz,hle=>by
  obtain⟨hlb,hall1,hall2⟩:=id hall;haveI:LB l:=hlb;obtain⟨n,m,e,hg,hm⟩:=oP.1 (id h)
  cases e
  obtain⟨n1,d1,p1,n2,d2,p2,n3,d3,p3,q,r,rfl,hzl,hs,hu⟩:=MI hm;have hG:tk A n _:=⟨hg⟩;have hxn:=hB.len;have hzn:=hz.len;simp only[Tr.size] at hle;obtain⟨xa,xn,xc⟩:=x;rw[aK] at hxn;simp only[] at hxn;subst hxn;refine gO.intro func129 J J ntmps129 J ?_;intro C _ _;show St C _ _ (⟨ob,[.int .i64 0, .slice xa zs.length xc],25,false⟩::⟨wb,[od ob wb],237,false⟩::asB B) _ _;replace hB:=hB.asB;generalize asB B=B at hB;refine sR<|sa J J<|zE<|bt<|sR<|sm J J<|?_;refine sc (zC J J (PF.fn0 rC (.cons (h.up GL.le) .nil)) J ?_);rintro _ G1 _ hv
  cases aD.1 hv
  refine zE<|td J<|?_;refine zK<|sR<|sf J J<|oF J J J<|cE J J<|sa J J<|zE<|bt<|?_;refine yg [⟨ob,[.int .i64 0, .slice xa zs.length xc],25,false⟩] (fun i=>Nat.beq i 11) [(0,true),(1,true),(2,true),(3,true),(4,true),(5,true),(6,false),(7,true),(8,false),(9,false),(10,true),(11,false)] follows (by kernel_rfl)<|?_;refine dF J J J<|r7 J J J J<|dM J J J<|dy J (fun _=>kc J) J J<|?_;refine dF J J J<|dy J (fun _=>EP J xy J) J J<|?_;refine dc J J (zC J J (PF.fn0 (Z7 (l:=l)) (.cons (hzl.up GL.le) .nil)) J ?_);rintro _ G2 _ hv;obtain⟨ia,ib,ic,rfl,hia,hib,hic⟩:=VX hlb.bl hv;refine l5<|dy J (fun _=>Cu J) J J<|?_;refine dc J J (La J (by rfl) (by rfl) (by decide) (by decide) J ?_);intro b3;refine l5<|?_;refine dc J J (YR (v:=ND.val ⟨ia,ib,ic,0,0⟩) (vs:=zs.map ND.val) [_,_,_] rfl hB J J (wj inferInstance J) J (ND.flat [⟨ia,ib,ic,0,0⟩] _ aQ) (by decide) (by rw[aK];omega) J J ?_);intro x1 B1 hB1;rw[show zs.map ND.val++[ND.val ⟨ia,ib,ic,0,0⟩]=(zs++[(⟨ia,ib,ic,0,0⟩:ND)]).map ND.val by simp] at hB1;show St C _ _ (⟨b3,_,_,true⟩::⟨ob,[.int .i64 0, .slice xa zs.length xc],25,false⟩::⟨wb,[od ob wb],237,false⟩::B1) _ _;refine l5<|dF J J J<|?_;refine dc J J (qr (cs':=[.int .i64 0, .slice x1.a x1.n x1.c]) J J J (.tl _ _ _ _ _ _ _ _ (.hd ..)) (nb J) J J ?_);refine Ut J<|dn<|?_;refine I6 _ (mW _ _) ?_;have hz1:gk (sr 96 G2) (zs++[(⟨ia,ib,ic,0,0⟩:ND)]) (ns++[⟨l,0,0⟩]):=(hz.imp fun _ _ h=>h.up).app (.cons ⟨hia,hib,hic,J,J⟩ .nil);refine bt<|yg [⟨wb,[od ob wb],237,false⟩] (fun _=>false) [(0,true),(1,true),(2,true),(3,true),(4,true),(5,false),(6,true)] follows (by kernel_rfl)<|?_
  refine r7 J J J J<|dM J J J<|dy J (fun _=>kc J) J J<|dF J J J<|dy J (fun _=>uK J xy J) J J<|?_;refine dc J J (y8 (c1:=[]) (M:=_::_::B1) (rest:=[]) J J (by rw[jJ]) (Iu (lo:=false) (lo2:=false) hs hall1 hB1 hz1 (by simp;omega)) J ?_);rintro _ _ G3 fl _ hf _ ⟨x2,Mm,B2,rfl,rfl,hB2,hz2⟩;have e1:fl ob=false:=hf _ aQ J;have e2:fl wb=false:=hf _ (aJ _ aQ) J;replace hB2:=hB2.relo fl;refine Je (own':=⟨ob,[.int .i64 0, .slice x2.a x2.n x2.c],25,false⟩::⟨wb,[od ob wb],237,false⟩::B2.map (relo fl)) (by simp only[bT,relo,e1,e2,jJ]) ?_;generalize B2.map (relo fl)=B2 at hB2;have hl2:=hz2.len;simp only[aV,Tr.wr_len,eK] at hl2;refine l5<|dA J J J<|dn<|bt<|yg [⟨wb,[od ob wb],237,false⟩] (fun _=>false) [(0,true),(1,true),(2,true),(3,true),(4,true),(5,false),(6,true)] follows (by kernel_rfl)<|?_;refine r7 J J J J<|dM J J J<|dy J (fun _=>kc J) J J<|dF J J J<|dy J (fun _=>uK J xy J) J J<|?_;refine dc J J (y8 (c1:=[]) (M:=_::_::B2) (rest:=[]) J J (by rw[jJ]) (Iu (lo:=false) (lo2:=false) hu hall2 hB2 hz2 (by omega)) J ?_);rintro _ _ G4 fl _ hf _ ⟨x3,yM,B3,rfl,rfl,hB3,hz3⟩;have e3:fl ob=false:=hf _ aQ J;have e4:fl wb=false:=hf _ (aJ _ aQ) J;replace hB3:=hB3.relo fl;refine Je (own':=⟨ob,[.int .i64 0, .slice x3.a x3.n x3.c],25,false⟩::⟨wb,[od ob wb],237,false⟩::B3.map (relo fl)) (by simp only[bT,relo,e3,e4,jJ]) ?_;generalize B3.map (relo fl)=B3 at hB3;have hl3:=hz3.len;simp only[aV,Tr.wr_len,eK] at hl3;have hn3:zs.length<yM.length:=by omega
  rcases hB3 with⟨h1,_,_⟩|⟨nb,rest,lo3,hx3,rfl,hf1,hf2,hf3⟩
  ·have:=congrArg List.length h1;rw[aK,fX] at this;omega
  obtain⟨x3a,x3n,x3c⟩:=x3;simp only[SV.mk.injEq] at hx3;obtain⟨rfl,rfl,_⟩:=hx3;rw[aK] at hf3;have hzz:ns.length=zs.length:=hzn.symm;obtain⟨zn,hzn1,hzn2⟩:=hz3.get (i:=zs.length) (b:=⟨l,0,0⟩) (by rw[dV,dV,<-hzz,gU (aN _),pM];rfl);obtain⟨_,hzn3⟩:=aS.1 hzn1;have hL1:(zs++[(⟨ia,ib,ic,0,0⟩:ND)]).length=zs.length+1:=by simp
  have hL2:Mm.length=zs.length+1+s.size:=by omega
  rw[hL1] at hz3;rw[hL1,hL2];rw[hL2] at hz3;refine l5<|dA J J J<|dn<|?_;refine bt<|yg [⟨ob,[.int .i64 0, .slice (some ⟨nb,0,none⟩) (yM.map ND.val).length x3c],25,false⟩] (fun _=>false) [(0,true),(1,true),(2,true),(3,true),(4,true),(5,true),(6,true),(7,true),(8,true),(9,true),(10,false),(11,true),(12,true),(13,false)] follows (by kernel_rfl)<|?_;refine dF J J J<|r7 J J J J<|dM J J J<|dF J J J<|?_;refine r7 J J J J<|dM J J J<|dM J J J<|dM J J J<|dy J (fun _=>fq J J (by omega) (by rw[aK];omega)) J J<|?_;refine dF J J J<|?_;refine dc J J (sO J J (.tl _ _ _ _ _ _ _ _ (.tl _ _ _ _ _ _ _ _ (.hd ..))) (by rw[aV,hf1,aK,aM];omega) J J ?_);rw[aM,Of yM rest zs.length 6 _ {zn with l:=s.num (zs.length+1)} hn3 (by decide) (by rw[hzn3];rfl)];refine l5<|dy J (fun _=>fq J J (by omega) (by rw[aK];omega)) J J<|dF J J J<|?_;refine dc J J (sO J J (.tl _ _ _ _ _ _ _ _ (.tl _ _ _ _ _ _ _ _ (.hd ..))) (by rw[aV,ez (s:=8) _ (ND.len8 _),aK,bQ,aM];omega) J J ?_);rw[aM,Of (yM.set zs.length _) rest zs.length 7 _ {zn with l:=s.num (zs.length+1),r:=u.num (zs.length+1+s.size)} (by rw[bQ];exact hn3) (by decide) (by rw[List.getElem_set_self];rfl)];refine l5<|dn<|sR<|sm J J<|sa J J<|zE<|cH<|?_;have hfin:=hz3.set (a:={zn with l:=s.num (zs.length+1),r:=u.num (zs.length+1+s.size)}) (b:=⟨l,s.num (zs.length+1),u.num (zs.length+1+s.size)⟩) ⟨hzn2.a,hzn2.b,hzn2.c,J,J⟩ zs.length;have hns:(ns++[(⟨l,0,0⟩:NQ)]++s.wr (zs.length+1)++u.wr (zs.length+1+s.size)).set zs.length ⟨l,s.num (zs.length+1),u.num (zs.length+1+s.size)⟩=ns++(Tr.node l s u).wr zs.length:=by
   rw[dV,dV,pJ _ _ (by omega),hzz,pM];simp[Tr.wr]
  rw[hns] at hfin;refine zz (.tmp J .nil) _ _ (List.Perm.refl _) (List.Sublist.refl _) ⟨⟨some ⟨nb,0,none⟩,(yM.map ND.val).length,x3c⟩,_,_,J,J,?_,hfin⟩;refine .inr ⟨nb,rest,lo3,by simp,by rw[List.set_set],?_,?_,?_⟩
  ·rw[ez (s:=8) _ (ND.len8 _)]
  ·rw[ez (s:=8) _ (ND.len8 _),aK,bQ];rw[hf1,aK] at hf2;exact hf2
  ·rw[aK,bQ];exact hf3
def aH7{t:Tr}(hb:t.all LB)(hs:t.size<=1000000):PF GB prog 67 [eU t] (eA t):=by
 intro G vs _ hv;obtain⟨v0,m,rfl,h,hm⟩:=aH.1 hv;rw[er] at hm;subst hm;obtain⟨p,rfl⟩:=qt h;refine Fn.intro func67 J J ntmps67 J ?_;intro C _ hC;refine sR<|?_;refine sc (tN J ?_);intro b1;refine zE<|sR<|?_;refine sc (tN J ?_);intro b2;refine zE<|sR<|?_;refine sc (tN J ?_);intro b3;refine zE<|sR<|sy (Hz J J) J<|?_;refine sc (qr (cs':=[od b2 b3]) J J J (.hd ..) (nb J) J J ?_);refine zE<|sR<|oF J J J<|sm J J<|?_;refine sc (y8 (c1:=[]) (M:=[⟨b2,[.int .i64 0, .slice none 0 0],25,true⟩,⟨b3,[od b2 b3],237,true⟩]) (rest:=[⟨b1,[.int .i64 0, .slice none 0 0],25,true⟩]) J J (List.Perm.swap ..) (Iu (A:=G) (A2:=G) (x:=⟨none,0,0⟩) (zs:=[]) (ns:=[]) (B:=[]) h hb (jp.nil ..) .nil (by simpa using hs)) J ?_);rintro _ _ G4 fl _ _ hf ⟨x,zs,B,rfl,rfl,hB,hz⟩;have e1:=hf (by simp) b2;have e2:=hf (by simp) b3;replace hB:=hB.relo fl;refine Je (own':=⟨b2,[.int .i64 0, .slice x.a x.n x.c],25,true⟩::⟨b3,[od b2 b3],237,true⟩::(B.map (relo fl)++[⟨b1,[.int .i64 0, .slice none 0 0],25,true⟩])) (by simp only[bT,relo,e1,e2,iV]) ?_;generalize B.map (relo fl)=B at hB;refine Ao (⟨b2,[.int .i64 0, .slice x.a x.n x.c],25,true⟩::⟨b3,[od b2 b3],237,true⟩::⟨b1,[.int .i64 0, .slice none 0 0],25,true⟩::B) ((jM (l₁:=B) (l₂:=[_])).cons _ |>.cons _) ?_;refine sf J J<|?_;refine sc (qr (cs':=[.int .i64 (t.num 0), .slice x.a x.n x.c]) J J J (.hd ..) (nb J) J J ?_);refine zE<|sR<|HN J J J<|?_;refine sc (zU (cs':=[.int .i64 (t.num 0), .slice x.a x.n x.c]) J J J (.tl _ _ _ _ _ _ _ _ (.tl _ _ _ _ _ _ _ _ (.hd ..))) J (nb J) J J ?_)
 refine zE<|?_;refine Ty (L:=[_,_,_]) hC hB (ND.len8 _) ?_;intro G5 _ hsl;show St C _ _ [⟨b2,_,_,true⟩,⟨b3,_,_,true⟩,⟨b1,[.int .i64 (t.num 0), .slice x.a x.n x.c],25,true⟩] _ _;refine cH<|?_;exact zD (.agg J ii ii J .nil) (Zw (k:=96) ⟨zs,hsl,by rw[jT] at hz;exact hz.imp fun _ _ h=>h.up⟩)
def Tr.pre:Tr->List Tr
 | .leaf b=>[.leaf b]
 | .node l x y=> .node l x y::(x.pre++y.pre)
structure PH (f:FuncId) (c2:List Value) (σ:Type) (step:σ->Tr->σ) (ok:σ->Tr->Prop) (Inv:σ->List ak->Gh->Prop):Prop where
 up: ∀{s B G G'},bD G G'->Inv s B G->Inv s B G'
 re: ∀{s B G} (fl:Nat->Bool),Inv s B G->Inv s (B.map (relo fl)) G
 go: ∀{s t p B G},ok s t->Inv s B G->Is G (eU t) (.pointer p)->gO prog f (.pointer p::c2) B G (fun _ B' G'=>Inv (step s t) B' G')
section
variable {P:Program} {C:az} {n:Nat} {fr:Fr} {own:List ak} {G:Gh}
def Hp{fn:Func}{K:Value->List ak->Gh->Prop}{vs:List Value}(hr:jH P fr own fn.results.toList vs)(own2 own3:List ak)(hp:own.Perm own2)(hs:own3.Sublist own2)(hk:K (gF vs) own3 G):St C n fr own G (fI C P fn (qP C K) .normal):=
 fun a w rl hmk=>⟨rl.df.trans hmk,_,uc hr rl.fr rl.h,_,own3,G,J,(rl.h.perm hp).drop hs,hk⟩
end
def wc{σ:Type}(step:σ->Tr->σ)(ok:σ->Tr->Prop):σ->List Tr->Prop
 |_,[]=>True
 |s,t::ts=>ok s t/\wc step ok (step s t) ts
structure EX (σ:Type) where
 ts:List Tr
 vs:List Value
 rest:List Value
 b:Nat
 cap:Nat
 lo:Bool
 s:σ
 B:List ak
def rg(t:Tr):Nat:=2*t.size+1
def W0(ts:List Tr):ts.length<=(ts.map rg).sum:=by
 induction ts with
 |nil=>exact aN _
 |cons t ts ih=>simp only[bZ,bT,qR,rg];omega
def qm(ts:List Tr):List Tr:=ts.reverse.flatMap Tr.pre
structure EI (A:Gh) {σ:Type} (step:σ->Tr->σ) (ok:σ->Tr->Prop) (Inv:σ->List ak->Gh->Prop) (N:Nat) (fin:σ) (x:EX σ) (G:Gh):Prop where
 rel:gk (fun v t=> ∃p,v= .pointer p/\Is A (eU t) (.pointer p)) x.vs x.ts
 cap:x.vs.length+x.rest.length=x.cap
 inv:Inv x.s x.B G
 mu:(x.ts.map rg).sum<=N
 okf:wc step ok x.s (qm x.ts)
 fin:(qm x.ts).foldl step x.s=fin
def H4{α β:Type}{R:α->β->Prop}{v:α}{t:β}: ∀{vs:List α} {ts:List β},gk R (vs++[v]) (ts++[t])->gk R vs ts/\R v t
 |[],[], .cons h .nil=>⟨.nil,h⟩
 |[],_::b, .cons _ h=>by cases b<;>cases h
 |_::a,[], .cons _ h=>by cases a<;>cases h
 |_::_,_::_, .cons h k=>⟨.cons h (H4 k).1,(H4 k).2⟩
def Tn{f:FuncId}{c2:List Value}{σ:Type}{step:σ->Tr->σ}{ok:σ->Tr->Prop}{Inv:σ->List ak->Gh->Prop}(V:PH f c2 σ step ok Inv){t:Tr}{p:Option Addr}{s:σ}{B:List ak}{G:Gh}
  (h:Is G (eU t) (.pointer p))(hI:Inv s B G)(hok:wc step ok s t.pre)(hs:t.size<=1000000000000):
  gO prog 243 [.pointer p, .func (.func f) #[] ⟨c2⟩] B G (fun _ B' G'=>Inv (t.pre.foldl step s) B' G'):=by
 refine gO.intro func243 J J ntmps243 J ?_;intro C _ _;refine sR<|sm J J<|?_;refine sc (La J (by rfl) (by rfl) (by decide) (by decide) J ?_);intro b1;refine sa J J<|zE<|dE<|?_;refine lx (X:=EX σ) (fun x=>[(4, .slice (some ⟨x.b,0,none⟩) x.vs.length x.cap),(1, .func (.func f) #[] ⟨c2⟩)]) (fun x=>⟨x.b,x.vs++x.rest,104,x.lo⟩::x.B) (EI G step ok Inv (rg t) (t.pre.foldl step s)) (fun x=>(x.ts.map rg).sum)
  ⟨[t],[.pointer p],[],b1,1,true,s,asB B⟩ ⟨.cons ⟨p,J,h⟩ .nil,J,V.re (fun _=>false) hI,by simp,by simpa[qm] using hok,by simp[qm]⟩ (.cons J (.cons J .nil)) J ?_
 rintro ⟨ts,vs,rest,b,cap,lo,s1,B1⟩ Gx _ ⟨hrel,hcap,hinv,hmu,hokf,hfin⟩;simp only at hrel hcap hinv hmu hokf hfin;have hln:=hrel.len;have hlt:=W0 ts;unfold rg at hmu hlt;refine bt<|sR<|sm J J<|cE J J<|sy (ru J J) J<|zE<|?_;refine ly J (fun hc=>?_) (fun hc=>?_)
 ·refine jm<|d6<|d6<|ji<|?_
  refine Hp .nil _ _ (List.Perm.refl _) (mW _ _) ?_;obtain rfl:ts=[]:=by
   cases ts with
   |nil=>rfl
   |cons a l=>simp only[bZ] at hln;exfalso;apply hc;show(0:Int)<(vs.length:Int);omega
  have:s1=t.pre.foldl step s:=hfin;rw[<-this];exact hinv
 refine zK<|?_;obtain⟨vs,v,rfl⟩: ∃vs' v',vs=vs'++[v']:=by
  rcases nZ vs with e|⟨a,b,e⟩
  ·subst e;simp at hc
  ·exact⟨a,b,by rw[e,nX]⟩
 obtain⟨ts,u,rfl⟩: ∃vs' v',ts=vs'++[v']:=by
  rcases nZ ts with e|⟨a,b,e⟩
  ·subst e;simp at hln
  ·exact⟨a,b,by rw[e,nX]⟩
 obtain⟨hrel1,q,rfl,hq⟩:=H4 hrel;have hl1:(vs++[Value.pointer q]).length=vs.length+1:=by simp
 have hst:qm (ts++[u])=u.pre++qm ts:=by simp[qm]
 rw[hst] at hokf hfin;simp only[bR,sS,bT,iU,qR,List.sum_nil,eY,aV,eK] at hmu hlt hln hcap;refine TR [(4,Value.slice (some ⟨b,0,none⟩) (vs.length+1:Nat) cap),(1, .func (.func f) #[] ⟨c2⟩)] (.cons (by show some (Value.slice _ (vs++[Value.pointer q]).length _)=_;rw[hl1]) (.cons J .nil)) ?_;refine dE<|sR<|sm J J<|cE J J<|sy (jD J J) J<|sa J J<|zE<|sR<|sm J J<|?_;rw[show((vs.length+1:Nat):Int)-1=(vs.length:Nat) by omega];refine sm J J<|sy (fq J J (by omega) (by omega)) J<|?_;refine sy (lA (v:=Value.pointer q) J (by rw[aM,iX,dV,gU (aN _),pM];rfl)) J<|sa J J<|zE<|sR<|sm J J<|sm J J<|sy (xh J J (by omega) (by omega)) J<|?_;rw[aM];refine sa J J<|zE<|sR<|sm J J<|sm J J<|?_;have hokq:ok s1 u/\wc step ok (step s1 u) (u.pre.tail++qm ts):=by cases u<;>exact hokf
 refine sc (y8 (c1:=[]) (M:=B1) (rest:=[⟨b,vs++[Value.pointer q]++rest,104,lo⟩]) J J (jM (l₁:=[_])) (V.go hokq.1 hinv (hq.up GL.le)) J ?_);rintro _ B2 G2 fl _ _ _ hinv2;replace hinv2:=V.re fl hinv2;refine Ao (⟨b,vs++Value.pointer q::rest,104,lo⟩::B2.map (relo fl)) (by rw[dV];exact(jM (l₂:=[_]))) ?_;generalize B2.map (relo fl)=B2 at*;refine zE<|sR<|sm J J<|?_
 cases u with
 |leaf bb=>
  refine sc (zC J J (PF.fn0 qI (.cons (hq.up GL.le) .nil)) J ?_);rintro _ G3 _ hv
  cases aD.1 hv
  refine sy (uR J) J<|zE<|td J<|zK<|?_;exact jd ⟨ts,vs,Value.pointer q::rest,b,cap,lo,step s1 (.leaf bb),B2⟩ ⟨hrel1,by simp only[bZ];omega,V.up GL.le hinv2,by simp only;unfold rg;omega,hokq.2,hfin⟩ (by simp only[bR,sS,bT,iU,qR,List.sum_nil];unfold rg;omega) (.cons J (.cons J .nil)) J
 |node l x y=>
  obtain⟨nbk,m,e,hg,hm⟩:=oP.1 (id hq)
  cases e
  obtain⟨n1,d1,p1,n2,d2,p2,n3,d3,p3,q1,q2,rfl,_,hx,hy⟩:=MI hm;have hgg:tk G nbk _:=⟨hg⟩;refine sc (zC J J (PF.fn0 rC (.cons (hq.up GL.le) .nil)) J ?_);rintro _ G3 _ hv
  cases aD.1 hv
  refine sy (uR J) J<|zE<|n7 J<|?_;refine yg [] (fun _=>false) [(0,true),(1,true),(2,true),(3,true),(4,true),(5,true),(6,true),(7,true),(8,true),(9,false),(10,false),(11,true)] follows (by kernel_rfl)<|dM J J J<|?_;refine dM J J J<|dy J (fun _=>kc J) J J<|dF J J J<|dy J (fun _=>uK J xy J) J J<|?_;refine dM J J J<|dy J (fun _=>kc J) J J<|dF J J J<|dy J (fun _=>uK J xy J) J J<|?_;refine dc J J (Bv (by rfl) (by rfl) (by rfl) (by rfl) J ?_);intro b3;refine l5<|?_;refine dc J J (Fm (m:=2) (xs:=vs) (ys:=[Value.pointer q2,Value.pointer q1]) (rest:=Value.pointer (some ⟨nbk,0,none⟩)::rest) J J (.tl _ _ _ _ (.hd ..)) (by omega) (by simp only[bZ];omega) (by omega) (wj inferInstance J) J (by simp[Sx.flat]) (by decide) (by omega) (by rfl) J ?_);intro b4 lo4 cap4 rest4 h1 h2;refine l5<|dA J J J<|dn<|?_;have hsz:(Tr.node l x y).size=1+x.size+y.size:=J;refine I6 (⟨b4,vs++[Value.pointer q2,Value.pointer q1]++rest4,104,lo4⟩::B2) (.cons_cons _ (mW _ _)) ?_;have hs2:qm (ts++[y,x])=x.pre++y.pre++qm ts:=by simp[qm]
  refine jd ⟨ts++[y,x],vs++[Value.pointer q2,Value.pointer q1],rest4,b4,cap4,lo4,step s1 (.node l x y),B2⟩ ⟨hrel1.app (.cons ⟨_,J,hy⟩ (.cons ⟨_,J,hx⟩ .nil)),by simp only[aV,bZ,fX];omega,V.up GL.le hinv2,?_,?_,?_⟩ ?_ (.cons (by show some (Value.slice _ (vs.length+2) _)=some (Value.slice _ (vs++[_,_]).length _);rw[aV];rfl) (.cons J .nil)) J
  ·simp only[bR,sS,bT,iU,qR,List.sum_nil];unfold rg;omega
  ·simp only;rw[hs2];exact hokq.2
  ·simp only;rw[hs2];exact hfin
  ·simp only[bR,sS,bT,iU,qR,List.sum_nil];unfold rg;omega
def U9{P:Program}{C:az}{n:Nat}{fr:Fr}{own:List ak}{G:Gh}{Φ:Act->World->Prop}{dst:Option Nat}{ty':TypeId}{pos:String}{af:Array Edge}{gd:Option (Nat×Bool)}{f:FuncId}{fo:Operand}{args:Array Operand}{tys:Array TypeId}{vs:List Value}{M rest:List ak}{K:Value->List ak->Gh->Prop}(ho:ax fr fo=some (.func (.func f) #[] #[]))(hv:fm fr args.toList=some vs)
  (hp:own.Perm (M++rest))(hF:gO P f vs M G K)(hd:b9 n dst=true)
  (h: ∀v own1 (G':Gh) (fl:Nat->Bool),[GE G G']->(∀m∈M,m.lo=false->fl m.b=false)->((∀m∈M,m.lo=true)-> ∀b,fl b=true)->K v own1 G'->St C n (put fr dst v) (own1.map (relo fl)++rest) G' Φ):
  Ch P C n fr own G ⟨dst, .call ⟨.value fo,args,tys⟩,ty',pos,af,gd⟩ Φ:=
 y8 (c1:=[]) (c2:=[]) ho hv hp (by simpa using hF) hd h
def YY(nbk:Nat)(s:Nat)(B:List ak)(_:Gh):Prop:= ∃lo,B=[⟨nbk,[.int .i64 s],3,lo⟩]
def s7(s:Nat):Tr->Nat
 | .leaf _=>s
 | .node .. =>s+1
def ayX(nbk:Nat):PH 244 [.pointer (some ⟨nbk,0,none⟩)] Nat s7 (fun s _=>s<1000000000000) (YY nbk) where
 up:=fun _ h=>h
 re:=fun{s B G} fl h=>by obtain⟨lo,rfl⟩:=h;exact⟨_,rfl⟩
 go:=by
  intro s t p B G hs hI ht;obtain⟨lo,rfl⟩:=hI;refine gO.intro func244 J J ntmps244 J ?_;intro C _ _;show St C _ _ [⟨nbk,_,_,false⟩] _ _
  cases t with
  |node l x y=>
   refine sR<|sm J J<|?_;refine sc (zC J J (PF.fn0 rC (.cons ht .nil)) J ?_);rintro _ G1 _ hv
   cases aD.1 hv
   refine sy (uR J) J<|zE<|n7 J<|dB<|oF J J J<|sy (dC J J) J<|?_;refine sc (qr J J J (.hd ..) (nb J) J J ?_);refine zE<|?_;exact Hp .nil _ _ (List.Perm.refl _) (List.Sublist.refl _) ⟨false,by show [_]=[_];rfl⟩
  |leaf b=>
   refine sR<|sm J J<|?_;refine sc (zC J J (PF.fn0 qI (.cons ht .nil)) J ?_);rintro _ G1 _ hv
   cases aD.1 hv
   refine sy (uR J) J<|zE<|td J<|zK<|?_;exact Hp .nil _ _ (List.Perm.refl _) (List.Sublist.refl _) ⟨false,J⟩
def EQ: ∀(t:Tr) (s:Nat),t.pre.foldl s7 s=s+t.size
 | .leaf _,s=>rfl
 | .node l x y,s=>by
  simp only[Tr.pre,jU,pY,s7,EQ x,EQ y,Tr.size];omega
def Fe: ∀(t:Tr) (s:Nat) (L:List Tr),s+t.size<1000000000000->(∀s',s'=s+t.size->wc s7 (fun s _=>s<1000000000000) s' L)->wc s7 (fun s _=>s<1000000000000) s (t.pre++L)
 | .leaf _,s,L,h,k=>⟨by simp only[Tr.size] at h;omega,k _ J⟩
 | .node l x y,s,L,h,k=>by
  simp only[Tr.size] at h k;simp only[Tr.pre,iV,dV];exact⟨by omega,Fe x _ _ (by simp only[s7];omega) fun s1 e1=>Fe y _ _ (by subst e1;simp only[s7];omega) fun s2 e2=>k _ (by subst e1 e2;simp only[s7];omega)⟩
def ZE{t:Tr}(hs:t.size<1000000000000):PF GB prog 184 [eU t] (vI (t.size:Nat)):=by
 intro G vs _ hv;obtain⟨v0,m,rfl,h,hm⟩:=aH.1 hv;rw[er] at hm;subst hm;obtain⟨p,rfl⟩:=qt h;refine Fn.intro func184 J J ntmps184 J ?_;intro C _ _;refine sR<|sa J J<|zE<|sR<|?_;refine sc (tN J ?_);intro b1;refine sc (qr J J J (.hd ..) (nb J) J J ?_);refine zE<|sR<|sm J J<|sy (Hz J J) J<|?_;have hok:wc s7 (fun s _=>s<1000000000000) 0 t.pre:=by
  have:=Fe t 0 [] (by omega) (fun _ _=>trivial);rwa [jJ] at this
 refine sc (U9 (M:=[⟨b1,[.int .i64 0],3,true⟩]) (rest:=[]) J J (List.Perm.refl _) (Tn (ayX b1) h ⟨true,J⟩ hok (by omega)) J ?_);rintro _ B G2 fl _ _ _ ⟨lo,rfl⟩;rw[EQ,dT];show St C _ _ [⟨b1,[.int .i64 t.size],3,_⟩] _ _;refine zE<|sR<|oF J J J<|sa J J<|zE<|cH<|?_;exact zD (.tmp J .nil) (aD.2 J)
def uQ(n:Nat)(f:Nat->Bool):Nat:=((List.range n).filter fun j=>!f j).length
def Vj{n k:Nat}{f:Nat->Bool}(hk:k<n)(hf:f k=false):uQ n (lj f k)+1=uQ n f:=by
 unfold uQ;have key: ∀l:List Nat,l.Nodup->((l.filter fun j=>!lj f k j).length+(if k∈l then 1 else 0)=(l.filter fun j=>!f j).length):=fun l=>by
  induction l with
  |nil=>intro _;rfl
  |cons a l ih=>
   intro hn;obtain⟨h1,h2⟩:=List.nodup_cons.1 hn;have:=ih h2;by_cases e:a=k
   ·subst e
    simp only[qJ,O0,hf,aY,true_or,if_true] at this⊢;rw[if_neg h1] at this;simp at this⊢;omega
   ·have e': ¬k=a:=fun h=>e h.symm
    simp only[qJ,An e,aY,e',false_or] at this⊢
    cases f a<;>simp at this⊢ <;>omega
 have:=key (List.range n) List.nodup_range;rwa [if_pos (mZ.2 hk)] at this
def tq(ns:List RN):Nat->Int->RS->Tr×RS
 |0,_,s=>(.leaf false,s)
 |m+1,rt,s=>
  if rt= -1 then(.leaf false,s) else if rt= -2 then(.leaf true,s) else
  match ns[rt.toNat]? with
  |none=>(.leaf false,⟨s.f,s.c,true⟩)
  |some n=>if rt<0\/s.f rt.toNat=true then(.leaf false,⟨s.f,s.c,true⟩) else
   match n.g.ln with
   |none=>(.leaf false,⟨lj s.f rt.toNat,s.c+1,true⟩)
   |some l=>let a:=tq ns m n.l ⟨lj s.f rt.toNat,s.c+1,s.b⟩;let b:=tq ns m n.r a.2;(.node l a.1 b.1,b.2)
def Ae{ns:List RN}: ∀{m:Nat} {rt:Int} {s:RS},uQ ns.length s.f<m->RR ns rt s (tq ns m rt s).1 (tq ns m rt s).2/\(tq ns m rt s).2.c+uQ ns.length (tq ns m rt s).2.f=s.c+uQ ns.length s.f
 |0,_,_,h=>absurd h (Nat.not_lt_zero _)
 |m+1,rt,s,h=>by
  rw[tq];split
  ·rename_i e;subst e;exact⟨.leaf false s,rfl⟩
  rename_i e1;split
  ·rename_i e;subst e;exact⟨.leaf true s,rfl⟩
  rename_i e2;split
  ·rename_i hn
   have:=List.getElem?_eq_none_iff.1 hn;exact⟨.bad rt s e1 e2 (by omega),J⟩
  rename_i n hn;have hlt:=(aS.1 hn).1;split
  ·rename_i hb
   refine⟨.bad rt s e1 e2 ?_,J⟩;rcases hb with hb|hb
   ·exact .inl hb
   ·by_cases h0:rt<0
    ·exact .inl h0
    ·exact .inr (.inr ⟨rt.toNat,by omega,hlt,hb⟩)
  rename_i hb;obtain⟨k,rfl⟩: ∃k:Nat,rt=k:=⟨rt.toNat,by omega⟩;rw[aM] at hn hlt hb⊢;have hf:s.f k=false:=by
   cases hh:s.f k with
   |false=>rfl
   |true=>exact absurd (Or.inr hh) hb
  have hu:=Vj hlt hf;split
  ·rename_i hl;exact⟨.line k n s hn hf hl,by simp only;omega⟩
  rename_i l hl;have h1:=Ae (ns:=ns) (m:=m) (rt:=n.l) (s:=⟨lj s.f k,s.c+1,s.b⟩) (by simp only;omega);have hc:=h1.1.mono;simp only at h1 hc;have h2:=Ae (ns:=ns) (m:=m) (rt:=n.r) (s:=(tq ns m n.l ⟨lj s.f k,s.c+1,s.b⟩).2) (by omega);exact⟨.node k n l s _ _ _ _ hn hf hl h1.1 h2.1,by have:=h1.2;have:=h2.2;dsimp only;omega⟩
def l7(ns:List RN)(rt:Int):Option Tr:=
 let r:=tq ns (ns.length+1) rt oG
 if r.2.b=false/\r.2.c=ns.length then some r.1 else none
def ofR:Option Tr->DV
 |some t=> .tp [eU t,vB true]
 |none=> .tp [.v (.pointer none),vB false]
def CS(n:Nat)(f:Nat->Bool):uQ n f<=n:=by
 unfold uQ;refine cY (lY _ _) ?_;rw[List.length_range];exact aN _
def Oy{ns:List RN}{rt:Int}(hs: ∀n∈ns,n.g.sm)(hn:ns.length<=65536):PF GB prog 64 [tY rt ns] (ofR (l7 ns rt)):=by
 have h:=Ae (ns:=ns) (m:=ns.length+1) (rt:=rt) (s:=oG) (by have:=CS ns.length oG.f;omega);have hu:=CS ns.length oG.f;have h0:oG.c=0:=J;have h2:=S8 (GB:=GB) hs hn h.1 (by have:=h.2;omega);unfold zh at h2;unfold l7;simp only;split
 ·rename_i e;rw[if_pos e] at h2;exact h2
 ·rename_i e;rw[if_neg e] at h2;exact h2
def RL.ln_some{r:RL}{l:aa}(h:r.ln=some l):r.nm/\l.ok/\r.l=l:=by
 unfold RL.ln at h;split at h
 ·rename_i e;cases h;exact⟨e.1,e.2,rfl⟩
 ·cases h
def RR.good{ns:List RN}(hs: ∀n∈ns,n.g.sm){rt:Int}{s s':RS}{t:Tr}(h:RR ns rt s t s'):t.all LB/\t.all aa.ok/\(s'.b=false->s.b=false/\s'.c=s.c+t.size):=by
 induction h with
 |leaf=>exact⟨trivial,trivial,fun h=>⟨h,J⟩⟩
 |bad=>exact⟨trivial,trivial,fun h=>by cases h⟩
 |line=>exact⟨trivial,trivial,fun h=>by cases h⟩
 |node k n l s s2 s3 x y h hf hl h1 h2 i1 i2=>
  obtain⟨_,h3,rfl⟩:=RL.ln_some hl;refine⟨⟨RL.lb (hs n (aL h)),i1.1,i2.1⟩,⟨h3,i1.2.1,i2.2.1⟩,fun hb=>?_⟩;obtain⟨e1,e2⟩:=i2.2.2 hb;obtain⟨e3,e4⟩:=i1.2.2 e1;simp only[Tr.size] at e3 e4⊢;exact⟨e3,by omega⟩
def TP{ns:List RN}{rt:Int}{t:Tr}(hs: ∀n∈ns,n.g.sm)(h:l7 ns rt=some t):t.all LB/\t.all aa.ok/\t.size=ns.length:=by
 have hr:=Ae (ns:=ns) (m:=ns.length+1) (rt:=rt) (s:=oG) (by have:=CS ns.length oG.f;omega);have hg:=hr.1.good hs;unfold l7 at h;simp only at h;split at h
 ·rename_i e
  cases h
  refine⟨hg.1,hg.2.1,?_⟩;have:=(hg.2.2 e.1).2;have h0:oG.c=0:=J;omega
 ·cases h
end Go.Sx
end
section
namespace Go.Sx
open Go Go.Proofs Go.RowKit Go.Extern.Stop Go.Stop Go.Extern
def aKn:TypeId->Sem Value:=fun t=>do Go.Extern.Rtype.noPackHeld "Comparable" t;pure (.bool (<-typeInfo t).comparable)
def wv(a:Addr):DV:= .v (.iface 405 (.pointer (some a)))
end Go.Sx
end
section
namespace Go.Sx
open Go Go.Proofs Tryz
variable {GB:Gh}
section
variable {GB:Gh} {C:az} {n:Nat} {Q0:Exit->Act->World->Prop} {fr fr':ay} {own own':aE} {cf cf':Cf} {vc:List Prop}
def JM(fr:ay)(cf:Cf):Option Nat:=match cw fr cf with
 |some ⟨_, .load t (.global g),_,_,_,_⟩=>(match c9 tt t with
  |some i=>match i.ag with
   |some none=>some g
   |_=>none
  |none=>none)
 |_=>none
def gl[fu:Fu]{g:Nat}{v:Value}(h:JM fr cf=some g)(hg:GB g=some [v])(hgo:cP tt n fu.n fr own cf (.d (.v v)) [] []=⟨vc,fr',own',cf'⟩)(k:av prog GB C n Q0 fr' own' cf')
  (hv:ac vc:=by first|exact trivial|(simp only[ac];kernel_rfl)|(simp only[ac];omega)):av prog GB C n Q0 fr own cf:=by
 unfold JM at h;split at h<;>try (cases h;done)
 rename_i hh;split at h<;>try (cases h;done)
 rename_i i hT;split at h<;>cases h;rename_i ha;haveI:=wh (ew _ _ hT) ha;refine us (f:= .d (.v v)) hh (b8.yd fun ρ G ov a w r=>⟨v,(aD (G:=G)).2 J,?_⟩) hgo hv k;haveI:tk G g [v]:=⟨r.gb _ _ hg⟩;exact uK (b:=g) (off:=0) J xy J
def aHe{nm0 nm:Nat}{B1 B2:Option Bk}:aP (jP (jP own nm0 B1) nm B2)=upB (upB (aP own) [(nm0,B1)]) [(nm,B2)]:=by
 funext j;rw[tM];simp only[upB];rw[tM]
def aw7{nm0 nm k:Nat}(hnm:Nat.blt nm 2000000=true){ty0:TypeId}{cs:List FX}{lo:Bool}(hb:aP own nm0=some (.o ty0 cs lo))(hk:cs[k]? =some .nl)(hne:nm0≠nm){Φ:Act->World->Prop}{ty s:Nat}(hf:kP [nm] none (aI fr) (aP own))
  (h:SX GB C n (aI fr) (aP (jP (jP own nm0 (some (.o ty0 (cs.set k (.rw nm)) lo))) nm (some (.b ty s [] true)))) Φ):SX GB C n (aI fr) (aP own) Φ:=by
 refine⟨fun ρ G ov a w r=>?_⟩;obtain⟨f1,f2⟩:=hf nm aQ;rw[aHe] at h;refine h.run (fun k=>if k=nm then⟨none,0,0⟩ else ρ k) G ov a w ⟨r.gb,r.h,r.sz,r.df,fun k f e=>?_,fun m B e=>?_,fun m m' B B' e e' hne=>?_,fun m p h1 h2 e=>by
  have:nm<2000000:=by simpa[mK] using hnm
  show(if m=nm then(⟨none,0,0⟩:SV) else ρ m).a=_;rw[if_neg (by omega)];exact r.fxd m p h1 h2 e⟩
 ·obtain⟨v,h1,h2⟩:=r.fx k f e
  exact⟨v,h1,h2.ren fun m hm=>vl _ fun hc=>f1 k f (by simp) e (by rw[hm,hc])⟩
 ·simp only[upB] at e
  by_cases hm:m=nm
  ·subst hm;simp only[if_true] at e;cases e
   exact⟨[],⟨[],by simp only[if_true];exact .inl ⟨J,J,J⟩, .nil,by simp,fun _ o ho=>by cases ho⟩,fun o ho=>by cases ho⟩
  ·simp only[hm,if_false] at e
   by_cases hm0:m=nm0
   ·subst hm0;simp only[if_true] at e;cases e
    obtain⟨os,h1,h2⟩:=r.bx m _ hb;have h1':li (fun k=>if k=nm then⟨none,0,0⟩ else ρ k) G m (.o ty0 cs lo) os:=h1.ren (if_neg hm) fun q hq=>vl _ fun hc=>f2 m _ hm hb (by rw[<-hc];exact hq);obtain⟨b,ms,k1,k2,k3⟩:=h1';refine⟨os,⟨b,ms,k1,k2,?_⟩,h2⟩;obtain⟨y,e1,e2⟩:=k3.get hk;have:=k3.set (f:= .rw nm) (y:=y) k (by show y=_;simp only[if_true];exact e2);rwa [show ms.set k y=ms by apply lZ;intro j;rw[mJ];split<;>(try rfl);rename_i hj;subst hj;split<;>simp_all] at this
   ·simp only[hm0,if_false] at e
    obtain⟨os,h1,h2⟩:=r.bx m B e;exact⟨os,h1.ren (if_neg hm) fun q hq=>vl _ fun hc=>f2 m B hm e (by rw[<-hc];exact hq),h2⟩
 ·intro b hbb hb'
  have key: ∀q B,upB (upB (aP own) [(nm0,some (.o ty0 (cs.set k (.rw nm)) lo))]) [(nm,some (.b ty s [] true))] q=some B->q≠nm-> ∃B0,aP own q=some B0:=fun q B eq hq=>by
   simp only[upB,hq,if_false] at eq;by_cases hq0:q=nm0
   ·subst hq0;exact⟨_,hb⟩
   ·simp only[hq0,if_false] at eq;exact⟨_,eq⟩
  by_cases hm:m=nm
  ·simp[hm] at hbb
  ·by_cases hm':m'=nm
   ·simp[hm'] at hb'
   ·obtain⟨B0,g0⟩:=key m B e hm
    obtain⟨B1,g1⟩:=key m' B' e' hm';simp only[hm,hm',if_false] at hbb hb';exact r.dj m m' B0 B1 g0 g1 hne b hbb hb'
def K6(nm0 k nm ty s:Nat){ty0:TypeId}{cs:List FX}{lo:Bool}{own1:aE}{c:Code}{K:List Kt}(hb:aP own nm0=some (.o ty0 cs lo))(hk:cs[k]? =some .nl)(hf:vr [nm] none fr own=true)(hne:Nat.beq nm0 nm=false)
  (ho:jP (jP own nm0 (some (.o ty0 (cs.set k (.rw nm)) lo))) nm (some (.b ty s [] true))=own1)(h:av prog GB C n Q0 fr own1 (.code c K))(hnm:Nat.blt nm 2000000=true:=by rfl):av prog GB C n Q0 fr own (.code c K):=by
 subst ho;exact aw7 hnm hb hk (fun e=>by subst e;rw[oS] at hne;cases hne) (yV hf) h
def PJ{ρ:NE}{G:Gh}: ∀{a b:List FX} {m:List Value},c8 ρ G (a++b) m-> ∃m1 m2,m=m1++m2/\c8 ρ G a m1/\c8 ρ G b m2
 |[],b,m,h=>⟨[],m,J,J,h⟩
 |f::t,b,m,⟨y,n,e,h1,h2⟩=>by
  obtain⟨m1,m2,rfl,k1,k2⟩:=PJ h2;exact⟨y::m1,m2,e,⟨y,m1,J,h1,k1⟩,k2⟩
def Pn{ρ:NE}{G:Gh}: ∀{l:List DV} {m:List Value},c8 ρ G (l.map .d) m->IsLs G l m
 |[],m,h=>er.2 h
 |d::t,m,⟨y,n,e,h1,h2⟩=>by subst e;exact .cons h1 (Pn h2)
def bzA(fr:ay)(cf:Cf):Option (Nat×List FX):=match cw fr cf with
 |some ⟨some d, .build t ⟨[]⟩,_,_,_,_⟩=>match c9 tt t with
  |some ⟨.st _,_,some zx,_⟩=>some (d,zx)
  |_=>none
 |_=>none
end
structure EG (GB:Gh) (ai al ae:Addr):Prop where
 ErrInvalid:GB 2=some [.iface 405 (.pointer (some ai))]
 ErrLimit:GB 4=some [.iface 405 (.pointer (some al))]
structure EGE (GB:Gh) (ai al ae:Addr):Prop extends EG GB ai al ae where
 ErrEmpty:GB 0=some [.iface 405 (.pointer (some ae))]
structure Tr.gd (t:Tr):Prop where
 lb:t.all LB
 ok:t.all aa.ok
def Tr.restrict_size: ∀(t:Tr) (c:ao),(t.restrict c).size<=t.size
 | .leaf _,_=>aN _
 | .node l x y,c=>by
  rw[Tr.restrict];have hx:=fun c=>x.restrict_size c;have hy:=fun c=>y.restrict_size c;split
  ·have:=hx c;simp only[Tr.size];omega
  ·split
   ·have:=hy c;simp only[Tr.size];omega
   ·have h1:=hx (bg c l)
    have h2:=hy (bg c l.rev);rcases Tr.joinQ_cases l (x.restrict (bg c l)) (y.restrict (bg c l.rev)) with⟨h,_⟩|⟨h,_⟩<;>rw[h]<;>(try simp only[Tr.size])<;>omega
def Tr.compl_size: ∀t:Tr,t.compl.size=t.size
 | .leaf _=>rfl
 | .node l x y=>by simp only[Tr.compl,Tr.size,x.compl_size,y.compl_size]
def Tr.compl_all(p:aa->Prop): ∀t:Tr,t.all p->t.compl.all p
 | .leaf _,h=>h
 | .node l x y,⟨h0,h1,h2⟩=>⟨h0,x.compl_all p h1,y.compl_all p h2⟩
def Tr.compl_depth: ∀t:Tr,t.compl.depth=t.depth
 | .leaf _=>rfl
 | .node l x y=>by simp only[Tr.compl,Tr.depth,x.compl_depth,y.compl_depth]
def Tr.chooseQ_all(p:aa->Prop)(op:Int)(b:Bool)(t:Tr)(c:ao)(h:t.all p):(t.chooseQ op b c).all p:=by
 have:=t.restrict_all p c h;unfold chooseQ;split
 ·split
  ·trivial
  ·exact this
 ·split
  ·trivial
  ·split
   ·exact(t.restrict c).compl_all p this
   ·exact this
def Tr.chooseQ_size(op:Int)(b:Bool)(t:Tr)(c:ao):(t.chooseQ op b c).size<=t.size:=by
 have:=t.restrict_size c;unfold chooseQ;split
 ·split
  ·exact bJ _
  ·exact this
 ·split
  ·exact bJ _
  ·split
   ·rw[(t.restrict c).compl_size];exact this
   ·exact this
def Tr.mergeQ_all(p:aa->Prop)(op:Int){u:Tr}(hu:u.all p): ∀(t:Tr) (c:ao),t.all p->(t.mergeQ op u c).all p
 | .leaf b,c,_=>u.chooseQ_all p op b c hu
 | .node l x y,c,⟨h0,h1,h2⟩=>by
  rw[Tr.mergeQ];split
  ·exact Tr.mergeQ_all p op hu x c h1
  ·split
   ·exact Tr.mergeQ_all p op hu y c h2
   ·rcases Tr.joinQ_cases l (x.mergeQ op u (bg c l)) (y.mergeQ op u (bg c l.rev)) with⟨h,_⟩|⟨h,_⟩
    ·rw[h];exact Tr.mergeQ_all p op hu x _ h1
    ·rw[h];exact⟨h0,Tr.mergeQ_all p op hu x _ h1,Tr.mergeQ_all p op hu y _ h2⟩
def Tr.mergeQ_size(op:Int)(u:Tr): ∀(t:Tr) (c:ao),(t.mergeQ op u c).size+1<=(t.size+1)*(u.size+1)
 | .leaf b,c=>by
  have:=u.chooseQ_size op b c;show(u.chooseQ op b c).size+1<=(0+1)*(u.size+1);omega
 | .node l x y,c=>by
  have hx:=fun c=>Tr.mergeQ_size op u x c;have hy:=fun c=>Tr.mergeQ_size op u y c;have e:((Tr.node l x y).size+1)*(u.size+1)=(x.size+1)*(u.size+1)+(y.size+1)*(u.size+1):=by
   rw[<-cS];congr 1;simp only[Tr.size];omega
  rw[e,Tr.mergeQ];split
  ·have:=hx c;omega
  ·split
   ·have:=hy c;omega
   ·have h1:=hx (bg c l)
    have h2:=hy (bg c l.rev);rcases Tr.joinQ_cases l (x.mergeQ op u (bg c l)) (y.mergeQ op u (bg c l.rev)) with⟨h,_⟩|⟨h,_⟩<;>rw[h]<;>(try simp only[Tr.size])<;>omega
def Tr.depth_size: ∀t:Tr,t.depth<=t.size
 | .leaf _=>aN _
 | .node l x y=>by
  have h1:=x.depth_size;have h2:=y.depth_size;simp only[Tr.depth,Tr.size];omega
def kl(op:Int)(a b:Tr):Option Tr:=if 1024<a.depth+b.depth then none else if 65536<(a.mergeQ op b []).size then none else some (a.mergeQ op b [])
def YX(al:Addr):Option Tr->DV
 |some t=> .tp [eU t, .v .nilIface]
 |none=> .tp [.v (.pointer none),wv al]
def Wr{op:Int}{a b t:Tr}(ha:a.gd)(hb:b.gd)(h:kl op a b=some t):t.gd/\t.size<=65536:=by
 unfold kl at h;split at h
 ·cases h
 ·split at h
  ·cases h
  ·cases h
   exact⟨⟨Tr.mergeQ_all LB op hb.lb a [] ha.lb,Tr.mergeQ_all aa.ok op hb.ok a [] ha.ok⟩,by omega⟩
def RE{ai al ae:Addr}(hE:EG GB ai al ae){op:Int}{a b:Tr}(ha:a.gd)(hb:b.gd)(hsa:a.size<=65536)(hsb:b.size<=65536):PF GB prog 128 [vI op,eU a,eU b] (YX al (kl op a b)):=by
 have hda:=a.depth_size;have hdb:=b.depth_size;have hms:=Tr.mergeQ_size op b a [];have hmm:(a.size+1)*(b.size+1)<=65537*65537:=gW (by omega) (by omega);refine fn func128 J J ntmps128 J J (fun C=>?_);refine cl J (ze (t:=a) (by omega)) J<|cl J (ze (t:=b) (by omega)) J<|?_;refine br J J J (fun hc14=>?_) (fun hc14=>?_)
 .
  refine gl J hE.ErrLimit J<|?_;exact rz J (by unfold kl;rw[if_pos (by omega)];rfl)
 .
  refine cl J (Fl (op:=op) (t:=a) (u:=b) (c:=[]) hb.lb hb.ok ha.lb ha.ok (fun s h=>by cases h) (by simp only[fX];omega)) J<|cl J (ZE (t:=a.mergeQ op b []) (by omega)) J<|?_;refine br J J J (fun hc22=>?_) (fun hc22=>?_)
  .
   refine gl J hE.ErrLimit J<|?_;exact rz J (by unfold kl;rw[if_neg (by omega),if_pos (by omega)];rfl)
  .
   exact rz J (by unfold kl;rw[if_neg (by omega),if_neg (by omega)];rfl)
def UE{ai al ae:Addr}(hE:EG GB ai al ae){op:Int}{a b t:Tr}(ha:a.gd)(hb:b.gd)(hsa:a.size<=65536)(hsb:b.size<=65536)(h:kl op a b=some t):PF GB prog 128 [vI op,eU a,eU b] (.tp [eU t, .v .nilIface]):=by
 have:=RE hE (op:=op) ha hb hsa hsb;rw[h] at this;exact this
def Tj{ai al ae:Addr}(hE:EG GB ai al ae){op:Int}{a b:Tr}(ha:a.gd)(hb:b.gd)(hsa:a.size<=65536)(hsb:b.size<=65536)(h:kl op a b=none):PF GB prog 128 [vI op,eU a,eU b] (.tp [.v (.pointer none),wv al]):=by
 have:=RE hE (op:=op) ha hb hsa hsb;rw[h] at this;exact this
def UB{ai al ae:Addr}(hE:EG GB ai al ae){op:Int}{a b t:Tr}(ha:a.gd)(hb:b.gd)(hsa:a.size<=65536)(hsb:b.size<=65536)(h:kl op a b=some t):PF GB prog 66 [vI op,eU a,eU b] (.tp [eU t, .v .nilIface]):=by
 refine fn func66 J J ntmps66 J J (fun C=>?_);refine cl J (UE hE ha hb hsa hsb h) J<|?_;exact rz J J
def aGn{ai al ae:Addr}(hE:EG GB ai al ae){op:Int}{a b:Tr}(ha:a.gd)(hb:b.gd)(hsa:a.size<=65536)(hsb:b.size<=65536)(h:kl op a b=none):PF GB prog 66 [vI op,eU a,eU b] (.tp [.v (.pointer none),wv al]):=by
 refine fn func66 J J ntmps66 J J (fun C=>?_);refine cl J (Tj hE ha hb hsa hsb h) J<|?_;exact rz J J
def Mr(op:Int):Tr->List Tr->Option Tr
 |t,[]=>some t
 |t,u::us=>match kl op t u with
  |none=>none
  |some r=>Mr op r us
def V'{t:Tr}(h:t.gd)(c:ao):(t.restrict c).gd:=⟨t.restrict_all LB c h.lb,t.restrict_all aa.ok c h.ok⟩
def Om{op:Int}:PF GB prog 65 [vI op] (vB (decide (1<=op/\op<=4))):=by
 refine fn (fu:=⟨8⟩) func65 J J ntmps65 J J (fun C=>?_);refine kG (fu1:=⟨2⟩) J J J J (fun hg4=>?_) (fun hg4=>?_)
 .
  refine kG J J J J (fun hg7=>?_) (fun hg7=>?_)
  .
   exact rz J (by show DV.v (.bool _)= .v (.bool _);congr 2;simp;omega)
  .
   exact rz J (by show DV.v (.bool _)= .v (.bool _);congr 2;simp;omega)
 .
  exact rz J (by show DV.v (.bool _)= .v (.bool _);congr 2;simp;omega)
def aDh{op:Int}(h:1<=op/\op<=4):PF GB prog 65 [vI op] (vB true):=by
 have:=Om (GB:=GB) (op:=op);rw[decide_eq_true h] at this;exact this
def Z4{op:Int}(h: ¬(1<=op/\op<=4)):PF GB prog 65 [vI op] (vB false):=by
 have:=Om (GB:=GB) (op:=op);rw[decide_eq_false h] at this;exact this
def CA{ns:List RN}{rt:Int}{t:Tr}(hs: ∀n∈ns,n.g.sm)(hn:ns.length<=65536)(h:l7 ns rt=some t):PF GB prog 64 [tY rt ns] (.tp [eU t,vB true]):=by
 have:=Oy (GB:=GB) (rt:=rt) hs hn;rw[h] at this;exact this
def Fc{ns:List RN}{rt:Int}(hs: ∀n∈ns,n.g.sm)(hn:ns.length<=65536)(h:l7 ns rt=none):PF GB prog 64 [tY rt ns] (.tp [.v (.pointer none),vB false]):=by
 have:=Oy (GB:=GB) (rt:=rt) hs hn;rw[h] at this;exact this
def I1:DV:= .ag [vI 0, .sl []]
def Oc:Tr ⊕ Addr->DV
 | .inl t=> .tp [eA t, .v .nilIface]
 | .inr e=> .tp [I1,wv e]
def aJb(ai:Addr):Option Tr->Tr ⊕ Addr
 |some t=> .inl t.compl
 |none=> .inr ai
def E3(al:Addr):Option Tr->Tr ⊕ Addr
 |some t=> .inl t
 |none=> .inr al
def AW(ai al:Addr)(op:Int):Option Tr->Option Tr->Tr ⊕ Addr
 |some a,some b=>if 1<=op/\op<=4 then E3 al (kl op a b) else .inr ai
 |_,_=> .inr ai
def E5{ns:List RN}{rt:Int}{t:Tr}(hs: ∀n∈ns,n.g.sm)(hn:ns.length<=65536)(h:l7 ns rt=some t):t.gd/\t.size<=65536:=by
 obtain⟨h1,h2,h3⟩:=TP hs h;exact⟨⟨h1,h2⟩,by omega⟩
def axv{ai al ae:Addr}(hE:EG GB ai al ae){op:Int}{n1:List RN}{r1:Int}(hs1: ∀n∈n1,n.g.sm)(hn1:n1.length<=65536){n2:List RN}{r2:Int}(hs2: ∀n∈n2,n.g.sm)(hn2:n2.length<=65536):PF GB prog 18 [vI op,tY r1 n1,tY r2 n2] (Oc (AW ai al op (l7 n1 r1) (l7 n2 r2))):=by
 refine fn func18 J J ntmps18 J J (fun C=>?_);rcases h1:l7 n1 r1 with _|a
 .
  refine cl (fu:=⟨3⟩) J (Fc hs1 hn1 h1) J<|?_;refine rB 18 J ?_;refine gx J<|?_;rcases h2:l7 n2 r2 with _|b
  .
   refine cl (fu:=⟨3⟩) J (Fc hs2 hn2 h2) J<|?_;refine rB 23 J ?_;refine gx J<|gl J hE.ErrInvalid J<|?_;exact rz J J
  .
   have g2:=E5 hs2 hn2 h2;refine cl (fu:=⟨3⟩) J (CA hs2 hn2 h2) J<|?_;refine pi 23 J ?_;refine gx J<|gl J hE.ErrInvalid J<|?_;exact rz J J
 .
  have g1:=E5 hs1 hn1 h1;refine cl (fu:=⟨3⟩) J (CA hs1 hn1 h1) J<|?_;refine pi 18 J ?_;refine gx J<|?_;rcases h2:l7 n2 r2 with _|b
  .
   refine cl (fu:=⟨3⟩) J (Fc hs2 hn2 h2) J<|?_;refine rB 23 J ?_;refine gx J<|gl J hE.ErrInvalid J<|?_;exact rz J J
  .
   have g2:=E5 hs2 hn2 h2;refine cl (fu:=⟨3⟩) J (CA hs2 hn2 h2) J<|?_;refine pi 23 J ?_;refine gx J<|?_;by_cases ho:1<=op/\op<=4
   .
    refine cl (fu:=⟨0⟩) J (aDh ho) J<|?_;refine pi 32 J ?_;refine gx J<|?_;rcases hm:kl op a b with _|t
    .
     refine cl J (aGn hE g1.1 g2.1 g1.2 g2.2 hm) J<|?_;exact rz J (by rw[AW,if_pos ho,hm];rfl)
    .
     have gt:=Wr g1.1 g2.1 hm;refine cl J (UB hE g1.1 g2.1 g1.2 g2.2 hm) J<|cl J (aH7 (t:=t) gt.1.lb (by omega)) J<|?_;exact rz J (by rw[AW,if_pos ho,hm];rfl)
   .
    refine cl (fu:=⟨0⟩) J (Z4 ho) J<|?_;refine rB 32 J ?_;refine gx J<|gl J hE.ErrInvalid J<|?_;exact rz J (by rw[AW,if_neg ho];rfl)
abbrev r9:=Int×List RN
def r9.d(x:r9):DV:=tY x.1 x.2
def r9.q(x:r9):Option Tr:=l7 x.2 x.1
def ofP:Option Tr->DV
 |some t=>eU t
 |none=> .v (.pointer none)
def Tu(op:Int)(ts:List r9):Bool:=decide (1<=op/\op<=4)&&ts.all fun x=>x.q.isSome
def aKy(ai al ae:Addr)(op:Int)(ts:List r9):Tr ⊕ Addr:=
 if Tu op ts then(match ts.filterMap r9.q with
  |[]=> .inr ae
  |a::us=>if 1024<a.depth then .inr al else E3 al (Mr op (a.restrict []) us)) else .inr ai
def aJ3(ts:List r9):List DV:=ts.map fun x=>ofP x.q
structure r9.ok (x:r9):Prop where
 s: ∀n∈x.2,n.g.sm
 n:x.2.length<=65536
def Tr.val:Tr->ab->Bool
 | .leaf b,_=>b
 | .node l x y,p=>if 0<l.value p then x.val p else y.val p
def Tr.lns:Tr->List aa
 | .leaf _=>[]
 | .node l x y=>l::(x.lns++y.lns)
def vn{P:aa->Prop}: ∀{t:Tr},t.all P↔ ∀l∈t.lns,P l
 | .leaf _=>⟨fun _ l hl=>(by cases hl),fun _=>trivial⟩
 | .node l x y=>by
  show(P l/\x.all P/\y.all P)↔ ∀m∈l::(x.lns++y.lns),P m;rw[vn (t:=x),vn (t:=y)];constructor
  ·rintro ⟨h0,h1,h2⟩ m hm
   rcases aY.1 hm with rfl|hm
   ·exact h0
   ·rcases bW.1 hm with hm|hm
    ·exact h1 m hm
    ·exact h2 m hm
  ·intro h
   exact⟨h l aQ,fun m hm=>h m (aJ _ (bU _ hm)),fun m hm=>h m (aJ _ (bL _ hm))⟩
def tB{t:Tr}(h:t.all aa.ok): ∀l∈t.lns,l.ok:=vn.1 h
def eB(L:List aa)(p:ab):Prop:= ∀l∈L,l.value p≠0
def eB.sub{L M:List aa}{p:ab}(h:eB L p)(k: ∀l∈M,l∈L):eB M p:=fun l hl=>h l (k l hl)
def eB.l{l:aa}{x y:Tr}{p:ab}(h:eB (Tr.node l x y).lns p):l.value p≠0:=h l aQ
def eB.x{l:aa}{x y:Tr}{p:ab}(h:eB (Tr.node l x y).lns p):eB x.lns p:=h.sub fun m hm=>aJ _ (bU _ hm)
def eB.y{l:aa}{x y:Tr}{p:ab}(h:eB (Tr.node l x y).lns p):eB y.lns p:=h.sub fun m hm=>aJ _ (bL _ hm)
def eB.app{L M:List aa}{p:ab}:eB (L++M) p↔eB L p/\eB M p:=by
 unfold eB;constructor
 ·intro h;exact⟨fun l hl=>h l (bU _ hl),fun l hl=>h l (bL _ hl)⟩
 ·rintro ⟨h1,h2⟩ l hl;rcases bW.1 hl with h|h;exact h1 l h;exact h2 l h
def yi(op:Int)(a b:Bool):Bool:=if op=1 then a||b else if op=2 then a&&b else if op=3 then a&&!b else a !=b
def Tr.val_join(l:aa)(X Y:Tr)(p:ab):(Tr.joinQ l X Y).val p=(Tr.node l X Y).val p:=by
 unfold Tr.joinQ;split
 ·rename_i h
  cases X<;>cases Y<;>simp[Tr.isLeaf,Tr.code] at h
  subst h;simp[Tr.val]
 ·rfl
def Tr.val_pos{l:aa}{x y:Tr}{p:ab}(h:0<l.value p):(Tr.node l x y).val p=x.val p:=by rw[Tr.val,if_pos h]
def Tr.val_neg{l:aa}{x y:Tr}{p:ab}(h: ¬0<l.value p):(Tr.node l x y).val p=y.val p:=by rw[Tr.val,if_neg h]
def Tr.val_compl: ∀(t:Tr) (p:ab),t.compl.val p=!t.val p
 | .leaf b,p=>rfl
 | .node l x y,p=>by
  rw[Tr.compl];by_cases h:0<l.value p
  ·rw[Tr.val_pos h,Tr.val_pos h,x.val_compl]
  ·rw[Tr.val_neg h,Tr.val_neg h,y.val_compl]
def KW{c:ao}{l:aa}(hc:bH c)(hl:l.ok)(hb:bC c l.rev=false){p:ab}(hp:bc c p)(h0:l.value p≠0):0<l.value p:=by
 by_cases h:0<l.value p
 ·exact h
 ·exfalso
  have:bC c l.rev=true:=(eD hc hl.rev).2 ⟨p,hp,by rw[dx];grind⟩;rw[hb] at this;cases this
def Mi{c:ao}{l:aa}(hc:bH c)(hl:l.ok)(hb:bC c l=false){p:ab}(hp:bc c p): ¬0<l.value p:=fun h=>by
 have:bC c l=true:=(eD hc hl).2 ⟨p,hp,h⟩;rw[hb] at this;cases this
def Tr.val_restrict: ∀(t:Tr) (c:ao) (p:ab),t.all aa.ok->bH c->bc c p->eB t.lns p->(t.restrict c).val p=t.val p
 | .leaf _,_,_,_,_,_,_=>rfl
 | .node l x y,c,p,⟨hl,hx,hy⟩,hc,hp,ho=>by
  cases hb:bC c l.rev with
  |false=>rw[Tr.restrict_A _ _ hb,x.val_restrict c p hx hc hp ho.x,Tr.val_pos (KW hc hl hb hp ho.l)]
  |true=>
   cases hb2:bC c l with
   |false=>rw[Tr.restrict_B _ _ hb hb2,y.val_restrict c p hy hc hp ho.y,Tr.val_neg (Mi hc hl hb2 hp)]
   |true=>
    rw[Tr.restrict_C _ _ hb hb2,Tr.val_join];obtain⟨g1,i1⟩:=fG hc hl hb2;obtain⟨g2,i2⟩:=fG hc hl.rev hb;by_cases h:0<l.value p
    ·rw[Tr.val_pos h,Tr.val_pos h,x.val_restrict _ p hx g1 ((i1 p).2 ⟨hp,h⟩) ho.x]
    ·rw[Tr.val_neg h,Tr.val_neg h,y.val_restrict _ p hy g2 ((i2 p).2 ⟨hp,by rw[dx];have:=ho.l;grind⟩) ho.y]
def Tr.val_choose(op:Int)(b:Bool)(t:Tr)(c:ao)(p:ab)(ht:t.all aa.ok)(hc:bH c)(hp:bc c p)(ho:eB t.lns p):(t.chooseQ op b c).val p=yi op b (t.val p):=by
 have hr:=t.val_restrict c p ht hc hp ho;unfold Tr.chooseQ yi;by_cases h1:op=1
 ·subst h1;cases b<;>simp[hr,Tr.val]
 ·by_cases h2:op=2
  ·subst h2;cases b<;>simp[hr,Tr.val]
  ·by_cases h3:op=3
   ·subst h3;cases b<;>simp[hr,Tr.val,Tr.val_compl]
   ·cases b<;>simp[h1,h2,h3,hr,Tr.val_compl]
def Tr.val_merge(op:Int)(u:Tr)(hu:u.all aa.ok): ∀(t:Tr) (c:ao) (p:ab),t.all aa.ok->bH c->bc c p->eB t.lns p->eB u.lns p->(t.mergeQ op u c).val p=yi op (t.val p) (u.val p)
 | .leaf b,c,p,_,hc,hp,_,ho=>u.val_choose op b c p hu hc hp ho
 | .node l x y,c,p,⟨hl,hx,hy⟩,hc,hp,ho,hou=>by
  rw[Tr.mergeQ]
  cases hb:bC c l.rev with
  |false=>
   rw[if_pos (show(!false)=true from J),Tr.val_merge op u hu x c p hx hc hp ho.x hou,Tr.val_pos (KW hc hl hb hp ho.l)]
  |true=>
   rw[if_neg (by decide)]
   cases hb2:bC c l with
   |false=>rw[if_pos (show(!false)=true from J),Tr.val_merge op u hu y c p hy hc hp ho.y hou,Tr.val_neg (Mi hc hl hb2 hp)]
   |true=>
    rw[if_neg (by decide),Tr.val_join];obtain⟨g1,i1⟩:=fG hc hl hb2;obtain⟨g2,i2⟩:=fG hc hl.rev hb;by_cases h:0<l.value p
    ·rw[Tr.val_pos h,Tr.val_pos h,Tr.val_merge op u hu x _ p hx g1 ((i1 p).2 ⟨hp,h⟩) ho.x hou]
    ·rw[Tr.val_neg h,Tr.val_neg h,Tr.val_merge op u hu y _ p hy g2 ((i2 p).2 ⟨hp,by rw[dx];have:=ho.l;grind⟩) ho.y hou]
def M9: ∀(L:List aa) (u:ab) (p:ab),eB L p-> ∃e:Rat,0<e/\ ∀d,0<=d->d<=e->eB L (ck p u d)
 |[],u,p,_=>⟨1,by decide,fun d _ _ l hl=>by cases hl⟩
 |l::L,u,p,h=>by
  obtain⟨e,he,hm⟩:=M9 L u p (h.sub fun m hm=>aJ _ hm);have h0:=h l aQ;have key: ∃f:Rat,0<f/\ ∀d,0<=d->d<=f->l.value (ck p u d)≠0:=by
   by_cases hk:l.nor.dot u=0
   ·exact⟨1,by decide,fun d _ _=>by rw[jl,hk];grind⟩
   ·generalize hA:l.value p=A at*
    generalize hB:l.nor.dot u=B at*;rcases kv A with h|h|h
    ·exact absurd h h0
    ·rcases kv B with k|k|k
     ·exact absurd k hk
     ·exact⟨1,by decide,fun d hd _=>by rw[jl,hA,hB];have:=di hd (cM k);grind⟩
     ·refine⟨A/(-B)/2,?_,fun d hd h2=>?_⟩
      ·have:0<A/(-B):=by
        have e1:A/(-B)*(-B)=A:=by grind
        exact(jv (k:= -B) (by grind)).1 (by rw[e1];exact h)
       grind
      ·rw[jl,hA,hB]
       have e1:A/(-B)*(-B)=A:=by grind
       generalize A/(-B)=q at*;have h4:=di (a:=q/2-d) (b:= -B) (by grind) (by grind);grind
    ·rcases kv B with k|k|k
     ·exact absurd k hk
     ·refine⟨(-A)/B/2,?_,fun d hd h2=>?_⟩
      ·have:0<(-A)/B:=by
        have e1:(-A)/B*B= -A:=by grind
        exact(jv (k:=B) k).1 (by rw[e1];grind)
       grind
      ·rw[jl,hA,hB]
       have e1:(-A)/B*B= -A:=by grind
       generalize (-A)/B=q at*;have h4:=di (a:=q/2-d) (b:=B) (by grind) (by grind);grind
     ·exact⟨1,by decide,fun d hd _=>by rw[jl,hA,hB];have:=di hd (b:= -B) (by grind);grind⟩
  obtain⟨f,hf,hk⟩:=key;refine⟨if e<=f then e else f,by split<;>assumption,fun d hd hde m hm'=>?_⟩;have h1:d<=e/\d<=f:=by split at hde<;>grind
  rcases aY.1 hm' with rfl|hm'
  ·exact hk d hd h1.2
  ·exact hm d hd h1.1 m hm'
def M8{c:ao}{p:ab}(hp:bc c p): ∀(L:List aa),(∀l∈L,l.ok)-> ∃q,bc c q/\eB L q
 |[],_=>⟨p,hp,fun l hl=>by cases hl⟩
 |l::L,h=>by
  obtain⟨q,hq,ho⟩:=M8 hp L fun m hm=>h m (aJ _ hm);by_cases h0:l.value q=0
  ·have hn:=q7 (h l aQ).ne
   obtain⟨e,he,hm⟩:=hq.open l.nor;obtain⟨f,hf,hk⟩:=M9 L l.nor q ho;refine⟨ck q l.nor (if e<=f then e else f),hm _ (by split<;>grind) (by split<;>grind),fun m hm'=>?_⟩;rcases aY.1 hm' with rfl|hm'
   ·rw[jl,h0]
    have:=ge (a:=if e<=f then e else f) (b:=m.nor.dot m.nor) (by split<;>assumption) hn;grind
   ·exact hk _ (by split<;>grind) (by split<;>grind) m hm'
  ·exact⟨q,hq,fun m hm=>by rcases aY.1 hm with rfl|hm;exact h0;exact ho m hm⟩
def Ow{c:ao}(hc:bH c)(L:List aa)(h: ∀l∈L,l.ok): ∃q,bc c q/\eB L q:=by
 obtain⟨p,hp⟩:=hc.ne;exact M8 hp L h
def Tr.Red:Tr->ao->Prop
 | .leaf _,_=>True
 | .node l x y,c=>bC c l=true/\bC c l.rev=true/\x.Red (bg c l)/\y.Red (bg c l.rev)/\ ¬(x.isLeaf=true/\y.isLeaf=true/\x.code=y.code)
def Tr.red_leaf{t:Tr}(h:t.isLeaf=true)(c:ao):t.Red c:=by
 cases t with
 |leaf b=>trivial
 |node l x y=>cases h
def Tr.join_red{l:aa}{x y:Tr}{c:ao}(h1:bC c l=true)(h2:bC c l.rev=true)(hx:x.Red (bg c l))(hy:y.Red (bg c l.rev)):(Tr.joinQ l x y).Red c:=by
 rcases Tr.joinQ_cases l x y with⟨e,h⟩|⟨e,h⟩
 ·rw[e];exact Tr.red_leaf h c
 ·rw[e];exact⟨h1,h2,hx,hy,h⟩
def Tr.restrict_red: ∀(t:Tr) (c:ao),(t.restrict c).Red c
 | .leaf _,_=>trivial
 | .node l x y,c=>by
  cases hb:bC c l.rev with
  |false=>rw[Tr.restrict_A _ _ hb];exact x.restrict_red c
  |true=>
   cases hb2:bC c l with
   |false=>rw[Tr.restrict_B _ _ hb hb2];exact y.restrict_red c
   |true=>rw[Tr.restrict_C _ _ hb hb2];exact Tr.join_red hb2 hb (x.restrict_red _) (y.restrict_red _)
def Tr.compl_leaf{t:Tr}:t.compl.isLeaf=t.isLeaf:=by cases t<;>rfl
def Tr.compl_code{t:Tr}(h:t.isLeaf=true):t.compl.code=!t.code:=by
 cases t with
 |leaf b=>rfl
 |node l x y=>cases h
def Tr.compl_red: ∀{t:Tr} {c:ao},t.Red c->t.compl.Red c
 | .leaf _,_,_=>trivial
 | .node l x y,c,⟨h1,h2,h3,h4,h5⟩=>by
  refine⟨h1,h2,Tr.compl_red h3,Tr.compl_red h4,fun⟨a,b,e⟩=>?_⟩;rw[Tr.compl_leaf] at a b;rw[Tr.compl_code a,Tr.compl_code b] at e;exact h5 ⟨a,b,by simpa using e⟩
def Tr.choose_red(op:Int)(b:Bool)(t:Tr)(c:ao):(t.chooseQ op b c).Red c:=by
 have h:=t.restrict_red c;unfold Tr.chooseQ;split
 ·split
  ·trivial
  ·exact h
 ·split
  ·trivial
  ·split
   ·exact Tr.compl_red h
   ·exact h
def Tr.merge_red(op:Int)(u:Tr): ∀(t:Tr) (c:ao),(t.mergeQ op u c).Red c
 | .leaf b,c=>u.choose_red op b c
 | .node l x y,c=>by
  rw[Tr.mergeQ]
  cases hb:bC c l.rev with
  |false=>rw[if_pos (show(!false)=true from J)];exact Tr.merge_red op u x c
  |true=>
   rw[if_neg (by decide)]
   cases hb2:bC c l with
   |false=>rw[if_pos (show(!false)=true from J)];exact Tr.merge_red op u y c
   |true=>rw[if_neg (by decide)];exact Tr.join_red hb2 hb (Tr.merge_red op u x _) (Tr.merge_red op u y _)
def aa.same(l m:aa):Prop:=m=l\/m=l.rev
instance (l m:aa):Decidable (l.same m):=inferInstanceAs (Decidable (_\/_))
def Tr.cnt(l:aa):Tr->Nat
 | .leaf _=>0
 | .node m x y=>(if l.same m then 1 else 0)+(x.cnt l+y.cnt l)
def DU{l m:aa}(h:l.same m){p:ab}(hp:l.value p=0):m.value p=0:=by
 rcases h with rfl|rfl
 ·exact hp
 ·rw[dx,hp];rfl
def Gb(l:aa)(c:ao):Prop:= ∃p,bc c p/\l.value p=0
def Tr.cnt_zero{l:aa}: ∀{t:Tr} {c:ao},t.Red c->t.all aa.ok->bH c-> ¬Gb l c->t.cnt l=0
 | .leaf _,_,_,_,_,_=>rfl
 | .node m x y,c,⟨h1,h2,h3,h4,_⟩,⟨hm,hx,hy⟩,hc,hn=>by
  obtain⟨g1,i1⟩:=fG hc hm h1;obtain⟨g2,i2⟩:=fG hc hm.rev h2;have e1:=Tr.cnt_zero (l:=l) h3 hx g1 (fun⟨p,hp,h0⟩=>hn ⟨p,((i1 p).1 hp).1,h0⟩);have e2:=Tr.cnt_zero (l:=l) h4 hy g2 (fun⟨p,hp,h0⟩=>hn ⟨p,((i2 p).1 hp).1,h0⟩);rw[Tr.cnt,e1,e2];by_cases hs:l.same m
  ·exfalso
   -- m crosses the cell
   obtain⟨p,hp,k1⟩:=(eD hc hm).1 h1;obtain⟨q,hq,k2⟩:=(eD hc hm.rev).1 h2;rw[dx] at k2;generalize hA:m.value p=A at*;generalize hB:m.value q=B at*;have hAB:0<A-B:=by grind
   have e:A/(A-B)*(A-B)=A:=by grind
   generalize A/(A-B)=r at*;have r0:0<=r:=(lz hAB).1 (by rw[e];exact cM k1);have r1:r<=1:=by
    have:=(lz (s:=1-r) hAB).1 (by grind);grind
   have hz:=hp.seg hq r0 r1;have hv:m.value (bw p q r)=0:=by rw[m7,hA,hB];grind
   refine hn ⟨_,hz,?_⟩;rcases hs with rfl|rfl
   ·exact hv
   ·rw[dx] at hv;grind
  ·rw[if_neg hs]
def rk(c:ao)(p:ab):Bool:=c.all fun s=>decide (0<s.l.value p)
def t7{c:ao}{p:ab}:rk c p=true↔bc c p:=by
 unfold rk bc;rw[fQ];simp
def JF(P:List ab)(l:aa)(t:Tr):Prop:=t.all fun m=>l.same m\/ ∀p,l.value p=0->m.value p=0->p∈P
def Hg{α:Type}{p q r:α->Bool}: ∀(P:List α),(∀x∈P,q x=true->p x=true)->(∀x∈P,r x=true->p x=true)->(∀x∈P,¬(q x=true/\r x=true))->P.countP q+P.countP r<=P.countP p
 |[],_,_,_=>aN _
 |x::P,h1,h2,h3=>by
  have ih:=Hg (p:=p) (q:=q) (r:=r) P (fun y hy=>h1 y (aJ _ hy)) (fun y hy=>h2 y (aJ _ hy)) (fun y hy=>h3 y (aJ _ hy));have a:=h1 x aQ;have b:=h2 x aQ;have c:=h3 x aQ;rw[oW,oW,oW]
  cases hq:q x<;>cases hr:r x<;>simp_all<;>omega
def KZ{α:Type}{p q r:α->Bool}: ∀(P:List α),(∀x∈P,q x=true->p x=true)->(∀x∈P,r x=true->p x=true)->(∀x∈P,¬(q x=true/\r x=true))->(∃x∈P,p x=true/\q x=false/\r x=false)->P.countP q+P.countP r+1<=P.countP p
 |[],_,_,_,⟨x,hx,_⟩=>by cases hx
 |x::P,h1,h2,h3,h4=>by
  have i2:=Hg (p:=p) (q:=q) (r:=r) P (fun y hy=>h1 y (aJ _ hy)) (fun y hy=>h2 y (aJ _ hy)) (fun y hy=>h3 y (aJ _ hy));have a:=h1 x aQ;have b:=h2 x aQ;have c:=h3 x aQ;rw[oW,oW,oW];obtain⟨z,hz,k1,k2,k3⟩:=h4;rcases aY.1 hz with rfl|hz
  ·simp only[k1,k2,k3];simp;omega
  ·have ih:=KZ (p:=p) (q:=q) (r:=r) P (fun y hy=>h1 y (aJ _ hy)) (fun y hy=>h2 y (aJ _ hy)) (fun y hy=>h3 y (aJ _ hy)) ⟨z,hz,k1,k2,k3⟩
   cases hq:q x<;>cases hr:r x<;>simp_all<;>omega
def Tr.cnt_le{l:aa}(hl:l.ok){P:List ab}: ∀{t:Tr} {c:ao},t.Red c->t.all aa.ok->bH c->JF P l t->t.cnt l<=1+P.countP (rk c)
 | .leaf _,_,_,_,_,_=>bJ _
 | .node m x y,c,⟨h1,h2,h3,h4,_⟩,⟨hm,hx,hy⟩,hc,⟨v0,v1,v2⟩=>by
  obtain⟨g1,i1⟩:=fG hc hm h1;obtain⟨g2,i2⟩:=fG hc hm.rev h2;have q1: ∀p∈P,rk (bg c m) p=true->rk c p=true:=fun p _ h=>t7.2 ((i1 p).1 (t7.1 h)).1;have q2: ∀p∈P,rk (bg c m.rev) p=true->rk c p=true:=fun p _ h=>t7.2 ((i2 p).1 (t7.1 h)).1;have q3: ∀p∈P,¬(rk (bg c m) p=true/\rk (bg c m.rev) p=true):=fun p _ ⟨a,b⟩=>by
   have a:=((i1 p).1 (t7.1 a)).2;have b:=((i2 p).1 (t7.1 b)).2;rw[dx] at b;grind
  have ct:=Hg P q1 q2 q3;rw[Tr.cnt];by_cases hs:l.same m
  ·have e1:=Tr.cnt_zero (l:=l) h3 hx g1 (fun⟨p,hp,h0⟩=>by have:=((i1 p).1 hp).2;rw[DU hs h0] at this;grind)
   have e2:=Tr.cnt_zero (l:=l) h4 hy g2 (fun⟨p,hp,h0⟩=>by have:=((i2 p).1 hp).2;rw[dx,DU hs h0] at this;grind);rw[e1,e2,if_pos hs];omega
  ·rw[if_neg hs]
   have b1:=Tr.cnt_le hl h3 hx g1 v1;have b2:=Tr.cnt_le hl h4 hy g2 v2;by_cases w1:Gb l (bg c m)
   ·by_cases w2:Gb l (bg c m.rev)
    ·-- the crossing xb in the cell
     obtain⟨p,hp,k1⟩:=w1;obtain⟨q,hq,k2⟩:=w2;obtain⟨hp,ap⟩:=(i1 p).1 hp;obtain⟨hq,aq⟩:=(i2 q).1 hq;rw[dx] at aq;generalize hA:m.value p=A at*;generalize hB:m.value q=B at*;have hAB:0<A-B:=by grind
     have e:A/(A-B)*(A-B)=A:=by grind
     generalize A/(A-B)=r at*;have r0:0<=r:=(lz hAB).1 (by rw[e];exact cM ap);have r1:r<=1:=by
      have:=(lz (s:=1-r) hAB).1 (by grind);grind
     have hz:=hp.seg hq r0 r1;have hv:m.value (bw p q r)=0:=by rw[m7,hA,hB];grind
     have hv2:l.value (bw p q r)=0:=by rw[m7,k1,k2];grind
     have hmem:bw p q r∈P:=by
      rcases v0 with h|h
      ·exact absurd h hs
      ·exact h _ hv2 hv
     have c3:=KZ P q1 q2 q3 ⟨_,hmem,t7.2 hz,by
      rw[<-mR,t7,i1];rintro ⟨_,h⟩;rw[hv] at h;grind,by
      rw[<-mR,t7,i2];rintro ⟨_,h⟩;rw[dx,hv] at h;grind⟩
     omega
    ·rw[Tr.cnt_zero h4 hy g2 w2];omega
   ·rw[Tr.cnt_zero h3 hx g1 w1];omega
def z7(l:aa):l.rev.rev=l:=by cases l;simp[aa.rev]
def aa.same.symm{l m:aa}(h:l.same m):m.same l:=by
 rcases h with rfl|rfl
 ·exact .inl J
 ·exact .inr (z7 l).symm
def aa.same.trans{l m n:aa}(h:l.same m)(k:m.same n):l.same n:=by
 rcases h with rfl|rfl
 ·exact k
 ·rcases k with rfl|rfl
  ·exact .inr J
  ·exact .inl (z7 l)
def jF(K:List aa)(t:Tr):Prop:=t.all fun n=> ∃m∈K,m.same n
def B7(l m:aa):ab:=l.at (-(l.cutC m/l.cutK m))
def Yr{l m:aa}(hl:l.ok)(hm:m.ok){p:ab}(h1:l.value p=0)(h2:m.value p=0):l.same m\/p=B7 l m:=by
 obtain⟨t,rfl⟩:=Dn hl.ne h1;rw[j9] at h2;by_cases hk:l.cutK m=0
 ·left
  have hc:l.cutC m=0:=by rw[hk] at h2;grind
  rcases xM hm hl (fun s=>by rw[j9,hk,hc];grind) with h|h
  ·exact .inl h
  ·exact .inr h
 ·right
  unfold B7;congr 1;grind
def jF.covers{K:List aa}(hK: ∀m∈K,m.ok){l:aa}(hl:l.ok): ∀{t:Tr},jF K t->JF (K.map (B7 l)) l t
 | .leaf _,_=>trivial
 | .node n x y,⟨⟨m,hm,hs⟩,h1,h2⟩=>by
  refine⟨?_,jF.covers hK hl h1,jF.covers hK hl h2⟩;by_cases h:l.same n
  ·exact .inl h
  ·right
   intro p k1 k2;rcases Yr hl (hK m hm) k1 (DU hs.symm k2) with h3|h3
   ·exact absurd (h3.trans hs) h
   ·rw[h3];exact eX hm
def Kc(t:Tr):List aa->Nat
 |[]=>0
 |l::K=>t.cnt l+Kc t K
def Ks(n:aa):List aa->Nat
 |[]=>0
 |l::K=>(if l.same n then 1 else 0)+Ks n K
def QH{n:aa}{x y:Tr}: ∀K,Kc (.node n x y) K=Ks n K+(Kc x K+Kc y K)
 |[]=>rfl
 |l::K=>by
  have:=QH (n:=n) (x:=x) (y:=y) K;show(Tr.node n x y).cnt l+Kc (.node n x y) K=_;rw[this,Tr.cnt];show _=(if l.same n then 1 else 0)+Ks n K+(x.cnt l+Kc x K+(y.cnt l+Kc y K));omega
def QK{n m:aa}(hs:m.same n): ∀{K:List aa},m∈K->1<=Ks n K
 |[],h=>by cases h
 |l::K,h=>by
  show 1<=(if l.same n then 1 else 0)+Ks n K;rcases aY.1 h with rfl|h
  ·rw[if_pos hs];omega
  ·have:=QK hs h;omega
def I7{K:List aa}: ∀{t:Tr},jF K t->t.size<=Kc t K
 | .leaf _,_=>bJ _
 | .node n x y,⟨⟨m,hm,hs⟩,h1,h2⟩=>by
  have a:=I7 h1;have b:=I7 h2;have c:=QK hs hm;rw[QH,Tr.size];omega
def JX{t:Tr}{B:Nat}: ∀{K:List aa},(∀l∈K,t.cnt l<=B)->Kc t K<=K.length*B
 |[],_=>bJ _
 |l::K,h=>by
  have:=JX (t:=t) (B:=B) (K:=K) fun m hm=>h m (aJ _ hm);have:=h l aQ;show t.cnt l+Kc t K<=(K.length+1)*B;rw[fN];omega
def Tr.size_le{K:List aa}(hK: ∀m∈K,m.ok){t:Tr}{c:ao}(hr:t.Red c)(ht:t.all aa.ok)(hc:bH c)(h:jF K t):t.size<=K.length*(1+K.length):=by
 refine cY (I7 h) (JX fun l hl=>?_);refine cY (Tr.cnt_le (hK l hl) hr ht hc (h.covers hK (hK l hl))) ?_;have:=List.countP_le_length (p:=rk c) (l:=K.map (B7 l));rw[aK] at this;omega
def jF.mono{K M:List aa}{t:Tr}(h:jF K t)(k: ∀l∈K,∃m∈M,m.same l):jF M t:=vn.2 fun l hl=>by
 obtain⟨m,hm,hs⟩:=vn.1 h l hl;obtain⟨n,hn,hs2⟩:=k m hm;exact⟨n,hn,hs2.trans hs⟩
def jF.restrict{K:List aa}{t:Tr}(h:jF K t)(c:ao):jF K (t.restrict c):=t.restrict_all _ c h
def jF.merge{K:List aa}{op:Int}{t u:Tr}(h:jF K t)(hu:jF K u)(c:ao):jF K (t.mergeQ op u c):=Tr.mergeQ_all _ op hu t c h
def Tr.merge_size{K:List aa}(hK: ∀m∈K,m.ok){op:Int}{a b:Tr}(ha:a.all aa.ok)(hb:b.all aa.ok)(ka:jF K a)(kb:jF K b):(a.mergeQ op b []).size<=K.length*(1+K.length):=
 Tr.size_le hK (Tr.merge_red op b a []) (Tr.mergeQ_all aa.ok op hb a [] ha) bH.nil (ka.merge kb [])
def Tr.chooseL(op:Int)(b:Bool)(t:Tr)(c:List aa):Tr:=
 if op=1/\b=true then .leaf true
 else if(op=2\/op=3)/\b=false then .leaf false
 else if(op=3\/op=4)/\b=true then(t.restrictL c).compl else t.restrictL c
def Tr.mergeL(op:Int):Tr->Tr->List aa->Tr
 | .leaf b,u,c=>u.chooseL op b c
 | .node l x y,u,c=>if n5 c l=1 then x.mergeL op u c else if n5 c l= -1 then y.mergeL op u c else joinQ l (x.mergeL op u (fg (c++[l]))) (y.mergeL op u (fg (c++[l.rev])))
def Tr.chooseL_eq{op:Int}(ho:1<=op/\op<=4)(b:Bool)(t:Tr)(c:List aa)(d:ao)(ht:t.all aa.ok)(hc: ∀l∈c,l.ok)(hd:bH d)(he: ∀p,bc d p↔cF c p):t.chooseL op b c=t.chooseQ op b d:=by
 have h:=t.restrictL_eq c d ht hc hd he;unfold Tr.chooseL Tr.chooseQ;rw[h];have:op=1\/op=2\/op=3\/op=4:=by omega
 rcases this with rfl|rfl|rfl|rfl<;>cases b<;>simp
def Tr.mergeL_eq{op:Int}(ho:1<=op/\op<=4)(u:Tr)(hu:u.all aa.ok): ∀(t:Tr) (c:List aa) (d:ao),t.all aa.ok->(∀l∈c,l.ok)->bH d->(∀p,bc d p↔cF c p)->t.mergeL op u c=t.mergeQ op u d
 | .leaf b,c,d,_,hc,hd,he=>u.chooseL_eq ho b c d hu hc hd he
 | .node l x y,c,d,h,hc,hd,he=>by
  obtain⟨hl,hx,hy⟩:=h;have i1:=xg (iu hc hl);have i2:=xg (iu hc hl.rev);obtain⟨p0,hp0⟩:=hd.ne;rcases xb hd hl with⟨a1,a⟩|⟨a1,a2,a⟩|⟨a1,a2,ag1,ag2,ae1,ae2⟩
  ·have b1:i5 (c++[l])=true:=i1.2 ⟨p0,jC.2 ⟨(he p0).1 hp0,a p0 hp0⟩⟩
   have b2:i5 (c++[l.rev])=false:=by
    rw[<-mR,i2];rintro ⟨p,hp⟩;have hp:=jC.1 hp;have:=a p ((he p).2 hp.1);rw[dx] at hp;grind
   rw[Tr.mergeQ,a1,if_pos (show(!false)=true from J),Tr.mergeL,n5,b1,b2];exact Tr.mergeL_eq ho u hu x c d hx hc hd he
  ·have b2:i5 (c++[l.rev])=true:=i2.2 ⟨p0,jC.2 ⟨(he p0).1 hp0,by rw[dx];have:=a p0 hp0;grind⟩⟩
   have b1:i5 (c++[l])=false:=by
    rw[<-mR,i1];rintro ⟨p,hp⟩;have hp:=jC.1 hp;have:=a p ((he p).2 hp.1);grind
   rw[Tr.mergeQ,a1,a2,if_neg (by decide),if_pos (show(!false)=true from J),Tr.mergeL,n5,b1,b2];exact Tr.mergeL_eq ho u hu y c d hy hc hd he
  ·have n1: ∃p,cF (c++[l]) p:=by
    obtain⟨p,hp⟩:=ag1.ne;exact⟨p,jC.2 ⟨(he p).1 ((ae1 p).1 hp).1,((ae1 p).1 hp).2⟩⟩
   have n2: ∃p,cF (c++[l.rev]) p:=by
    obtain⟨p,hp⟩:=ag2.ne;exact⟨p,jC.2 ⟨(he p).1 ((ae2 p).1 hp).1,by rw[dx];have:=((ae2 p).1 hp).2;grind⟩⟩
   rw[Tr.mergeQ,a1,a2,if_neg (by decide),if_neg (by decide),Tr.mergeL,n5,i1.2 n1,i2.2 n2];have k1:=Tr.mergeL_eq ho u hu x (fg (c++[l])) (bg d l) hx (fun m hm=>iu hc hl m (oz.1 hm).1) ag1 fun p=>by
    rw[zT (iu hc hl) n1,ae1,jC,he]
   have k2:=Tr.mergeL_eq ho u hu y (fg (c++[l.rev])) (bg d l.rev) hy (fun m hm=>iu hc hl.rev m (oz.1 hm).1) ag2 fun p=>by
    rw[zT (iu hc hl.rev) n2,ae2,jC,he,dx];constructor<;>rintro ⟨a,b⟩<;>exact⟨a,by grind⟩
   rw[k1,k2];rfl
def Xp(p:ab):bc [] p↔cF [] p:=by unfold bc cF;simp
def Tr.mergeL_nil{op:Int}(ho:1<=op/\op<=4){t u:Tr}(ht:t.all aa.ok)(hu:u.all aa.ok):t.mergeL op u []=t.mergeQ op u []:=
 Tr.mergeL_eq ho u hu t [] [] ht (fun l hl=>by cases hl) bH.nil Xp
def awJ{op:Int}{a b:Tr}(hd:a.depth+b.depth<=1024)(hs:(a.mergeQ op b []).size<=65536):kl op a b=some (a.mergeQ op b []):=by
 unfold kl;rw[if_neg (by omega),if_neg (by omega)]
def Tr.mergeQ_depth(op:Int)(u:Tr): ∀(t:Tr) (c:ao),(t.mergeQ op u c).depth<=t.depth+u.depth
 | .leaf b,c=>by
  have:=u.restrict_depth c;have h2:=(u.restrict c).compl_depth;show(u.chooseQ op b c).depth<=_;unfold Tr.chooseQ;split
  ·split
   ·exact bJ _
   ·simp only[Tr.depth];omega
  ·split
   ·exact bJ _
   ·split
    ·simp only[Tr.depth];omega
    ·simp only[Tr.depth];omega
 | .node l x y,c=>by
  have hx:=fun c=>Tr.mergeQ_depth op u x c;have hy:=fun c=>Tr.mergeQ_depth op u y c;rw[Tr.mergeQ];simp only[Tr.depth];split
  ·have:=hx c;omega
  ·split
   ·have:=hy c;omega
   ·have h1:=hx (bg c l)
    have h2:=hy (bg c l.rev);rcases Tr.joinQ_cases l (x.mergeQ op u (bg c l)) (y.mergeQ op u (bg c l.rev)) with⟨h,_⟩|⟨h,_⟩<;>rw[h]<;>(try simp only[Tr.depth])<;>omega
structure Gen (L:List aa) (a b:Tr):Prop where
 oa:a.all aa.ok
 ob:b.all aa.ok
 ok: ∀l∈L,l.ok
 la: ∀l∈a.lns,l∈L
 lb: ∀l∈b.lns,l∈L
def mv(x:Rat):List Rat->List Rat
 |[]=>[x]
 |u::t=>if u<x then u::mv x t else if u=x then u::t else x::u::t
def IH(l:List Rat):List Rat:=l.foldl (fun out x=>mv x out) []
def iI:List Rat->List Rat
 |a::b::t=>(a+b)/2::iI (b::t)
 |_=>[]
def ey:List Rat->List Rat
 |[]=>[0]
 |a::t=>(a-1)::(iI (a::t)++[(a::t).getLast (by simp)+1])
def qj{x y:Rat}: ∀{l:List Rat},y∈mv x l↔y=x\/y∈l
 |[]=>by simp[mv]
 |u::t=>by
  rw[mv];split
  ·rw[aY,qj (l:=t),aY];grind
  ·split
   ·rename_i h;subst h;simp
   ·simp
def yZ{x:Rat}: ∀{l:List Rat},l.Pairwise (· < ·)->(mv x l).Pairwise (· < ·)
 |[],_=>by simp[mv]
 |u::t,h=>by
  rw[cK] at h;rw[mv];split
  ·rename_i hu
   rw[cK];refine⟨fun y hy=>?_,yZ h.2⟩;rcases qj.1 hy with rfl|hy
   ·exact hu
   ·exact h.1 y hy
  ·rename_i hu
   split
   ·rw[cK];exact h
   ·rename_i hn
    have hx:x<u:=by grind
    rw[cK,cK];refine⟨fun y hy=>?_,h⟩;rcases aY.1 hy with rfl|hy
    ·exact hx
    ·have:=h.1 y hy;grind
def JO: ∀{l:List Rat} (h:l.Pairwise (· < ·)) (hn:l≠[]),∀y∈l,y<=l.getLast hn
 |[a],_,_,y,hy=>by rw[aW] at hy;subst hy;exact fU
 |a::b::t,h,_,y,hy=>by
  rw[cK] at h;rw[List.getLast_cons (by simp)];have ih:=JO h.2 (by simp);rcases aY.1 hy with rfl|hy
  ·have:=h.1 b aQ
   have:=ih b aQ;grind
  ·exact ih y hy
def Pw:List aa->List Rat
 |[]=>[]
 |a::t=>(if a.b=0 then [a.base.x] else [])++(t.filterMap (fun b=>if crossI a b=0 then none else some (dH a b).x)++Pw t)
def yA(a:aa)(x:Rat):Rat:= -(((a.a:Rat)*x+(a.c:Rat))/(a.b:Rat))
def KV(l:List aa)(x:Rat):List Rat:=l.filterMap fun a=>if a.b=0 then none else some (yA a x)
def NF(l:List aa):List ab:=(ey (IH (Pw l))).flatMap fun x=>(ey (IH (KV l x))).map fun y=>⟨x,y⟩
def aIj(l:aa)(p:ab):aa:=if 0<l.value p then l else l.rev
def lg(out:List Rat)(s:ah):List Rat:=if s.nh then(if s.nl then out else mv s.lo out) else mv s.hi (if s.nl then out else mv s.lo out)
def gH(l:List ah):List Rat:=l.foldl lg []
def sE:List ah->Rat->Int
 |[],_=>0
 |s::t,x=>
  let a:=if s.nl then 1 else bm x s.lo
  let b:=if s.nh then-1 else bm x s.hi
  if 0<a/\b<0 then 2 else if(a=0/\b<=0)\/(b=0/\0<=a) then 1 else sE t x
def fD(l:List ah)(x:Rat):Bool:=decide (sE l x=2)
def dl(cuts:List Rat)(i:Nat):ah:=⟨if i=0 then 0 else cuts.getD (i-1) 0,if i<cuts.length then cuts.getD i 0 else 0,decide (i=0),decide (i=cuts.length)⟩
def uv(v w:ah):ah:=⟨v.lo,w.hi,v.nl,w.nh⟩
def fH(cuts:List Rat)(marks:List Bool):Nat->List ah
 |0=>[]
 |k+1=>
  let out:=fH cuts marks k
  if marks.getD k false then
   (if 0<k/\marks.getD (k-1) false=true then(match out.getLast? with
    |some v=>out.dropLast++[uv v (dl cuts k)]
    |none=>out++[dl cuts k]) else out++[dl cuts k])
  else out
def vy(cuts:List Rat)(marks:List Bool):List ah:=fH cuts marks marks.length
def nj(op:Int)(x y:Bool):Bool:=if op=2 then x&&y else if op=3 then x&&!y else if op=4 then x !=y else x||y
def ow(op:Int)(a b:List ah):List ah:=vy (gH (a++b)) ((ey (gH (a++b))).map fun t=>nj op (fD a t) (fD b t))
def iD(l m:aa)(side:Int):List ah:=
 if crossI l m=0 then(if(m.value l.base).num.sign=side then [ah.all] else [])
 else if(m.value (l.at (gw l (dH l m)+1))).num.sign=side then [⟨gw l (dH l m),0,false,true⟩] else [⟨0,gw l (dH l m),true,false⟩]
def lh(l m:aa):Bool:=decide (crossI l m=0/\(m.value l.base).num.sign=0)
def eh(f:bj)(m:aa)(side:Int):List bj:=if lh f.l m then [] else(ow 2 [f.v] (iD f.l m side)).map fun v=>⟨f.l,v⟩
def ES(l:List ah):(gH l).Pairwise (· < ·)/\ ∀y∈gH l,∃s∈l,(s.nl=false/\y=s.lo)\/(s.nh=false/\y=s.hi):=by
 have key: ∀(l:List ah) (o:List Rat),o.Pairwise (· < ·)->(l.foldl lg o).Pairwise (· < ·)/\ ∀y∈l.foldl lg o,y∈o\/ ∃s∈l,(s.nl=false/\y=s.lo)\/(s.nh=false/\y=s.hi):=by
  intro l
  induction l with
  |nil=>intro o h;exact⟨h,fun y hy=> .inl hy⟩
  |cons s t ih=>
   intro o h;have h1:(lg o s).Pairwise (· < ·)/\ ∀y∈lg o s,y∈o\/(s.nl=false/\y=s.lo)\/(s.nh=false/\y=s.hi):=by
    unfold lg
    cases e1:s.nl<;>cases e2:s.nh<;>simp only[if_true,iL,if_false]
    ·refine⟨yZ (yZ h),fun y hy=>?_⟩
     rcases qj.1 hy with h|h
     ·exact .inr (.inr ⟨trivial,h⟩)
     ·rcases qj.1 h with h|h
      ·exact .inr (.inl ⟨trivial,h⟩)
      ·exact .inl h
    ·refine⟨yZ h,fun y hy=>?_⟩
     rcases qj.1 hy with h|h
     ·exact .inr (.inl ⟨trivial,h⟩)
     ·exact .inl h
    ·refine⟨yZ h,fun y hy=>?_⟩
     rcases qj.1 hy with h|h
     ·exact .inr (.inr ⟨trivial,h⟩)
     ·exact .inl h
    ·exact⟨h,fun y hy=> .inl hy⟩
   obtain⟨k1,k2⟩:=ih (lg o s) h1.1;refine⟨k1,fun y hy=>?_⟩;rcases k2 y hy with h2|⟨q,hq,h2⟩
   ·rcases h1.2 y h2 with h3|h3
    ·exact .inl h3
    ·exact .inr ⟨s,aQ,h3⟩
   ·exact .inr ⟨q,aJ _ hq,h2⟩
 have:=key l [] List.Pairwise.nil;refine⟨this.1,fun y hy=>?_⟩;rcases this.2 y hy with h|h
 ·cases h
 ·exact h
structure HY (cuts:List Rat) (v:ah):Prop where
 z:gE v
 lo:v.nl=true\/v.lo∈cuts
 hi:v.nh=true\/v.hi∈cuts
def WX{cuts:List Rat}{i:Nat}(h:i<=cuts.length):HY cuts (dl cuts i):=by
 unfold dl;refine⟨⟨fun e=>?_,fun e=>?_⟩,?_,?_⟩
 ·simp only[decide_eq_true_eq] at e;simp[e]
 ·simp only[decide_eq_true_eq] at e;simp[e]
 ·by_cases h0:i=0
  ·left;simp[h0]
  ·right
   simp only[if_neg h0];rw[aX,aZ (by omega)];exact cJ _
 ·by_cases h0:i=cuts.length
  ·left;simp[h0]
  ·right
   simp only[if_pos (show i<cuts.length by omega)];rw[aX,aZ (by omega)];exact cJ _
def OZ{cuts:List Rat}{marks:List Bool}: ∀{k:Nat},k<=cuts.length+1-> ∀v∈fH cuts marks k,HY cuts v
 |0,_,v,hv=>by cases hv
 |k+1,hk,v,hv=>by
  have ih:=OZ (cuts:=cuts) (marks:=marks) (k:=k) (by omega);have hg:=WX (cuts:=cuts) (i:=k) (by omega);rw[fH] at hv;split at hv
  ·split at hv
   ·split at hv
    ·rename_i w hw
     rcases bW.1 hv with h|h
     ·exact ih v ((sQ _).subset h)
     ·rw[aW] at h;subst h
      have hw':=ih w (nT hw);exact⟨⟨hw'.z.1,hg.z.2⟩,hw'.lo,hg.hi⟩
    ·rcases bW.1 hv with h|h
     ·exact ih v h
     ·rw[aW] at h;subst h;exact hg
   ·rcases bW.1 hv with h|h
    ·exact ih v h
    ·rw[aW] at h;subst h;exact hg
  ·exact ih v hv
def zI{l:List Rat}:(ey l).length=l.length+1:=by
 have key: ∀(l:List Rat) (a:Rat),(iI (a::l)).length=l.length:=by
  intro l
  induction l with
  |nil=>intro a;rfl
  |cons b t ih=>intro a;rw[iI,bZ,ih b,bZ]
 cases l with
 |nil=>rfl
 |cons a t=>rw[ey,bZ,aV,key];simp
def W3{op:Int}{a b:List ah}: ∀v∈ow op a b,HY (gH (a++b)) v:=fun v hv=>by
 unfold ow vy at hv;refine OZ ?_ v hv;rw[aK,zI];omega
def FY{cuts:List Rat}{marks:List Bool}: ∀{k:Nat},(fH cuts marks k).length<=k
 |0=>aN _
 |k+1=>by
  have ih:=FY (cuts:=cuts) (marks:=marks) (k:=k);rw[fH];split
  ·split
   ·split
    ·rename_i w hw
     have:=List.length_pos_of_mem (nT hw);rw[aV,iK];simp;omega
    ·rw[aV];simp;omega
   ·rw[aV];simp;omega
  ·omega
structure nI (f:bj):Prop where
 lb:LB f.l
 ok:f.l.ok
 z:gE f.v
 lo:BQ f.v.lo 1200
 hi:BQ f.v.hi 1200
theorem BQ.zero1200:BQ (0:Rat) 1200:=BQ.mono (k:=1) ⟨by decide,by decide⟩ (by decide)
def Hq{l m:aa}(hl:LB l)(hm:LB m)(hlo:l.ok){side:Int}: ∀v∈iD l m side,gE v/\BQ v.lo 1200/\BQ v.hi 1200:=fun v hv=>by
 unfold iD at hv;split at hv
 ·split at hv
  ·rw[aW] at hv;subst hv;exact⟨gE.all,BQ.zero1200,BQ.zero1200⟩
  ·cases hv
 ·rename_i hc
  have:=Dr hlo.ne hc;split at hv
  ·rw[aW] at hv;subst hv;exact⟨⟨fun h=>(by cases h),fun _=>J⟩,this,BQ.zero1200⟩
  ·rw[aW] at hv;subst hv;exact⟨⟨fun _=>J,fun h=>(by cases h)⟩,BQ.zero1200,this⟩
def BW{f:bj}{m:aa}(h:nI f)(hm:LB m){side:Int}: ∀g∈eh f m side,nI g/\g.l=f.l/\lh f.l m=false:=fun g hg=>by
 unfold eh at hg;split at hg
 ·cases hg
 ·rename_i ho
  obtain⟨v,hv,rfl⟩:=bV.1 hg;have hi:=W3 v hv;have bd: ∀y∈gH ([f.v]++iD f.l m side),BQ y 1200:=fun y hy=>by
   obtain⟨s,hs,h1⟩:=(ES _).2 y hy;rcases bW.1 hs with hs|hs
   ·rw[aW] at hs;subst hs
    rcases h1 with⟨_,rfl⟩|⟨_,rfl⟩
    ·exact h.lo
    ·exact h.hi
   ·have:=Hq h.lb hm h.ok s hs
    rcases h1 with⟨_,rfl⟩|⟨_,rfl⟩
    ·exact this.2.1
    ·exact this.2.2
  refine⟨⟨h.lb,h.ok,hi.z,?_,?_⟩,J,by simpa using ho⟩
  ·rcases hi.lo with e|e
   ·rw[hi.z.1 e];exact BQ.zero1200
   ·exact bd _ e
  ·rcases hi.hi with e|e
   ·rw[hi.z.2 e];exact BQ.zero1200
   ·exact bd _ e
def i7(acc:ab->Bool):Nat->List bj->List aa->Tr
 |_,[],c=> .leaf (acc (iG c c))
 |0,_::_,_=> .leaf false
 |n+1,f::t,c=> .node f.l (i7 acc n ((f::t).flatMap fun g=>eh g f.l 1) (c++[f.l])) (i7 acc n ((f::t).flatMap fun g=>eh g f.l (-1)) (c++[f.l.rev]))
def Vt{f g:bj}{m:aa}{side:Int}(h:g∈eh f m side):g.l=f.l:=by
 unfold eh at h;split at h
 ·cases h
 ·obtain⟨v,_,rfl⟩:=bV.1 h;rfl
def wD{acc:ab->Bool}{P:aa->Prop}: ∀{n:Nat} {l:List bj} {c:List aa},(∀f∈l,P f.l)->(i7 acc n l c).all P
 |n,[],c,_=>by unfold i7;trivial
 |0,_::_,_,_=>by unfold i7;trivial
 |n+1,f::t,c,h=>by
  rw[i7];refine⟨h f aQ,wD fun g hg=>?_,wD fun g hg=>?_⟩<;>
  ·obtain⟨q,hq,hg⟩:=gX.1 hg
   rw[Vt hg];exact h q hq
def I0{acc:ab->Bool}: ∀{n:Nat} {l:List bj} {c:List aa},(i7 acc n l c).depth<=n
 |n,[],c=>by unfold i7;exact bJ _
 |0,_::_,_=>by unfold i7;exact bJ _
 |n+1,f::t,c=>by
  rw[i7,Tr.depth];have h1:=I0 (acc:=acc) (n:=n) (l:=(f::t).flatMap fun g=>eh g f.l 1) (c:=c++[f.l]);have h2:=I0 (acc:=acc) (n:=n) (l:=(f::t).flatMap fun g=>eh g f.l (-1)) (c:=c++[f.l.rev]);omega
def sv(n:Nat)(l:List bj):Prop:= ∃K:List aa,K.length<=n/\ ∀f∈l,∃m∈K,m.same f.l
def aok{m:aa}(hm:m.Ne):m.value m.base=0:=by
 have h:=me hm 0;rw[<-tj,jl] at h;grind
def ayQ{l m:aa}(h:l.same m)(hm:m.Ne):lh m l=true:=by
 unfold lh;rw[decide_eq_true_iff];refine⟨?_,?_⟩
 ·rcases h with rfl|rfl
  ·unfold crossI;omega
  ·unfold crossI aa.rev
   show(-l.a)*l.b-l.a*(-l.b)=0;grind
 ·rw[n8]
  exact DU h.symm (aok hm)
def sv.split{n:Nat}{f:bj}{t:List bj}(h:sv (n+1) (f::t))(hok: ∀g∈f::t,nI g){side:Int}:sv n ((f::t).flatMap fun g=>eh g f.l side):=by
 obtain⟨K,hK,hs⟩:=h;refine⟨K.filter fun m=>!decide (m.same f.l),?_,fun g hg=>?_⟩
 ·obtain⟨m,hm,hm2⟩:=hs f aQ
  have:(K.filter fun m=>!decide (m.same f.l)).length<K.length:=by
   refine pU.2 ⟨m,hm,by simp[hm2]⟩
  omega
 ·obtain⟨q,hq,hg⟩:=gX.1 hg
  obtain⟨_,e,ho⟩:=BW (hok q hq) (hok f aQ).lb g hg;obtain⟨m,hm,hm2⟩:=hs q hq;refine⟨m,qM.2 ⟨hm,?_⟩,by rw[e];exact hm2⟩;simp only[gL,decide_eq_false_iff_not];intro h;have:=ayQ (h.symm.trans hm2) (hok q hq).ok.ne;rw[this] at ho;cases ho
end Go.Sx
end
