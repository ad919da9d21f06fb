/- Part 14 of a proof. -/
import Derived.Test.YtopfgminkdfpkaaGreatDoorMx13
import Derived.WalkKit
import Derived.LaidEql
import Derived.Stop.Asserts
import Derived.RowKitTokens
set_option linter.unusedSimpArgs false
set_option maxHeartbeats 2000000
set_option maxRecDepth 100000
set_option linter.unusedVariables false
section
namespace Go.Sx
open Go Go.Proofs Tryz
variable {GB:Gh}
theorem asl{G:Gh}{l:LnQ}{x y:Tr}{m:List Value}(h:IsLs G (cU (.node l x y)) m): ∃n1 d1 p1 n2 d2 p2 n3 d3 p3 q r,m=[.int .i64 n1, .int .i64 d1, .pointer p1, .int .i64 n2, .int .i64 d2, .pointer p2, .int .i64 n3, .int .i64 d3, .pointer p3, .pointer q, .pointer r, .bool false]∧
  Is G (eLn l) (.agg ⟨[.int .i64 n1, .int .i64 d1, .pointer p1, .int .i64 n2, .int .i64 d2, .pointer p2, .int .i64 n3, .int .i64 d3, .pointer p3]⟩)∧Is G (eU x) (.pointer q)∧Is G (eU y) (.pointer r):=by
 obtain⟨v1,m,rfl,h1,h⟩:=aab.1 h
 obtain⟨v2,m,rfl,h2,h⟩:=aab.1 h
 obtain⟨v3,m,rfl,h3,h⟩:=aab.1 h
 obtain⟨v4,m,rfl,h4,h⟩:=aab.1 h
 obtain⟨v5,m,rfl,h5,h⟩:=aab.1 h
 obtain⟨v6,m,rfl,h6,h⟩:=aab.1 h
 obtain⟨v7,m,rfl,h7,h⟩:=aab.1 h
 obtain⟨v8,m,rfl,h8,h⟩:=aab.1 h
 obtain⟨v9,m,rfl,h9,h⟩:=aab.1 h
 obtain⟨va,m,rfl,ha,h⟩:=aab.1 h
 obtain⟨vb,m,rfl,hb,h⟩:=aab.1 h
 obtain⟨vc,m,rfl,hc,h⟩:=aab.1 h
 rw[aaH] at h;subst h
 obtain⟨_,rfl⟩:=akq h3
 obtain⟨_,rfl⟩:=akq h6
 obtain⟨_,rfl⟩:=akq h9
 obtain⟨_,rfl⟩:=afi ha
 obtain⟨_,rfl⟩:=afi hb
 cases aaP.1 h1;cases aaP.1 h2;cases aaP.1 h4;cases aaP.1 h5;cases aaP.1 h7;cases aaP.1 h8;cases aaP.1 hc
 exact⟨_,_,_,_,_,_,_,_,_,_,_,rfl,abD.2 ⟨_,rfl, .cons h1 (.cons h2 (.cons h3 (.cons h4 (.cons h5 (.cons h6 (.cons h7 (.cons h8 (.cons h9 .nil))))))))⟩,ha,hb⟩
theorem azY{G:Gh}{b:Bool}{m:List Value}(h:IsLs G (cU (.leaf b)) m):m=[.int .i64 0, .int .i64 0, .pointer none, .int .i64 0, .int .i64 0, .pointer none, .int .i64 0, .int .i64 0, .pointer none, .pointer none, .pointer none, .bool b]:=by
 obtain⟨v1,m,rfl,h1,h⟩:=aab.1 h
 obtain⟨v2,m,rfl,h2,h⟩:=aab.1 h
 obtain⟨v3,m,rfl,h3,h⟩:=aab.1 h
 obtain⟨v4,m,rfl,h4,h⟩:=aab.1 h
 obtain⟨v5,m,rfl,h5,h⟩:=aab.1 h
 obtain⟨v6,m,rfl,h6,h⟩:=aab.1 h
 obtain⟨v7,m,rfl,h7,h⟩:=aab.1 h
 obtain⟨v8,m,rfl,h8,h⟩:=aab.1 h
 obtain⟨v9,m,rfl,h9,h⟩:=aab.1 h
 obtain⟨va,m,rfl,ha,h⟩:=aab.1 h
 obtain⟨vb,m,rfl,hb,h⟩:=aab.1 h
 obtain⟨vc,m,rfl,hc,h⟩:=aab.1 h
 rw[aaH] at h;subst h
 cases aaP.1 h1;cases aaP.1 h2;cases aaP.1 h3;cases aaP.1 h4;cases aaP.1 h5;cases aaP.1 h6;cases aaP.1 h7;cases aaP.1 h8;cases aaP.1 h9;cases aaP.1 ha;cases aaP.1 hb;cases aaP.1 hc
 rfl
theorem aom: ∀{t:Tr} {A A2 G:Gh} {p:Option Addr} {ob wb:Nat} {lo lo2:Bool} {x:SV} {zs:List ND} {ns:List NQ} {B:List Own},Is A (eU t) (.pointer p)→t.all LB→[GL A G]→[GL A2 G]→Buf 8 135 x (zs.map ND.val) B→agq (au3 96 A2) zs ns→zs.length+t.size≤1000000→
  FnO prog 140 [.pointer p, .pointer (some ⟨ob,0,none⟩), .pointer (some ⟨wb,0,none⟩)] (⟨ob,[.int .i64 0, .slice x.a x.n x.c],42,lo⟩::⟨wb,[aet ob wb],218,lo2⟩::B) G
   (fun v own' G'=> ∃x' zs' B',v= .int .i64 (t.num zs.length)∧own'=⟨ob,[.int .i64 0, .slice x'.a x'.n x'.c],42,false⟩::⟨wb,[aet ob wb],218,false⟩::B'∧Buf 8 135 x' (zs'.map ND.val) B'∧agq (au3 96 G') zs' (ns++t.wr zs.length))
 | .leaf bb,A,A2,G,p,ob,wb,lo,lo2,x,zs,ns,B,h,_,_,_,hB,hz,hle=>by
  obtain⟨n,m,e,hg,hm⟩:=ah7.1 (id h)
  cases e
  cases azY hm
  have hG:av8 A n _:=⟨hg⟩
  have hz':agq (au3 96 G) zs (ns++[]):=by rw[gL];exact hz.imp fun _ _ h=>h.up
  refine FnO.intro func140 J J ntmps140 rfl ?_
  intro C _ _
  show St C _ _ (⟨ob,[.int .i64 0, .slice x.a x.n x.c],42,false⟩::⟨wb,[aet ob wb],218,false⟩::asB B) _ _
  refine sR<|sa J J<|zE<|aaj<|sR<|sm J J<|?_
  refine sc (zC J J (PF.fn0 abP (.cons (h.up GL.le) .nil)) rfl ?_)
  rintro _ G1 _ hv
  cases aaP.1 hv
  refine zE<|ab1 rfl<|?_
  refine aaj<|sR<|sm J J<|sn J J<|sf J J<|aGr J J J<|zE<|?_
  cases bb
  case true=>
   refine ab1 rfl<|sR<|sa J J<|zE<|aaJ<|?_
   exact aeH (.tmp rfl .nil) _ _ (List.Perm.refl _) (List.Sublist.refl _) ⟨x,zs,_,rfl,rfl,hB.asB,hz'.imp fun _ _ h=>h.up⟩
  refine adx rfl<|zK<|sR<|sa J J<|zE<|aaJ<|?_
  exact aeH (.tmp rfl .nil) _ _ (List.Perm.refl _) (List.Sublist.refl _) ⟨x,zs,_,rfl,rfl,hB.asB,hz'.imp fun _ _ h=>h.up⟩
 | .node l s u,A,A2,G,p,ob,wb,lo,lo2,x,zs,ns,B,h,hall,_,_,hB,hz,hle=>by
  obtain⟨hlb,hall1,hall2⟩:=id hall
  haveI:LB l:=hlb
  obtain⟨n,m,e,hg,hm⟩:=ah7.1 (id h)
  cases e
  obtain⟨n1,d1,p1,n2,d2,p2,n3,d3,p3,q,r,rfl,hzl,hs,hu⟩:=asl hm
  have hG:av8 A n _:=⟨hg⟩
  have hxn:=hB.len
  have hzn:=hz.len
  simp only[Tr.size] at hle
  obtain⟨xa,xn,xc⟩:=x
  rw[aJ] at hxn
  simp only[] at hxn
  subst hxn
  refine FnO.intro func140 J J ntmps140 rfl ?_
  intro C _ _
  show St C _ _ (⟨ob,[.int .i64 0, .slice xa zs.length xc],42,false⟩::⟨wb,[aet ob wb],218,false⟩::asB B) _ _
  replace hB:=hB.asB
  generalize asB B=B at hB
  refine sR<|sa J J<|zE<|aaj<|sR<|sm J J<|?_
  refine sc (zC J J (PF.fn0 abG (.cons (h.up GL.le) .nil)) rfl ?_)
  rintro _ G1 _ hv
  cases aaP.1 hv
  refine zE<|adx rfl<|?_
  refine zK<|sR<|sf J J<|aq8 J J J<|ac6 J J<|sa J J<|zE<|aaj<|?_
  refine drS [⟨ob,[.int .i64 0, .slice xa zs.length xc],42,false⟩] (fun i=>Nat.beq i 11) [(0,true),(1,true),(2,true),(3,true),(4,true),(5,true),(6,false),(7,true),(8,false),(9,false),(10,true),(11,false)] follows (by kernel_rfl)<|?_
  refine dF J J J<|dL1 J J J J<|dM J J J<|dy rfl (fun _=>aaI rfl) J J<|?_
  refine dF J J J<|dy rfl (fun _=>ahn rfl ghi rfl) J J<|?_
  refine dc J J (zC J J (PF.fn0 (aBE (l:=l)) (.cons (hzl.up GL.le) .nil)) rfl ?_)
  rintro _ G2 _ hv
  obtain⟨ia,ib,ic,rfl,hia,hib,hic⟩:=aDm hlb.bl hv
  refine an5<|dy rfl (fun _=>aiy rfl) J J<|?_
  refine dc J J (anT rfl (by rfl) (by rfl) (by decide) (by decide) rfl ?_)
  intro b3
  refine an5<|?_
  refine dc J J (al7 (v:=ND.val ⟨ia,ib,ic,0,0⟩) (vs:=zs.map ND.val) [_,_,_] rfl hB J J (agm inferInstance rfl) rfl (ND.flat [⟨ia,ib,ic,0,0⟩] _ aQ) (by decide) (by rw[aJ];omega) J J ?_)
  intro x1 B1 hB1
  rw[show zs.map ND.val++[ND.val ⟨ia,ib,ic,0,0⟩]=(zs++[(⟨ia,ib,ic,0,0⟩:ND)]).map ND.val by simp] at hB1
  show St C _ _ (⟨b3,_,_,true⟩::⟨ob,[.int .i64 0, .slice xa zs.length xc],42,false⟩::⟨wb,[aet ob wb],218,false⟩::B1) _ _
  refine an5<|dF J J J<|?_
  refine dc J J (abI (cs':=[.int .i64 0, .slice x1.a x1.n x1.c]) J J J (.tl _ _ _ _ _ _ _ _ (.hd ..)) (nb rfl) J J ?_)
  refine aGG rfl<|dn<|?_
  refine aoa _ (lV _ _) ?_
  have hz1:agq (au3 96 G2) (zs++[(⟨ia,ib,ic,0,0⟩:ND)]) (ns++[⟨l,0,0⟩]):=(hz.imp fun _ _ h=>h.up).app (.cons ⟨hia,hib,hic,rfl,rfl⟩ .nil)
  refine aaj<|drS [⟨wb,[aet ob wb],218,false⟩] (fun _=>false) [(0,true),(1,true),(2,true),(3,true),(4,true),(5,false),(6,true)] follows (by kernel_rfl)<|?_
  refine dL1 J J J J<|dM J J J<|dy rfl (fun _=>aaI rfl) J J<|dF J J J<|dy rfl (fun _=>ab6 rfl ghi rfl) J J<|?_
  refine dc J J (aei (c1:=[]) (M:=_::_::B1) (rest:=[]) J J (by rw[gL]) (aom (lo:=false) (lo2:=false) hs hall1 hB1 hz1 (by simp;omega)) rfl ?_)
  rintro _ _ G3 fl _ hf _ ⟨x2,zs2,B2,rfl,rfl,hB2,hz2⟩
  have e1:fl ob=false:=hf _ aQ rfl
  have e2:fl wb=false:=hf _ (aX _ aQ) rfl
  replace hB2:=hB2.relo fl
  refine aor (own':=⟨ob,[.int .i64 0, .slice x2.a x2.n x2.c],42,false⟩::⟨wb,[aet ob wb],218,false⟩::B2.map (relo fl)) (by simp only[bY,relo,e1,e2,gL]) ?_
  generalize B2.map (relo fl)=B2 at hB2
  have hl2:=hz2.len
  simp only[aV,Tr.wr_len,dS] at hl2
  refine an5<|dA J J J<|dn<|aaj<|drS [⟨wb,[aet ob wb],218,false⟩] (fun _=>false) [(0,true),(1,true),(2,true),(3,true),(4,true),(5,false),(6,true)] follows (by kernel_rfl)<|?_
  refine dL1 J J J J<|dM J J J<|dy rfl (fun _=>aaI rfl) J J<|dF J J J<|dy rfl (fun _=>ab6 rfl ghi rfl) J J<|?_
  refine dc J J (aei (c1:=[]) (M:=_::_::B2) (rest:=[]) J J (by rw[gL]) (aom (lo:=false) (lo2:=false) hu hall2 hB2 hz2 (by omega)) rfl ?_)
  rintro _ _ G4 fl _ hf _ ⟨x3,zs3,B3,rfl,rfl,hB3,hz3⟩
  have e3:fl ob=false:=hf _ aQ rfl
  have e4:fl wb=false:=hf _ (aX _ aQ) rfl
  replace hB3:=hB3.relo fl
  refine aor (own':=⟨ob,[.int .i64 0, .slice x3.a x3.n x3.c],42,false⟩::⟨wb,[aet ob wb],218,false⟩::B3.map (relo fl)) (by simp only[bY,relo,e3,e4,gL]) ?_
  generalize B3.map (relo fl)=B3 at hB3
  have hl3:=hz3.len
  simp only[aV,Tr.wr_len,dS] at hl3
  have hn3:zs.length<zs3.length:=by omega
  rcases hB3 with⟨h1,_,_⟩|⟨nb,rest,lo3,hx3,rfl,hf1,hf2,hf3⟩
  ·have:=congrArg List.length h1;rw[aJ,dV] at this;omega
  obtain⟨x3a,x3n,x3c⟩:=x3
  simp only[SV.mk.injEq] at hx3
  obtain⟨rfl,rfl,_⟩:=hx3
  rw[aJ] at hf3
  have hzz:ns.length=zs.length:=hzn.symm
  obtain⟨zn,hzn1,hzn2⟩:=hz3.get (i:=zs.length) (b:=⟨l,0,0⟩) (by rw[cR,cR,←hzz,fV (bZ _),oS];rfl)
  obtain⟨_,hzn3⟩:=aN.1 hzn1
  have hL1:(zs++[(⟨ia,ib,ic,0,0⟩:ND)]).length=zs.length+1:=by simp
  have hL2:zs2.length=zs.length+1+s.size:=by omega
  rw[hL1] at hz3
  rw[hL1,hL2]
  rw[hL2] at hz3
  refine an5<|dA J J J<|dn<|?_
  refine aaj<|drS [⟨ob,[.int .i64 0, .slice (some ⟨nb,0,none⟩) (zs3.map ND.val).length x3c],42,false⟩] (fun _=>false) [(0,true),(1,true),(2,true),(3,true),(4,true),(5,true),(6,true),(7,true),(8,true),(9,true),(10,false),(11,true),(12,true),(13,false)] follows (by kernel_rfl)<|?_
  refine dF J J J<|dL1 J J J J<|dM J J J<|dF J J J<|?_
  refine dL1 J J J J<|dM J J J<|dM J J J<|dM J J J<|dy rfl (fun _=>aa7 J J (by omega) (by rw[aJ];omega)) J J<|?_
  refine dF J J J<|?_
  refine dc J J (acS J J (.tl _ _ _ _ _ _ _ _ (.tl _ _ _ _ _ _ _ _ (.hd ..))) (by rw[aV,hf1,aJ,aL];omega) J J ?_)
  rw[aL,anC zs3 rest zs.length 6 _ {zn with l:=s.num (zs.length+1)} hn3 (by decide) (by rw[hzn3];rfl)]
  refine an5<|dy rfl (fun _=>aa7 J J (by omega) (by rw[aJ];omega)) J J<|dF J J J<|?_
  refine dc J J (acS J J (.tl _ _ _ _ _ _ _ _ (.tl _ _ _ _ _ _ _ _ (.hd ..))) (by rw[aV,aao (s:=8) _ (ND.len8 _),aJ,aS,aL];omega) J J ?_)
  rw[aL,anC (zs3.set zs.length _) rest zs.length 7 _ {zn with l:=s.num (zs.length+1),r:=u.num (zs.length+1+s.size)} (by rw[aS];exact hn3) (by decide) (by rw[List.getElem_set_self];rfl)]
  refine an5<|dn<|sR<|sm J J<|sa J J<|zE<|aaJ<|?_
  have hfin:=hz3.set (a:={zn with l:=s.num (zs.length+1),r:=u.num (zs.length+1+s.size)}) (b:=⟨l,s.num (zs.length+1),u.num (zs.length+1+s.size)⟩) ⟨hzn2.a,hzn2.b,hzn2.c,rfl,rfl⟩ zs.length
  have hns:(ns++[(⟨l,0,0⟩:NQ)]++s.wr (zs.length+1)++u.wr (zs.length+1+s.size)).set zs.length ⟨l,s.num (zs.length+1),u.num (zs.length+1+s.size)⟩=ns++(Tr.node l s u).wr zs.length:=by
   rw[cR,cR,oZ _ _ (by omega),hzz,oS]
   simp[Tr.wr]
  rw[hns] at hfin
  refine aeH (.tmp rfl .nil) _ _ (List.Perm.refl _) (List.Sublist.refl _) ⟨⟨some ⟨nb,0,none⟩,(zs3.map ND.val).length,x3c⟩,_,_,rfl,rfl,?_,hfin⟩
  refine .inr ⟨nb,rest,lo3,by simp,by rw[List.set_set],?_,?_,?_⟩
  ·rw[aao (s:=8) _ (ND.len8 _)]
  ·rw[aao (s:=8) _ (ND.len8 _),aJ,aS];rw[hf1,aJ] at hf2;exact hf2
  ·rw[aJ,aS];exact hf3
theorem aDq{t:Tr}(hb:t.all LB)(hs:t.size≤1000000):PF GB prog 66 [eU t] (eA t):=by
 intro G vs _ hv
 obtain⟨v0,m,rfl,h,hm⟩:=aab.1 hv
 rw[aaH] at hm;subst hm
 obtain⟨p,rfl⟩:=afi h
 refine Fn.intro func66 J J ntmps66 rfl ?_
 intro C _ hC
 refine sR<|?_
 refine sc (adu rfl ?_)
 intro b1
 refine zE<|sR<|?_
 refine sc (adu rfl ?_)
 intro b2
 refine zE<|sR<|?_
 refine sc (adu rfl ?_)
 intro b3
 refine zE<|sR<|sy (ajC J J) rfl<|?_
 refine sc (abI (cs':=[aet b2 b3]) J J J (.hd ..) (nb rfl) J J ?_)
 refine zE<|sR<|aq8 J J J<|sm J J<|?_
 refine sc (aei (c1:=[]) (M:=[⟨b2,[.int .i64 0, .slice none 0 0],42,true⟩,⟨b3,[aet b2 b3],218,true⟩]) (rest:=[⟨b1,[.int .i64 0, .slice none 0 0],42,true⟩]) J J (List.Perm.swap ..) (aom (A:=G) (A2:=G) (x:=⟨none,0,0⟩) (zs:=[]) (ns:=[]) (B:=[]) h hb (Buf.nil ..) .nil (by simpa using hs)) rfl ?_)
 rintro _ _ G4 fl _ _ hf ⟨x,zs,B,rfl,rfl,hB,hz⟩
 have e1:=hf (by simp) b2
 have e2:=hf (by simp) b3
 replace hB:=hB.relo fl
 refine aor (own':=⟨b2,[.int .i64 0, .slice x.a x.n x.c],42,true⟩::⟨b3,[aet b2 b3],218,true⟩::(B.map (relo fl)++[⟨b1,[.int .i64 0, .slice none 0 0],42,true⟩])) (by simp only[bY,relo,e1,e2,gS]) ?_
 generalize B.map (relo fl)=B at hB
 refine aiB (⟨b2,[.int .i64 0, .slice x.a x.n x.c],42,true⟩::⟨b3,[aet b2 b3],218,true⟩::⟨b1,[.int .i64 0, .slice none 0 0],42,true⟩::B) ((iN (l₁:=B) (l₂:=[_])).cons _ |>.cons _) ?_
 refine sf J J<|?_
 refine sc (abI (cs':=[.int .i64 (t.num 0), .slice x.a x.n x.c]) J J J (.hd ..) (nb rfl) J J ?_)
 refine zE<|sR<|slo J J J<|?_
 refine sc (afx (cs':=[.int .i64 (t.num 0), .slice x.a x.n x.c]) J J J (.tl _ _ _ _ _ _ _ _ (.tl _ _ _ _ _ _ _ _ (.hd ..))) rfl (nb rfl) J J ?_)
 refine zE<|?_
 refine amu (L:=[_,_,_]) hC hB (ND.len8 _) ?_
 intro G5 _ hsl
 show St C _ _ [⟨b2,_,_,true⟩,⟨b3,_,_,true⟩,⟨b1,[.int .i64 (t.num 0), .slice x.a x.n x.c],42,true⟩] _ _
 refine aaJ<|?_
 exact zD (.agg rfl ii ii rfl .nil) (aB0 (k:=96) ⟨zs,hsl,by rw[iS] at hz;exact hz.imp fun _ _ h=>h.up⟩)
def Tr.pre:Tr→List Tr
 | .leaf b=>[.leaf b]
 | .node l x y=> .node l x y::(x.pre++y.pre)
structure Vis (f:FuncId) (c2:List Value) (σ:Type) (step:σ→Tr→σ) (ok:σ→Tr→Prop) (Inv:σ→List Own→Gh→Prop):Prop where
 up: ∀{s B G G'},GLe G G'→Inv s B G→Inv s B G'
 re: ∀{s B G} (fl:Nat→Bool),Inv s B G→Inv s (B.map (relo fl)) G
 go: ∀{s t p B G},ok s t→Inv s B G→Is G (eU t) (.pointer p)→FnO prog f (.pointer p::c2) B G (fun _ B' G'=>Inv (step s t) B' G')
section
variable {P:Program} {C:Ctx} {n:Nat} {fr:Fr} {own:List Own} {G:Gh}
theorem ajW{fn:Func}{K:Value→List Own→Gh→Prop}{vs:List Value}(hr:RVs P fr own fn.results.toList vs)(own2 own3:List Own)(hp:own.Perm own2)(hs:own3.Sublist own2)(hk:K (abO vs) own3 G):St C n fr own G (bodyPost P fn (af2 C K) .normal):=
 fun a w rl=>⟨rl.df,_,ac3 hr rl.fr rl.h,_,own3,G,rfl,(rl.h.perm hp).drop hs,hk⟩
end
def aiG{σ:Type}(step:σ→Tr→σ)(ok:σ→Tr→Prop):σ→List Tr→Prop
 |_,[]=>True
 |s,t::ts=>ok s t∧aiG step ok (step s t) ts
structure EX (σ:Type) where
 ts:List Tr
 vs:List Value
 rest:List Value
 b:Nat
 cap:Nat
 lo:Bool
 s:σ
 B:List Own
def tsz(t:Tr):Nat:=2*t.size+1
theorem aAO(ts:List Tr):ts.length≤(ts.map tsz).sum:=by
 induction ts with
 |nil=>exact bZ _
 |cons t ts ih=>simp only[bJ,bY,rK,tsz];omega
def stk(ts:List Tr):List Tr:=ts.reverse.flatMap Tr.pre
structure EI (A:Gh) {σ:Type} (step:σ→Tr→σ) (ok:σ→Tr→Prop) (Inv:σ→List Own→Gh→Prop) (N:Nat) (fin:σ) (x:EX σ) (G:Gh):Prop where
 rel:agq (fun v t=> ∃p,v= .pointer p∧Is A (eU t) (.pointer p)) x.vs x.ts
 cap:x.vs.length+x.rest.length=x.cap
 inv:Inv x.s x.B G
 mu:(x.ts.map tsz).sum≤N
 okf:aiG step ok x.s (stk x.ts)
 fin:(stk x.ts).foldl step x.s=fin
theorem agn{α β:Type}{R:α→β→Prop}{v:α}{t:β}: ∀{vs:List α} {ts:List β},agq R (vs++[v]) (ts++[t])→agq R vs ts∧R v t
 |[],[], .cons h .nil=>⟨.nil,h⟩
 |[],_::b, .cons _ h=>by cases b<;>cases h
 |_::a,[], .cons _ h=>by cases a<;>cases h
 |_::_,_::_, .cons h k=>⟨.cons h (agn k).1,(agn k).2⟩
theorem aBI{f:FuncId}{c2:List Value}{σ:Type}{step:σ→Tr→σ}{ok:σ→Tr→Prop}{Inv:σ→List Own→Gh→Prop}(V:Vis f c2 σ step ok Inv){t:Tr}{p:Option Addr}{s:σ}{B:List Own}{G:Gh}
  (h:Is G (eU t) (.pointer p))(hI:Inv s B G)(hok:aiG step ok s t.pre)(hs:t.size≤1000000000000):
  FnO prog 240 [.pointer p, .func (.func f) #[] ⟨c2⟩] B G (fun _ B' G'=>Inv (t.pre.foldl step s) B' G'):=by
 refine FnO.intro func240 J J ntmps240 rfl ?_
 intro C _ _
 refine sR<|sm J J<|?_
 refine sc (anT rfl (by rfl) (by rfl) (by decide) (by decide) rfl ?_)
 intro b1
 refine sa J J<|zE<|aaq<|?_
 refine aca (X:=EX σ) (fun x=>[(4, .slice (some ⟨x.b,0,none⟩) x.vs.length x.cap),(1, .func (.func f) #[] ⟨c2⟩)]) (fun x=>⟨x.b,x.vs++x.rest,95,x.lo⟩::x.B) (EI G step ok Inv (tsz t) (t.pre.foldl step s)) (fun x=>(x.ts.map tsz).sum)
  ⟨[t],[.pointer p],[],b1,1,true,s,asB B⟩ ⟨.cons ⟨p,rfl,h⟩ .nil,rfl,V.re (fun _=>false) hI,by simp,by simpa[stk] using hok,by simp[stk]⟩ (.cons rfl (.cons rfl .nil)) rfl ?_
 rintro ⟨ts,vs,rest,b,cap,lo,s1,B1⟩ Gx _ ⟨hrel,hcap,hinv,hmu,hokf,hfin⟩
 simp only at hrel hcap hinv hmu hokf hfin
 have hln:=hrel.len
 have hlt:=aAO ts
 unfold tsz at hmu hlt
 refine aaj<|sR<|sm J J<|ac6 J J<|sy (aga J J) rfl<|zE<|?_
 refine abr rfl (fun hc=>?_) (fun hc=>?_)
 ·refine abw<|abN<|abN<|aar<|?_
  refine ajW .nil _ _ (List.Perm.refl _) (lV _ _) ?_
  obtain rfl:ts=[]:=by
   cases ts with
   |nil=>rfl
   |cons a l=>simp only[bJ] at hln;exfalso;apply hc;show(0:Int)<(vs.length:Int);omega
  have:s1=t.pre.foldl step s:=hfin
  rw[←this]
  exact hinv
 refine zK<|?_
 obtain⟨vs,v,rfl⟩: ∃vs' v',vs=vs'++[v']:=by
  rcases mJ vs with e|⟨a,b,e⟩
  ·subst e;simp at hc
  ·exact⟨a,b,by rw[e,mK]⟩
 obtain⟨ts,u,rfl⟩: ∃vs' v',ts=vs'++[v']:=by
  rcases mJ ts with e|⟨a,b,e⟩
  ·subst e;simp at hln
  ·exact⟨a,b,by rw[e,mK]⟩
 obtain⟨hrel1,q,rfl,hq⟩:=agn hrel
 have hl1:(vs++[Value.pointer q]).length=vs.length+1:=by simp
 have hst:stk (ts++[u])=u.pre++stk ts:=by simp[stk]
 rw[hst] at hokf hfin
 simp only[bK,rR,bY,gW,rK,List.sum_nil,dY,aV,dS] at hmu hlt hln hcap
 refine au9 [(4,Value.slice (some ⟨b,0,none⟩) (vs.length+1:Nat) cap),(1, .func (.func f) #[] ⟨c2⟩)] (.cons (by show some (Value.slice _ (vs++[Value.pointer q]).length _)=_;rw[hl1]) (.cons rfl .nil)) ?_
 refine aaq<|sR<|sm J J<|ac6 J J<|sy (aa4 J J) rfl<|sa J J<|zE<|sR<|sm J J<|?_
 rw[show((vs.length+1:Nat):Int)-1=(vs.length:Nat) by omega]
 refine sm J J<|sy (aa7 J J (by omega) (by omega)) rfl<|?_
 refine sy (aaG (v:=Value.pointer q) rfl (by rw[aL,gT,cR,fV (bZ _),oS];rfl)) rfl<|sa J J<|zE<|sR<|sm J J<|sm J J<|sy (acw J J (by omega) (by omega)) rfl<|?_
 rw[aL]
 refine sa J J<|zE<|sR<|sm J J<|sm J J<|?_
 have hokq:ok s1 u∧aiG step ok (step s1 u) (u.pre.tail++stk ts):=by cases u<;>exact hokf
 refine sc (aei (c1:=[]) (M:=B1) (rest:=[⟨b,vs++[Value.pointer q]++rest,95,lo⟩]) J J (iN (l₁:=[_])) (V.go hokq.1 hinv (hq.up GL.le)) rfl ?_)
 rintro _ B2 G2 fl _ _ _ hinv2
 replace hinv2:=V.re fl hinv2
 refine aiB (⟨b,vs++Value.pointer q::rest,95,lo⟩::B2.map (relo fl)) (by rw[cR];exact(iN (l₂:=[_]))) ?_
 generalize B2.map (relo fl)=B2 at*
 refine zE<|sR<|sm J J<|?_
 cases u with
 |leaf bb=>
  refine sc (zC J J (PF.fn0 abP (.cons (hq.up GL.le) .nil)) rfl ?_)
  rintro _ G3 _ hv
  cases aaP.1 hv
  refine sy (ahO rfl) rfl<|zE<|adx rfl<|zK<|?_
  exact aaW ⟨ts,vs,Value.pointer q::rest,b,cap,lo,step s1 (.leaf bb),B2⟩ ⟨hrel1,by simp only[bJ];omega,V.up GL.le hinv2,by simp only;unfold tsz;omega,hokq.2,hfin⟩ (by simp only[bK,rR,bY,gW,rK,List.sum_nil];unfold tsz;omega) (.cons rfl (.cons rfl .nil)) rfl
 |node l x y=>
  obtain⟨nbk,m,e,hg,hm⟩:=ah7.1 (id hq)
  cases e
  obtain⟨n1,d1,p1,n2,d2,p2,n3,d3,p3,q1,q2,rfl,_,hx,hy⟩:=asl hm
  have hgg:av8 G nbk _:=⟨hg⟩
  refine sc (zC J J (PF.fn0 abG (.cons (hq.up GL.le) .nil)) rfl ?_)
  rintro _ G3 _ hv
  cases aaP.1 hv
  refine sy (ahO rfl) rfl<|zE<|ab1 rfl<|?_
  refine drS [] (fun _=>false) [(0,true),(1,true),(2,true),(3,true),(4,true),(5,true),(6,true),(7,true),(8,true),(9,false),(10,false),(11,true)] follows (by kernel_rfl)<|dM J J J<|?_
  refine dM J J J<|dy rfl (fun _=>aaI rfl) J J<|dF J J J<|dy rfl (fun _=>ab6 rfl ghi rfl) J J<|?_
  refine dM J J J<|dy rfl (fun _=>aaI rfl) J J<|dF J J J<|dy rfl (fun _=>ab6 rfl ghi rfl) J J<|?_
  refine dc J J (aix (by rfl) (by rfl) (by rfl) (by rfl) rfl ?_)
  intro b3
  refine an5<|?_
  refine dc J J (aeX (m:=2) (xs:=vs) (ys:=[Value.pointer q2,Value.pointer q1]) (rest:=Value.pointer (some ⟨nbk,0,none⟩)::rest) J J (.tl _ _ _ _ (.hd ..)) (by omega) (by simp only[bJ];omega) (by omega) (agm inferInstance rfl) rfl (by simp[Sx.flat]) (by decide) (by omega) (by rfl) rfl ?_)
  intro b4 lo4 cap4 rest4 h1 h2
  refine an5<|dA J J J<|dn<|?_
  have hsz:(Tr.node l x y).size=1+x.size+y.size:=rfl
  refine aoa (⟨b4,vs++[Value.pointer q2,Value.pointer q1]++rest4,95,lo4⟩::B2) (.cons_cons _ (lV _ _)) ?_
  have hs2:stk (ts++[y,x])=x.pre++y.pre++stk ts:=by simp[stk]
  refine aaW ⟨ts++[y,x],vs++[Value.pointer q2,Value.pointer q1],rest4,b4,cap4,lo4,step s1 (.node l x y),B2⟩ ⟨hrel1.app (.cons ⟨_,rfl,hy⟩ (.cons ⟨_,rfl,hx⟩ .nil)),by simp only[aV,bJ,dV];omega,V.up GL.le hinv2,?_,?_,?_⟩ ?_ (.cons (by show some (Value.slice _ (vs.length+2) _)=some (Value.slice _ (vs++[_,_]).length _);rw[aV];rfl) (.cons rfl .nil)) rfl
  ·simp only[bK,rR,bY,gW,rK,List.sum_nil];unfold tsz;omega
  ·simp only;rw[hs2];exact hokq.2
  ·simp only;rw[hs2];exact hfin
  ·simp only[bK,rR,bY,gW,rK,List.sum_nil];unfold tsz;omega
/-! ### Size -/
theorem as6{P:Program}{C:Ctx}{n:Nat}{fr:Fr}{own:List Own}{G:Gh}{Φ:Act→World→Prop}{dst:Option Nat}{ty':TypeId}{pos:String}{af:Array Edge}{gd:Option (Nat×Bool)}{f:FuncId}{fo:Operand}{args:Array Operand}{tys:Array TypeId}{vs:List Value}{M rest:List Own}{K:Value→List Own→Gh→Prop}(ho:opv fr fo=some (.func (.func f) #[] #[]))(hv:af4 fr args.toList=some vs)
  (hp:own.Perm (M++rest))(hF:FnO P f vs M G K)(hd:aaN n dst=true)
  (h: ∀v own1 (G':Gh) (fl:Nat→Bool),[GE G G']→(∀m∈M,m.lo=false→fl m.b=false)→((∀m∈M,m.lo=true)→ ∀b,fl b=true)→K v own1 G'→St C n (put fr dst v) (own1.map (relo fl)++rest) G' Φ):
  Ch P C n fr own G ⟨dst, .call ⟨.value fo,args,tys⟩,ty',pos,af,gd⟩ Φ:=
 aei (c1:=[]) (c2:=[]) ho hv hp (by simpa using hF) hd h
def szI(nbk:Nat)(s:Nat)(B:List Own)(_:Gh):Prop:= ∃lo,B=[⟨nbk,[.int .i64 s],3,lo⟩]
def szS(s:Nat):Tr→Nat
 | .leaf _=>s
 | .node .. =>s+1
theorem awA(nbk:Nat):Vis 241 [.pointer (some ⟨nbk,0,none⟩)] Nat szS (fun s _=>s<1000000000000) (szI nbk) where
 up:=fun _ h=>h
 re:=fun{s B G} fl h=>by obtain⟨lo,rfl⟩:=h;exact⟨_,rfl⟩
 go:=by
  intro s t p B G hs hI ht
  obtain⟨lo,rfl⟩:=hI
  refine FnO.intro func241 J J ntmps241 rfl ?_
  intro C _ _
  show St C _ _ [⟨nbk,_,_,false⟩] _ _
  cases t with
  |node l x y=>
   refine sR<|sm J J<|?_
   refine sc (zC J J (PF.fn0 abG (.cons ht .nil)) rfl ?_)
   rintro _ G1 _ hv
   cases aaP.1 hv
   refine sy (ahO rfl) rfl<|zE<|ab1 rfl<|aak<|aq8 J J J<|sy (aas J J) rfl<|?_
   refine sc (abI J J J (.hd ..) (nb rfl) J J ?_)
   refine zE<|?_
   exact ajW .nil _ _ (List.Perm.refl _) (List.Sublist.refl _) ⟨false,by show [_]=[_];rfl⟩
  |leaf b=>
   refine sR<|sm J J<|?_
   refine sc (zC J J (PF.fn0 abP (.cons ht .nil)) rfl ?_)
   rintro _ G1 _ hv
   cases aaP.1 hv
   refine sy (ahO rfl) rfl<|zE<|adx rfl<|zK<|?_
   exact ajW .nil _ _ (List.Perm.refl _) (List.Sublist.refl _) ⟨false,rfl⟩
theorem ak8: ∀(t:Tr) (s:Nat),t.pre.foldl szS s=s+t.size
 | .leaf _,s=>rfl
 | .node l x y,s=>by
  simp only[Tr.pre,jL,oJ,szS,ak8 x,ak8 y,Tr.size]
  omega
theorem asq: ∀(t:Tr) (s:Nat) (L:List Tr),s+t.size<1000000000000→(∀s',s'=s+t.size→aiG szS (fun s _=>s<1000000000000) s' L)→aiG szS (fun s _=>s<1000000000000) s (t.pre++L)
 | .leaf _,s,L,h,k=>⟨by simp only[Tr.size] at h;omega,k _ rfl⟩
 | .node l x y,s,L,h,k=>by
  simp only[Tr.size] at h k
  simp only[Tr.pre,gS,cR]
  exact⟨by omega,asq x _ _ (by simp only[szS];omega) fun s1 e1=>asq y _ _ (by subst e1;simp only[szS];omega) fun s2 e2=>k _ (by subst e1 e2;simp only[szS];omega)⟩
theorem aBf{t:Tr}(hs:t.size<1000000000000):PF GB prog 192 [eU t] (vI (t.size:Nat)):=by
 intro G vs _ hv
 obtain⟨v0,m,rfl,h,hm⟩:=aab.1 hv
 rw[aaH] at hm;subst hm
 obtain⟨p,rfl⟩:=afi h
 refine Fn.intro func192 J J ntmps192 rfl ?_
 intro C _ _
 refine sR<|sa J J<|zE<|sR<|?_
 refine sc (adu rfl ?_)
 intro b1
 refine sc (abI J J J (.hd ..) (nb rfl) J J ?_)
 refine zE<|sR<|sm J J<|sy (ajC J J) rfl<|?_
 have hok:aiG szS (fun s _=>s<1000000000000) 0 t.pre:=by
  have:=asq t 0 [] (by omega) (fun _ _=>trivial)
  rwa [gL] at this
 refine sc (as6 (M:=[⟨b1,[.int .i64 0],3,true⟩]) (rest:=[]) J J (List.Perm.refl _) (aBI (awA b1) h ⟨true,rfl⟩ hok (by omega)) rfl ?_)
 rintro _ B G2 fl _ _ _ ⟨lo,rfl⟩
 rw[ak8,dK]
 show St C _ _ [⟨b1,[.int .i64 t.size],3,_⟩] _ _
 refine zE<|sR<|aq8 J J J<|sa J J<|zE<|aaJ<|?_
 exact zD (.tmp rfl .nil) (aaP.2 rfl)
def ahW(n:Nat)(f:Nat→Bool):Nat:=((List.range n).filter fun j=>!f j).length
theorem aq7{n k:Nat}{f:Nat→Bool}(hk:k<n)(hf:f k=false):ahW n (anr f k)+1=ahW n f:=by
 unfold ahW
 have key: ∀l:List Nat,l.Nodup→((l.filter fun j=>!anr f k j).length+(if k∈l then 1 else 0)=(l.filter fun j=>!f j).length):=fun l=>by
  induction l with
  |nil=>intro _;rfl
  |cons a l ih=>
   intro hn
   obtain⟨h1,h2⟩:=List.nodup_cons.1 hn
   have:=ih h2
   by_cases e:a=k
   ·subst e
    simp only[pQ,at6,hf,aT,true_or,if_true] at this⊢
    rw[if_neg h1] at this
    simp at this⊢
    omega
   ·have e': ¬k=a:=fun h=>e h.symm
    simp only[pQ,aiA e,aT,e',false_or] at this⊢
    cases f a<;>simp at this⊢ <;>omega
 have:=key (List.range n) List.nodup_range
 rwa [if_pos (oU.2 hk)] at this
def rdF(ns:List RN):Nat→Int→RS→Tr×RS
 |0,_,s=>(.leaf false,s)
 |m+1,rt,s=>
  if rt= -1 then(.leaf false,s) else if rt= -2 then(.leaf true,s) else
  match ns[rt.toNat]? with
  |none=>(.leaf false,⟨s.f,s.c,true⟩)
  |some n=>if rt<0∨s.f rt.toNat=true then(.leaf false,⟨s.f,s.c,true⟩) else
   match n.g.ln with
   |none=>(.leaf false,⟨anr s.f rt.toNat,s.c+1,true⟩)
   |some l=>let a:=rdF ns m n.l ⟨anr s.f rt.toNat,s.c+1,s.b⟩;let b:=rdF ns m n.r a.2;(.node l a.1 b.1,b.2)
theorem amM{ns:List RN}: ∀{m:Nat} {rt:Int} {s:RS},ahW ns.length s.f<m→RR ns rt s (rdF ns m rt s).1 (rdF ns m rt s).2∧(rdF ns m rt s).2.c+ahW ns.length (rdF ns m rt s).2.f=s.c+ahW ns.length s.f
 |0,_,_,h=>absurd h (Nat.not_lt_zero _)
 |m+1,rt,s,h=>by
  rw[rdF]
  split
  ·rename_i e;subst e;exact⟨.leaf false s,rfl⟩
  rename_i e1
  split
  ·rename_i e;subst e;exact⟨.leaf true s,rfl⟩
  rename_i e2
  split
  ·rename_i hn
   have:=List.getElem?_eq_none_iff.1 hn
   exact⟨.bad rt s e1 e2 (by omega),rfl⟩
  rename_i n hn
  have hlt:=(aN.1 hn).1
  split
  ·rename_i hb
   refine⟨.bad rt s e1 e2 ?_,rfl⟩
   rcases hb with hb|hb
   ·exact .inl hb
   ·by_cases h0:rt<0
    ·exact .inl h0
    ·exact .inr (.inr ⟨rt.toNat,by omega,hlt,hb⟩)
  rename_i hb
  obtain⟨k,rfl⟩: ∃k:Nat,rt=k:=⟨rt.toNat,by omega⟩
  rw[aL] at hn hlt hb⊢
  have hf:s.f k=false:=by
   cases hh:s.f k with
   |false=>rfl
   |true=>exact absurd (Or.inr hh) hb
  have hu:=aq7 hlt hf
  split
  ·rename_i hl;exact⟨.line k n s hn hf hl,by simp only;omega⟩
  rename_i l hl
  have h1:=amM (ns:=ns) (m:=m) (rt:=n.l) (s:=⟨anr s.f k,s.c+1,s.b⟩) (by simp only;omega)
  have hc:=h1.1.mono
  simp only at h1 hc
  have h2:=amM (ns:=ns) (m:=m) (rt:=n.r) (s:=(rdF ns m n.l ⟨anr s.f k,s.c+1,s.b⟩).2) (by omega)
  exact⟨.node k n l s _ _ _ _ hn hf hl h1.1 h2.1,by have:=h1.2;have:=h2.2;dsimp only;omega⟩
def ofQ(ns:List RN)(rt:Int):Option Tr:=
 let r:=rdF ns (ns.length+1) rt rs0
 if r.2.b=false∧r.2.c=ns.length then some r.1 else none
def ofR:Option Tr→DV
 |some t=> .tp [eU t,vB true]
 |none=> .tp [.v (.pointer none),vB false]
theorem agx(n:Nat)(f:Nat→Bool):ahW n f≤n:=by
 unfold ahW
 refine cV (List.length_filter_le _ _) ?_
 rw[qR];exact bZ _
theorem aBR{ns:List RN}{rt:Int}(hs: ∀n∈ns,n.g.sm)(hn:ns.length≤65536):PF GB prog 74 [eRT rt ns] (ofR (ofQ ns rt)):=by
 have h:=amM (ns:=ns) (m:=ns.length+1) (rt:=rt) (s:=rs0) (by have:=agx ns.length rs0.f;omega)
 have hu:=agx ns.length rs0.f
 have h0:rs0.c=0:=rfl
 have h2:=aGa (GB:=GB) hs hn h.1 (by have:=h.2;omega)
 unfold ofD at h2
 unfold ofQ
 simp only
 split
 ·rename_i e;rw[if_pos e] at h2;exact h2
 ·rename_i e;rw[if_neg e] at h2;exact h2
theorem RL.ln_some{r:RL}{l:LnQ}(h:r.ln=some l):r.nm∧l.ok∧r.l=l:=by
 unfold RL.ln at h
 split at h
 ·rename_i e;cases h;exact⟨e.1,e.2,rfl⟩
 ·cases h
theorem RR.good{ns:List RN}(hs: ∀n∈ns,n.g.sm){rt:Int}{s s':RS}{t:Tr}(h:RR ns rt s t s'):t.all LB∧t.all LnQ.ok∧(s'.b=false→s.b=false∧s'.c=s.c+t.size):=by
 induction h with
 |leaf=>exact⟨trivial,trivial,fun h=>⟨h,rfl⟩⟩
 |bad=>exact⟨trivial,trivial,fun h=>by cases h⟩
 |line=>exact⟨trivial,trivial,fun h=>by cases h⟩
 |node k n l s s2 s3 x y h hf hl h1 h2 i1 i2=>
  obtain⟨_,h3,rfl⟩:=RL.ln_some hl
  refine⟨⟨RL.lb (hs n (bQ h)),i1.1,i2.1⟩,⟨h3,i1.2.1,i2.2.1⟩,fun hb=>?_⟩
  obtain⟨e1,e2⟩:=i2.2.2 hb
  obtain⟨e3,e4⟩:=i1.2.2 e1
  simp only[Tr.size] at e3 e4⊢
  exact⟨e3,by omega⟩
theorem aw0{ns:List RN}{rt:Int}{t:Tr}(hs: ∀n∈ns,n.g.sm)(h:ofQ ns rt=some t):t.all LB∧t.all LnQ.ok∧t.size=ns.length:=by
 have hr:=amM (ns:=ns) (m:=ns.length+1) (rt:=rt) (s:=rs0) (by have:=agx ns.length rs0.f;omega)
 have hg:=hr.1.good hs
 unfold ofQ at h
 simp only at h
 split at h
 ·rename_i e
  cases h
  refine⟨hg.1,hg.2.1,?_⟩
  have:=(hg.2.2 e.1).2
  have h0:rs0.c=0:=rfl
  omega
 ·cases h
end Go.Sx
end
section
namespace Go.Sx
open Go Go.Proofs Go.RowKit Go.Extern.Stop Go.Stop Go.Extern
theorem awG(v:Value)(w:World):(Extern.ReflectliteType.typeOf #[.iface 399 v]).run Tryz.prog w= .ok (.iface 198 (.agg #[.pointer (some ⟨Tryz.prog.globals.size,399,none⟩)])) w:=by kernel_rfl
def aFJ:TypeId→Sem Value:=fun t=>do Go.Extern.Rtype.noPackHeld "Comparable" t;pure (.bool (←typeInfo t).comparable)
theorem amD(w:World):((Extern.ReflectliteType.method aFJ) #[.agg #[.pointer (some ⟨Tryz.prog.globals.size,399,none⟩)]]).run Tryz.prog w= .ok (.bool true) w:=by kernel_rfl
theorem aDx:(Tryz.prog.info? 399).map (·.comparable)=some true:=by kernel_rfl
theorem aCb:(Tryz.prog.info? 424).map (·.size)=some 1:=by kernel_rfl
theorem ahi(n:Nat)(v:Value)(w:World):(Go.method (n+1) 198 v "Comparable").run Tryz.prog w= .ok (347,v) w:=by
 kernel_rfl
theorem aE1(a:Addr)(w:World):Calls Tryz.prog 15 #[.iface 399 (.pointer (some a)), .iface 399 (.pointer (some a))] w fun e w'=>e= .returned (.bool true)∧w'=w:=by
 obtain⟨i,hi,hcmp⟩:=Option.map_eq_some_iff.1 aDx
 obtain⟨j,hj,hjs⟩:=Option.map_eq_some_iff.1 aCb
 have h8:= @run_callFunc_extern Tryz.prog 54 _ Extern.ReflectliteType.typeOf Tryz.func54 (by kernel_rfl) (by kernel_rfl) (by kernel_rfl) (by kernel_rfl)
 have h32:= @run_callFunc_extern Tryz.prog 347 _ (Extern.ReflectliteType.method aFJ) Tryz.func347 (by kernel_rfl) (by kernel_rfl) (by kernel_rfl) (by kernel_rfl)
 have tT:=awG
 have cT:=amD
 obtain⟨g,hg⟩: ∃g,g=Tryz.prog.globals.size:=⟨_,rfl⟩
 simp only[←hg] at tT cT
 clear hg
 have mR:=ahi
 have heq:=run_eql_iface_ptr_same (P:=Tryz.prog) w a Tryz.underlying37 Tryz.underlying399 hi hcmp hj
 go_enter Tryz.func15,Tryz.ntmps15
 go_wp2
 refine wp_loop_rounds 1 ?_
 rw[rounds_succ]
 go_wp2
 go_ret
 exact⟨rfl,rfl⟩
def aAl(a:Addr):DV:= .v (.iface 399 (.pointer (some a)))
end Go.Sx
end
section
namespace Go.Sx
open Go Go.Proofs Tryz
variable {GB:Gh}
section
variable {GB:Gh} {C:Ctx} {n:Nat} {Q0:Exit→Act→World→Prop} {fr fr':FrX} {own own':OwX} {cf cf':Cf} {vc:List Prop}
def glA(fr:FrX)(cf:Cf):Option Nat:=match opC fr cf with
 |some ⟨_, .load t (.global g),_,_,_,_⟩=>(match abi tt t with
  |some i=>match i.ag with
   |some none=>some g
   |_=>none
  |none=>none)
 |_=>none
theorem gl[fu:Fu]{g:Nat}{v:Value}(h:glA fr cf=some g)(hg:GB g=some [v])(hgo:goA tt n fu.n fr own cf (.d (.v v)) [] []=⟨vc,fr',own',cf'⟩)(k:CfS prog GB C n Q0 fr' own' cf')
  (hv:aai vc:=by first|exact trivial|(simp only[aai];kernel_rfl)|(simp only[aai];omega)):CfS prog GB C n Q0 fr own cf:=by
 unfold glA at h
 split at h<;>try (cases h;done)
 rename_i hh
 split at h<;>try (cases h;done)
 rename_i i hT
 split at h<;>cases h
 rename_i ha
 haveI:=ajx (abK _ _ hT) ha
 refine us (f:= .d (.v v)) hh (OpR.yd fun ρ G ov a w r=>⟨v,(aaP (G:=G)).2 rfl,?_⟩) hgo hv k
 haveI:av8 G g [v]:=⟨r.gb _ _ hg⟩
 exact ab6 (b:=g) (off:=0) rfl ghi rfl
theorem amY{d:Nat}{f:FX}{x:DV}(hl:aay fr d=some f)(e:akt f=some x){Φ:Act→World→Prop}(h:SX GB C n (aay ((d, .d x)::fr)) (aaA own) Φ):SX GB C n (aay fr) (aaA own) Φ:=abH (g:= .d x) hl (fun _ _ _ k=>acA k e) h
theorem dvE(d:Nat){f:FX}(x:DV){e:Exit}{K:List Kt}(hl:aay fr d=some f)(e1:akt f=some x)(k:CfS prog GB C n Q0 ((d, .d x)::fr) own (.ex e K)):CfS prog GB C n Q0 fr own (.ex e K):=amY hl e1 k
theorem dvC(d:Nat){f:FX}(x:DV){c:Code}{K:List Kt}(hl:aay fr d=some f)(e1:akt f=some x)(k:CfS prog GB C n Q0 ((d, .d x)::fr) own (.code c K)):CfS prog GB C n Q0 fr own (.code c K):=amY hl e1 k
theorem aFe{nm0 nm:Nat}{B1 B2:Option Bk}:aaA (aqQ (aqQ own nm0 B1) nm B2)=upB (upB (aaA own) [(nm0,B1)]) [(nm,B2)]:=by
 funext j;rw[afs];simp only[upB];rw[afs]
theorem avh{nm0 nm k:Nat}{ty0:TypeId}{cs:List FX}{lo:Bool}(hb:aaA own nm0=some (.o ty0 cs lo))(hk:cs[k]? =some .nl)(hne:nm0≠nm){Φ:Act→World→Prop}{ty s:Nat}(hf:acN [nm] none (aay fr) (aaA own))
  (h:SX GB C n (aay fr) (aaA (aqQ (aqQ own nm0 (some (.o ty0 (cs.set k (.rw nm)) lo))) nm (some (.b ty s [] true)))) Φ):SX GB C n (aay fr) (aaA own) Φ:=by
 refine⟨fun ρ G ov a w r=>?_⟩
 obtain⟨f1,f2⟩:=hf nm aQ
 rw[aFe] at h
 refine h.run (fun k=>if k=nm then⟨none,0,0⟩ else ρ k) G ov a w ⟨r.gb,r.h,r.sz,r.df,fun k f e=>?_,fun m B e=>?_,fun m m' B B' e e' hne=>?_⟩
 ·obtain⟨v,h1,h2⟩:=r.fx k f e
  exact⟨v,h1,h2.ren fun m hm=>neN _ fun hc=>f1 k f (by simp) e (by rw[hm,hc])⟩
 ·simp only[upB] at e
  by_cases hm:m=nm
  ·subst hm;simp only[if_true] at e;cases e
   exact⟨[],⟨[],by simp only[if_true];exact .inl ⟨rfl,rfl,rfl⟩, .nil,by simp,fun _ o ho=>by cases ho⟩,fun o ho=>by cases ho⟩
  ·simp only[hm,if_false] at e
   by_cases hm0:m=nm0
   ·subst hm0;simp only[if_true] at e;cases e
    obtain⟨os,h1,h2⟩:=r.bx m _ hb
    have h1':amT (fun k=>if k=nm then⟨none,0,0⟩ else ρ k) G m (.o ty0 cs lo) os:=h1.ren (if_neg hm) fun q hq=>neN _ fun hc=>f2 m _ hm hb (by rw[←hc];exact hq)
    obtain⟨b,ms,k1,k2,k3⟩:=h1'
    refine⟨os,⟨b,ms,k1,k2,?_⟩,h2⟩
    obtain⟨y,e1,e2⟩:=k3.get hk
    have:=k3.set (f:= .rw nm) (y:=y) k (by show y=_;simp only[if_true];exact e2)
    rwa [show ms.set k y=ms by apply jT;intro j;rw[oX];split<;>(try rfl);rename_i hj;subst hj;split<;>simp_all] at this
   ·simp only[hm0,if_false] at e
    obtain⟨os,h1,h2⟩:=r.bx m B e
    exact⟨os,h1.ren (if_neg hm) fun q hq=>neN _ fun hc=>f2 m B hm e (by rw[←hc];exact hq),h2⟩
 ·intro b hbb hb'
  have key: ∀q B,upB (upB (aaA own) [(nm0,some (.o ty0 (cs.set k (.rw nm)) lo))]) [(nm,some (.b ty s [] true))] q=some B→q≠nm→ ∃B0,aaA own q=some B0:=fun q B eq hq=>by
   simp only[upB,hq,if_false] at eq
   by_cases hq0:q=nm0
   ·subst hq0;exact⟨_,hb⟩
   ·simp only[hq0,if_false] at eq;exact⟨_,eq⟩
  by_cases hm:m=nm
  ·simp[hm] at hbb
  ·by_cases hm':m'=nm
   ·simp[hm'] at hb'
   ·obtain⟨B0,g0⟩:=key m B e hm
    obtain⟨B1,g1⟩:=key m' B' e' hm'
    simp only[hm,hm',if_false] at hbb hb'
    exact r.dj m m' B0 B1 g0 g1 hne b hbb hb'
theorem nro(nm0 k nm ty s:Nat){ty0:TypeId}{cs:List FX}{lo:Bool}{own1:OwX}{c:Code}{K:List Kt}(hb:aaA own nm0=some (.o ty0 cs lo))(hk:cs[k]? =some .nl)(hf:ahN [nm] none fr own=true)(hne:Nat.beq nm0 nm=false)
  (ho:aqQ (aqQ own nm0 (some (.o ty0 (cs.set k (.rw nm)) lo))) nm (some (.b ty s [] true))=own1)(h:CfS prog GB C n Q0 fr own1 (.code c K)):CfS prog GB C n Q0 fr own (.code c K):=by
 subst ho
 exact avh hb hk (fun e=>by subst e;rw[mM] at hne;cases hne) (afh hf) h
theorem akT{ρ:NE}{G:Gh}: ∀{a b:List FX} {m:List Value},adH ρ G (a++b) m→ ∃m1 m2,m=m1++m2∧adH ρ G a m1∧adH ρ G b m2
 |[],b,m,h=>⟨[],m,rfl,rfl,h⟩
 |f::t,b,m,⟨y,n,e,h1,h2⟩=>by
  obtain⟨m1,m2,rfl,k1,k2⟩:=akT h2
  exact⟨y::m1,m2,e,⟨y,m1,rfl,h1,k1⟩,k2⟩
def bzA(fr:FrX)(cf:Cf):Option (Nat×List FX):=match opC fr cf with
 |some ⟨some d, .build t ⟨[]⟩,_,_,_,_⟩=>match abi tt t with
  |some ⟨.st _,_,some zx,_⟩=>some (d,zx)
  |_=>none
 |_=>none
end
structure EG (GB:Gh) (ai al ae:Addr):Prop where
 ErrInvalid:GB 1=some [.iface 399 (.pointer (some ai))]
 ErrLimit:GB 2=some [.iface 399 (.pointer (some al))]
structure EGE (GB:Gh) (ai al ae:Addr):Prop extends EG GB ai al ae where
 ErrEmpty:GB 0=some [.iface 399 (.pointer (some ae))]
structure Tr.gd (t:Tr):Prop where
 lb:t.all LB
 ok:t.all LnQ.ok
theorem Tr.restrict_size: ∀(t:Tr) (c:aan),(t.restrict c).size≤t.size
 | .leaf _,_=>bZ _
 | .node l x y,c=>by
  rw[Tr.restrict]
  have hx:=fun c=>x.restrict_size c
  have hy:=fun c=>y.restrict_size c
  split
  ·have:=hx c;simp only[Tr.size];omega
  ·split
   ·have:=hy c;simp only[Tr.size];omega
   ·have h1:=hx (aaR c l)
    have h2:=hy (aaR c l.rev)
    rcases Tr.joinQ_cases l (x.restrict (aaR c l)) (y.restrict (aaR c l.rev)) with⟨h,_⟩|⟨h,_⟩<;>rw[h]<;>(try simp only[Tr.size])<;>omega
theorem Tr.compl_size: ∀t:Tr,t.compl.size=t.size
 | .leaf _=>rfl
 | .node l x y=>by simp only[Tr.compl,Tr.size,x.compl_size,y.compl_size]
theorem Tr.compl_all(p:LnQ→Prop): ∀t:Tr,t.all p→t.compl.all p
 | .leaf _,h=>h
 | .node l x y,⟨h0,h1,h2⟩=>⟨h0,x.compl_all p h1,y.compl_all p h2⟩
theorem Tr.compl_depth: ∀t:Tr,t.compl.depth=t.depth
 | .leaf _=>rfl
 | .node l x y=>by simp only[Tr.compl,Tr.depth,x.compl_depth,y.compl_depth]
theorem Tr.chooseQ_all(p:LnQ→Prop)(op:Int)(b:Bool)(t:Tr)(c:aan)(h:t.all p):(t.chooseQ op b c).all p:=by
 have:=t.restrict_all p c h
 unfold chooseQ
 split
 ·split
  ·trivial
  ·exact this
 ·split
  ·trivial
  ·split
   ·exact(t.restrict c).compl_all p this
   ·exact this
theorem Tr.chooseQ_size(op:Int)(b:Bool)(t:Tr)(c:aan):(t.chooseQ op b c).size≤t.size:=by
 have:=t.restrict_size c
 unfold chooseQ
 split
 ·split
  ·exact bX _
  ·exact this
 ·split
  ·exact bX _
  ·split
   ·rw[(t.restrict c).compl_size];exact this
   ·exact this
theorem Tr.mergeQ_all(p:LnQ→Prop)(op:Int){u:Tr}(hu:u.all p): ∀(t:Tr) (c:aan),t.all p→(t.mergeQ op u c).all p
 | .leaf b,c,_=>u.chooseQ_all p op b c hu
 | .node l x y,c,⟨h0,h1,h2⟩=>by
  rw[Tr.mergeQ]
  split
  ·exact Tr.mergeQ_all p op hu x c h1
  ·split
   ·exact Tr.mergeQ_all p op hu y c h2
   ·rcases Tr.joinQ_cases l (x.mergeQ op u (aaR c l)) (y.mergeQ op u (aaR c l.rev)) with⟨h,_⟩|⟨h,_⟩
    ·rw[h];exact Tr.mergeQ_all p op hu x _ h1
    ·rw[h];exact⟨h0,Tr.mergeQ_all p op hu x _ h1,Tr.mergeQ_all p op hu y _ h2⟩
theorem Tr.mergeQ_size(op:Int)(u:Tr): ∀(t:Tr) (c:aan),(t.mergeQ op u c).size+1≤(t.size+1)*(u.size+1)
 | .leaf b,c=>by
  have:=u.chooseQ_size op b c
  show(u.chooseQ op b c).size+1≤(0+1)*(u.size+1)
  omega
 | .node l x y,c=>by
  have hx:=fun c=>Tr.mergeQ_size op u x c
  have hy:=fun c=>Tr.mergeQ_size op u y c
  have e:((Tr.node l x y).size+1)*(u.size+1)=(x.size+1)*(u.size+1)+(y.size+1)*(u.size+1):=by
   rw[←cW];congr 1;simp only[Tr.size];omega
  rw[e,Tr.mergeQ]
  split
  ·have:=hx c;omega
  ·split
   ·have:=hy c;omega
   ·have h1:=hx (aaR c l)
    have h2:=hy (aaR c l.rev)
    rcases Tr.joinQ_cases l (x.mergeQ op u (aaR c l)) (y.mergeQ op u (aaR c l.rev)) with⟨h,_⟩|⟨h,_⟩<;>rw[h]<;>(try simp only[Tr.size])<;>omega
theorem Tr.depth_size: ∀t:Tr,t.depth≤t.size
 | .leaf _=>bZ _
 | .node l x y=>by
  have h1:=x.depth_size
  have h2:=y.depth_size
  simp only[Tr.depth,Tr.size]
  omega
def aj7(op:Int)(a b:Tr):Option Tr:=if 1024<a.depth+b.depth then none else if 65536<(a.mergeQ op b []).size then none else some (a.mergeQ op b [])
def aGz(al:Addr):Option Tr→DV
 |some t=> .tp [eU t, .v .nilIface]
 |none=> .tp [.v (.pointer none),aAl al]
theorem azv{op:Int}{a b t:Tr}(ha:a.gd)(hb:b.gd)(h:aj7 op a b=some t):t.gd∧t.size≤65536:=by
 unfold aj7 at h
 split at h
 ·cases h
 ·split at h
  ·cases h
  ·cases h
   exact⟨⟨Tr.mergeQ_all LB op hb.lb a [] ha.lb,Tr.mergeQ_all LnQ.ok op hb.ok a [] ha.ok⟩,by omega⟩
theorem anQ{ai al ae:Addr}(hE:EG GB ai al ae){op:Int}{a b:Tr}(ha:a.gd)(hb:b.gd)(hsa:a.size≤65536)(hsb:b.size≤65536):PF GB prog 125 [vI op,eU a,eU b] (aGz al (aj7 op a b)):=by
 have hda:=a.depth_size
 have hdb:=b.depth_size
 have hms:=Tr.mergeQ_size op b a []
 have hmm:(a.size+1)*(b.size+1)≤65537*65537:=gM (by omega) (by omega)
 refine fn func125 J J ntmps125 J J (fun C=>?_)
 refine cl rfl (alm (t:=a) (by omega)) rfl<|cl rfl (alm (t:=b) (by omega)) rfl<|?_
 refine br J J J (fun hc14=>?_) (fun hc14=>?_)
 ·
  refine gl rfl hE.ErrLimit rfl<|?_
  exact rz rfl (by unfold aj7;rw[if_pos (by omega)];rfl)
 ·
  refine cl rfl (aoK (op:=op) (t:=a) (u:=b) (c:=[]) hb.lb hb.ok ha.lb ha.ok (fun s h=>by cases h) (by simp only[dV];omega)) rfl<|cl rfl (aBf (t:=a.mergeQ op b []) (by omega)) rfl<|?_
  refine br J J J (fun hc22=>?_) (fun hc22=>?_)
  ·
   refine gl rfl hE.ErrLimit rfl<|?_
   exact rz rfl (by unfold aj7;rw[if_neg (by omega),if_pos (by omega)];rfl)
  ·
   exact rz rfl (by unfold aj7;rw[if_neg (by omega),if_neg (by omega)];rfl)
theorem aC3{ai al ae:Addr}(hE:EG GB ai al ae){op:Int}{a b t:Tr}(ha:a.gd)(hb:b.gd)(hsa:a.size≤65536)(hsb:b.size≤65536)(h:aj7 op a b=some t):PF GB prog 125 [vI op,eU a,eU b] (.tp [eU t, .v .nilIface]):=by
 have:=anQ hE (op:=op) ha hb hsa hsb;rw[h] at this;exact this
theorem aCL{ai al ae:Addr}(hE:EG GB ai al ae){op:Int}{a b:Tr}(ha:a.gd)(hb:b.gd)(hsa:a.size≤65536)(hsb:b.size≤65536)(h:aj7 op a b=none):PF GB prog 125 [vI op,eU a,eU b] (.tp [.v (.pointer none),aAl al]):=by
 have:=anQ hE (op:=op) ha hb hsa hsb;rw[h] at this;exact this
theorem aDk{ai al ae:Addr}(hE:EG GB ai al ae){op:Int}{a b t:Tr}(ha:a.gd)(hb:b.gd)(hsa:a.size≤65536)(hsb:b.size≤65536)(h:aj7 op a b=some t):PF GB prog 51 [vI op,eU a,eU b] (.tp [eU t, .v .nilIface]):=by
 refine fn func51 J J ntmps51 J J (fun C=>?_)
 refine cl rfl (aC3 hE ha hb hsa hsb h) rfl<|?_
 exact rz J J
theorem aBx{ai al ae:Addr}(hE:EG GB ai al ae){op:Int}{a b:Tr}(ha:a.gd)(hb:b.gd)(hsa:a.size≤65536)(hsb:b.size≤65536)(h:aj7 op a b=none):PF GB prog 51 [vI op,eU a,eU b] (.tp [.v (.pointer none),aAl al]):=by
 refine fn func51 J J ntmps51 J J (fun C=>?_)
 refine cl rfl (aCL hE ha hb hsa hsb h) rfl<|?_
 exact rz J J
def aFI(op:Int):Tr→List Tr→Option Tr
 |t,[]=>some t
 |t,u::us=>match aj7 op t u with
  |none=>none
  |some r=>aFI op r us
theorem aoI{t:Tr}(h:t.gd)(c:aan):(t.restrict c).gd:=⟨t.restrict_all LB c h.lb,t.restrict_all LnQ.ok c h.ok⟩
theorem ayo{op:Int}:PF GB prog 79 [vI op] (vB (decide (1≤op∧op≤4))):=by
 refine fn (fu:=⟨8⟩) func79 J J ntmps79 J J (fun C=>?_)
 refine csS (fu1:=⟨2⟩) J J J J (fun hg4=>?_) (fun hg4=>?_)
 ·
  refine csS J J J J (fun hg7=>?_) (fun hg7=>?_)
  ·
   exact rz rfl (by show DV.v (.bool _)= .v (.bool _);congr 2;simp;omega)
  ·
   exact rz rfl (by show DV.v (.bool _)= .v (.bool _);congr 2;simp;omega)
 ·
  exact rz rfl (by show DV.v (.bool _)= .v (.bool _);congr 2;simp;omega)
theorem aAo{op:Int}(h:1≤op∧op≤4):PF GB prog 79 [vI op] (vB true):=by
 have:=ayo (GB:=GB) (op:=op);rw[decide_eq_true h] at this;exact this
theorem ayS{op:Int}(h: ¬(1≤op∧op≤4)):PF GB prog 79 [vI op] (vB false):=by
 have:=ayo (GB:=GB) (op:=op);rw[decide_eq_false h] at this;exact this
theorem ati{ns:List RN}{rt:Int}{t:Tr}(hs: ∀n∈ns,n.g.sm)(hn:ns.length≤65536)(h:ofQ ns rt=some t):PF GB prog 74 [eRT rt ns] (.tp [eU t,vB true]):=by
 have:=aBR (GB:=GB) (rt:=rt) hs hn;rw[h] at this;exact this
theorem avM{ns:List RN}{rt:Int}(hs: ∀n∈ns,n.g.sm)(hn:ns.length≤65536)(h:ofQ ns rt=none):PF GB prog 74 [eRT rt ns] (.tp [.v (.pointer none),vB false]):=by
 have:=aBR (GB:=GB) (rt:=rt) hs hn;rw[h] at this;exact this
def trZ:DV:= .ag [vI 0, .sl []]
def aEO:Tr ⊕ Addr→DV
 | .inl t=> .tp [eA t, .v .nilIface]
 | .inr e=> .tp [trZ,aAl e]
def aEn(ai:Addr):Option Tr→Tr ⊕ Addr
 |some t=> .inl t.compl
 |none=> .inr ai
def aEJ(al:Addr):Option Tr→Tr ⊕ Addr
 |some t=> .inl t
 |none=> .inr al
def amv(ai al:Addr)(op:Int):Option Tr→Option Tr→Tr ⊕ Addr
 |some a,some b=>if 1≤op∧op≤4 then aEJ al (aj7 op a b) else .inr ai
 |_,_=> .inr ai
theorem apt{ns:List RN}{rt:Int}{t:Tr}(hs: ∀n∈ns,n.g.sm)(hn:ns.length≤65536)(h:ofQ ns rt=some t):t.gd∧t.size≤65536:=by
 obtain⟨h1,h2,h3⟩:=aw0 hs h
 exact⟨⟨h1,h2⟩,by omega⟩
theorem alx{t:Tr}(h:t.gd):t.compl.gd:=⟨t.compl_all LB h.lb,t.compl_all LnQ.ok h.ok⟩
theorem avJ{ai al ae:Addr}(hE:EG GB ai al ae){n1:List RN}{r1:Int}(hs1: ∀n∈n1,n.g.sm)(hn1:n1.length≤65536):PF GB prog 92 [eRT r1 n1] (aEO (aEn ai (ofQ n1 r1))):=by
 refine fn func92 J J ntmps92 J J (fun C=>?_)
 rcases h1:ofQ n1 r1 with _|t
 ·
  refine cl (fu:=⟨3⟩) rfl (avM hs1 hn1 h1) rfl<|?_
  refine kbF 10 rfl ?_
  refine gx rfl<|gl rfl hE.ErrInvalid rfl<|?_
  exact rz J J
 ·
  have g1:=apt hs1 hn1 h1
  refine cl (fu:=⟨3⟩) rfl (ati hs1 hn1 h1) rfl<|?_
  refine kbT 10 rfl ?_
  refine gx rfl<|cl rfl age rfl<|cl rfl (aDq (t:=t.compl) (alx g1.1).lb (by rw[t.compl_size];omega)) rfl<|?_
  exact rz J J
theorem awq{ai al ae:Addr}(hE:EG GB ai al ae){op:Int}{n1:List RN}{r1:Int}(hs1: ∀n∈n1,n.g.sm)(hn1:n1.length≤65536){n2:List RN}{r2:Int}(hs2: ∀n∈n2,n.g.sm)(hn2:n2.length≤65536):PF GB prog 30 [vI op,eRT r1 n1,eRT r2 n2] (aEO (amv ai al op (ofQ n1 r1) (ofQ n2 r2))):=by
 refine fn func30 J J ntmps30 J J (fun C=>?_)
 rcases h1:ofQ n1 r1 with _|a
 ·
  refine cl (fu:=⟨3⟩) rfl (avM hs1 hn1 h1) rfl<|?_
  refine kbF 18 rfl ?_
  refine gx rfl<|?_
  rcases h2:ofQ n2 r2 with _|b
  ·
   refine cl (fu:=⟨3⟩) rfl (avM hs2 hn2 h2) rfl<|?_
   refine kbF 23 rfl ?_
   refine gx rfl<|gl rfl hE.ErrInvalid rfl<|?_
   exact rz J J
  ·
   have g2:=apt hs2 hn2 h2
   refine cl (fu:=⟨3⟩) rfl (ati hs2 hn2 h2) rfl<|?_
   refine kbT 23 rfl ?_
   refine gx rfl<|gl rfl hE.ErrInvalid rfl<|?_
   exact rz J J
 ·
  have g1:=apt hs1 hn1 h1
  refine cl (fu:=⟨3⟩) rfl (ati hs1 hn1 h1) rfl<|?_
  refine kbT 18 rfl ?_
  refine gx rfl<|?_
  rcases h2:ofQ n2 r2 with _|b
  ·
   refine cl (fu:=⟨3⟩) rfl (avM hs2 hn2 h2) rfl<|?_
   refine kbF 23 rfl ?_
   refine gx rfl<|gl rfl hE.ErrInvalid rfl<|?_
   exact rz J J
  ·
   have g2:=apt hs2 hn2 h2
   refine cl (fu:=⟨3⟩) rfl (ati hs2 hn2 h2) rfl<|?_
   refine kbT 23 rfl ?_
   refine gx rfl<|?_
   by_cases ho:1≤op∧op≤4
   ·
    refine cl (fu:=⟨0⟩) rfl (aAo ho) rfl<|?_
    refine kbT 32 rfl ?_
    refine gx rfl<|?_
    rcases hm:aj7 op a b with _|t
    ·
     refine cl rfl (aBx hE g1.1 g2.1 g1.2 g2.2 hm) rfl<|?_
     exact rz rfl (by rw[amv,if_pos ho,hm];rfl)
    ·
     have gt:=azv g1.1 g2.1 hm
     refine cl rfl (aDk hE g1.1 g2.1 g1.2 g2.2 hm) rfl<|cl rfl (aDq (t:=t) gt.1.lb (by omega)) rfl<|?_
     exact rz rfl (by rw[amv,if_pos ho,hm];rfl)
   ·
    refine cl (fu:=⟨0⟩) rfl (ayS ho) rfl<|?_
    refine kbF 32 rfl ?_
    refine gx rfl<|gl rfl hE.ErrInvalid rfl<|?_
    exact rz rfl (by rw[amv,if_neg ho];rfl)
abbrev TIn:=Int×List RN
def TIn.d(x:TIn):DV:=eRT x.1 x.2
def TIn.q(x:TIn):Option Tr:=ofQ x.2 x.1
def ofP:Option Tr→DV
 |some t=>eU t
 |none=> .v (.pointer none)
def aEZ(op:Int)(ts:List TIn):Bool:=decide (1≤op∧op≤4)&&ts.all fun x=>x.q.isSome
def aG3(ai al ae:Addr)(op:Int)(ts:List TIn):Tr ⊕ Addr:=
 if aEZ op ts then(match ts.filterMap TIn.q with
  |[]=> .inr ae
  |a::us=>if 1024<a.depth then .inr al else aEJ al (aFI op (a.restrict []) us)) else .inr ai
def aGW(ts:List TIn):List DV:=ts.map fun x=>ofP x.q
structure TIn.ok (x:TIn):Prop where
 s: ∀n∈x.2,n.g.sm
 n:x.2.length≤65536
def Tr.val:Tr→PtQ→Bool
 | .leaf b,_=>b
 | .node l x y,p=>if 0<l.value p then x.val p else y.val p
def Tr.lns:Tr→List LnQ
 | .leaf _=>[]
 | .node l x y=>l::(x.lns++y.lns)
theorem acB{P:LnQ→Prop}: ∀{t:Tr},t.all P↔ ∀l∈t.lns,P l
 | .leaf _=>⟨fun _ l hl=>(by cases hl),fun _=>trivial⟩
 | .node l x y=>by
  show(P l∧x.all P∧y.all P)↔ ∀m∈l::(x.lns++y.lns),P m
  rw[acB (t:=x),acB (t:=y)]
  constructor
  ·rintro ⟨h0,h1,h2⟩ m hm
   rcases aT.1 hm with rfl|hm
   ·exact h0
   ·rcases bV.1 hm with hm|hm
    ·exact h1 m hm
    ·exact h2 m hm
  ·intro h
   exact⟨h l aQ,fun m hm=>h m (aX _ (bN _ hm)),fun m hm=>h m (aX _ (cJ _ hm))⟩
theorem aek{t:Tr}(h:t.all LnQ.ok): ∀l∈t.lns,l.ok:=acB.1 h
def Off(L:List LnQ)(p:PtQ):Prop:= ∀l∈L,l.value p≠0
theorem Off.sub{L M:List LnQ}{p:PtQ}(h:Off L p)(k: ∀l∈M,l∈L):Off M p:=fun l hl=>h l (k l hl)
theorem Off.l{l:LnQ}{x y:Tr}{p:PtQ}(h:Off (Tr.node l x y).lns p):l.value p≠0:=h l aQ
theorem Off.x{l:LnQ}{x y:Tr}{p:PtQ}(h:Off (Tr.node l x y).lns p):Off x.lns p:=h.sub fun m hm=>aX _ (bN _ hm)
theorem Off.y{l:LnQ}{x y:Tr}{p:PtQ}(h:Off (Tr.node l x y).lns p):Off y.lns p:=h.sub fun m hm=>aX _ (cJ _ hm)
def opB(op:Int)(a b:Bool):Bool:=if op=1 then a||b else if op=2 then a&&b else if op=3 then a&&!b else a !=b
theorem Tr.val_join(l:LnQ)(X Y:Tr)(p:PtQ):(Tr.joinQ l X Y).val p=(Tr.node l X Y).val p:=by
 unfold Tr.joinQ
 split
 ·rename_i h
  cases X<;>cases Y<;>simp[Tr.isLeaf,Tr.code] at h
  subst h
  simp[Tr.val]
 ·rfl
theorem Tr.val_pos{l:LnQ}{x y:Tr}{p:PtQ}(h:0<l.value p):(Tr.node l x y).val p=x.val p:=by rw[Tr.val,if_pos h]
theorem Tr.val_neg{l:LnQ}{x y:Tr}{p:PtQ}(h: ¬0<l.value p):(Tr.node l x y).val p=y.val p:=by rw[Tr.val,if_neg h]
theorem Tr.val_compl: ∀(t:Tr) (p:PtQ),t.compl.val p=!t.val p
 | .leaf b,p=>rfl
 | .node l x y,p=>by
  rw[Tr.compl]
  by_cases h:0<l.value p
  ·rw[Tr.val_pos h,Tr.val_pos h,x.val_compl]
  ·rw[Tr.val_neg h,Tr.val_neg h,y.val_compl]
theorem apE{c:aan}{l:LnQ}(hc:acf c)(hl:l.ok)(hb:abt c l.rev=false){p:PtQ}(hp:InD c p)(h0:l.value p≠0):0<l.value p:=by
 by_cases h:0<l.value p
 ·exact h
 ·exfalso
  have:abt c l.rev=true:=(aeO hc hl.rev).2 ⟨p,hp,by rw[aaY];grind⟩
  rw[hb] at this;cases this
theorem apw{c:aan}{l:LnQ}(hc:acf c)(hl:l.ok)(hb:abt c l=false){p:PtQ}(hp:InD c p): ¬0<l.value p:=fun h=>by
 have:abt c l=true:=(aeO hc hl).2 ⟨p,hp,h⟩
 rw[hb] at this;cases this
theorem Tr.val_restrict: ∀(t:Tr) (c:aan) (p:PtQ),t.all LnQ.ok→acf c→InD c p→Off t.lns p→(t.restrict c).val p=t.val p
 | .leaf _,_,_,_,_,_,_=>rfl
 | .node l x y,c,p,⟨hl,hx,hy⟩,hc,hp,ho=>by
  cases hb:abt c l.rev with
  |false=>rw[Tr.restrict_A _ _ hb,x.val_restrict c p hx hc hp ho.x,Tr.val_pos (apE hc hl hb hp ho.l)]
  |true=>
   cases hb2:abt c l with
   |false=>rw[Tr.restrict_B _ _ hb hb2,y.val_restrict c p hy hc hp ho.y,Tr.val_neg (apw hc hl hb2 hp)]
   |true=>
    rw[Tr.restrict_C _ _ hb hb2,Tr.val_join]
    obtain⟨g1,i1⟩:=abQ hc hl hb2
    obtain⟨g2,i2⟩:=abQ hc hl.rev hb
    by_cases h:0<l.value p
    ·rw[Tr.val_pos h,Tr.val_pos h,x.val_restrict _ p hx g1 ((i1 p).2 ⟨hp,h⟩) ho.x]
    ·rw[Tr.val_neg h,Tr.val_neg h,y.val_restrict _ p hy g2 ((i2 p).2 ⟨hp,by rw[aaY];have:=ho.l;grind⟩) ho.y]
theorem Tr.val_choose(op:Int)(b:Bool)(t:Tr)(c:aan)(p:PtQ)(ht:t.all LnQ.ok)(hc:acf c)(hp:InD c p)(ho:Off t.lns p):(t.chooseQ op b c).val p=opB op b (t.val p):=by
 have hr:=t.val_restrict c p ht hc hp ho
 unfold Tr.chooseQ opB
 by_cases h1:op=1
 ·subst h1;cases b<;>simp[hr,Tr.val]
 ·by_cases h2:op=2
  ·subst h2;cases b<;>simp[hr,Tr.val]
  ·by_cases h3:op=3
   ·subst h3;cases b<;>simp[hr,Tr.val,Tr.val_compl]
   ·cases b<;>simp[h1,h2,h3,hr,Tr.val_compl]
theorem Tr.val_merge(op:Int)(u:Tr)(hu:u.all LnQ.ok): ∀(t:Tr) (c:aan) (p:PtQ),t.all LnQ.ok→acf c→InD c p→Off t.lns p→Off u.lns p→(t.mergeQ op u c).val p=opB op (t.val p) (u.val p)
 | .leaf b,c,p,_,hc,hp,_,ho=>u.val_choose op b c p hu hc hp ho
 | .node l x y,c,p,⟨hl,hx,hy⟩,hc,hp,ho,hou=>by
  rw[Tr.mergeQ]
  cases hb:abt c l.rev with
  |false=>
   rw[if_pos (show(!false)=true from rfl),Tr.val_merge op u hu x c p hx hc hp ho.x hou,Tr.val_pos (apE hc hl hb hp ho.l)]
  |true=>
   rw[if_neg (by decide)]
   cases hb2:abt c l with
   |false=>rw[if_pos (show(!false)=true from rfl),Tr.val_merge op u hu y c p hy hc hp ho.y hou,Tr.val_neg (apw hc hl hb2 hp)]
   |true=>
    rw[if_neg (by decide),Tr.val_join]
    obtain⟨g1,i1⟩:=abQ hc hl hb2
    obtain⟨g2,i2⟩:=abQ hc hl.rev hb
    by_cases h:0<l.value p
    ·rw[Tr.val_pos h,Tr.val_pos h,Tr.val_merge op u hu x _ p hx g1 ((i1 p).2 ⟨hp,h⟩) ho.x hou]
    ·rw[Tr.val_neg h,Tr.val_neg h,Tr.val_merge op u hu y _ p hy g2 ((i2 p).2 ⟨hp,by rw[aaY];have:=ho.l;grind⟩) ho.y hou]
theorem apS: ∀(L:List LnQ) (u:PtQ) (p:PtQ),Off L p→ ∃e:Rat,0<e∧ ∀d,0≤d→d≤e→Off L (aeF p u d)
 |[],u,p,_=>⟨1,by decide,fun d _ _ l hl=>by cases hl⟩
 |l::L,u,p,h=>by
  obtain⟨e,he,hm⟩:=apS L u p (h.sub fun m hm=>aX _ hm)
  have h0:=h l aQ
  have key: ∃f:Rat,0<f∧ ∀d,0≤d→d≤f→l.value (aeF p u d)≠0:=by
   by_cases hk:l.nor.dot u=0
   ·exact⟨1,by decide,fun d _ _=>by rw[aci,hk];grind⟩
   ·generalize hA:l.value p=A at*
    generalize hB:l.nor.dot u=B at*
    rcases abk A with h|h|h
    ·exact absurd h h0
    ·rcases abk B with k|k|k
     ·exact absurd k hk
     ·exact⟨1,by decide,fun d hd _=>by rw[aci,hA,hB];have:=aal hd (gN k);grind⟩
     ·refine⟨A/(-B)/2,?_,fun d hd h2=>?_⟩
      ·have:0<A/(-B):=by
        have e1:A/(-B)*(-B)=A:=by grind
        exact(aaD (k:= -B) (by grind)).1 (by rw[e1];exact h)
       grind
      ·rw[aci,hA,hB]
       have e1:A/(-B)*(-B)=A:=by grind
       generalize A/(-B)=q at*
       have h4:=aal (a:=q/2-d) (b:= -B) (by grind) (by grind)
       grind
    ·rcases abk B with k|k|k
     ·exact absurd k hk
     ·refine⟨(-A)/B/2,?_,fun d hd h2=>?_⟩
      ·have:0<(-A)/B:=by
        have e1:(-A)/B*B= -A:=by grind
        exact(aaD (k:=B) k).1 (by rw[e1];grind)
       grind
      ·rw[aci,hA,hB]
       have e1:(-A)/B*B= -A:=by grind
       generalize (-A)/B=q at*
       have h4:=aal (a:=q/2-d) (b:=B) (by grind) (by grind)
       grind
     ·exact⟨1,by decide,fun d hd _=>by rw[aci,hA,hB];have:=aal hd (b:= -B) (by grind);grind⟩
  obtain⟨f,hf,hk⟩:=key
  refine⟨if e≤f then e else f,by split<;>assumption,fun d hd hde m hm'=>?_⟩
  have h1:d≤e∧d≤f:=by split at hde<;>grind
  rcases aT.1 hm' with rfl|hm'
  ·exact hk d hd h1.2
  ·exact hm d hd h1.1 m hm'
theorem apF{c:aan}{p:PtQ}(hp:InD c p): ∀(L:List LnQ),(∀l∈L,l.ok)→ ∃q,InD c q∧Off L q
 |[],_=>⟨p,hp,fun l hl=>by cases hl⟩
 |l::L,h=>by
  obtain⟨q,hq,ho⟩:=apF hp L fun m hm=>h m (aX _ hm)
  by_cases h0:l.value q=0
  ·have hn:=ahP (h l aQ).ne
   obtain⟨e,he,hm⟩:=hq.open l.nor
   obtain⟨f,hf,hk⟩:=apS L l.nor q ho
   refine⟨aeF q l.nor (if e≤f then e else f),hm _ (by split<;>grind) (by split<;>grind),fun m hm'=>?_⟩
   rcases aT.1 hm' with rfl|hm'
   ·rw[aci,h0]
    have:=aad (a:=if e≤f then e else f) (b:=m.nor.dot m.nor) (by split<;>assumption) hn
    grind
   ·exact hk _ (by split<;>grind) (by split<;>grind) m hm'
  ·exact⟨q,hq,fun m hm=>by rcases aT.1 hm with rfl|hm;exact h0;exact ho m hm⟩
def Tr.Red:Tr→aan→Prop
 | .leaf _,_=>True
 | .node l x y,c=>abt c l=true∧abt c l.rev=true∧x.Red (aaR c l)∧y.Red (aaR c l.rev)∧ ¬(x.isLeaf=true∧y.isLeaf=true∧x.code=y.code)
theorem Tr.red_leaf{t:Tr}(h:t.isLeaf=true)(c:aan):t.Red c:=by
 cases t with
 |leaf b=>trivial
 |node l x y=>cases h
theorem Tr.join_red{l:LnQ}{x y:Tr}{c:aan}(h1:abt c l=true)(h2:abt c l.rev=true)(hx:x.Red (aaR c l))(hy:y.Red (aaR c l.rev)):(Tr.joinQ l x y).Red c:=by
 rcases Tr.joinQ_cases l x y with⟨e,h⟩|⟨e,h⟩
 ·rw[e];exact Tr.red_leaf h c
 ·rw[e];exact⟨h1,h2,hx,hy,h⟩
theorem Tr.restrict_red: ∀(t:Tr) (c:aan),(t.restrict c).Red c
 | .leaf _,_=>trivial
 | .node l x y,c=>by
  cases hb:abt c l.rev with
  |false=>rw[Tr.restrict_A _ _ hb];exact x.restrict_red c
  |true=>
   cases hb2:abt c l with
   |false=>rw[Tr.restrict_B _ _ hb hb2];exact y.restrict_red c
   |true=>rw[Tr.restrict_C _ _ hb hb2];exact Tr.join_red hb2 hb (x.restrict_red _) (y.restrict_red _)
theorem Tr.compl_leaf{t:Tr}:t.compl.isLeaf=t.isLeaf:=by cases t<;>rfl
theorem Tr.compl_code{t:Tr}(h:t.isLeaf=true):t.compl.code=!t.code:=by
 cases t with
 |leaf b=>rfl
 |node l x y=>cases h
theorem Tr.compl_red: ∀{t:Tr} {c:aan},t.Red c→t.compl.Red c
 | .leaf _,_,_=>trivial
 | .node l x y,c,⟨h1,h2,h3,h4,h5⟩=>by
  refine⟨h1,h2,Tr.compl_red h3,Tr.compl_red h4,fun⟨a,b,e⟩=>?_⟩
  rw[Tr.compl_leaf] at a b
  rw[Tr.compl_code a,Tr.compl_code b] at e
  exact h5 ⟨a,b,by simpa using e⟩
theorem Tr.choose_red(op:Int)(b:Bool)(t:Tr)(c:aan):(t.chooseQ op b c).Red c:=by
 have h:=t.restrict_red c
 unfold Tr.chooseQ
 split
 ·split
  ·trivial
  ·exact h
 ·split
  ·trivial
  ·split
   ·exact Tr.compl_red h
   ·exact h
theorem Tr.merge_red(op:Int)(u:Tr): ∀(t:Tr) (c:aan),(t.mergeQ op u c).Red c
 | .leaf b,c=>u.choose_red op b c
 | .node l x y,c=>by
  rw[Tr.mergeQ]
  cases hb:abt c l.rev with
  |false=>rw[if_pos (show(!false)=true from rfl)];exact Tr.merge_red op u x c
  |true=>
   rw[if_neg (by decide)]
   cases hb2:abt c l with
   |false=>rw[if_pos (show(!false)=true from rfl)];exact Tr.merge_red op u y c
   |true=>rw[if_neg (by decide)];exact Tr.join_red hb2 hb (Tr.merge_red op u x _) (Tr.merge_red op u y _)
theorem az0(p:PtQ):InD [] p:=fun s hs=>(by cases hs)
def LnQ.same(l m:LnQ):Prop:=m=l∨m=l.rev
instance (l m:LnQ):Decidable (l.same m):=inferInstanceAs (Decidable (_∨_))
def Tr.cnt(l:LnQ):Tr→Nat
 | .leaf _=>0
 | .node m x y=>(if l.same m then 1 else 0)+(x.cnt l+y.cnt l)
theorem ais{l m:LnQ}(h:l.same m){p:PtQ}(hp:l.value p=0):m.value p=0:=by
 rcases h with rfl|rfl
 ·exact hp
 ·rw[aaY,hp];rfl
def azg(l:LnQ)(c:aan):Prop:= ∃p,InD c p∧l.value p=0
theorem Tr.cnt_zero{l:LnQ}: ∀{t:Tr} {c:aan},t.Red c→t.all LnQ.ok→acf c→ ¬azg l c→t.cnt l=0
 | .leaf _,_,_,_,_,_=>rfl
 | .node m x y,c,⟨h1,h2,h3,h4,_⟩,⟨hm,hx,hy⟩,hc,hn=>by
  obtain⟨g1,i1⟩:=abQ hc hm h1
  obtain⟨g2,i2⟩:=abQ hc hm.rev h2
  have e1:=Tr.cnt_zero (l:=l) h3 hx g1 (fun⟨p,hp,h0⟩=>hn ⟨p,((i1 p).1 hp).1,h0⟩)
  have e2:=Tr.cnt_zero (l:=l) h4 hy g2 (fun⟨p,hp,h0⟩=>hn ⟨p,((i2 p).1 hp).1,h0⟩)
  rw[Tr.cnt,e1,e2]
  by_cases hs:l.same m
  ·exfalso
   -- m crosses the cell
   obtain⟨p,hp,k1⟩:=(aeO hc hm).1 h1
   obtain⟨q,hq,k2⟩:=(aeO hc hm.rev).1 h2
   rw[aaY] at k2
   generalize hA:m.value p=A at*
   generalize hB:m.value q=B at*
   have hAB:0<A-B:=by grind
   have e:A/(A-B)*(A-B)=A:=by grind
   generalize A/(A-B)=r at*
   have r0:0≤r:=(aat hAB).1 (by rw[e];exact gN k1)
   have r1:r≤1:=by
    have:=(aat (s:=1-r) hAB).1 (by grind)
    grind
   have hz:=hp.seg hq r0 r1
   have hv:m.value (ara p q r)=0:=by rw[ac1,hA,hB];grind
   refine hn ⟨_,hz,?_⟩
   rcases hs with rfl|rfl
   ·exact hv
   ·rw[aaY] at hv;grind
  ·rw[if_neg hs]
def inB(c:aan)(p:PtQ):Bool:=c.all fun s=>decide (0<s.l.value p)
theorem aeI{c:aan}{p:PtQ}:inB c p=true↔InD c p:=by
 unfold inB InD;rw[gJ];simp
def ayi(P:List PtQ)(l:LnQ)(t:Tr):Prop:=t.all fun m=>l.same m∨ ∀p,l.value p=0→m.value p=0→p∈P
theorem aiZ{α:Type}{p q r:α→Bool}: ∀(P:List α),(∀x∈P,q x=true→p x=true)→(∀x∈P,r x=true→p x=true)→(∀x∈P,¬(q x=true∧r x=true))→P.countP q+P.countP r≤P.countP p
 |[],_,_,_=>bZ _
 |x::P,h1,h2,h3=>by
  have ih:=aiZ (p:=p) (q:=q) (r:=r) P (fun y hy=>h1 y (aX _ hy)) (fun y hy=>h2 y (aX _ hy)) (fun y hy=>h3 y (aX _ hy))
  have a:=h1 x aQ
  have b:=h2 x aQ
  have c:=h3 x aQ
  rw[nR,nR,nR]
  cases hq:q x<;>cases hr:r x<;>simp_all<;>omega
theorem aiE{α:Type}{p q r:α→Bool}: ∀(P:List α),(∀x∈P,q x=true→p x=true)→(∀x∈P,r x=true→p x=true)→(∀x∈P,¬(q x=true∧r x=true))→(∃x∈P,p x=true∧q x=false∧r x=false)→P.countP q+P.countP r+1≤P.countP p
 |[],_,_,_,⟨x,hx,_⟩=>by cases hx
 |x::P,h1,h2,h3,h4=>by
  have i2:=aiZ (p:=p) (q:=q) (r:=r) P (fun y hy=>h1 y (aX _ hy)) (fun y hy=>h2 y (aX _ hy)) (fun y hy=>h3 y (aX _ hy))
  have a:=h1 x aQ
  have b:=h2 x aQ
  have c:=h3 x aQ
  rw[nR,nR,nR]
  obtain⟨z,hz,k1,k2,k3⟩:=h4
  rcases aT.1 hz with rfl|hz
  ·simp only[k1,k2,k3];simp;omega
  ·have ih:=aiE (p:=p) (q:=q) (r:=r) P (fun y hy=>h1 y (aX _ hy)) (fun y hy=>h2 y (aX _ hy)) (fun y hy=>h3 y (aX _ hy)) ⟨z,hz,k1,k2,k3⟩
   cases hq:q x<;>cases hr:r x<;>simp_all<;>omega
theorem Tr.cnt_le{l:LnQ}(hl:l.ok){P:List PtQ}: ∀{t:Tr} {c:aan},t.Red c→t.all LnQ.ok→acf c→ayi P l t→t.cnt l≤1+P.countP (inB c)
 | .leaf _,_,_,_,_,_=>bX _
 | .node m x y,c,⟨h1,h2,h3,h4,_⟩,⟨hm,hx,hy⟩,hc,⟨v0,v1,v2⟩=>by
  obtain⟨g1,i1⟩:=abQ hc hm h1
  obtain⟨g2,i2⟩:=abQ hc hm.rev h2
  have q1: ∀p∈P,inB (aaR c m) p=true→inB c p=true:=fun p _ h=>aeI.2 ((i1 p).1 (aeI.1 h)).1
  have q2: ∀p∈P,inB (aaR c m.rev) p=true→inB c p=true:=fun p _ h=>aeI.2 ((i2 p).1 (aeI.1 h)).1
  have q3: ∀p∈P,¬(inB (aaR c m) p=true∧inB (aaR c m.rev) p=true):=fun p _ ⟨a,b⟩=>by
   have a:=((i1 p).1 (aeI.1 a)).2
   have b:=((i2 p).1 (aeI.1 b)).2
   rw[aaY] at b;grind
  have ct:=aiZ P q1 q2 q3
  rw[Tr.cnt]
  by_cases hs:l.same m
  ·have e1:=Tr.cnt_zero (l:=l) h3 hx g1 (fun⟨p,hp,h0⟩=>by have:=((i1 p).1 hp).2;rw[ais hs h0] at this;grind)
   have e2:=Tr.cnt_zero (l:=l) h4 hy g2 (fun⟨p,hp,h0⟩=>by have:=((i2 p).1 hp).2;rw[aaY,ais hs h0] at this;grind)
   rw[e1,e2,if_pos hs];omega
  ·rw[if_neg hs]
   have b1:=Tr.cnt_le hl h3 hx g1 v1
   have b2:=Tr.cnt_le hl h4 hy g2 v2
   by_cases w1:azg l (aaR c m)
   ·by_cases w2:azg l (aaR c m.rev)
    ·-- the crossing lies in the cell
     obtain⟨p,hp,k1⟩:=w1
     obtain⟨q,hq,k2⟩:=w2
     obtain⟨hp,ap⟩:=(i1 p).1 hp
     obtain⟨hq,aq⟩:=(i2 q).1 hq
     rw[aaY] at aq
     generalize hA:m.value p=A at*
     generalize hB:m.value q=B at*
     have hAB:0<A-B:=by grind
     have e:A/(A-B)*(A-B)=A:=by grind
     generalize A/(A-B)=r at*
     have r0:0≤r:=(aat hAB).1 (by rw[e];exact gN ap)
     have r1:r≤1:=by
      have:=(aat (s:=1-r) hAB).1 (by grind)
      grind
     have hz:=hp.seg hq r0 r1
     have hv:m.value (ara p q r)=0:=by rw[ac1,hA,hB];grind
     have hv2:l.value (ara p q r)=0:=by rw[ac1,k1,k2];grind
     have hmem:ara p q r∈P:=by
      rcases v0 with h|h
      ·exact absurd h hs
      ·exact h _ hv2 hv
     have c3:=aiE P q1 q2 q3 ⟨_,hmem,aeI.2 hz,by
      rw[←lL,aeI,i1];rintro ⟨_,h⟩;rw[hv] at h;grind,by
      rw[←lL,aeI,i2];rintro ⟨_,h⟩;rw[aaY,hv] at h;grind⟩
     omega
    ·rw[Tr.cnt_zero h4 hy g2 w2];omega
   ·rw[Tr.cnt_zero h3 hx g1 w1];omega
theorem arT(l:LnQ):l.rev.rev=l:=by cases l;simp[LnQ.rev]
theorem LnQ.same.symm{l m:LnQ}(h:l.same m):m.same l:=by
 rcases h with rfl|rfl
 ·exact .inl rfl
 ·exact .inr (arT l).symm
theorem LnQ.same.trans{l m n:LnQ}(h:l.same m)(k:m.same n):l.same n:=by
 rcases h with rfl|rfl
 ·exact k
 ·rcases k with rfl|rfl
  ·exact .inr rfl
  ·exact .inl (arT l)
def adC(K:List LnQ)(t:Tr):Prop:=t.all fun n=> ∃m∈K,m.same n
def aqA(l m:LnQ):PtQ:=l.at (-(l.cutC m/l.cutK m))
theorem ao1{l m:LnQ}(hl:l.ok)(hm:m.ok){p:PtQ}(h1:l.value p=0)(h2:m.value p=0):l.same m∨p=aqA l m:=by
 obtain⟨t,rfl⟩:=axw hl.ne h1
 rw[afn] at h2
 by_cases hk:l.cutK m=0
 ·left
  have hc:l.cutC m=0:=by rw[hk] at h2;grind
  rcases agT hm hl (fun s=>by rw[afn,hk,hc];grind) with h|h
  ·exact .inl h
  ·exact .inr h
 ·right
  unfold aqA
  congr 1
  grind
theorem adC.covers{K:List LnQ}(hK: ∀m∈K,m.ok){l:LnQ}(hl:l.ok): ∀{t:Tr},adC K t→ayi (K.map (aqA l)) l t
 | .leaf _,_=>trivial
 | .node n x y,⟨⟨m,hm,hs⟩,h1,h2⟩=>by
  refine⟨?_,adC.covers hK hl h1,adC.covers hK hl h2⟩
  by_cases h:l.same n
  ·exact .inl h
  ·right
   intro p k1 k2
   rcases ao1 hl (hK m hm) k1 (ais hs.symm k2) with h3|h3
   ·exact absurd (h3.trans hs) h
   ·rw[h3];exact pK hm
def Kc(t:Tr):List LnQ→Nat
 |[]=>0
 |l::K=>t.cnt l+Kc t K
def Ks(n:LnQ):List LnQ→Nat
 |[]=>0
 |l::K=>(if l.same n then 1 else 0)+Ks n K
theorem atn{n:LnQ}{x y:Tr}: ∀K,Kc (.node n x y) K=Ks n K+(Kc x K+Kc y K)
 |[]=>rfl
 |l::K=>by
  have:=atn (n:=n) (x:=x) (y:=y) K
  show(Tr.node n x y).cnt l+Kc (.node n x y) K=_
  rw[this,Tr.cnt]
  show _=(if l.same n then 1 else 0)+Ks n K+(x.cnt l+Kc x K+(y.cnt l+Kc y K))
  omega
theorem ayd{n m:LnQ}(hs:m.same n): ∀{K:List LnQ},m∈K→1≤Ks n K
 |[],h=>by cases h
 |l::K,h=>by
  show 1≤(if l.same n then 1 else 0)+Ks n K
  rcases aT.1 h with rfl|h
  ·rw[if_pos hs];omega
  ·have:=ayd hs h;omega
theorem aok{K:List LnQ}: ∀{t:Tr},adC K t→t.size≤Kc t K
 | .leaf _,_=>bX _
 | .node n x y,⟨⟨m,hm,hs⟩,h1,h2⟩=>by
  have a:=aok h1
  have b:=aok h2
  have c:=ayd hs hm
  rw[atn,Tr.size];omega
theorem aDA{t:Tr}{B:Nat}: ∀{K:List LnQ},(∀l∈K,t.cnt l≤B)→Kc t K≤K.length*B
 |[],_=>bX _
 |l::K,h=>by
  have:=aDA (t:=t) (B:=B) (K:=K) fun m hm=>h m (aX _ hm)
  have:=h l aQ
  show t.cnt l+Kc t K≤(K.length+1)*B
  rw[fM];omega
theorem Tr.size_le{K:List LnQ}(hK: ∀m∈K,m.ok){t:Tr}{c:aan}(hr:t.Red c)(ht:t.all LnQ.ok)(hc:acf c)(h:adC K t):t.size≤K.length*(1+K.length):=by
 refine cV (aok h) (aDA fun l hl=>?_)
 refine cV (Tr.cnt_le (hK l hl) hr ht hc (h.covers hK (hK l hl))) ?_
 have:=List.countP_le_length (p:=inB c) (l:=K.map (aqA l))
 rw[aJ] at this
 omega
theorem awQ{K:List LnQ}{t:Tr}(h: ∀l∈t.lns,l∈K):adC K t:=acB.2 fun l hl=>⟨l,h l hl, .inl rfl⟩
theorem adC.mono{K M:List LnQ}{t:Tr}(h:adC K t)(k: ∀l∈K,∃m∈M,m.same l):adC M t:=acB.2 fun l hl=>by
 obtain⟨m,hm,hs⟩:=acB.1 h l hl
 obtain⟨n,hn,hs2⟩:=k m hm
 exact⟨n,hn,hs2.trans hs⟩
theorem adC.restrict{K:List LnQ}{t:Tr}(h:adC K t)(c:aan):adC K (t.restrict c):=t.restrict_all _ c h
theorem adC.compl{K:List LnQ}{t:Tr}(h:adC K t):adC K t.compl:=t.compl_all _ h
theorem adC.merge{K:List LnQ}{op:Int}{t u:Tr}(h:adC K t)(hu:adC K u)(c:aan):adC K (t.mergeQ op u c):=Tr.mergeQ_all _ op hu t c h
theorem Tr.merge_size{K:List LnQ}(hK: ∀m∈K,m.ok){op:Int}{a b:Tr}(ha:a.all LnQ.ok)(hb:b.all LnQ.ok)(ka:adC K a)(kb:adC K b):(a.mergeQ op b []).size≤K.length*(1+K.length):=
 Tr.size_le hK (Tr.merge_red op b a []) (Tr.mergeQ_all LnQ.ok op hb a [] ha) acf.nil (ka.merge kb [])
def Tr.chooseL(op:Int)(b:Bool)(t:Tr)(c:List LnQ):Tr:=
 if op=1∧b=true then .leaf true
 else if(op=2∨op=3)∧b=false then .leaf false
 else if(op=3∨op=4)∧b=true then(t.restrictL c).compl else t.restrictL c
def Tr.mergeL(op:Int):Tr→Tr→List LnQ→Tr
 | .leaf b,u,c=>u.chooseL op b c
 | .node l x y,u,c=>if ad5 c l=1 then x.mergeL op u c else if ad5 c l= -1 then y.mergeL op u c else joinQ l (x.mergeL op u (abZ (c++[l]))) (y.mergeL op u (abZ (c++[l.rev])))
theorem Tr.chooseL_eq{op:Int}(ho:1≤op∧op≤4)(b:Bool)(t:Tr)(c:List LnQ)(d:aan)(ht:t.all LnQ.ok)(hc: ∀l∈c,l.ok)(hd:acf d)(he: ∀p,InD d p↔InL c p):t.chooseL op b c=t.chooseQ op b d:=by
 have h:=t.restrictL_eq c d ht hc hd he
 unfold Tr.chooseL Tr.chooseQ
 rw[h]
 have:op=1∨op=2∨op=3∨op=4:=by omega
 rcases this with rfl|rfl|rfl|rfl<;>cases b<;>simp
theorem Tr.mergeL_eq{op:Int}(ho:1≤op∧op≤4)(u:Tr)(hu:u.all LnQ.ok): ∀(t:Tr) (c:List LnQ) (d:aan),t.all LnQ.ok→(∀l∈c,l.ok)→acf d→(∀p,InD d p↔InL c p)→t.mergeL op u c=t.mergeQ op u d
 | .leaf b,c,d,_,hc,hd,he=>u.chooseL_eq ho b c d hu hc hd he
 | .node l x y,c,d,h,hc,hd,he=>by
  obtain⟨hl,hx,hy⟩:=h
  have i1:=agu (acm hc hl)
  have i2:=agu (acm hc hl.rev)
  obtain⟨p0,hp0⟩:=hd.ne
  rcases lies hd hl with⟨a1,a⟩|⟨a1,a2,a⟩|⟨a1,a2,ag1,ag2,ae1,ae2⟩
  ·have b1:acI (c++[l])=true:=i1.2 ⟨p0,acj.2 ⟨(he p0).1 hp0,a p0 hp0⟩⟩
   have b2:acI (c++[l.rev])=false:=by
    rw[←lL,i2]
    rintro ⟨p,hp⟩
    have hp:=acj.1 hp
    have:=a p ((he p).2 hp.1)
    rw[aaY] at hp
    grind
   rw[Tr.mergeQ,a1,if_pos (show(!false)=true from rfl),Tr.mergeL,ad5,b1,b2]
   exact Tr.mergeL_eq ho u hu x c d hx hc hd he
  ·have b2:acI (c++[l.rev])=true:=i2.2 ⟨p0,acj.2 ⟨(he p0).1 hp0,by rw[aaY];have:=a p0 hp0;grind⟩⟩
   have b1:acI (c++[l])=false:=by
    rw[←lL,i1]
    rintro ⟨p,hp⟩
    have hp:=acj.1 hp
    have:=a p ((he p).2 hp.1)
    grind
   rw[Tr.mergeQ,a1,a2,if_neg (by decide),if_pos (show(!false)=true from rfl),Tr.mergeL,ad5,b1,b2]
   exact Tr.mergeL_eq ho u hu y c d hy hc hd he
  ·have n1: ∃p,InL (c++[l]) p:=by
    obtain⟨p,hp⟩:=ag1.ne
    exact⟨p,acj.2 ⟨(he p).1 ((ae1 p).1 hp).1,((ae1 p).1 hp).2⟩⟩
   have n2: ∃p,InL (c++[l.rev]) p:=by
    obtain⟨p,hp⟩:=ag2.ne
    exact⟨p,acj.2 ⟨(he p).1 ((ae2 p).1 hp).1,by rw[aaY];have:=((ae2 p).1 hp).2;grind⟩⟩
   rw[Tr.mergeQ,a1,a2,if_neg (by decide),if_neg (by decide),Tr.mergeL,ad5,i1.2 n1,i2.2 n2]
   have k1:=Tr.mergeL_eq ho u hu x (abZ (c++[l])) (aaR d l) hx (fun m hm=>acm hc hl m (acJ.1 hm).1) ag1 fun p=>by
    rw[agy (acm hc hl) n1,ae1,acj,he]
   have k2:=Tr.mergeL_eq ho u hu y (abZ (c++[l.rev])) (aaR d l.rev) hy (fun m hm=>acm hc hl.rev m (acJ.1 hm).1) ag2 fun p=>by
    rw[agy (acm hc hl.rev) n2,ae2,acj,he,aaY]
    constructor<;>rintro ⟨a,b⟩<;>exact⟨a,by grind⟩
   rw[k1,k2]
   rfl
theorem aAn(p:PtQ):InD [] p↔InL [] p:=by unfold InD InL;simp
theorem Tr.mergeL_nil{op:Int}(ho:1≤op∧op≤4){t u:Tr}(ht:t.all LnQ.ok)(hu:u.all LnQ.ok):t.mergeL op u []=t.mergeQ op u []:=
 Tr.mergeL_eq ho u hu t [] [] ht (fun l hl=>by cases hl) acf.nil aAn
theorem atW{op:Int}{a b:Tr}(hd:a.depth+b.depth≤1024)(hs:(a.mergeQ op b []).size≤65536):aj7 op a b=some (a.mergeQ op b []):=by
 unfold aj7
 rw[if_neg (by omega),if_neg (by omega)]
theorem Tr.mergeQ_depth(op:Int)(u:Tr): ∀(t:Tr) (c:aan),(t.mergeQ op u c).depth≤t.depth+u.depth
 | .leaf b,c=>by
  have:=u.restrict_depth c
  have h2:=(u.restrict c).compl_depth
  show(u.chooseQ op b c).depth≤_
  unfold Tr.chooseQ
  split
  ·split
   ·exact bX _
   ·simp only[Tr.depth];omega
  ·split
   ·exact bX _
   ·split
    ·simp only[Tr.depth];omega
    ·simp only[Tr.depth];omega
 | .node l x y,c=>by
  have hx:=fun c=>Tr.mergeQ_depth op u x c
  have hy:=fun c=>Tr.mergeQ_depth op u y c
  rw[Tr.mergeQ]
  simp only[Tr.depth]
  split
  ·have:=hx c;omega
  ·split
   ·have:=hy c;omega
   ·have h1:=hx (aaR c l)
    have h2:=hy (aaR c l.rev)
    rcases Tr.joinQ_cases l (x.mergeQ op u (aaR c l)) (y.mergeQ op u (aaR c l.rev)) with⟨h,_⟩|⟨h,_⟩<;>rw[h]<;>(try simp only[Tr.depth])<;>omega
structure Gen (L:List LnQ) (a b:Tr):Prop where
 oa:a.all LnQ.ok
 ob:b.all LnQ.ok
 ok: ∀l∈L,l.ok
 la: ∀l∈a.lns,l∈L
 lb: ∀l∈b.lns,l∈L
def amc(x:Rat):List Rat→List Rat
 |[]=>[x]
 |u::t=>if u<x then u::amc x t else if u=x then u::t else x::u::t
def ach(l:List Rat):List Rat:=l.foldl (fun out x=>amc x out) []
def aeD:List Rat→List Rat
 |a::b::t=>(a+b)/2::aeD (b::t)
 |_=>[]
def aaZ:List Rat→List Rat
 |[]=>[0]
 |a::t=>(a-1)::(aeD (a::t)++[(a::t).getLast (by simp)+1])
theorem acR{x y:Rat}: ∀{l:List Rat},y∈amc x l↔y=x∨y∈l
 |[]=>by simp[amc]
 |u::t=>by
  rw[amc]
  split
  ·rw[aT,acR (l:=t),aT];grind
  ·split
   ·rename_i h;subst h;simp
   ·simp
theorem afD{x:Rat}: ∀{l:List Rat},l.Pairwise (· < ·)→(amc x l).Pairwise (· < ·)
 |[],_=>by simp[amc]
 |u::t,h=>by
  rw[bS] at h
  rw[amc]
  split
  ·rename_i hu
   rw[bS]
   refine⟨fun y hy=>?_,afD h.2⟩
   rcases acR.1 hy with rfl|hy
   ·exact hu
   ·exact h.1 y hy
  ·rename_i hu
   split
   ·rw[bS];exact h
   ·rename_i hn
    have hx:x<u:=by grind
    rw[bS,bS]
    refine⟨fun y hy=>?_,h⟩
    rcases aT.1 hy with rfl|hy
    ·exact hx
    ·have:=h.1 y hy;grind
theorem aBB{l:List Rat}: ∀{o:List Rat},o.Pairwise (· < ·)→(l.foldl (fun out x=>amc x out) o).Pairwise (· < ·)∧ ∀y,y∈l.foldl (fun out x=>amc x out) o↔y∈l∨y∈o:=by
 induction l with
 |nil=>intro o h;exact⟨h,fun y=>by simp⟩
 |cons x t ih=>
  intro o h
  obtain⟨h1,h2⟩:=ih (afD (x:=x) h)
  refine⟨h1,fun y=>?_⟩
  rw[jL,h2,acR,aT]
  grind
theorem amn(l:List Rat):(ach l).Pairwise (· < ·):=(aBB (l:=l) List.Pairwise.nil).1
theorem aew{l:List Rat}{y:Rat}:y∈ach l↔y∈l:=by
 have:=(aBB (l:=l) List.Pairwise.nil).2 y
 simpa[ach] using this
theorem aqa{g:Rat}: ∀{l:List Rat},l.Pairwise (· < ·)→g∈aeD l→g∉l∧(∃a∈l,a<g)∧ ∃b∈l,g<b
 |[],_,h=>by cases h
 |[_],_,h=>by cases h
 |a::b::t,h,hg=>by
  rw[bS] at h
  have hab:=h.1 b aQ
  rw[aeD] at hg
  rcases aT.1 hg with rfl|hg
  ·refine⟨fun hm=>?_,⟨a,aQ,by grind⟩,b,aX _ aQ,by grind⟩
   rcases aT.1 hm with e|hm
   ·grind
   ·rcases aT.1 hm with e|hm
    ·grind
    ·have h2:=h.2
     rw[bS] at h2
     have:=h2.1 _ hm
     grind
  ·obtain⟨k1,⟨c,hc,k2⟩,d,hd,k3⟩:=aqa h.2 hg
   refine⟨fun hm=>?_,⟨c,aX _ hc,k2⟩,d,aX _ hd,k3⟩
   rcases aT.1 hm with e|hm
   ·have:=h.1 c hc;grind
   ·exact k1 hm
theorem arP: ∀{l:List Rat} (h:l.Pairwise (· < ·)) (hn:l≠[]),∀y∈l,y≤l.getLast hn
 |[a],_,_,y,hy=>by rw[aR] at hy;subst hy;exact kU
 |a::b::t,h,_,y,hy=>by
  rw[bS] at h
  rw[List.getLast_cons (by simp)]
  have ih:=arP h.2 (by simp)
  rcases aT.1 hy with rfl|hy
  ·have:=h.1 b aQ
   have:=ih b aQ
   grind
  ·exact ih y hy
theorem ao5{l:List Rat}(h:l.Pairwise (· < ·)){g:Rat}(hg:g∈aaZ l):g∉l:=by
 cases l with
 |nil=>simp
 |cons a t=>
  rw[aaZ] at hg
  rcases aT.1 hg with rfl|hg
  ·intro hm
   rcases aT.1 hm with e|hm
   ·grind
   ·rw[bS] at h;have:=h.1 _ hm;grind
  ·rcases bV.1 hg with hg|hg
   ·exact(aqa h hg).1
   ·rw[aR] at hg
    intro hm
    have:=arP h (by simp) g hm
    grind
def xsQ:List LnQ→List Rat
 |[]=>[]
 |a::t=>(if a.b=0 then [a.base.x] else [])++(t.filterMap (fun b=>if crossI a b=0 then none else some (acM a b).x)++xsQ t)
def yA(a:LnQ)(x:Rat):Rat:= -(((a.a:Rat)*x+(a.c:Rat))/(a.b:Rat))
def ysQ(l:List LnQ)(x:Rat):List Rat:=l.filterMap fun a=>if a.b=0 then none else some (yA a x)
def adW(l:List LnQ):List PtQ:=(aaZ (ach (xsQ l))).flatMap fun x=>(aaZ (ach (ysQ l x))).map fun y=>⟨x,y⟩
theorem arC{a:LnQ}: ∀{l:List LnQ},a∈l→a.b=0→a.base.x∈xsQ l
 |[],h,_=>by cases h
 |c::t,h,hb=>by
  rw[xsQ]
  rcases aT.1 h with rfl|h
  ·rw[if_pos hb];exact bN _ aQ
  ·exact cJ _ (cJ _ (arC h hb))
theorem aC4{a:LnQ}(h:a.b≠0)(x y:Rat):a.value ⟨x,y⟩=(a.b:Rat)*(y-yA a x):=by
 have hb:(a.b:Rat)≠0:=fun e=>h (cY.1 e)
 unfold yA
 rw[adO]
 show(a.a:Rat)*x+(a.b:Rat)*y+(a.c:Rat)=_
 grind
theorem avn{a:LnQ}(hn:a.Ne)(h:a.b=0)(x y:Rat):a.value ⟨x,y⟩=(a.a:Rat)*(x-a.base.x):=by
 have ha:(a.a:Rat)≠0:=fun e=>hn ⟨cY.1 e,h⟩
 obtain⟨q,hq,hb⟩:=anf hn
 rw[hb,adO]
 show(a.a:Rat)*x+(a.b:Rat)*y+(a.c:Rat)=(a.a:Rat)*(x-(a.a:Rat)*q)
 simp only[LnQ.nor,PtQ.dot] at hq
 rw[h] at hq⊢
 have:((0:Int):Rat)=0:=rfl
 rw[this] at hq⊢
 grind
theorem aB2{l:List LnQ}{a:LnQ}(h:a∈l)(hb:a.b≠0)(x:Rat):yA a x∈ysQ l x:=List.mem_filterMap.2 ⟨a,h,by rw[if_neg hb]⟩
theorem aEU{l:List LnQ}{x y:Rat}(h:y∈ysQ l x): ∃a∈l,a.b≠0∧y=yA a x:=by
 obtain⟨a,ha,e⟩:=List.mem_filterMap.1 h
 split at e
 ·cases e
 ·rename_i hb;cases e;exact⟨a,ha,hb,rfl⟩
theorem anL{l:List LnQ}{p:PtQ}:p∈adW l↔p.x∈aaZ (ach (xsQ l))∧p.y∈aaZ (ach (ysQ l p.x)):=by
 unfold adW
 rw[nS]
 constructor
 ·rintro ⟨x,hx,hp⟩
  obtain⟨y,hy,rfl⟩:=bR.1 hp
  exact⟨hx,hy⟩
 ·rintro ⟨h1,h2⟩
  exact⟨p.x,h1,bR.2 ⟨p.y,h2,rfl⟩⟩
theorem atV{l:List LnQ}(hok: ∀a∈l,a.Ne){p:PtQ}(hp:p∈adW l):Off l p:=by
 obtain⟨h1,h2⟩:=anL.1 hp
 have k1:=ao5 (amn _) h1
 have k2:=ao5 (amn _) h2
 rw[aew] at k1 k2
 obtain⟨x,y⟩:=p
 intro a ha h0
 by_cases hb:a.b=0
 ·rw[avn (hok a ha) hb] at h0
  have ha0:(a.a:Rat)≠0:=fun e=>hok a ha ⟨cY.1 e,hb⟩
  apply k1
  have:x=a.base.x:=by
   rcases Rat.mul_eq_zero.1 h0 with h|h
   ·exact absurd h ha0
   ·grind
  show x∈_
  rw[this];exact arC ha hb
 ·rw[aC4 hb] at h0
  have hb0:(a.b:Rat)≠0:=fun e=>hb (cY.1 e)
  apply k2
  have:y=yA a x:=by
   rcases Rat.mul_eq_zero.1 h0 with h|h
   ·exact absurd h hb0
   ·grind
  show y∈ysQ l x
  rw[this];exact aB2 ha hb x
def aFB(l:LnQ)(p:PtQ):LnQ:=if 0<l.value p then l else l.rev
end Go.Sx
end
