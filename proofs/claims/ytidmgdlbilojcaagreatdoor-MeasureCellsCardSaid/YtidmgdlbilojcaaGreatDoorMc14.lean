import Derived.Test.YtidmgdlbilojcaaGreatDoorMc13
import Derived.WalkKit
import Derived.LaidEql
import Derived.Stop.Asserts
import Derived.RowKitTokens
set_option linter.unusedSimpArgs false
set_option maxHeartbeats 2000000
set_option maxRecDepth 100000
set_option linter.unusedVariables false
section
namespace Go.Sx
open Go Go.Proofs Tryz
def afS(n:Nat)(f:Nat→Bool):List Value:=(List.range n).map fun j=> .bool (f j)
def aod(f:Nat→Bool)(i:Nat):Nat→Bool:=fun j=>f j||Nat.beq j i
theorem ajW(n:Nat)(f:Nat→Bool):(afS n f).length=n:=by simp[afS]
theorem agY{n i:Nat}{f:Nat→Bool}{b:Bool}(h:i<n)(hf:f i=b):(afS n f)[i]? =some (.bool b):=by simp[afS,h,hf]
theorem aiY{f:Nat→Bool}{i j:Nat}(e:j≠i):aod f i j=f j:=by
 unfold aod
 cases hb:Nat.beq j i with
 |false=>rw[Bool.or_false]
 |true=>exact absurd (aL hb) e
theorem asN{f:Nat→Bool}{i:Nat}:aod f i i=true:=by
 unfold aod;rw[oY,Bool.or_true]
theorem an8(n i:Nat)(f:Nat→Bool):(afS n f).set i (.bool true)=afS n (aod f i):=by
 apply kS
 intro j
 rw[lM]
 simp only[afS,aK,List.length_range,cJ]
 by_cases hj:j<n
 ·rw[sV hj]
  simp only[kJ]
  by_cases e:i=j
  ·subst e;simp[hj,asN]
  ·rw[aiY (fun h=>e h.symm)];simp[e]
 ·rw[dJ (by simpa using hj)]
  by_cases e:i=j
  ·subst e;simp[hj]
  ·simp[e]
theorem aoU(n:Nat):abH (.bool false) n=afS n (fun _=>false):=by
 apply kS
 intro j
 by_cases hj:j<n
 ·rw[agY hj rfl]
  unfold abH
  rw[afh (aag (.bool false)) n j (by simpa[aag] using hj)]
  simp[aag,Nat.mod_one]
 ·rw[dJ (by rw[ab0];simp[aag];omega),dJ (by rw[ajW];omega)]
structure RN where
 g:RL
 l:Int
 r:Int
def RN.d(n:RN):DV:= .ag [.v (.bool n.g.na),dLi n.g.da, .v (.bool n.g.nb),dLi n.g.db, .v (.bool n.g.nc),dLi n.g.dc, .v (.int .i64 n.l), .v (.int .i64 n.r)]
structure RS where
 f:Nat→Bool
 c:Nat
 b:Bool
inductive RR (ns:List RN):Int→RS→Tr→RS→Prop where
 |leaf (b:Bool) (s:RS):RR ns (ac6 b) s (.leaf b) s
 |bad (rt:Int) (s:RS) (h1:rt≠ -1) (h2:rt≠ -2) (h:rt<0∨(ns.length:Int)≤rt∨(∃k:Nat,rt=k∧k<ns.length∧s.f k=true)):RR ns rt s (.leaf false) ⟨s.f,s.c,true⟩
 |line (k:Nat) (n:RN) (s:RS) (h:ns[k]? =some n) (hf:s.f k=false) (hl:n.g.ln=none):RR ns (k:Int) s (.leaf false) ⟨aod s.f k,s.c+1,true⟩
 |node (k:Nat) (n:RN) (l:LnQ) (s s2 s3:RS) (x y:Tr) (h:ns[k]? =some n) (hf:s.f k=false) (hl:n.g.ln=some l) (h1:RR ns n.l ⟨aod s.f k,s.c+1,s.b⟩ x s2) (h2:RR ns n.r s2 y s3):RR ns (k:Int) s (.node l x y) s3
theorem RR.mono{ns:List RN}{rt:Int}{s s':RS}{t:Tr}(h:RR ns rt s t s'):s.c≤s'.c:=by
 induction h with
 |leaf=>exact aM _
 |bad=>exact aM _
 |line=>exact Nat.le_succ _
 |node k n l s s2 s3 x y h hf hl h1 h2 i1 i2=>simp only at i1;omega
theorem at0{G:Gh}{q:Rat}{v:Value}(h:Is G (fp_ q) v): ∃p,v= .pointer p:=by
 rcases ao8.1 h with⟨_,h⟩|⟨_,h⟩
 ·exact⟨_,h⟩
 ·obtain⟨b,m,h,_⟩:=akb.1 h;exact⟨_,h⟩
theorem aDO{G:Gh}{l:LnQ}{v:Value}(h:Is G (eLn l) v): ∃n1 d1 p1 n2 d2 p2 n3 d3 p3,v= .agg ⟨[.int .i64 n1, .int .i64 d1, .pointer p1, .int .i64 n2, .int .i64 d2, .pointer p2, .int .i64 n3, .int .i64 d3, .pointer p3]⟩:=by
 obtain⟨m,rfl,g⟩:=ab4.1 h
 clear h
 obtain⟨v1,m,rfl,h1,h⟩:=aad.1 g
 obtain⟨v2,m,rfl,h2,h⟩:=aad.1 h
 obtain⟨v3,m,rfl,h3,h⟩:=aad.1 h
 obtain⟨v4,m,rfl,h4,h⟩:=aad.1 h
 obtain⟨v5,m,rfl,h5,h⟩:=aad.1 h
 obtain⟨v6,m,rfl,h6,h⟩:=aad.1 h
 obtain⟨v7,m,rfl,h7,h⟩:=aad.1 h
 obtain⟨v8,m,rfl,h8,h⟩:=aad.1 h
 obtain⟨v9,m,rfl,h9,h⟩:=aad.1 h
 rw[aaN] at h;subst h
 obtain⟨_,rfl⟩:=at0 h3
 obtain⟨_,rfl⟩:=at0 h6
 obtain⟨_,rfl⟩:=at0 h9
 rw[aaY.1 h1,aaY.1 h2,aaY.1 h4,aaY.1 h5,aaY.1 h7,aaY.1 h8]
 exact⟨_,_,_,_,_,_,_,_,_,rfl⟩
theorem ayY{G:Gh}{o:Option LnQ}{v:Value}(h:Is G (lnR o) v): ∃n1 d1 p1 n2 d2 p2 n3 d3 p3,v= .tuple #[.agg ⟨[.int .i64 n1, .int .i64 d1, .pointer p1, .int .i64 n2, .int .i64 d2, .pointer p2, .int .i64 n3, .int .i64 d3, .pointer p3]⟩, .bool o.isSome]∧
  ∀l,o=some l→Is G (eLn l) (.agg ⟨[.int .i64 n1, .int .i64 d1, .pointer p1, .int .i64 n2, .int .i64 d2, .pointer p2, .int .i64 n3, .int .i64 d3, .pointer p3]⟩):=by
 cases o with
 |some l=>
  obtain⟨m,rfl,g⟩:=aem.1 h
  obtain⟨v1,m,rfl,h1,h⟩:=aad.1 g
  obtain⟨v2,m,rfl,h2,h⟩:=aad.1 h
  rw[aaN] at h;subst h
  obtain⟨n1,d1,p1,n2,d2,p2,n3,d3,p3,rfl⟩:=aDO h1
  rw[aaY.1 h2]
  exact⟨n1,d1,p1,n2,d2,p2,n3,d3,p3,rfl,fun k e=>by cases e;exact h1⟩
 |none=>
  obtain⟨m,rfl,g⟩:=aem.1 h
  obtain⟨v1,m,rfl,h1,h⟩:=aad.1 g
  obtain⟨v2,m,rfl,h2,h⟩:=aad.1 h
  rw[aaN] at h;subst h
  clear g h
  obtain⟨m,rfl,g⟩:=ab4.1 h1
  obtain⟨w1,m,rfl,k1,h⟩:=aad.1 g
  obtain⟨w2,m,rfl,k2,h⟩:=aad.1 h
  obtain⟨w3,m,rfl,k3,h⟩:=aad.1 h
  obtain⟨w4,m,rfl,k4,h⟩:=aad.1 h
  obtain⟨w5,m,rfl,k5,h⟩:=aad.1 h
  obtain⟨w6,m,rfl,k6,h⟩:=aad.1 h
  obtain⟨w7,m,rfl,k7,h⟩:=aad.1 h
  obtain⟨w8,m,rfl,k8,h⟩:=aad.1 h
  obtain⟨w9,m,rfl,k9,h⟩:=aad.1 h
  rw[aaN] at h;subst h
  rw[aaY.1 k1,aaY.1 k2,aaY.1 k3,aaY.1 k4,aaY.1 k5,aaY.1 k6,aaY.1 k7,aaY.1 k8,aaY.1 k9]
  rw[aaY.1 h2]
  exact⟨_,_,_,_,_,_,_,_,_,rfl,fun k e=>by cases e⟩
theorem aCH{G:Gh}{n:RN}{v:Value}(h:Is G n.d v): ∃x1 x2 x3:SV,v= .agg ⟨[.bool n.g.na, .slice x1.a x1.n x1.c, .bool n.g.nb, .slice x2.a x2.n x2.c, .bool n.g.nc, .slice x3.a x3.n x3.c, .int .i64 n.l, .int .i64 n.r]⟩∧
  Is G n.g.d (.agg ⟨[.bool n.g.na, .slice x1.a x1.n x1.c, .bool n.g.nb, .slice x2.a x2.n x2.c, .bool n.g.nc, .slice x3.a x3.n x3.c]⟩):=by
 obtain⟨m,rfl,g⟩:=ab4.1 h
 clear h
 obtain⟨v1,m,rfl,h1,h⟩:=aad.1 g
 obtain⟨v2,m,rfl,h2,h⟩:=aad.1 h
 obtain⟨v3,m,rfl,h3,h⟩:=aad.1 h
 obtain⟨v4,m,rfl,h4,h⟩:=aad.1 h
 obtain⟨v5,m,rfl,h5,h⟩:=aad.1 h
 obtain⟨v6,m,rfl,h6,h⟩:=aad.1 h
 obtain⟨v7,m,rfl,h7,h⟩:=aad.1 h
 obtain⟨v8,m,rfl,h8,h⟩:=aad.1 h
 rw[aaN] at h;subst h
 obtain⟨_,x1,_,rfl,_,_⟩:=adZ.1 (id h2)
 obtain⟨_,x2,_,rfl,_,_⟩:=adZ.1 (id h4)
 obtain⟨_,x3,_,rfl,_,_⟩:=adZ.1 (id h6)
 cases aaY.1 h1;cases aaY.1 h3;cases aaY.1 h5;cases aaY.1 h7;cases aaY.1 h8
 exact⟨x1,x2,x3,rfl,ab4.2 ⟨_,rfl, .cons h1 (.cons h2 (.cons h3 (.cons h4 (.cons h5 (.cons h6 .nil)))))⟩⟩
theorem ajS{G:Gh}{t:Tr}{v:Value}(h:Is G (eU t) v): ∃p,v= .pointer p:=by
 obtain⟨b,m,h,_⟩:=akb.1 h;exact⟨_,h⟩
theorem PF.fn0{P:Program}{f:FuncId}{ds:List DV}{r:DV}(h: ∀{GB:Gh},PF GB P f ds r){G:Gh}{vs:List Value}(hv:IsLs G ds vs):Fn P f vs G (fun v G'=>Is G' r v):=h (GB:=G) G vs (GLe.refl G) hv
abbrev aHg (x:SV) (ns:List RN) (A:Gh):Prop:= ∃es,afe A 8 x es∧IsLs A (ns.map RN.d) es
theorem aAm{A:Gh}{ns:List RN}{x:SV}(hx:aHg x ns A)(hs: ∀n∈ns,n.g.sm)(hn:ns.length≤1000000){rt:Int}{s s':RS}{t:Tr}(h:RR ns rt s t s'): ∀{G:Gh} {rb sb:Nat} {lo lo2:Bool},[GL A G]→s'.c≤1000000→
  FnM prog 127 [.pointer (some ⟨rb,0,none⟩), .int .i64 rt] [⟨rb,[.slice x.a x.n x.c, .slice (some ⟨sb,0,none⟩) ns.length ns.length, .int .i64 s.c, .bool s.b],235,lo⟩,⟨sb,afS ns.length s.f,4,lo2⟩] G
   (fun v css G'=> ∃p,v= .pointer p∧Is G' (eU t) (.pointer p)∧css=[[.slice x.a x.n x.c, .slice (some ⟨sb,0,none⟩) ns.length ns.length, .int .i64 s'.c, .bool s'.b],afS ns.length s'.f]):=by
 obtain⟨es,hx,hes⟩:=hx
 have hel:=hes.len
 rw[aK] at hel
 have hlen:=hx.len
 rw[hel] at hlen
 obtain⟨xa,xn,xc⟩:=x
 simp only[] at hlen
 subst hlen
 induction h with
 |leaf bb s=>
  intro G rb sb lo lo2 _ hc
  refine FnM.intro func127 J J ntmps127 rfl ?_
  intro C _ _
  show St C _ _ [⟨rb,_,_,false⟩,⟨sb,_,_,false⟩] _ _
  cases bb
  case true=>
   refine sR<|sa J J<|zE<|aak<|aat<|sR<|sm J J<|sy (abZ J J) rfl<|sm J J<|ss J J J J<|ss J J J J<|?_
   refine sy (adb J J) rfl<|sa J J<|zE<|ac8 rfl<|sR<|sm J J<|sy (abZ J J) rfl<|?_
   refine sc (zC J J (PF.fn0 (ak7 (b:=true)) (.cons (aaY.2 rfl) .nil)) rfl ?_)
   rintro _ G1 _ hp
   obtain⟨p,rfl⟩:=ajS hp
   refine sa J J<|zE<|aaH<|?_
   exact ac4 (css:=[_,_]) (.tmp rfl .nil) rfl _ (List.Perm.refl _) (List.Sublist.refl _) ⟨p,rfl,hp,rfl⟩
  refine sR<|sa J J<|zE<|aak<|aat<|sR<|sm J J<|sy (abZ J J) rfl<|sm J J<|syg J J (aaP rfl) rfl<|syg J J (abZ J J) rfl<|?_
  refine sy (aby J J) rfl<|sa J J<|zE<|ac8 rfl<|sR<|sm J J<|sy (abZ J J) rfl<|?_
  refine sc (zC J J (PF.fn0 (ak7 (b:=false)) (.cons (aaY.2 rfl) .nil)) rfl ?_)
  rintro _ G1 _ hp
  obtain⟨p,rfl⟩:=ajS hp
  refine sa J J<|zE<|aaH<|?_
  exact ac4 (css:=[_,_]) (.tmp rfl .nil) rfl _ (List.Perm.refl _) (List.Sublist.refl _) ⟨p,rfl,hp,rfl⟩
 |bad rt s h1 h2 h=>
  intro G rb sb lo lo2 _ hc
  refine FnM.intro func127 J J ntmps127 rfl ?_
  intro C _ _
  show St C _ [(0, .pointer (some ⟨rb,0,none⟩)),(1, .int .i64 rt)] [⟨rb,[.slice xa ns.length xc, .slice (some ⟨sb,0,none⟩) ns.length ns.length, .int .i64 s.c, .bool s.b],_,false⟩,⟨sb,afS ns.length s.f,_,false⟩] _ _
  refine sR<|sa J J<|zE<|aak<|aat<|sR<|sm J J<|sy (abZ J J) rfl<|sm J J<|?_
  refine acb 12 rfl (fun hg=>absurd hg (by omega)) (fun hg=>?_)
  refine syg J J (aaP rfl) rfl<|syg J J (abZ J J) rfl<|sy (aby J J) rfl<|sa J J<|zE<|?_
  refine aaD rfl (fun hc=>absurd hc (by omega)) (fun _=>?_)
  refine sR<|sm J J<|sy (acp J J) rfl<|sm J J<|?_
  refine acb 22 rfl (fun hg=>?_) (fun hg=>?_)
  ·refine ss J J J J<|ss J J J J<|ss J J J J<|ss J J J J<|ss J J J J<|ss J J J J<|ss J J J J<|sy (adb J J) rfl<|sm J J<|ss J J J J<|ss J J J J<|?_
   refine ss J J J J<|ss J J J J<|ss J J J J<|ss J J J J<|ss J J J J<|sy (adb J J) rfl<|sa J J<|zE<|ac8 rfl<|aak<|?_
   refine aam<|sm J J<|sn J J<|sf J J<|?_
   refine sc (adz J J J (.hd ..) (nb rfl) J J ?_)
   refine zE<|sR<|?_
   refine sc (zC J J (PF.fn0 (ak7 (b:=false)) (.cons (aaY.2 rfl) .nil)) rfl ?_)
   rintro _ G1 _ hp
   obtain⟨p,rfl⟩:=ajS hp
   refine sa J J<|zE<|aaH<|?_
   exact ac4 (css:=[_,_]) (.tmp rfl .nil) rfl _ (List.Perm.refl _) (List.Sublist.refl _) ⟨p,rfl,hp,rfl⟩
  refine syg J J (aaP rfl) rfl<|syg J J (aaP rfl) rfl<|syg J J (aaT rfl) rfl<|syg J J (aaR rfl) rfl<|syg J J (aaB J J) rfl<|syg J J (aeZ rfl) rfl<|syg J J (ah6 J J) rfl<|sy (aby J J) rfl<|sm J J<|?_
  refine acb 31 rfl (fun hg=>?_) (fun hg=>?_)
  ·refine ss J J J J<|ss J J J J<|ss J J J J<|ss J J J J<|ss J J J J<|ss J J J J<|ss J J J J<|?_
   refine sy (adb J J) rfl<|sa J J<|zE<|ac8 rfl<|sR<|sm J J<|sn J J<|sf J J<|?_
   refine sc (adz J J J (.hd ..) (nb rfl) J J ?_)
   refine zE<|sR<|?_
   refine sc (zC J J (PF.fn0 (ak7 (b:=false)) (.cons (aaY.2 rfl) .nil)) rfl ?_)
   rintro _ G1 _ hp
   obtain⟨p,rfl⟩:=ajS hp
   refine sa J J<|zE<|aaH<|?_
   exact ac4 (css:=[_,_]) (.tmp rfl .nil) rfl _ (List.Perm.refl _) (List.Sublist.refl _) ⟨p,rfl,hp,rfl⟩
  obtain⟨k,rfl,hk,hf⟩: ∃k:Nat,rt=k∧k<ns.length∧s.f k=true:=by
   rcases h with h|h|h
   ·omega
   ·exact absurd h hg
   ·exact h
  refine syg J J (aaP rfl) rfl<|syg J J (aaT rfl) rfl<|syg J J (aaR rfl) rfl<|syg J J (aaB J J) rfl<|syg J J (aaP rfl) rfl<|syg J J (abj J J (by omega) (by omega)) rfl<|?_
  refine syg J J (aaB (v:= .bool true) rfl (by rw[bZ,iK];exact agY hk hf)) rfl<|sy (aby J J) rfl<|sa J J<|zE<|ac8 rfl<|?_
  refine sR<|sm J J<|sn J J<|sf J J<|?_
  refine sc (adz J J J (.hd ..) (nb rfl) J J ?_)
  refine zE<|sR<|?_
  refine sc (zC J J (PF.fn0 (ak7 (b:=false)) (.cons (aaY.2 rfl) .nil)) rfl ?_)
  rintro _ G1 _ hp
  obtain⟨p,rfl⟩:=ajS hp
  refine sa J J<|zE<|aaH<|?_
  exact ac4 (css:=[_,_]) (.tmp rfl .nil) rfl _ (List.Perm.refl _) (List.Sublist.refl _) ⟨p,rfl,hp,rfl⟩
 |line base n s h0 hfb hl=>
  intro G rb sb lo lo2 _ hc
  have hbn:base<ns.length:=(aS.1 h0).1
  simp only at hc
  obtain⟨z,hzi,hz⟩:=hes.get (i:=base) (d:=n.d) (by rw[cJ,h0];rfl)
  obtain⟨x1,x2,x3,rfl,hzg⟩:=aCH hz
  refine FnM.intro func127 J J ntmps127 rfl ?_
  intro C _ _
  show St C _ [(0, .pointer (some ⟨rb,0,none⟩)),(1, .int .i64 (base:Int))] [⟨rb,[.slice xa ns.length xc, .slice (some ⟨sb,0,none⟩) ns.length ns.length, .int .i64 s.c, .bool s.b],_,false⟩,⟨sb,afS ns.length s.f,_,false⟩] _ _
  refine sR<|sa J J<|zE<|aak<|aat<|sR<|sm J J<|sy (abZ J J) rfl<|sm J J<|?_
  refine acb 12 rfl (fun hg=>absurd hg (by omega)) (fun hg=>?_)
  refine syg J J (aaP rfl) rfl<|syg J J (abZ J J) rfl<|sy (aby J J) rfl<|sa J J<|zE<|?_
  refine aaD rfl (fun hc=>absurd hc (by omega)) (fun _=>?_)
  refine sR<|sm J J<|sy (acp J J) rfl<|sm J J<|?_
  refine acb 22 rfl (fun hg=>absurd hg (by omega)) (fun hg=>?_)
  refine syg J J (aaP rfl) rfl<|syg J J (aaP rfl) rfl<|syg J J (aaT rfl) rfl<|syg J J (aaR rfl) rfl<|syg J J (aaB J J) rfl<|syg J J (aeZ rfl) rfl<|syg J J (ah6 J J) rfl<|sy (aby J J) rfl<|sm J J<|?_
  refine acb 31 rfl (fun hg=>absurd hg (by omega)) (fun hg=>?_)
  refine syg J J (aaP rfl) rfl<|syg J J (aaT rfl) rfl<|syg J J (aaR rfl) rfl<|syg J J (aaB J J) rfl<|syg J J (aaP rfl) rfl<|syg J J (abj J J (by omega) (by omega)) rfl<|?_
  refine syg J J (aaB (v:= .bool false) rfl (by rw[bZ,iK];exact agY hbn hfb)) rfl<|sy (aby J J) rfl<|sa J J<|zE<|agK rfl<|zK<|?_
  refine sR<|sm J J<|sn J J<|sf J J<|axq J J J<|sm J J<|sy (abj J J (by omega) (by omega)) rfl<|?_
  refine sc (adH J J (.tl _ _ _ _ _ _ _ _ (.hd ..)) (by rw[ajW,bZ,iK];exact hbn) J J ?_)
  rw[bZ,iK,an8]
  refine zE<|sR<|sm J J<|sn J J<|sf J J<|axq J J J<|sy (aar J J) rfl<|sn J J<|sf J J<|?_
  refine sc (adz J J J (by repeat (first|exact .hd .. |apply agk.tl)) (nb rfl) J J ?_)
  rw[show(s.c:Int)+1=((s.c+1:Nat):Int) by omega]
  refine zE<|sR<|sm J J<|sn J J<|sf J J<|axq J J J<|sm J J<|sy (aAD (z:=⟨xa,ns.length,xc⟩) hx J J (by omega) (by show(base:Int)<(ns.length:Int);omega)) rfl<|?_
  rw[bZ]
  refine sy (ayq (i:=base) hx rfl (by rw[hel];exact hbn) hzi) rfl<|?_
  refine sc (ag9 rfl ?_)
  intro b5
  refine sc (agn J J J (by repeat (first|exact .hd .. |apply agk.tl)) rfl (nb rfl) J J ?_)
  refine zE<|sR<|sf J J<|slo J J J<|?_
  refine sc (zC J J (PF.fn0 (avu (hs n (aU h0))) (.cons (hzg.up GL.le) .nil)) rfl ?_)
  rintro _ G6 _ hw
  rw[hl] at hw
  obtain⟨n1,d1,p1,n2,d2,p2,n3,d3,p3,rfl,hw⟩:=ayY hw
  refine sm J J<|sx J J J<|sx J J J<|?_
  refine sc (ag9 rfl ?_)
  intro b6
  refine sc (agn J J J (by repeat (first|exact .hd .. |apply agk.tl)) rfl (nb rfl) J J ?_)
  refine sa J J<|zE<|aak<|sR<|sm J J<|sy (aq5 rfl) rfl<|zE<|ac8 rfl<|?_
  refine sR<|sm J J<|sn J J<|sf J J<|?_
  refine sc (adz J J J (by repeat (first|exact .hd .. |apply agk.tl)) (nb rfl) J J ?_)
  refine zE<|sR<|?_
  refine sc (zC J J (PF.fn0 (ak7 (b:=false)) (.cons (aaY.2 rfl) .nil)) rfl ?_)
  rintro _ G7 _ hp
  obtain⟨p,rfl⟩:=ajS hp
  refine sa J J<|zE<|aaH<|?_
  exact ac4 (css:=[_,_]) (.tmp rfl .nil) rfl _ (List.perm_append_comm (l₁:=[_,_]) (l₂:=[_,_])) (.cons_cons _ (.cons_cons _ (kY _))) ⟨p,rfl,hp,rfl⟩
 |node base n l s s2 s3 tx ty h0 hfb hl h1 h2 ih1 ih2=>
  intro G rb sb lo lo2 _ hc
  have hbn:base<ns.length:=(aS.1 h0).1
  have hm1:=h1.mono
  have hm2:=h2.mono
  simp only at hm1
  obtain⟨z,hzi,hz⟩:=hes.get (i:=base) (d:=n.d) (by rw[cJ,h0];rfl)
  obtain⟨x1,x2,x3,rfl,hzg⟩:=aCH hz
  refine FnM.intro func127 J J ntmps127 rfl ?_
  intro C _ _
  show St C _ [(0, .pointer (some ⟨rb,0,none⟩)),(1, .int .i64 (base:Int))] [⟨rb,[.slice xa ns.length xc, .slice (some ⟨sb,0,none⟩) ns.length ns.length, .int .i64 s.c, .bool s.b],_,false⟩,⟨sb,afS ns.length s.f,_,false⟩] _ _
  refine sR<|sa J J<|zE<|aak<|aat<|sR<|sm J J<|sy (abZ J J) rfl<|sm J J<|?_
  refine acb 12 rfl (fun hg=>absurd hg (by omega)) (fun hg=>?_)
  refine syg J J (aaP rfl) rfl<|syg J J (abZ J J) rfl<|sy (aby J J) rfl<|sa J J<|zE<|?_
  refine aaD rfl (fun hc=>absurd hc (by omega)) (fun _=>?_)
  refine sR<|sm J J<|sy (acp J J) rfl<|sm J J<|?_
  refine acb 22 rfl (fun hg=>absurd hg (by omega)) (fun hg=>?_)
  refine syg J J (aaP rfl) rfl<|syg J J (aaP rfl) rfl<|syg J J (aaT rfl) rfl<|syg J J (aaR rfl) rfl<|syg J J (aaB J J) rfl<|syg J J (aeZ rfl) rfl<|syg J J (ah6 J J) rfl<|sy (aby J J) rfl<|sm J J<|?_
  refine acb 31 rfl (fun hg=>absurd hg (by omega)) (fun hg=>?_)
  refine syg J J (aaP rfl) rfl<|syg J J (aaT rfl) rfl<|syg J J (aaR rfl) rfl<|syg J J (aaB J J) rfl<|syg J J (aaP rfl) rfl<|syg J J (abj J J (by omega) (by omega)) rfl<|?_
  refine syg J J (aaB (v:= .bool false) rfl (by rw[bZ,iK];exact agY hbn hfb)) rfl<|sy (aby J J) rfl<|sa J J<|zE<|agK rfl<|zK<|?_
  refine sR<|sm J J<|sn J J<|sf J J<|axq J J J<|sm J J<|sy (abj J J (by omega) (by omega)) rfl<|?_
  refine sc (adH J J (.tl _ _ _ _ _ _ _ _ (.hd ..)) (by rw[ajW,bZ,iK];exact hbn) J J ?_)
  rw[bZ,iK,an8]
  refine zE<|sR<|sm J J<|sn J J<|sf J J<|axq J J J<|sy (aar J J) rfl<|sn J J<|sf J J<|?_
  refine sc (adz J J J (by repeat (first|exact .hd .. |apply agk.tl)) (nb rfl) J J ?_)
  rw[show(s.c:Int)+1=((s.c+1:Nat):Int) by omega]
  refine zE<|sR<|sm J J<|sn J J<|sf J J<|axq J J J<|sm J J<|sy (aAD (z:=⟨xa,ns.length,xc⟩) hx J J (by omega) (by show(base:Int)<(ns.length:Int);omega)) rfl<|?_
  rw[bZ]
  refine sy (ayq (i:=base) hx rfl (by rw[hel];exact hbn) hzi) rfl<|?_
  refine sc (ag9 rfl ?_)
  intro b5
  refine sc (agn J J J (by repeat (first|exact .hd .. |apply agk.tl)) rfl (nb rfl) J J ?_)
  refine zE<|sR<|sf J J<|slo J J J<|?_
  refine sc (zC J J (PF.fn0 (avu (hs n (aU h0))) (.cons (hzg.up GL.le) .nil)) rfl ?_)
  rintro _ G6 _ hw
  rw[hl] at hw
  obtain⟨n1,d1,p1,n2,d2,p2,n3,d3,p3,rfl,hw'⟩:=ayY hw
  replace hw:=hw' l rfl
  refine sm J J<|sx J J J<|sx J J J<|?_
  refine sc (ag9 rfl ?_)
  intro b6
  refine sc (agn J J J (by repeat (first|exact .hd .. |apply agk.tl)) rfl (nb rfl) J J ?_)
  refine sa J J<|zE<|aak<|sR<|sm J J<|sy (aq5 rfl) rfl<|zE<|agK rfl<|zK<|?_
  refine sR<|sm J J<|sf J J<|axq J J J<|?_
  have hrp:=ih1 (G:=G6) (rb:=rb) (sb:=sb) (lo:=false) (lo2:=false) (by omega)
  refine sc (aiy J J (List.perm_append_comm (l₁:=[_,_]) (l₂:=[_,_])) hrp rfl ?_)
  rintro _ css G7 _ _ ⟨q1,rfl,hp1,rfl⟩
  show St C _ _ [⟨rb,[.slice xa ns.length xc, .slice (some ⟨sb,0,none⟩) ns.length ns.length, .int .i64 s2.c, .bool s2.b],235,false⟩,⟨sb,afS ns.length s2.f,4,false⟩,⟨b6,[.int .i64 n1, .int .i64 d1, .pointer p1, .int .i64 n2, .int .i64 d2, .pointer p2, .int .i64 n3, .int .i64 d3, .pointer p3],108,true⟩,⟨b5,[.bool n.g.na, .slice x1.a x1.n x1.c, .bool n.g.nb, .slice x2.a x2.n x2.c, .bool n.g.nc, .slice x3.a x3.n x3.c, .int .i64 n.l, .int .i64 n.r],182,true⟩] _ _
  refine sa J J<|zE<|aak<|?_
  refine drS [⟨b6,[.int .i64 n1, .int .i64 d1, .pointer p1, .int .i64 n2, .int .i64 d2, .pointer p2, .int .i64 n3, .int .i64 d3, .pointer p3],108,true⟩,⟨b5,[.bool n.g.na, .slice x1.a x1.n x1.c, .bool n.g.nb, .slice x2.a x2.n x2.c, .bool n.g.nc, .slice x3.a x3.n x3.c, .int .i64 n.l, .int .i64 n.r],182,true⟩] (fun _=>false) [(0,true),(1,true),(2,true),(3,true),(4,true),(5,false),(6,false),(7,true)] follows (by kernel_rfl)<|?_
  refine dL J J J J<|dM J J J<|dM J J J<|dF J J J<|dL1 J J J J<|?_
  have hrp:=ih2 (G:=G7) (rb:=rb) (sb:=sb) (lo:=false) (lo2:=false) hc
  refine dc J J (aiy J J (M:=[_,_]) (rest:=[_,_]) (List.Perm.refl _) hrp rfl ?_)
  rintro _ css G8 _ _ ⟨q2,rfl,hp2,rfl⟩
  show St C _ _ [⟨rb,[.slice xa ns.length xc, .slice (some ⟨sb,0,none⟩) ns.length ns.length, .int .i64 s3.c, .bool s3.b],235,false⟩,⟨sb,afS ns.length s3.f,4,false⟩,⟨b6,[.int .i64 n1, .int .i64 d1, .pointer p1, .int .i64 n2, .int .i64 d2, .pointer p2, .int .i64 n3, .int .i64 d3, .pointer p3],108,true⟩,⟨b5,[.bool n.g.na, .slice x1.a x1.n x1.c, .bool n.g.nb, .slice x2.a x2.n x2.c, .bool n.g.nc, .slice x3.a x3.n x3.c, .int .i64 n.l, .int .i64 n.r],182,true⟩] _ _
  refine aBY<|?_
  refine dc J J (zC J J (PF.fn0 (aGI (l:=l) (x:=tx) (y:=ty)) (.cons (hw.up GL.le) (.cons (hp1.up GL.le) (.cons hp2 .nil)))) rfl ?_)
  rintro _ G9 _ hp
  obtain⟨p,rfl⟩:=ajS hp
  refine aBY<|dA J J J<|dn<|aaH<|?_
  exact ac4 (css:=[_,_]) (.tmp rfl .nil) rfl _ (List.Perm.refl _) (.cons_cons _ (.cons_cons _ (kY _))) ⟨p,rfl,hp,rfl⟩
def rs0:RS:=⟨fun _=>false,0,false⟩
def ofD(ns:List RN)(t:Tr)(s:RS):DV:=if s.b=false∧s.c=ns.length then .tp [eU t,vB true] else .tp [.v (.pointer none),vB false]
def eRT(rt:Int)(ns:List RN):DV:= .ag [vI rt, .sl (ns.map RN.d)]
theorem aIl{GB:Gh}{ns:List RN}{rt:Int}{t:Tr}{s:RS}(hs: ∀n∈ns,n.g.sm)(hn:ns.length≤65536)(h:RR ns rt rs0 t s)(hc:s.c≤1000000):PF GB prog 64 [eRT rt ns] (ofD ns t s):=by
 intro G vs _ hv
 obtain⟨v0,m,rfl,h0,hm⟩:=aad.1 hv
 rw[aaN] at hm;subst hm
 obtain⟨m,rfl,g⟩:=ab4.1 h0
 obtain⟨v1,m,rfl,h1,hm⟩:=aad.1 g
 obtain⟨v2,m,rfl,h2,hm⟩:=aad.1 hm
 rw[aaN] at hm;subst hm
 obtain⟨s0,x,es,rfl,hsl,hes⟩:=adZ.1 h2
 rw[aaY.1 h1]
 have hel:=hes.len
 rw[aK] at hel
 have hlen:=hsl.len
 rw[hel] at hlen
 have hx:aHg x ns G:=by
  refine⟨es,?_,hes⟩
  rcases afo (s:=8) hsl hes (fun d hd=>by obtain⟨n,_,rfl⟩:=bJ.1 hd;exact⟨rfl,rfl⟩) with e|e
  ·exact⟨hsl.len,hsl.cap, .inl e⟩
  ·rw[e] at hsl;exact hsl
 obtain⟨xa,xn,xc⟩:=x
 simp only[] at hlen
 subst hlen
 show Fn _ _ [.agg ⟨[.int .i64 rt, .slice xa ns.length xc]⟩] _ _
 refine Fn.intro func64 J J ntmps64 rfl ?_
 intro C _ _
 refine sR<|?_
 refine sc (auM J J ?_)
 intro b1
 refine sa J J<|sa J J<|zE<|aak<|sR<|sf J J<|axq J J J<|adn J J<|sy (agL J J) rfl<|zE<|?_
 refine aaD rfl (fun hc=>absurd hc (by omega)) (fun _=>?_)
 refine zK<|aak<|dr (fun _=>false) [(0,true),(1,true),(2,true),(3,true),(4,true),(5,false),(6,true),(7,false),(8,true)] follows (by kernel_rfl)<|dF J J J<|?_
 refine dL1 J J J J<|dF J J J<|dL1 J J J J<|dy rfl (fun _=>aeZ rfl) J J<|?_
 refine dc J J (aeN J J (by omega) (by omega) (by omega) (by rfl) rfl ?_)
 intro b2
 rw[bZ,aoU]
 refine aBY<|dy rfl (fun _=>alZ rfl) J J<|?_
 refine dc J J (auM J J ?_)
 intro b3
 refine aBY<|dA J J J<|dn<|sR<|sm J J<|sf J J<|axq J J J<|?_
 have hrp:=aAm hx hs (by omega) h (G:=G) (rb:=b3) (sb:=b2) (lo:=true) (lo2:=true) hc
 refine sc (aiy J J (M:=[_,_]) (rest:=[_]) (List.Perm.refl _) hrp rfl ?_)
 rintro _ css G4 _ _ ⟨p,rfl,hp,rfl⟩
 show St C _ _ [⟨b3,[.slice xa ns.length xc, .slice (some ⟨b2,0,none⟩) ns.length ns.length, .int .i64 s.c, .bool s.b],235,true⟩,⟨b2,afS ns.length s.f,4,true⟩,⟨b1,[.int .i64 rt, .slice xa ns.length xc],25,true⟩] _ _
 refine sa J J<|zE<|aak<|aak<|dr (fun _=>false) [(0,true),(1,true),(2,true),(3,true),(4,true),(5,true),(6,true),(7,true),(8,true),(9,true),(10,true),(11,true),(12,true),(13,true)] follows (by kernel_rfl)<|?_
 obtain⟨sf_,sc_,sb_⟩:=s
 cases sb_
 case true=>
  refine dM J J J<|dy rfl (fun _=>aaT rfl) J J<|dF J J J<|dL1 J J J J<|dM J J J<|?_
  refine dys J J J J J J<|dys J J J J J J<|dys J J J J J J<|dys J J J J J J<|dys J J J J J J<|dys J J J J J J<|?_
  refine dys J J J J J J<|dys J J J J J J<|dy rfl (fun _=>adb J J) J J<|dn<|ac8 rfl<|?_
  refine sR<|sa J J<|sa J J<|zE<|aaH<|?_
  refine zD (.tmp rfl (.tmp rfl .nil)) ?_
  rw[ofD,if_neg (fun e=>by cases e.1)]
  exact aem.2 ⟨_,rfl, .cons (aaY.2 rfl) (.cons (aaY.2 rfl) .nil)⟩
 refine dM J J J<|dy rfl (fun _=>aaT rfl) J J<|dF J J J<|dL1 J J J J<|dM J J J<|?_
 refine dyg J J J J (fun _=>aaP rfl) rfl<|dyg J J J J (fun _=>aaT rfl) rfl<|dyg J J J J (fun _=>aaR rfl) rfl<|dyg J J J J (fun _=>aaB J J) rfl<|?_
 refine dyg J J J J (fun _=>aaR rfl) rfl<|dyg J J J J (fun _=>aaB J J) rfl<|dyg J J J J (fun _=>aeZ rfl) rfl<|dyg J J J J (fun _=>ahW J J) rfl<|?_
 refine dy rfl (fun _=>aby J J) J J<|dn<|?_
 refine aaD rfl (fun hc=>?_) (fun hc=>?_) -- slot 35
 ·refine sR<|sa J J<|sa J J<|zE<|aaH<|?_
  refine zD (.tmp rfl (.tmp rfl .nil)) ?_
  rw[ofD,if_neg (fun e=>hc (by have:=e.2;simp only at this;omega))]
  exact aem.2 ⟨_,rfl, .cons (aaY.2 rfl) (.cons (aaY.2 rfl) .nil)⟩
 refine zK<|sR<|sm J J<|sa J J<|sa J J<|zE<|aaH<|?_
 refine zD (.tmp rfl (.tmp rfl .nil)) ?_
 rw[ofD,if_pos ⟨rfl,by have h9:=hc;simp at h9;show sc_=_;omega⟩]
 exact aem.2 ⟨_,rfl, .cons hp (.cons (aaY.2 rfl) .nil)⟩

def Tr.pre:Tr→List Tr
 | .leaf b=>[.leaf b]
 | .node l x y=> .node l x y::(x.pre++y.pre)
structure Vis (f:FuncId) (c2:List Value) (σ:Type) (step:σ→Tr→σ) (ok:σ→Tr→Prop) (Inv:σ→List Own→Gh→Prop):Prop where
 up: ∀{s B G G'},GLe G G'→Inv s B G→Inv s B G'
 re: ∀{s B G} (fl:Nat→Bool),Inv s B G→Inv s (B.map (relo fl)) G
 go: ∀{s t p B G},ok s t→Inv s B G→Is G (eU t) (.pointer p)→FnO prog f (.pointer p::c2) B G (fun _ B' G'=>Inv (step s t) B' G')
section
variable {P:Program} {C:Ctx} {n:Nat} {fr:Fr} {own:List Own} {G:Gh}
end
def ayM{σ:Type}(step:σ→Tr→σ)(ok:σ→Tr→Prop):σ→List Tr→Prop
 |_,[]=>True
 |s,t::ts=>ok s t∧ayM step ok (step s t) ts
structure EX (σ:Type) where
 ts:List Tr
 vs:List Value
 rest:List Value
 b:Nat
 cap:Nat
 lo:Bool
 s:σ
 B:List Own
def tsz(t:Tr):Nat:=2*t.size+1
def stk(ts:List Tr):List Tr:=ts.reverse.flatMap Tr.pre
structure EI (A:Gh) {σ:Type} (step:σ→Tr→σ) (ok:σ→Tr→Prop) (Inv:σ→List Own→Gh→Prop) (N:Nat) (fin:σ) (x:EX σ) (G:Gh):Prop where
 rel:axm (fun v t=> ∃p,v= .pointer p∧Is A (eU t) (.pointer p)) x.vs x.ts
 cap:x.vs.length+x.rest.length=x.cap
 inv:Inv x.s x.B G
 mu:(x.ts.map tsz).sum≤N
 okf:ayM step ok x.s (stk x.ts)
 fin:(stk x.ts).foldl step x.s=fin
def szI(nbk:Nat)(s:Nat)(B:List Own)(_:Gh):Prop:= ∃lo,B=[⟨nbk,[.int .i64 s],3,lo⟩]
def szS(s:Nat):Tr→Nat
 | .leaf _=>s
 | .node .. =>s+1
def ah7(n:Nat)(f:Nat→Bool):Nat:=((List.range n).filter fun j=>!f j).length
theorem arY{n k:Nat}{f:Nat→Bool}(hk:k<n)(hf:f k=false):ah7 n (aod f k)+1=ah7 n f:=by
 unfold ah7
 have key: ∀l:List Nat,l.Nodup→((l.filter fun j=>!aod f k j).length+(if k∈l then 1 else 0)=(l.filter fun j=>!f j).length):=fun l=>by
  induction l with
  |nil=>intro _;rfl
  |cons a l ih=>
   intro hn
   obtain⟨h1,h2⟩:=List.nodup_cons.1 hn
   have:=ih h2
   by_cases e:a=k
   ·subst e
    simp only[pW,asN,hf,aT,true_or,if_true] at this⊢
    rw[if_neg h1] at this
    simp at this⊢
    omega
   ·have e': ¬k=a:=fun h=>e h.symm
    simp only[pW,aiY e,aT,e',false_or] at this⊢
    cases f a<;>simp at this⊢ <;>omega
 have:=key (List.range n) List.nodup_range
 rwa [if_pos (lT.2 hk)] at this
def rdF(ns:List RN):Nat→Int→RS→Tr×RS
 |0,_,s=>(.leaf false,s)
 |m+1,rt,s=>
  if rt= -1 then(.leaf false,s) else if rt= -2 then(.leaf true,s) else
  match ns[rt.toNat]? with
  |none=>(.leaf false,⟨s.f,s.c,true⟩)
  |some n=>if rt<0∨s.f rt.toNat=true then(.leaf false,⟨s.f,s.c,true⟩) else
   match n.g.ln with
   |none=>(.leaf false,⟨aod s.f rt.toNat,s.c+1,true⟩)
   |some l=>let a:=rdF ns m n.l ⟨aod s.f rt.toNat,s.c+1,s.b⟩;let b:=rdF ns m n.r a.2;(.node l a.1 b.1,b.2)
theorem aqC{ns:List RN}: ∀{m:Nat} {rt:Int} {s:RS},ah7 ns.length s.f<m→RR ns rt s (rdF ns m rt s).1 (rdF ns m rt s).2∧(rdF ns m rt s).2.c+ah7 ns.length (rdF ns m rt s).2.f=s.c+ah7 ns.length s.f
 |0,_,_,h=>absurd h (Nat.not_lt_zero _)
 |m+1,rt,s,h=>by
  rw[rdF]
  split
  ·rename_i e;subst e;exact⟨.leaf false s,rfl⟩
  rename_i e1
  split
  ·rename_i e;subst e;exact⟨.leaf true s,rfl⟩
  rename_i e2
  split
  ·rename_i hn
   have:=List.getElem?_eq_none_iff.1 hn
   exact⟨.bad rt s e1 e2 (by omega),rfl⟩
  rename_i n hn
  have hlt:=(aS.1 hn).1
  split
  ·rename_i hb
   refine⟨.bad rt s e1 e2 ?_,rfl⟩
   rcases hb with hb|hb
   ·exact .inl hb
   ·by_cases h0:rt<0
    ·exact .inl h0
    ·exact .inr (.inr ⟨rt.toNat,by omega,hlt,hb⟩)
  rename_i hb
  obtain⟨k,rfl⟩: ∃k:Nat,rt=k:=⟨rt.toNat,by omega⟩
  rw[bZ] at hn hlt hb⊢
  have hf:s.f k=false:=by
   cases hh:s.f k with
   |false=>rfl
   |true=>exact absurd (Or.inr hh) hb
  have hu:=arY hlt hf
  split
  ·rename_i hl;exact⟨.line k n s hn hf hl,by simp only;omega⟩
  rename_i l hl
  have h1:=aqC (ns:=ns) (m:=m) (rt:=n.l) (s:=⟨aod s.f k,s.c+1,s.b⟩) (by simp only;omega)
  have hc:=h1.1.mono
  simp only at h1 hc
  have h2:=aqC (ns:=ns) (m:=m) (rt:=n.r) (s:=(rdF ns m n.l ⟨aod s.f k,s.c+1,s.b⟩).2) (by omega)
  exact⟨.node k n l s _ _ _ _ hn hf hl h1.1 h2.1,by have:=h1.2;have:=h2.2;dsimp only;omega⟩
def ofQ(ns:List RN)(rt:Int):Option Tr:=
 let r:=rdF ns (ns.length+1) rt rs0
 if r.2.b=false∧r.2.c=ns.length then some r.1 else none
def ofR:Option Tr→DV
 |some t=> .tp [eU t,vB true]
 |none=> .tp [.v (.pointer none),vB false]
theorem ajY(n:Nat)(f:Nat→Bool):ah7 n f≤n:=by
 unfold ah7
 refine cW (kZ _ _) ?_
 rw[List.length_range];exact aM _
theorem aGi{GB:Gh}{ns:List RN}{rt:Int}(hs: ∀n∈ns,n.g.sm)(hn:ns.length≤65536):PF GB prog 64 [eRT rt ns] (ofR (ofQ ns rt)):=by
 have h:=aqC (ns:=ns) (m:=ns.length+1) (rt:=rt) (s:=rs0) (by have:=ajY ns.length rs0.f;omega)
 have hu:=ajY ns.length rs0.f
 have h0:rs0.c=0:=rfl
 have h2:=aIl (GB:=GB) hs hn h.1 (by have:=h.2;omega)
 unfold ofD at h2
 unfold ofQ
 simp only
 split
 ·rename_i e;rw[if_pos e] at h2;exact h2
 ·rename_i e;rw[if_neg e] at h2;exact h2
end Go.Sx
end
section
namespace Go.Sx
open Go Go.Proofs Go.RowKit Go.Extern.Stop Go.Stop Go.Extern
def aIS:TypeId→Sem Value:=fun t=>do Go.Extern.Rtype.noPackHeld "Comparable" t;pure (.bool (←typeInfo t).comparable)
def aD7(a:Addr):DV:= .v (.iface 405 (.pointer (some a)))
end Go.Sx
end
section
namespace Go.Sx
open Go Go.Proofs Tryz
variable {GB:Gh}
structure EG (GB:Gh) (ai al ae:Addr):Prop where
 ErrInvalid:GB 2=some [.iface 405 (.pointer (some ai))]
 ErrLimit:GB 4=some [.iface 405 (.pointer (some al))]
structure EGE (GB:Gh) (ai al ae:Addr):Prop extends EG GB ai al ae where
 ErrEmpty:GB 0=some [.iface 405 (.pointer (some ae))]
structure Tr.gd (t:Tr):Prop where
 lb:t.all LB
 ok:t.all LnQ.ok
theorem Tr.compl_all(p:LnQ→Prop): ∀t:Tr,t.all p→t.compl.all p
 | .leaf _,h=>h
 | .node l x y,⟨h0,h1,h2⟩=>⟨h0,x.compl_all p h1,y.compl_all p h2⟩
theorem Tr.compl_depth: ∀t:Tr,t.compl.depth=t.depth
 | .leaf _=>rfl
 | .node l x y=>by simp only[Tr.compl,Tr.depth,x.compl_depth,y.compl_depth]
theorem Tr.chooseQ_all(p:LnQ→Prop)(op:Int)(b:Bool)(t:Tr)(c:aae)(h:t.all p):(t.chooseQ op b c).all p:=by
 have:=t.restrict_all p c h
 unfold chooseQ
 split
 ·split
  ·trivial
  ·exact this
 ·split
  ·trivial
  ·split
   ·exact(t.restrict c).compl_all p this
   ·exact this
theorem Tr.mergeQ_all(p:LnQ→Prop)(op:Int){u:Tr}(hu:u.all p): ∀(t:Tr) (c:aae),t.all p→(t.mergeQ op u c).all p
 | .leaf b,c,_=>u.chooseQ_all p op b c hu
 | .node l x y,c,⟨h0,h1,h2⟩=>by
  rw[Tr.mergeQ]
  split
  ·exact Tr.mergeQ_all p op hu x c h1
  ·split
   ·exact Tr.mergeQ_all p op hu y c h2
   ·rcases Tr.joinQ_cases l (x.mergeQ op u (aaL c l)) (y.mergeQ op u (aaL c l.rev)) with⟨h,_⟩|⟨h,_⟩
    ·rw[h];exact Tr.mergeQ_all p op hu x _ h1
    ·rw[h];exact⟨h0,Tr.mergeQ_all p op hu x _ h1,Tr.mergeQ_all p op hu y _ h2⟩
def aHD(op:Int)(a b:Tr):Option Tr:=if 1024<a.depth+b.depth then none else if 65536<(a.mergeQ op b []).size then none else some (a.mergeQ op b [])
def aJb(al:Addr):Option Tr→DV
 |some t=> .tp [eU t, .v .nilIface]
 |none=> .tp [.v (.pointer none),aD7 al]
def aHH(op:Int):Tr→List Tr→Option Tr
 |t,[]=>some t
 |t,u::us=>match aHD op t u with
  |none=>none
  |some r=>aHH op r us
theorem aos{t:Tr}(h:t.gd)(c:aae):(t.restrict c).gd:=⟨t.restrict_all LB c h.lb,t.restrict_all LnQ.ok c h.ok⟩
theorem aGb{ns:List RN}{rt:Int}{t:Tr}(hs: ∀n∈ns,n.g.sm)(hn:ns.length≤65536)(h:ofQ ns rt=some t):PF GB prog 64 [eRT rt ns] (.tp [eU t,vB true]):=by
 have:=aGi (GB:=GB) (rt:=rt) hs hn;rw[h] at this;exact this
def trZ:DV:= .ag [vI 0, .sl []]
def aJq:Tr ⊕ Addr→DV
 | .inl t=> .tp [eA t, .v .nilIface]
 | .inr e=> .tp [trZ,aD7 e]
def aIr(ai:Addr):Option Tr→Tr ⊕ Addr
 |some t=> .inl t.compl
 |none=> .inr ai
def aHB(al:Addr):Option Tr→Tr ⊕ Addr
 |some t=> .inl t
 |none=> .inr al
def aHG(ai al:Addr)(op:Int):Option Tr→Option Tr→Tr ⊕ Addr
 |some a,some b=>if 1≤op∧op≤4 then aHB al (aHD op a b) else .inr ai
 |_,_=> .inr ai
abbrev TIn:=Int×List RN
def TIn.d(x:TIn):DV:=eRT x.1 x.2
def TIn.q(x:TIn):Option Tr:=ofQ x.2 x.1
def ofP:Option Tr→DV
 |some t=>eU t
 |none=> .v (.pointer none)
def aG0(op:Int)(ts:List TIn):Bool:=decide (1≤op∧op≤4)&&ts.all fun x=>x.q.isSome
def aJs(ai al ae:Addr)(op:Int)(ts:List TIn):Tr ⊕ Addr:=
 if aG0 op ts then(match ts.filterMap TIn.q with
  |[]=> .inr ae
  |a::us=>if 1024<a.depth then .inr al else aHB al (aHH op (a.restrict []) us)) else .inr ai
def aJn(ts:List TIn):List DV:=ts.map fun x=>ofP x.q
structure TIn.ok (x:TIn):Prop where
 s: ∀n∈x.2,n.g.sm
 n:x.2.length≤65536
def RN.of(n:NQ):RN:=⟨⟨decide (n.l.a<0),dg n.l.a.natAbs,decide (n.l.b<0),dg n.l.b.natAbs,decide (n.l.c<0),dg n.l.c.natAbs⟩,n.a,n.b⟩
theorem aGW(ns:List NQ):ns.map eN=(ns.map RN.of).map RN.d:=by
 rw[rQ];rfl
theorem aGx(t:Tr):eA t=eRT (t.num 0) ((t.wr 0).map RN.of):=by
 unfold eA eRT
 rw[aGW];rfl
theorem axc(a:Int):ahI (decide (a<0)) (dg a.natAbs)=a:=by
 unfold ahI
 rw[(aaC _).1]
 split
 ·rename_i h;have:=of_decide_eq_true h;omega
 ·rename_i h;have: ¬a<0:=fun e=>h (decide_eq_true e);omega
theorem ao9(a:Int):aok (decide (a<0)) (dg a.natAbs):=⟨(aaC _).2.2,fun h=>ahJ.2 (by have:=of_decide_eq_true h;omega)⟩
theorem RN.of_l(n:NQ):(RN.of n).g.l=n.l:=by
 unfold RN.of RL.l
 simp only[axc]
theorem RN.of_ln{n:NQ}(h:n.l.ok):(RN.of n).g.ln=some n.l:=by
 unfold RL.ln
 rw[if_pos ⟨⟨ao9 _,ao9 _,ao9 _⟩,by rw[RN.of_l];exact h⟩,RN.of_l]
theorem RN.of_sm{n:NQ}(h:LB n.l):(RN.of n).g.sm:=by
 have key: ∀a:Int,a.natAbs<2^96→DOk (dg a.natAbs)∧(dg a.natAbs).length≤3:=fun a ha=>⟨(aaC _).2.1,by have:=aa2 ha;omega⟩
 exact⟨key _ h.bl.a,key _ h.bl.b,key _ h.bl.c⟩
theorem aeG(b:Bool)(k:Nat):ac6 b≠(k:Int):=by cases b<;>(unfold ac6;simp)
theorem RR.det{ns:List RN}{rt:Int}{s s1:RS}{t1:Tr}(h:RR ns rt s t1 s1): ∀{s2:RS} {t2:Tr},RR ns rt s t2 s2→t1=t2∧s1=s2:=by
 induction h with
 |leaf b s=>
  intro s2 t2 h
  generalize hr:ac6 b=r at h
  cases h with
  |leaf b' s=>
   have:b=b':=by cases b<;>cases b'<;>first|rfl|(simp[ac6] at hr)
   subst this;exact⟨rfl,rfl⟩
  |bad rt s h1 h2 h=>cases b<;>simp[ac6] at hr<;>omega
  |line k=>exact absurd hr (aeG _ _)
  |node k=>exact absurd hr (aeG _ _)
 |bad rt s h1 h2 h=>
  intro s2 t2 h'
  cases h' with
  |leaf b s=>cases b<;>simp[ac6] at h1 h2
  |bad=>exact⟨rfl,rfl⟩
  |line k n s hn hf=>
   have:=(aS.1 hn).1
   rcases h with h|h|⟨j,e,_,hj⟩
   ·omega
   ·omega
   ·have:j=k:=by omega
    subst this;rw[hf] at hj;cases hj
  |node k n l s s2 s3 x y hn hf=>
   have:=(aS.1 hn).1
   rcases h with h|h|⟨j,e,_,hj⟩
   ·omega
   ·omega
   ·have:j=k:=by omega
    subst this;rw[hf] at hj;cases hj
 |line k n s hn hf hl=>
  intro s2 t2 h'
  generalize hr:(k:Int)=r at h'
  cases h' with
  |leaf b s=>exact absurd hr.symm (aeG _ _)
  |bad rt s h1 h2 h=>
   have:=(aS.1 hn).1
   rcases h with h|h|⟨j,e,_,hj⟩
   ·omega
   ·omega
   ·have:j=k:=by omega
    subst this;rw[hf] at hj;cases hj
  |line k' n' s hn' hf' hl'=>
   have:k=k':=by omega
   subst this;exact⟨rfl,rfl⟩
  |node k' n' l s s2 s3 x y hn' hf' hl'=>
   have:k=k':=by omega
   subst this;rw[hn] at hn';cases hn';rw[hl] at hl';cases hl'
 |node k n l s s2 s3 x y hn hf hl h1 h2 i1 i2=>
  intro s4 t4 h'
  generalize hr:(k:Int)=r at h'
  cases h' with
  |leaf b s=>exact absurd hr.symm (aeG _ _)
  |bad rt s h1 h2 h=>
   have:=(aS.1 hn).1
   rcases h with h|h|⟨j,e,_,hj⟩
   ·omega
   ·omega
   ·have:j=k:=by omega
    subst this;rw[hf] at hj;cases hj
  |line k' n' s hn' hf' hl'=>
   have:k=k':=by omega
   subst this;rw[hn] at hn';cases hn';rw[hl] at hl';cases hl'
  |node k' n' l' s s2' s3' x' y' hn' hf' hl' h1' h2'=>
   have:k=k':=by omega
   subst this;rw[hn] at hn';cases hn';rw[hl] at hl';cases hl'
   obtain⟨rfl,rfl⟩:=i1 h1'
   obtain⟨rfl,rfl⟩:=i2 h2'
   exact⟨rfl,rfl⟩
def RT'(ns:List NQ):Tr→Int→List Nat→Prop
 | .leaf b,rt,L=>rt=ac6 b∧L=[]
 | .node l x y,rt,L=> ∃(k:Nat) (a b:Int) (L1 L2:List Nat),rt=(k:Int)∧ns[k]? =some ⟨l,a,b⟩∧RT' ns x a L1∧RT' ns y b L2∧L=k::(L1++L2)
theorem RT'.rr{ns:List NQ}: ∀{t:Tr} {rt:Int} {L:List Nat} {s:RS},RT' ns t rt L→t.all LnQ.ok→L.Nodup→(∀j∈L,s.f j=false)→ ∃f,RR (ns.map RN.of) rt s t ⟨f,s.c+t.size,s.b⟩∧ ∀j,j∉L→f j=s.f j
 | .leaf b,rt,L,s,⟨e,e2⟩,_,_,_=>by
  subst e e2
  exact⟨s.f, .leaf b s,fun _ _=>rfl⟩
 | .node l x y,rt,L,s,⟨k,a,b,L1,L2,e,hk,hx,hy,e2⟩,⟨h0,h1,h2⟩,hnd,hf=>by
  subst e e2
  obtain⟨hkn,hnd⟩:=List.nodup_cons.1 hnd
  obtain⟨hd1,hd2,hdis⟩:=List.nodup_append.1 hnd
  have hfk:=hf k aZ
  have hn1: ∀j∈L1,j≠k:=fun j hj e=>hkn (e▸cX _ hj)
  have hn2: ∀j∈L2,j≠k:=fun j hj e=>hkn (e▸cY _ hj)
  obtain⟨f1,r1,g1⟩:=RT'.rr (s:=⟨aod s.f k,s.c+1,s.b⟩) hx h1 hd1 (fun j hj=>by simp only;rw[aiY (hn1 j hj)];exact hf j (aJ _ (cX _ hj)))
  simp only at r1 g1
  obtain⟨f2,r2,g2⟩:=RT'.rr (s:=⟨f1,s.c+1+x.size,s.b⟩) hy h2 hd2 (fun j hj=>by
   simp only
   rw[g1 j (fun h=>hdis _ h _ hj rfl),aiY (hn2 j hj)]
   exact hf j (aJ _ (cY _ hj)))
  simp only at r2 g2
  have hc:s.c+(Tr.node l x y).size=s.c+1+x.size+y.size:=by simp only[Tr.size];omega
  rw[hc]
  refine⟨f2, .node k (RN.of ⟨l,a,b⟩) l s _ _ x y (by rw[cJ,hk];rfl) hfk (RN.of_ln h0) r1 r2,fun j hj=>?_⟩
  simp only[aT,bY,not_or] at hj
  rw[g2 j hj.2.2,g1 j hj.2.1,aiY hj.1]
theorem RT'.len{ns:List NQ}: ∀{t:Tr} {rt:Int} {L:List Nat},RT' ns t rt L→L.length=t.size
 | .leaf _,_,_,⟨_,h⟩=>by rw[h];rfl
 | .node l x y,_,_,⟨k,a,b,L1,L2,_,_,h1,h2,h⟩=>by
  rw[h,bW,aR,RT'.len h1,RT'.len h2]
  simp only[Tr.size]
  omega
def RD'(ns:List NQ)(t:Tr)(rt:Int):Prop:= ∃L,RT' ns t rt L∧L.Nodup∧L.length=ns.length
theorem aCI{ns:List NQ}{t:Tr}{rt:Int}(h:RD' ns t rt)(ho:t.all LnQ.ok):ofQ (ns.map RN.of) rt=some t:=by
 obtain⟨L,h1,h2,h3⟩:=h
 obtain⟨f,r,_⟩:=h1.rr (s:=rs0) ho h2 (fun _ _=>rfl)
 have hr:=aqC (ns:=ns.map RN.of) (m:=(ns.map RN.of).length+1) (rt:=rt) (s:=rs0) (by have:=ajY (ns.map RN.of).length rs0.f;omega)
 obtain⟨e1,e2⟩:=hr.1.det r
 unfold ofQ
 simp only
 rw[e2,e1,if_pos ⟨rfl,by show rs0.c+t.size=_;rw[aK,←h3,h1.len];show 0+_=_;omega⟩]
theorem aAj{ns:List NQ}: ∀{t:Tr} {n:Nat},(∀i,i<t.size→ns[n+i]? =(t.wr n)[i]?)→RT' ns t (t.num n) (List.range' n t.size)
 | .leaf b,n,_=>⟨rfl,rfl⟩
 | .node l x y,n,h=>by
  have hsz:(Tr.node l x y).size=1+x.size+y.size:=rfl
  have hw:(Tr.node l x y).wr n=⟨l,x.num (n+1),y.num (n+1+x.size)⟩::(x.wr (n+1)++y.wr (n+1+x.size)):=by simp[Tr.wr]
  have hx:=x.wr_len (n+1)
  have hy:=y.wr_len (n+1+x.size)
  refine⟨n,x.num (n+1),y.num (n+1+x.size),List.range' (n+1) x.size,List.range' (n+1+x.size) y.size,rfl,?_,aAj fun i hi=>?_,aAj fun i hi=>?_,?_⟩
  ·have:=h 0 (by omega)
   rw[hw,fQ] at this
   rw[this];rfl
  ·have:=h (1+i) (by omega)
   rw[hw,jU 1 i,List.getElem?_cons_succ,dR (by omega)] at this
   rw[show n+1+i=n+(i+1) by omega];exact this
  ·have:=h (1+x.size+i) (by omega)
   rw[hw,show 1+x.size+i=(x.size+i)+1 by omega,List.getElem?_cons_succ,jZ (by omega),hx,Nat.add_sub_cancel_left] at this
   rw[show n+1+x.size+i=n+(x.size+i+1) by omega];exact this
  ·rw[hsz,show 1+x.size+y.size=(x.size+y.size)+1 by omega,List.range'_succ,List.range'_append_1]
theorem aEy{t:Tr}(ho:t.all LnQ.ok):ofQ ((t.wr 0).map RN.of) (t.num 0)=some t:=
 aCI ⟨_,aAj (n:=0) (fun i _=>by rw[eJ]),List.nodup_range',by rw[List.length_range',t.wr_len]⟩ ho
theorem aFZ{t:Tr}(hb:t.all LB): ∀n∈(t.wr 0).map RN.of,n.g.sm:=fun n hn=>by
 obtain⟨m,hm,rfl⟩:=bJ.1 hn
 exact RN.of_sm (Tr.all_wr 0 hb m hm)
theorem aE9{a i:Nat}[ha:BN a i](hi:i≤400000000:=by decide):PF GB prog 126 [dN a] (dN a):=by
 have hl:=aaz (dg a)
 have hb:=aa2 ha.h
 refine fn func126 J J ntmps126 J J (fun C=>?_)
 refine ro0 J J<|ap ((dg a).map dU) J J (amE _) rfl<|?_
 refine fzE 5 rfl ?_
 exact rz J J
theorem ayn{z:Int}{i:Nat}[hz:BI z i](hi:i≤400000000:=by decide):PF GB prog 125 [eI z] (eI z):=by
 refine fn func125 J J ntmps125 J J (fun C=>?_)
 refine cl rfl (aE9 (a:=z.natAbs) (i:=i) (ha:=⟨hz.h⟩) hi) rfl<|?_
 exact rz J J
theorem aFW{l:LnQ}(hl:BL l 96):PF GB prog 86 [eL l] (eL l):=by
 haveI h1:BI l.a 96:=⟨hl.a⟩
 haveI h2:BI l.b 96:=⟨hl.b⟩
 haveI h3:BI l.c 96:=⟨hl.c⟩
 refine fn func86 J J ntmps86 J J (fun C=>?_)
 refine cl rfl (ayn (z:=l.a)) rfl<|cl rfl (ayn (z:=l.b)) rfl<|cl rfl (ayn (z:=l.c)) rfl<|?_
 exact rz J J
theorem aHu{ds:List Nat}(hd:DOk ds)(hn:ds.length≤1000000):PF GB prog 52 [dLi ds] (dN (dv ds)):=by
 have hm:=aaz ds
 refine fn func52 J J ntmps52 J J (fun C=>?_)
 refine ro0 J J<|ap (ds.map dU) J J (amE _) rfl<|fz 5 J J<|cl rfl (af2 (ds:=ds) (by omega)) rfl<|?_
 exact rz rfl (by unfold dN;rw[ado hd];rfl)
theorem aHZ{neg:Bool}{ds:List Nat}(hd:DOk ds)(hn:ds.length≤1000000):PF GB prog 53 [.ag [.v (.bool neg),dLi ds]] (eI (ahI neg ds)):=by
 refine fn func53 J J ntmps53 J J (fun C=>?_)
 refine cl rfl (aHu hd hn) rfl<|cl rfl acT rfl<|?_
 exact rz J J
def rlD(r:RL):DV:= .tp [if r.nm then eL r.l else .ag [.v (.bool false), .sl [], .v (.bool false), .sl [], .v (.bool false), .sl []],vB (decide (r.nm∧r.l.ok))]
def smB(n:Int)(ls:List (List Nat)):Bool:=ls.all fun d=>decide ((d.length:Int)≤n)
def RL.smB(n:Int)(r:RL):Bool:=Sx.smB n [r.da,r.db,r.dc]
def rlB(n:Int)(ls:List RL):Bool:=ls.all fun r=>r.smB n
def aIU(cs:List RL):Option (List LnQ):=if cs.all (fun r=>r.ln.isSome) then some (cs.filterMap RL.ln) else none
def aJv:Option (List LnQ)→DV
 |some ls=> .tp [.sl (ls.map eLn),vB true]
 |none=> .tp [.sl [],vB false]
theorem aDm(ls:List LnQ):adh 9 (ls.map eLn):=fun d hd=>by
 obtain⟨u,_,rfl⟩:=bJ.1 hd;exact⟨rfl,rfl⟩
def aHY:Option aae→DV
 |some c=> .tp [.sl (c.map eFr),vB true]
 |none=> .tp [.sl [],vB false]
theorem amB{ls:List LnQ}{c:aae}{k:Nat}{l:LnQ}(h:ls[k]? =some l):abR (ls.drop k) c=if aa9 c l then abR (ls.drop (k+1)) (aaL c l) else none:=by
 obtain⟨hk,rfl⟩:=aS.1 h
 rw[bQ hk,abR]
theorem ab1.nil:ab1 []:=fun s hs=>by cases hs
theorem aBT{ls:List LnQ}(hb: ∀l∈ls,LB l)(ho: ∀l∈ls,l.ok)(hn:ls.length≤10000):PF GB prog 106 [.sl (ls.map eLn)] (aHY (abR ls [])):=by
 have hm:=aei eLn ls
 refine fn (fu:=⟨25⟩) func106 J J ntmps106 J J (fun C=>?_)
 refine eqF 9 (.d (vI (ls.length:Nat))) rfl (by rw[hm]<;>rfl) ?_
 refine gx rfl<|?_
 refine nlC 4 rfl ?_
 refine dvC 5 (vB true) J J ?_
 refine lp (X:=aae×Nat) (fun⟨c,k⟩=>[(10, .d (vI (k:Nat))),(4, .d (.sl (c.map eFr))),(5, .d (vB true))]) (fun⟨c,k⟩=>[]) (fun⟨c,k⟩=>k≤ls.length∧ab1 c∧c.length≤k∧abR (ls.drop k) c=abR ls []) (fun⟨c,k⟩=>ls.length-k) ([],0) rfl ⟨bX _,ab1.nil,aM _,rfl⟩ (fun _=>rfl) (fun⟨c,k⟩ hk=>?_)
 obtain⟨h1,h2,h3,h4⟩:=hk
 dsimp only at*
 refine br J J J (fun hc11=>?_) (fun hc11=>?_)
 ·
  obtain⟨l,hx0⟩: ∃s,ls[k]? =some s:=⟨_,aQ (by omega)⟩
  haveI:=hb l (aU hx0)
  have hlo:=ho l (aU hx0)
  refine ix _ rfl (aav hx0) rfl<|cl rfl (auQ (c:=c) (l:=l) hlo h2 (by omega)) rfl<|?_
  refine bb J J J (fun hc21=>?_) (fun hc21=>?_)
  ·
   refine bb J J J (fun hc24=>?_) (fun hc24=>?_)
   ·
    exact rz rfl (by rw[←h4,amB hx0,if_neg (by simpa using hc21)];rfl)
   ·
    exact rz rfl (by simp only[hc21] at hc24;simp at hc24)
  ·
   refine eqF 5 (.d (vB true)) rfl (by rw[show aa9 c l=true by simpa using hc21]) ?_
   exact at_ (aaL c l,k+1) (by dsimp only;exact⟨⟨by omega,ahT (ho l (aU hx0)) h2,by have:=aft c l;omega,by rw[←h4,amB hx0,if_pos (by simpa using hc21)]⟩,(by omega)⟩)
 ·
  refine bb J J J (fun hc24=>?_) (fun hc24=>?_)
  ·
   exact rz rfl (absurd hc24 (by decide))
  ·
   exact rz rfl (by rw[←h4,jK (by omega)];rfl)
theorem axB{ls:List LnQ}{c:aae}(hb: ∀l∈ls,LB l)(ho: ∀l∈ls,l.ok)(hn:ls.length≤10000)(h:abR ls []=some c):PF GB prog 106 [.sl (ls.map eLn)] (.tp [.sl (c.map eFr),vB true]):=by
 have:=aBT (GB:=GB) hb ho hn;rw[h] at this;exact this
def aIu(ai al:Addr)(more:Nat):Option Tr→DV
 |none=> .tp [.v (.pointer none),aD7 ai]
 |some t=>if 1024<t.depth+more then .tp [.v (.pointer none),aD7 al] else .tp [eU t, .v .nilIface]
def aJh(ai:Addr)(f:Tr→Tr):Option Tr→Tr ⊕ Addr
 |some t=> .inl (f t)
 |none=> .inr ai
def aIH(ai ae:Addr):Option Tr→Option (List LnQ)→Tr ⊕ Addr
 |some t,some ls=>(match abR ls [] with
  |some c=> .inl (t.restrict c)
  |none=> .inr ae)
 |_,_=> .inr ai
def aJc(ai:Addr):Option LnQ→Option Tr→DV
 |some m,some t=> .tp [eA (t.restrict (aaL [] m)),eA (t.restrict (aaL [] m.rev)), .v .nilIface]
 |_,_=> .tp [trZ,trZ,aD7 ai]

def Tr.val:Tr→PtQ→Bool
 | .leaf b,_=>b
 | .node l x y,p=>if 0<l.value p then x.val p else y.val p
def Tr.lns:Tr→List LnQ
 | .leaf _=>[]
 | .node l x y=>l::(x.lns++y.lns)
theorem afl{P:LnQ→Prop}: ∀{t:Tr},t.all P↔ ∀l∈t.lns,P l
 | .leaf _=>⟨fun _ l hl=>(by cases hl),fun _=>trivial⟩
 | .node l x y=>by
  show(P l∧x.all P∧y.all P)↔ ∀m∈l::(x.lns++y.lns),P m
  rw[afl (t:=x),afl (t:=y)]
  constructor
  ·rintro ⟨h0,h1,h2⟩ m hm
   rcases aT.1 hm with rfl|hm
   ·exact h0
   ·rcases bY.1 hm with hm|hm
    ·exact h1 m hm
    ·exact h2 m hm
  ·intro h
   exact⟨h l aZ,fun m hm=>h m (aJ _ (cX _ hm)),fun m hm=>h m (aJ _ (cY _ hm))⟩
theorem aul{t:Tr}(h:t.all LnQ.ok): ∀l∈t.lns,l.ok:=afl.1 h
def Off(L:List LnQ)(p:PtQ):Prop:= ∀l∈L,l.value p≠0
theorem Off.sub{L M:List LnQ}{p:PtQ}(h:Off L p)(k: ∀l∈M,l∈L):Off M p:=fun l hl=>h l (k l hl)
theorem Off.l{l:LnQ}{x y:Tr}{p:PtQ}(h:Off (Tr.node l x y).lns p):l.value p≠0:=h l aZ
theorem Off.x{l:LnQ}{x y:Tr}{p:PtQ}(h:Off (Tr.node l x y).lns p):Off x.lns p:=h.sub fun m hm=>aJ _ (cX _ hm)
theorem Off.y{l:LnQ}{x y:Tr}{p:PtQ}(h:Off (Tr.node l x y).lns p):Off y.lns p:=h.sub fun m hm=>aJ _ (cY _ hm)
theorem Off.app{L M:List LnQ}{p:PtQ}:Off (L++M) p↔Off L p∧Off M p:=by
 unfold Off
 constructor
 ·intro h;exact⟨fun l hl=>h l (cX _ hl),fun l hl=>h l (cY _ hl)⟩
 ·rintro ⟨h1,h2⟩ l hl;rcases bY.1 hl with h|h;exact h1 l h;exact h2 l h
def opB(op:Int)(a b:Bool):Bool:=if op=1 then a||b else if op=2 then a&&b else if op=3 then a&&!b else a !=b
theorem Tr.val_join(l:LnQ)(X Y:Tr)(p:PtQ):(Tr.joinQ l X Y).val p=(Tr.node l X Y).val p:=by
 unfold Tr.joinQ
 split
 ·rename_i h
  cases X<;>cases Y<;>simp[Tr.isLeaf,Tr.code] at h
  subst h
  simp[Tr.val]
 ·rfl
theorem Tr.val_pos{l:LnQ}{x y:Tr}{p:PtQ}(h:0<l.value p):(Tr.node l x y).val p=x.val p:=by rw[Tr.val,if_pos h]
theorem Tr.val_neg{l:LnQ}{x y:Tr}{p:PtQ}(h: ¬0<l.value p):(Tr.node l x y).val p=y.val p:=by rw[Tr.val,if_neg h]
theorem Tr.val_compl: ∀(t:Tr) (p:PtQ),t.compl.val p=!t.val p
 | .leaf b,p=>rfl
 | .node l x y,p=>by
  rw[Tr.compl]
  by_cases h:0<l.value p
  ·rw[Tr.val_pos h,Tr.val_pos h,x.val_compl]
  ·rw[Tr.val_neg h,Tr.val_neg h,y.val_compl]
theorem aqk{c:aae}{l:LnQ}(hc:aaJ c)(hl:l.ok)(hb:aa9 c l.rev=false){p:PtQ}(hp:InD c p)(h0:l.value p≠0):0<l.value p:=by
 by_cases h:0<l.value p
 ·exact h
 ·exfalso
  have:aa9 c l.rev=true:=(ad6 hc hl.rev).2 ⟨p,hp,by rw[aaV];grind⟩
  rw[hb] at this;cases this
theorem aqb{c:aae}{l:LnQ}(hc:aaJ c)(hl:l.ok)(hb:aa9 c l=false){p:PtQ}(hp:InD c p): ¬0<l.value p:=fun h=>by
 have:aa9 c l=true:=(ad6 hc hl).2 ⟨p,hp,h⟩
 rw[hb] at this;cases this
theorem Tr.val_restrict: ∀(t:Tr) (c:aae) (p:PtQ),t.all LnQ.ok→aaJ c→InD c p→Off t.lns p→(t.restrict c).val p=t.val p
 | .leaf _,_,_,_,_,_,_=>rfl
 | .node l x y,c,p,⟨hl,hx,hy⟩,hc,hp,ho=>by
  cases hb:aa9 c l.rev with
  |false=>rw[Tr.restrict_A _ _ hb,x.val_restrict c p hx hc hp ho.x,Tr.val_pos (aqk hc hl hb hp ho.l)]
  |true=>
   cases hb2:aa9 c l with
   |false=>rw[Tr.restrict_B _ _ hb hb2,y.val_restrict c p hy hc hp ho.y,Tr.val_neg (aqb hc hl hb2 hp)]
   |true=>
    rw[Tr.restrict_C _ _ hb hb2,Tr.val_join]
    obtain⟨g1,i1⟩:=aaU hc hl hb2
    obtain⟨g2,i2⟩:=aaU hc hl.rev hb
    by_cases h:0<l.value p
    ·rw[Tr.val_pos h,Tr.val_pos h,x.val_restrict _ p hx g1 ((i1 p).2 ⟨hp,h⟩) ho.x]
    ·rw[Tr.val_neg h,Tr.val_neg h,y.val_restrict _ p hy g2 ((i2 p).2 ⟨hp,by rw[aaV];have:=ho.l;grind⟩) ho.y]
theorem Tr.val_choose(op:Int)(b:Bool)(t:Tr)(c:aae)(p:PtQ)(ht:t.all LnQ.ok)(hc:aaJ c)(hp:InD c p)(ho:Off t.lns p):(t.chooseQ op b c).val p=opB op b (t.val p):=by
 have hr:=t.val_restrict c p ht hc hp ho
 unfold Tr.chooseQ opB
 by_cases h1:op=1
 ·subst h1;cases b<;>simp[hr,Tr.val]
 ·by_cases h2:op=2
  ·subst h2;cases b<;>simp[hr,Tr.val]
  ·by_cases h3:op=3
   ·subst h3;cases b<;>simp[hr,Tr.val,Tr.val_compl]
   ·cases b<;>simp[h1,h2,h3,hr,Tr.val_compl]
theorem Tr.val_merge(op:Int)(u:Tr)(hu:u.all LnQ.ok): ∀(t:Tr) (c:aae) (p:PtQ),t.all LnQ.ok→aaJ c→InD c p→Off t.lns p→Off u.lns p→(t.mergeQ op u c).val p=opB op (t.val p) (u.val p)
 | .leaf b,c,p,_,hc,hp,_,ho=>u.val_choose op b c p hu hc hp ho
 | .node l x y,c,p,⟨hl,hx,hy⟩,hc,hp,ho,hou=>by
  rw[Tr.mergeQ]
  cases hb:aa9 c l.rev with
  |false=>
   rw[if_pos (show(!false)=true from rfl),Tr.val_merge op u hu x c p hx hc hp ho.x hou,Tr.val_pos (aqk hc hl hb hp ho.l)]
  |true=>
   rw[if_neg (by decide)]
   cases hb2:aa9 c l with
   |false=>rw[if_pos (show(!false)=true from rfl),Tr.val_merge op u hu y c p hy hc hp ho.y hou,Tr.val_neg (aqb hc hl hb2 hp)]
   |true=>
    rw[if_neg (by decide),Tr.val_join]
    obtain⟨g1,i1⟩:=aaU hc hl hb2
    obtain⟨g2,i2⟩:=aaU hc hl.rev hb
    by_cases h:0<l.value p
    ·rw[Tr.val_pos h,Tr.val_pos h,Tr.val_merge op u hu x _ p hx g1 ((i1 p).2 ⟨hp,h⟩) ho.x hou]
    ·rw[Tr.val_neg h,Tr.val_neg h,Tr.val_merge op u hu y _ p hy g2 ((i2 p).2 ⟨hp,by rw[aaV];have:=ho.l;grind⟩) ho.y hou]
theorem aqA: ∀(L:List LnQ) (u:PtQ) (p:PtQ),Off L p→ ∃e:Rat,0<e∧ ∀d,0≤d→d≤e→Off L (adk p u d)
 |[],u,p,_=>⟨1,by decide,fun d _ _ l hl=>by cases hl⟩
 |l::L,u,p,h=>by
  obtain⟨e,he,hm⟩:=aqA L u p (h.sub fun m hm=>aJ _ hm)
  have h0:=h l aZ
  have key: ∃f:Rat,0<f∧ ∀d,0≤d→d≤f→l.value (adk p u d)≠0:=by
   by_cases hk:l.nor.dot u=0
   ·exact⟨1,by decide,fun d _ _=>by rw[abK,hk];grind⟩
   ·generalize hA:l.value p=A at*
    generalize hB:l.nor.dot u=B at*
    rcases acX A with h|h|h
    ·exact absurd h h0
    ·rcases acX B with k|k|k
     ·exact absurd k hk
     ·exact⟨1,by decide,fun d hd _=>by rw[abK,hA,hB];have:=aab hd (cN k);grind⟩
     ·refine⟨A/(-B)/2,?_,fun d hd h2=>?_⟩
      ·have:0<A/(-B):=by
        have e1:A/(-B)*(-B)=A:=by grind
        exact(aaq (k:= -B) (by grind)).1 (by rw[e1];exact h)
       grind
      ·rw[abK,hA,hB]
       have e1:A/(-B)*(-B)=A:=by grind
       generalize A/(-B)=q at*
       have h4:=aab (a:=q/2-d) (b:= -B) (by grind) (by grind)
       grind
    ·rcases acX B with k|k|k
     ·exact absurd k hk
     ·refine⟨(-A)/B/2,?_,fun d hd h2=>?_⟩
      ·have:0<(-A)/B:=by
        have e1:(-A)/B*B= -A:=by grind
        exact(aaq (k:=B) k).1 (by rw[e1];grind)
       grind
      ·rw[abK,hA,hB]
       have e1:(-A)/B*B= -A:=by grind
       generalize (-A)/B=q at*
       have h4:=aab (a:=q/2-d) (b:=B) (by grind) (by grind)
       grind
     ·exact⟨1,by decide,fun d hd _=>by rw[abK,hA,hB];have:=aab hd (b:= -B) (by grind);grind⟩
  obtain⟨f,hf,hk⟩:=key
  refine⟨if e≤f then e else f,by split<;>assumption,fun d hd hde m hm'=>?_⟩
  have h1:d≤e∧d≤f:=by split at hde<;>grind
  rcases aT.1 hm' with rfl|hm'
  ·exact hk d hd h1.2
  ·exact hm d hd h1.1 m hm'
theorem ap8{c:aae}{p:PtQ}(hp:InD c p): ∀(L:List LnQ),(∀l∈L,l.ok)→ ∃q,InD c q∧Off L q
 |[],_=>⟨p,hp,fun l hl=>by cases hl⟩
 |l::L,h=>by
  obtain⟨q,hq,ho⟩:=ap8 hp L fun m hm=>h m (aJ _ hm)
  by_cases h0:l.value q=0
  ·have hn:=afX (h l aZ).ne
   obtain⟨e,he,hm⟩:=hq.open l.nor
   obtain⟨f,hf,hk⟩:=aqA L l.nor q ho
   refine⟨adk q l.nor (if e≤f then e else f),hm _ (by split<;>grind) (by split<;>grind),fun m hm'=>?_⟩
   rcases aT.1 hm' with rfl|hm'
   ·rw[abK,h0]
    have:=aan (a:=if e≤f then e else f) (b:=m.nor.dot m.nor) (by split<;>assumption) hn
    grind
   ·exact hk _ (by split<;>grind) (by split<;>grind) m hm'
  ·exact⟨q,hq,fun m hm=>by rcases aT.1 hm with rfl|hm;exact h0;exact ho m hm⟩
theorem aDq{c:aae}(hc:aaJ c)(L:List LnQ)(h: ∀l∈L,l.ok): ∃q,InD c q∧Off L q:=by
 obtain⟨p,hp⟩:=hc.ne
 exact ap8 hp L h
def Tr.Red:Tr→aae→Prop
 | .leaf _,_=>True
 | .node l x y,c=>aa9 c l=true∧aa9 c l.rev=true∧x.Red (aaL c l)∧y.Red (aaL c l.rev)∧ ¬(x.isLeaf=true∧y.isLeaf=true∧x.code=y.code)
theorem Tr.red_leaf{t:Tr}(h:t.isLeaf=true)(c:aae):t.Red c:=by
 cases t with
 |leaf b=>trivial
 |node l x y=>cases h
theorem Tr.join_red{l:LnQ}{x y:Tr}{c:aae}(h1:aa9 c l=true)(h2:aa9 c l.rev=true)(hx:x.Red (aaL c l))(hy:y.Red (aaL c l.rev)):(Tr.joinQ l x y).Red c:=by
 rcases Tr.joinQ_cases l x y with⟨e,h⟩|⟨e,h⟩
 ·rw[e];exact Tr.red_leaf h c
 ·rw[e];exact⟨h1,h2,hx,hy,h⟩
theorem Tr.restrict_red: ∀(t:Tr) (c:aae),(t.restrict c).Red c
 | .leaf _,_=>trivial
 | .node l x y,c=>by
  cases hb:aa9 c l.rev with
  |false=>rw[Tr.restrict_A _ _ hb];exact x.restrict_red c
  |true=>
   cases hb2:aa9 c l with
   |false=>rw[Tr.restrict_B _ _ hb hb2];exact y.restrict_red c
   |true=>rw[Tr.restrict_C _ _ hb hb2];exact Tr.join_red hb2 hb (x.restrict_red _) (y.restrict_red _)
theorem Tr.compl_leaf{t:Tr}:t.compl.isLeaf=t.isLeaf:=by cases t<;>rfl
theorem Tr.compl_code{t:Tr}(h:t.isLeaf=true):t.compl.code=!t.code:=by
 cases t with
 |leaf b=>rfl
 |node l x y=>cases h
theorem Tr.compl_red: ∀{t:Tr} {c:aae},t.Red c→t.compl.Red c
 | .leaf _,_,_=>trivial
 | .node l x y,c,⟨h1,h2,h3,h4,h5⟩=>by
  refine⟨h1,h2,Tr.compl_red h3,Tr.compl_red h4,fun⟨a,b,e⟩=>?_⟩
  rw[Tr.compl_leaf] at a b
  rw[Tr.compl_code a,Tr.compl_code b] at e
  exact h5 ⟨a,b,by simpa using e⟩
theorem Tr.choose_red(op:Int)(b:Bool)(t:Tr)(c:aae):(t.chooseQ op b c).Red c:=by
 have h:=t.restrict_red c
 unfold Tr.chooseQ
 split
 ·split
  ·trivial
  ·exact h
 ·split
  ·trivial
  ·split
   ·exact Tr.compl_red h
   ·exact h
theorem Tr.merge_red(op:Int)(u:Tr): ∀(t:Tr) (c:aae),(t.mergeQ op u c).Red c
 | .leaf b,c=>u.choose_red op b c
 | .node l x y,c=>by
  rw[Tr.mergeQ]
  cases hb:aa9 c l.rev with
  |false=>rw[if_pos (show(!false)=true from rfl)];exact Tr.merge_red op u x c
  |true=>
   rw[if_neg (by decide)]
   cases hb2:aa9 c l with
   |false=>rw[if_pos (show(!false)=true from rfl)];exact Tr.merge_red op u y c
   |true=>rw[if_neg (by decide)];exact Tr.join_red hb2 hb (Tr.merge_red op u x _) (Tr.merge_red op u y _)
theorem Tr.red_restrict: ∀{t:Tr} {c:aae},t.Red c→t.restrict c=t
 | .leaf _,_,_=>rfl
 | .node l x y,c,⟨h1,h2,h3,h4,h5⟩=>by
  rw[Tr.restrict_C _ _ h2 h1,Tr.red_restrict h3,Tr.red_restrict h4]
  rcases Tr.joinQ_cases l x y with⟨e,h⟩|⟨e,h⟩
  ·exfalso
   unfold Tr.joinQ at e
   split at e
   ·rename_i k;simp at k;exact h5 k
   ·cases x with
    |leaf b=>cases e
    |node a b d=>cases h
  ·exact e
def LnQ.same(l m:LnQ):Prop:=m=l∨m=l.rev
instance (l m:LnQ):Decidable (l.same m):=inferInstanceAs (Decidable (_∨_))
def Tr.cnt(l:LnQ):Tr→Nat
 | .leaf _=>0
 | .node m x y=>(if l.same m then 1 else 0)+(x.cnt l+y.cnt l)
theorem aiw{l m:LnQ}(h:l.same m){p:PtQ}(hp:l.value p=0):m.value p=0:=by
 rcases h with rfl|rfl
 ·exact hp
 ·rw[aaV,hp];rfl
def azN(l:LnQ)(c:aae):Prop:= ∃p,InD c p∧l.value p=0
theorem Tr.cnt_zero{l:LnQ}: ∀{t:Tr} {c:aae},t.Red c→t.all LnQ.ok→aaJ c→ ¬azN l c→t.cnt l=0
 | .leaf _,_,_,_,_,_=>rfl
 | .node m x y,c,⟨h1,h2,h3,h4,_⟩,⟨hm,hx,hy⟩,hc,hn=>by
  obtain⟨g1,i1⟩:=aaU hc hm h1
  obtain⟨g2,i2⟩:=aaU hc hm.rev h2
  have e1:=Tr.cnt_zero (l:=l) h3 hx g1 (fun⟨p,hp,h0⟩=>hn ⟨p,((i1 p).1 hp).1,h0⟩)
  have e2:=Tr.cnt_zero (l:=l) h4 hy g2 (fun⟨p,hp,h0⟩=>hn ⟨p,((i2 p).1 hp).1,h0⟩)
  rw[Tr.cnt,e1,e2]
  by_cases hs:l.same m
  ·exfalso
   -- m crosses the cell
   obtain⟨p,hp,k1⟩:=(ad6 hc hm).1 h1
   obtain⟨q,hq,k2⟩:=(ad6 hc hm.rev).1 h2
   rw[aaV] at k2
   generalize hA:m.value p=A at*
   generalize hB:m.value q=B at*
   have hAB:0<A-B:=by grind
   have e:A/(A-B)*(A-B)=A:=by grind
   generalize A/(A-B)=r at*
   have r0:0≤r:=(aai hAB).1 (by rw[e];exact cN k1)
   have r1:r≤1:=by
    have:=(aai (s:=1-r) hAB).1 (by grind)
    grind
   have hz:=hp.seg hq r0 r1
   have hv:m.value (abi p q r)=0:=by rw[acE,hA,hB];grind
   refine hn ⟨_,hz,?_⟩
   rcases hs with rfl|rfl
   ·exact hv
   ·rw[aaV] at hv;grind
  ·rw[if_neg hs]
def inB(c:aae)(p:PtQ):Bool:=c.all fun s=>decide (0<s.l.value p)
theorem aeK{c:aae}{p:PtQ}:inB c p=true↔InD c p:=by
 unfold inB InD;rw[dZ];simp
def ay5(P:List PtQ)(l:LnQ)(t:Tr):Prop:=t.all fun m=>l.same m∨ ∀p,l.value p=0→m.value p=0→p∈P
theorem ajT{α:Type}{p q r:α→Bool}: ∀(P:List α),(∀x∈P,q x=true→p x=true)→(∀x∈P,r x=true→p x=true)→(∀x∈P,¬(q x=true∧r x=true))→P.countP q+P.countP r≤P.countP p
 |[],_,_,_=>aM _
 |x::P,h1,h2,h3=>by
  have ih:=ajT (p:=p) (q:=q) (r:=r) P (fun y hy=>h1 y (aJ _ hy)) (fun y hy=>h2 y (aJ _ hy)) (fun y hy=>h3 y (aJ _ hy))
  have a:=h1 x aZ
  have b:=h2 x aZ
  have c:=h3 x aZ
  rw[oJ,oJ,oJ]
  cases hq:q x<;>cases hr:r x<;>simp_all<;>omega
theorem ajt{α:Type}{p q r:α→Bool}: ∀(P:List α),(∀x∈P,q x=true→p x=true)→(∀x∈P,r x=true→p x=true)→(∀x∈P,¬(q x=true∧r x=true))→(∃x∈P,p x=true∧q x=false∧r x=false)→P.countP q+P.countP r+1≤P.countP p
 |[],_,_,_,⟨x,hx,_⟩=>by cases hx
 |x::P,h1,h2,h3,h4=>by
  have i2:=ajT (p:=p) (q:=q) (r:=r) P (fun y hy=>h1 y (aJ _ hy)) (fun y hy=>h2 y (aJ _ hy)) (fun y hy=>h3 y (aJ _ hy))
  have a:=h1 x aZ
  have b:=h2 x aZ
  have c:=h3 x aZ
  rw[oJ,oJ,oJ]
  obtain⟨z,hz,k1,k2,k3⟩:=h4
  rcases aT.1 hz with rfl|hz
  ·simp only[k1,k2,k3];simp;omega
  ·have ih:=ajt (p:=p) (q:=q) (r:=r) P (fun y hy=>h1 y (aJ _ hy)) (fun y hy=>h2 y (aJ _ hy)) (fun y hy=>h3 y (aJ _ hy)) ⟨z,hz,k1,k2,k3⟩
   cases hq:q x<;>cases hr:r x<;>simp_all<;>omega
theorem Tr.cnt_le{l:LnQ}(hl:l.ok){P:List PtQ}: ∀{t:Tr} {c:aae},t.Red c→t.all LnQ.ok→aaJ c→ay5 P l t→t.cnt l≤1+P.countP (inB c)
 | .leaf _,_,_,_,_,_=>bX _
 | .node m x y,c,⟨h1,h2,h3,h4,_⟩,⟨hm,hx,hy⟩,hc,⟨v0,v1,v2⟩=>by
  obtain⟨g1,i1⟩:=aaU hc hm h1
  obtain⟨g2,i2⟩:=aaU hc hm.rev h2
  have q1: ∀p∈P,inB (aaL c m) p=true→inB c p=true:=fun p _ h=>aeK.2 ((i1 p).1 (aeK.1 h)).1
  have q2: ∀p∈P,inB (aaL c m.rev) p=true→inB c p=true:=fun p _ h=>aeK.2 ((i2 p).1 (aeK.1 h)).1
  have q3: ∀p∈P,¬(inB (aaL c m) p=true∧inB (aaL c m.rev) p=true):=fun p _ ⟨a,b⟩=>by
   have a:=((i1 p).1 (aeK.1 a)).2
   have b:=((i2 p).1 (aeK.1 b)).2
   rw[aaV] at b;grind
  have ct:=ajT P q1 q2 q3
  rw[Tr.cnt]
  by_cases hs:l.same m
  ·have e1:=Tr.cnt_zero (l:=l) h3 hx g1 (fun⟨p,hp,h0⟩=>by have:=((i1 p).1 hp).2;rw[aiw hs h0] at this;grind)
   have e2:=Tr.cnt_zero (l:=l) h4 hy g2 (fun⟨p,hp,h0⟩=>by have:=((i2 p).1 hp).2;rw[aaV,aiw hs h0] at this;grind)
   rw[e1,e2,if_pos hs];omega
  ·rw[if_neg hs]
   have b1:=Tr.cnt_le hl h3 hx g1 v1
   have b2:=Tr.cnt_le hl h4 hy g2 v2
   by_cases w1:azN l (aaL c m)
   ·by_cases w2:azN l (aaL c m.rev)
    ·-- the crossing lies in the cell
     obtain⟨p,hp,k1⟩:=w1
     obtain⟨q,hq,k2⟩:=w2
     obtain⟨hp,ap⟩:=(i1 p).1 hp
     obtain⟨hq,aq⟩:=(i2 q).1 hq
     rw[aaV] at aq
     generalize hA:m.value p=A at*
     generalize hB:m.value q=B at*
     have hAB:0<A-B:=by grind
     have e:A/(A-B)*(A-B)=A:=by grind
     generalize A/(A-B)=r at*
     have r0:0≤r:=(aai hAB).1 (by rw[e];exact cN ap)
     have r1:r≤1:=by
      have:=(aai (s:=1-r) hAB).1 (by grind)
      grind
     have hz:=hp.seg hq r0 r1
     have hv:m.value (abi p q r)=0:=by rw[acE,hA,hB];grind
     have hv2:l.value (abi p q r)=0:=by rw[acE,k1,k2];grind
     have hmem:abi p q r∈P:=by
      rcases v0 with h|h
      ·exact absurd h hs
      ·exact h _ hv2 hv
     have c3:=ajt P q1 q2 q3 ⟨_,hmem,aeK.2 hz,by
      rw[←mY,aeK,i1];rintro ⟨_,h⟩;rw[hv] at h;grind,by
      rw[←mY,aeK,i2];rintro ⟨_,h⟩;rw[aaV,hv] at h;grind⟩
     omega
    ·rw[Tr.cnt_zero h4 hy g2 w2];omega
   ·rw[Tr.cnt_zero h3 hx g1 w1];omega
theorem au1(l:LnQ):l.rev.rev=l:=by cases l;simp[LnQ.rev]
theorem LnQ.same.symm{l m:LnQ}(h:l.same m):m.same l:=by
 rcases h with rfl|rfl
 ·exact .inl rfl
 ·exact .inr (au1 l).symm
theorem LnQ.same.trans{l m n:LnQ}(h:l.same m)(k:m.same n):l.same n:=by
 rcases h with rfl|rfl
 ·exact k
 ·rcases k with rfl|rfl
  ·exact .inr rfl
  ·exact .inl (au1 l)
def afu(K:List LnQ)(t:Tr):Prop:=t.all fun n=> ∃m∈K,m.same n
def aqI(l m:LnQ):PtQ:=l.at (-(l.cutC m/l.cutK m))
theorem aoF{l m:LnQ}(hl:l.ok)(hm:m.ok){p:PtQ}(h1:l.value p=0)(h2:m.value p=0):l.same m∨p=aqI l m:=by
 obtain⟨t,rfl⟩:=aww hl.ne h1
 rw[ace] at h2
 by_cases hk:l.cutK m=0
 ·left
  have hc:l.cutC m=0:=by rw[hk] at h2;grind
  rcases afc hm hl (fun s=>by rw[ace,hk,hc];grind) with h|h
  ·exact .inl h
  ·exact .inr h
 ·right
  unfold aqI
  congr 1
  grind
theorem afu.covers{K:List LnQ}(hK: ∀m∈K,m.ok){l:LnQ}(hl:l.ok): ∀{t:Tr},afu K t→ay5 (K.map (aqI l)) l t
 | .leaf _,_=>trivial
 | .node n x y,⟨⟨m,hm,hs⟩,h1,h2⟩=>by
  refine⟨?_,afu.covers hK hl h1,afu.covers hK hl h2⟩
  by_cases h:l.same n
  ·exact .inl h
  ·right
   intro p k1 k2
   rcases aoF hl (hK m hm) k1 (aiw hs.symm k2) with h3|h3
   ·exact absurd (h3.trans hs) h
   ·rw[h3];exact dV hm
def Kc(t:Tr):List LnQ→Nat
 |[]=>0
 |l::K=>t.cnt l+Kc t K
def Ks(n:LnQ):List LnQ→Nat
 |[]=>0
 |l::K=>(if l.same n then 1 else 0)+Ks n K
theorem auB{n:LnQ}{x y:Tr}: ∀K,Kc (.node n x y) K=Ks n K+(Kc x K+Kc y K)
 |[]=>rfl
 |l::K=>by
  have:=auB (n:=n) (x:=x) (y:=y) K
  show(Tr.node n x y).cnt l+Kc (.node n x y) K=_
  rw[this,Tr.cnt]
  show _=(if l.same n then 1 else 0)+Ks n K+(x.cnt l+Kc x K+(y.cnt l+Kc y K))
  omega
theorem ay2{n m:LnQ}(hs:m.same n): ∀{K:List LnQ},m∈K→1≤Ks n K
 |[],h=>by cases h
 |l::K,h=>by
  show 1≤(if l.same n then 1 else 0)+Ks n K
  rcases aT.1 h with rfl|h
  ·rw[if_pos hs];omega
  ·have:=ay2 hs h;omega
theorem aoI{K:List LnQ}: ∀{t:Tr},afu K t→t.size≤Kc t K
 | .leaf _,_=>bX _
 | .node n x y,⟨⟨m,hm,hs⟩,h1,h2⟩=>by
  have a:=aoI h1
  have b:=aoI h2
  have c:=ay2 hs hm
  rw[auB,Tr.size];omega
theorem aEG{t:Tr}{B:Nat}: ∀{K:List LnQ},(∀l∈K,t.cnt l≤B)→Kc t K≤K.length*B
 |[],_=>bX _
 |l::K,h=>by
  have:=aEG (t:=t) (B:=B) (K:=K) fun m hm=>h m (aJ _ hm)
  have:=h l aZ
  show t.cnt l+Kc t K≤(K.length+1)*B
  rw[iU];omega
theorem Tr.size_le{K:List LnQ}(hK: ∀m∈K,m.ok){t:Tr}{c:aae}(hr:t.Red c)(ht:t.all LnQ.ok)(hc:aaJ c)(h:afu K t):t.size≤K.length*(1+K.length):=by
 refine cW (aoI h) (aEG fun l hl=>?_)
 refine cW (Tr.cnt_le (hK l hl) hr ht hc (h.covers hK (hK l hl))) ?_
 have:=List.countP_le_length (p:=inB c) (l:=K.map (aqI l))
 rw[aK] at this
 omega
theorem afu.mono{K M:List LnQ}{t:Tr}(h:afu K t)(k: ∀l∈K,∃m∈M,m.same l):afu M t:=afl.2 fun l hl=>by
 obtain⟨m,hm,hs⟩:=afl.1 h l hl
 obtain⟨n,hn,hs2⟩:=k m hm
 exact⟨n,hn,hs2.trans hs⟩
theorem afu.restrict{K:List LnQ}{t:Tr}(h:afu K t)(c:aae):afu K (t.restrict c):=t.restrict_all _ c h
theorem afu.merge{K:List LnQ}{op:Int}{t u:Tr}(h:afu K t)(hu:afu K u)(c:aae):afu K (t.mergeQ op u c):=Tr.mergeQ_all _ op hu t c h
def Tr.chooseL(op:Int)(b:Bool)(t:Tr)(c:List LnQ):Tr:=
 if op=1∧b=true then .leaf true
 else if(op=2∨op=3)∧b=false then .leaf false
 else if(op=3∨op=4)∧b=true then(t.restrictL c).compl else t.restrictL c
def Tr.mergeL(op:Int):Tr→Tr→List LnQ→Tr
 | .leaf b,u,c=>u.chooseL op b c
 | .node l x y,u,c=>if aea c l=1 then x.mergeL op u c else if aea c l= -1 then y.mergeL op u c else joinQ l (x.mergeL op u (aa3 (c++[l]))) (y.mergeL op u (aa3 (c++[l.rev])))
theorem Tr.chooseL_eq{op:Int}(ho:1≤op∧op≤4)(b:Bool)(t:Tr)(c:List LnQ)(d:aae)(ht:t.all LnQ.ok)(hc: ∀l∈c,l.ok)(hd:aaJ d)(he: ∀p,InD d p↔InL c p):t.chooseL op b c=t.chooseQ op b d:=by
 have h:=t.restrictL_eq c d ht hc hd he
 unfold Tr.chooseL Tr.chooseQ
 rw[h]
 have:op=1∨op=2∨op=3∨op=4:=by omega
 rcases this with rfl|rfl|rfl|rfl<;>cases b<;>simp
theorem Tr.mergeL_eq{op:Int}(ho:1≤op∧op≤4)(u:Tr)(hu:u.all LnQ.ok): ∀(t:Tr) (c:List LnQ) (d:aae),t.all LnQ.ok→(∀l∈c,l.ok)→aaJ d→(∀p,InD d p↔InL c p)→t.mergeL op u c=t.mergeQ op u d
 | .leaf b,c,d,_,hc,hd,he=>u.chooseL_eq ho b c d hu hc hd he
 | .node l x y,c,d,h,hc,hd,he=>by
  obtain⟨hl,hx,hy⟩:=h
  have i1:=aeu (abS hc hl)
  have i2:=aeu (abS hc hl.rev)
  obtain⟨p0,hp0⟩:=hd.ne
  rcases lies hd hl with⟨a1,a⟩|⟨a1,a2,a⟩|⟨a1,a2,ag1,ag2,ae1,ae2⟩
  ·have b1:abY (c++[l])=true:=i1.2 ⟨p0,abD.2 ⟨(he p0).1 hp0,a p0 hp0⟩⟩
   have b2:abY (c++[l.rev])=false:=by
    rw[←mY,i2]
    rintro ⟨p,hp⟩
    have hp:=abD.1 hp
    have:=a p ((he p).2 hp.1)
    rw[aaV] at hp
    grind
   rw[Tr.mergeQ,a1,if_pos (show(!false)=true from rfl),Tr.mergeL,aea,b1,b2]
   exact Tr.mergeL_eq ho u hu x c d hx hc hd he
  ·have b2:abY (c++[l.rev])=true:=i2.2 ⟨p0,abD.2 ⟨(he p0).1 hp0,by rw[aaV];have:=a p0 hp0;grind⟩⟩
   have b1:abY (c++[l])=false:=by
    rw[←mY,i1]
    rintro ⟨p,hp⟩
    have hp:=abD.1 hp
    have:=a p ((he p).2 hp.1)
    grind
   rw[Tr.mergeQ,a1,a2,if_neg (by decide),if_pos (show(!false)=true from rfl),Tr.mergeL,aea,b1,b2]
   exact Tr.mergeL_eq ho u hu y c d hy hc hd he
  ·have n1: ∃p,InL (c++[l]) p:=by
    obtain⟨p,hp⟩:=ag1.ne
    exact⟨p,abD.2 ⟨(he p).1 ((ae1 p).1 hp).1,((ae1 p).1 hp).2⟩⟩
   have n2: ∃p,InL (c++[l.rev]) p:=by
    obtain⟨p,hp⟩:=ag2.ne
    exact⟨p,abD.2 ⟨(he p).1 ((ae2 p).1 hp).1,by rw[aaV];have:=((ae2 p).1 hp).2;grind⟩⟩
   rw[Tr.mergeQ,a1,a2,if_neg (by decide),if_neg (by decide),Tr.mergeL,aea,i1.2 n1,i2.2 n2]
   have k1:=Tr.mergeL_eq ho u hu x (aa3 (c++[l])) (aaL d l) hx (fun m hm=>abS hc hl m (abb.1 hm).1) ag1 fun p=>by
    rw[afj (abS hc hl) n1,ae1,abD,he]
   have k2:=Tr.mergeL_eq ho u hu y (aa3 (c++[l.rev])) (aaL d l.rev) hy (fun m hm=>abS hc hl.rev m (abb.1 hm).1) ag2 fun p=>by
    rw[afj (abS hc hl.rev) n2,ae2,abD,he,aaV]
    constructor<;>rintro ⟨a,b⟩<;>exact⟨a,by grind⟩
   rw[k1,k2]
   rfl
theorem aAi(p:PtQ):InD [] p↔InL [] p:=by unfold InD InL;simp
theorem Tr.mergeL_nil{op:Int}(ho:1≤op∧op≤4){t u:Tr}(ht:t.all LnQ.ok)(hu:u.all LnQ.ok):t.mergeL op u []=t.mergeQ op u []:=
 Tr.mergeL_eq ho u hu t [] [] ht (fun l hl=>by cases hl) aaJ.nil aAi
theorem Tr.mergeQ_depth(op:Int)(u:Tr): ∀(t:Tr) (c:aae),(t.mergeQ op u c).depth≤t.depth+u.depth
 | .leaf b,c=>by
  have:=u.restrict_depth c
  have h2:=(u.restrict c).compl_depth
  show(u.chooseQ op b c).depth≤_
  unfold Tr.chooseQ
  split
  ·split
   ·exact bX _
   ·simp only[Tr.depth];omega
  ·split
   ·exact bX _
   ·split
    ·simp only[Tr.depth];omega
    ·simp only[Tr.depth];omega
 | .node l x y,c=>by
  have hx:=fun c=>Tr.mergeQ_depth op u x c
  have hy:=fun c=>Tr.mergeQ_depth op u y c
  rw[Tr.mergeQ]
  simp only[Tr.depth]
  split
  ·have:=hx c;omega
  ·split
   ·have:=hy c;omega
   ·have h1:=hx (aaL c l)
    have h2:=hy (aaL c l.rev)
    rcases Tr.joinQ_cases l (x.mergeQ op u (aaL c l)) (y.mergeQ op u (aaL c l.rev)) with⟨h,_⟩|⟨h,_⟩<;>rw[h]<;>(try simp only[Tr.depth])<;>omega
structure Gen (L:List LnQ) (a b:Tr):Prop where
 oa:a.all LnQ.ok
 ob:b.all LnQ.ok
 ok: ∀l∈L,l.ok
 la: ∀l∈a.lns,l∈L
 lb: ∀l∈b.lns,l∈L
def aoJ(x:Rat):List Rat→List Rat
 |[]=>[x]
 |u::t=>if u<x then u::aoJ x t else if u=x then u::t else x::u::t
def aAH(l:List Rat):List Rat:=l.foldl (fun out x=>aoJ x out) []
def adI:List Rat→List Rat
 |a::b::t=>(a+b)/2::adI (b::t)
 |_=>[]
def ab6:List Rat→List Rat
 |[]=>[0]
 |a::t=>(a-1)::(adI (a::t)++[(a::t).getLast (by simp)+1])
theorem acI{x y:Rat}: ∀{l:List Rat},y∈aoJ x l↔y=x∨y∈l
 |[]=>by simp[aoJ]
 |u::t=>by
  rw[aoJ]
  split
  ·rw[aT,acI (l:=t),aT];grind
  ·split
   ·rename_i h;subst h;simp
   ·simp
theorem agy{x:Rat}: ∀{l:List Rat},l.Pairwise (· < ·)→(aoJ x l).Pairwise (· < ·)
 |[],_=>by simp[aoJ]
 |u::t,h=>by
  rw[cK] at h
  rw[aoJ]
  split
  ·rename_i hu
   rw[cK]
   refine⟨fun y hy=>?_,agy h.2⟩
   rcases acI.1 hy with rfl|hy
   ·exact hu
   ·exact h.1 y hy
  ·rename_i hu
   split
   ·rw[cK];exact h
   ·rename_i hn
    have hx:x<u:=by grind
    rw[cK,cK]
    refine⟨fun y hy=>?_,h⟩
    rcases aT.1 hy with rfl|hy
    ·exact hx
    ·have:=h.1 y hy;grind
theorem aus: ∀{l:List Rat} (h:l.Pairwise (· < ·)) (hn:l≠[]),∀y∈l,y≤l.getLast hn
 |[a],_,_,y,hy=>by rw[aV] at hy;subst hy;exact fU
 |a::b::t,h,_,y,hy=>by
  rw[cK] at h
  rw[List.getLast_cons (by simp)]
  have ih:=aus h.2 (by simp)
  rcases aT.1 hy with rfl|hy
  ·have:=h.1 b aZ
   have:=ih b aZ
   grind
  ·exact ih y hy
def xsQ:List LnQ→List Rat
 |[]=>[]
 |a::t=>(if a.b=0 then [a.base.x] else [])++(t.filterMap (fun b=>if crossI a b=0 then none else some (abE a b).x)++xsQ t)
def yA(a:LnQ)(x:Rat):Rat:= -(((a.a:Rat)*x+(a.c:Rat))/(a.b:Rat))
def ysQ(l:List LnQ)(x:Rat):List Rat:=l.filterMap fun a=>if a.b=0 then none else some (yA a x)
def ayu(l:List LnQ):List PtQ:=(ab6 (aAH (xsQ l))).flatMap fun x=>(ab6 (aAH (ysQ l x))).map fun y=>⟨x,y⟩
def aHP(l:LnQ)(p:PtQ):LnQ:=if 0<l.value p then l else l.rev
def anj(out:List Rat)(s:IvQ):List Rat:=if s.nh then(if s.nl then out else aoJ s.lo out) else aoJ s.hi (if s.nl then out else aoJ s.lo out)
def adc(l:List IvQ):List Rat:=l.foldl anj []
def avU:List IvQ→Rat→Int
 |[],_=>0
 |s::t,x=>
  let a:=if s.nl then 1 else abd x s.lo
  let b:=if s.nh then-1 else abd x s.hi
  if 0<a∧b<0 then 2 else if(a=0∧b≤0)∨(b=0∧0≤a) then 1 else avU t x
def acm(l:List IvQ)(x:Rat):Bool:=decide (avU l x=2)
def adU(cuts:List Rat)(i:Nat):IvQ:=⟨if i=0 then 0 else cuts.getD (i-1) 0,if i<cuts.length then cuts.getD i 0 else 0,decide (i=0),decide (i=cuts.length)⟩
def aoe(v w:IvQ):IvQ:=⟨v.lo,w.hi,v.nl,w.nh⟩
def acq(cuts:List Rat)(marks:List Bool):Nat→List IvQ
 |0=>[]
 |k+1=>
  let out:=acq cuts marks k
  if marks.getD k false then
   (if 0<k∧marks.getD (k-1) false=true then(match out.getLast? with
    |some v=>out.dropLast++[aoe v (adU cuts k)]
    |none=>out++[adU cuts k]) else out++[adU cuts k])
  else out
def anB(cuts:List Rat)(marks:List Bool):List IvQ:=acq cuts marks marks.length
def agR(op:Int)(x y:Bool):Bool:=if op=2 then x&&y else if op=3 then x&&!y else if op=4 then x !=y else x||y
def ahB(op:Int)(a b:List IvQ):List IvQ:=anB (adc (a++b)) ((ab6 (adc (a++b))).map fun t=>agR op (acm a t) (acm b t))
def adL(l m:LnQ)(side:Int):List IvQ:=
 if crossI l m=0 then(if(m.value l.base).num.sign=side then [IvQ.all] else [])
 else if(m.value (l.at (abv l (abE l m)+1))).num.sign=side then [⟨abv l (abE l m),0,false,true⟩] else [⟨0,abv l (abE l m),true,false⟩]
def onB(l m:LnQ):Bool:=decide (crossI l m=0∧(m.value l.base).num.sign=0)
def aaX(f:FrQ)(m:LnQ)(side:Int):List FrQ:=if onB f.l m then [] else(ahB 2 [f.v] (adL f.l m side)).map fun v=>⟨f.l,v⟩
theorem ahF(l:List IvQ):(adc l).Pairwise (· < ·)∧ ∀y∈adc l,∃s∈l,(s.nl=false∧y=s.lo)∨(s.nh=false∧y=s.hi):=by
 have key: ∀(l:List IvQ) (o:List Rat),o.Pairwise (· < ·)→(l.foldl anj o).Pairwise (· < ·)∧ ∀y∈l.foldl anj o,y∈o∨ ∃s∈l,(s.nl=false∧y=s.lo)∨(s.nh=false∧y=s.hi):=by
  intro l
  induction l with
  |nil=>intro o h;exact⟨h,fun y hy=> .inl hy⟩
  |cons s t ih=>
   intro o h
   have h1:(anj o s).Pairwise (· < ·)∧ ∀y∈anj o s,y∈o∨(s.nl=false∧y=s.lo)∨(s.nh=false∧y=s.hi):=by
    unfold anj
    cases e1:s.nl<;>cases e2:s.nh<;>simp only[if_true,jV,if_false]
    ·refine⟨agy (agy h),fun y hy=>?_⟩
     rcases acI.1 hy with h|h
     ·exact .inr (.inr ⟨trivial,h⟩)
     ·rcases acI.1 h with h|h
      ·exact .inr (.inl ⟨trivial,h⟩)
      ·exact .inl h
    ·refine⟨agy h,fun y hy=>?_⟩
     rcases acI.1 hy with h|h
     ·exact .inr (.inl ⟨trivial,h⟩)
     ·exact .inl h
    ·refine⟨agy h,fun y hy=>?_⟩
     rcases acI.1 hy with h|h
     ·exact .inr (.inr ⟨trivial,h⟩)
     ·exact .inl h
    ·exact⟨h,fun y hy=> .inl hy⟩
   obtain⟨k1,k2⟩:=ih (anj o s) h1.1
   refine⟨k1,fun y hy=>?_⟩
   rcases k2 y hy with h2|⟨q,hq,h2⟩
   ·rcases h1.2 y h2 with h3|h3
    ·exact .inl h3
    ·exact .inr ⟨s,aZ,h3⟩
   ·exact .inr ⟨q,aJ _ hq,h2⟩
 have:=key l [] List.Pairwise.nil
 refine⟨this.1,fun y hy=>?_⟩
 rcases this.2 y hy with h|h
 ·cases h
 ·exact h
structure aFQ (cuts:List Rat) (v:IvQ):Prop where
 z:IvZ v
 lo:v.nl=true∨v.lo∈cuts
 hi:v.nh=true∨v.hi∈cuts
theorem aAv{cuts:List Rat}{i:Nat}(h:i≤cuts.length):aFQ cuts (adU cuts i):=by
 unfold adU
 refine⟨⟨fun e=>?_,fun e=>?_⟩,?_,?_⟩
 ·simp only[decide_eq_true_eq] at e;simp[e]
 ·simp only[decide_eq_true_eq] at e;simp[e]
 ·by_cases h0:i=0
  ·left;simp[h0]
  ·right
   simp only[if_neg h0]
   rw[aX,aQ (by omega)]
   exact bN _
 ·by_cases h0:i=cuts.length
  ·left;simp[h0]
  ·right
   simp only[if_pos (show i<cuts.length by omega)]
   rw[aX,aQ (by omega)]
   exact bN _
theorem arg{cuts:List Rat}{marks:List Bool}: ∀{k:Nat},k≤cuts.length+1→ ∀v∈acq cuts marks k,aFQ cuts v
 |0,_,v,hv=>by cases hv
 |k+1,hk,v,hv=>by
  have ih:=arg (cuts:=cuts) (marks:=marks) (k:=k) (by omega)
  have hg:=aAv (cuts:=cuts) (i:=k) (by omega)
  rw[acq] at hv
  split at hv
  ·split at hv
   ·split at hv
    ·rename_i w hw
     rcases bY.1 hv with h|h
     ·exact ih v ((rY _).subset h)
     ·rw[aV] at h;subst h
      have hw':=ih w (nW hw)
      exact⟨⟨hw'.z.1,hg.z.2⟩,hw'.lo,hg.hi⟩
    ·rcases bY.1 hv with h|h
     ·exact ih v h
     ·rw[aV] at h;subst h;exact hg
   ·rcases bY.1 hv with h|h
    ·exact ih v h
    ·rw[aV] at h;subst h;exact hg
  ·exact ih v hv
theorem afp{l:List Rat}:(ab6 l).length=l.length+1:=by
 have key: ∀(l:List Rat) (a:Rat),(adI (a::l)).length=l.length:=by
  intro l
  induction l with
  |nil=>intro a;rfl
  |cons b t ih=>intro a;rw[adI,bW,ih b,bW]
 cases l with
 |nil=>rfl
 |cons a t=>rw[ab6,bW,aR,key];simp
theorem axl{op:Int}{a b:List IvQ}: ∀v∈ahB op a b,aFQ (adc (a++b)) v:=fun v hv=>by
 unfold ahB anB at hv
 refine arg ?_ v hv
 rw[aK,afp];omega
theorem ai7{cuts:List Rat}{marks:List Bool}: ∀{k:Nat},(acq cuts marks k).length≤k
 |0=>aM _
 |k+1=>by
  have ih:=ai7 (cuts:=cuts) (marks:=marks) (k:=k)
  rw[acq]
  split
  ·split
   ·split
    ·rename_i w hw
     have:=List.length_pos_of_mem (nW hw)
     rw[aR,gL];simp;omega
    ·rw[aR];simp;omega
   ·rw[aR];simp;omega
  ·omega
structure FOk (f:FrQ):Prop where
 lb:LB f.l
 ok:f.l.ok
 z:IvZ f.v
 lo:BQ f.v.lo 1200
 hi:BQ f.v.hi 1200
theorem BQ.zero1200:BQ (0:Rat) 1200:=BQ.mono (k:=1) ⟨by decide,by decide⟩ (by decide)
theorem aoD{l m:LnQ}(hl:LB l)(hm:LB m)(hlo:l.ok){side:Int}: ∀v∈adL l m side,IvZ v∧BQ v.lo 1200∧BQ v.hi 1200:=fun v hv=>by
 unfold adL at hv
 split at hv
 ·split at hv
  ·rw[aV] at hv;subst hv;exact⟨IvZ.all,BQ.zero1200,BQ.zero1200⟩
  ·cases hv
 ·rename_i hc
  have:=aip hlo.ne hc
  split at hv
  ·rw[aV] at hv;subst hv;exact⟨⟨fun h=>(by cases h),fun _=>rfl⟩,this,BQ.zero1200⟩
  ·rw[aV] at hv;subst hv;exact⟨⟨fun _=>rfl,fun h=>(by cases h)⟩,BQ.zero1200,this⟩
theorem aiu{f:FrQ}{m:LnQ}(h:FOk f)(hm:LB m){side:Int}: ∀g∈aaX f m side,FOk g∧g.l=f.l∧onB f.l m=false:=fun g hg=>by
 unfold aaX at hg
 split at hg
 ·cases hg
 ·rename_i ho
  obtain⟨v,hv,rfl⟩:=bJ.1 hg
  have hi:=axl v hv
  have bd: ∀y∈adc ([f.v]++adL f.l m side),BQ y 1200:=fun y hy=>by
   obtain⟨s,hs,h1⟩:=(ahF _).2 y hy
   rcases bY.1 hs with hs|hs
   ·rw[aV] at hs;subst hs
    rcases h1 with⟨_,rfl⟩|⟨_,rfl⟩
    ·exact h.lo
    ·exact h.hi
   ·have:=aoD h.lb hm h.ok s hs
    rcases h1 with⟨_,rfl⟩|⟨_,rfl⟩
    ·exact this.2.1
    ·exact this.2.2
  refine⟨⟨h.lb,h.ok,hi.z,?_,?_⟩,rfl,by simpa using ho⟩
  ·rcases hi.lo with e|e
   ·rw[hi.z.1 e];exact BQ.zero1200
   ·exact bd _ e
  ·rcases hi.hi with e|e
   ·rw[hi.z.2 e];exact BQ.zero1200
   ·exact bd _ e
def aj7(acc:PtQ→Bool):Nat→List FrQ→List LnQ→Tr
 |_,[],c=> .leaf (acc (ab8 c c))
 |0,_::_,_=> .leaf false
 |n+1,f::t,c=> .node f.l (aj7 acc n ((f::t).flatMap fun g=>aaX g f.l 1) (c++[f.l])) (aj7 acc n ((f::t).flatMap fun g=>aaX g f.l (-1)) (c++[f.l.rev]))
theorem awu{f g:FrQ}{m:LnQ}{side:Int}(h:g∈aaX f m side):g.l=f.l:=by
 unfold aaX at h
 split at h
 ·cases h
 ·obtain⟨v,_,rfl⟩:=bJ.1 h;rfl
theorem aeB{acc:PtQ→Bool}{P:LnQ→Prop}: ∀{n:Nat} {l:List FrQ} {c:List LnQ},(∀f∈l,P f.l)→(aj7 acc n l c).all P
 |n,[],c,_=>by unfold aj7;trivial
 |0,_::_,_,_=>by unfold aj7;trivial
 |n+1,f::t,c,h=>by
  rw[aj7]
  refine⟨h f aZ,aeB fun g hg=>?_,aeB fun g hg=>?_⟩<;>
  ·obtain⟨q,hq,hg⟩:=fW.1 hg
   rw[awu hg];exact h q hq
theorem ahz{acc:PtQ→Bool}: ∀{n:Nat} {l:List FrQ} {c:List LnQ},(aj7 acc n l c).depth≤n
 |n,[],c=>by unfold aj7;exact bX _
 |0,_::_,_=>by unfold aj7;exact bX _
 |n+1,f::t,c=>by
  rw[aj7,Tr.depth]
  have h1:=ahz (acc:=acc) (n:=n) (l:=(f::t).flatMap fun g=>aaX g f.l 1) (c:=c++[f.l])
  have h2:=ahz (acc:=acc) (n:=n) (l:=(f::t).flatMap fun g=>aaX g f.l (-1)) (c:=c++[f.l.rev])
  omega
def Few(n:Nat)(l:List FrQ):Prop:= ∃K:List LnQ,K.length≤n∧ ∀f∈l,∃m∈K,m.same f.l
theorem amG{m:LnQ}(hm:m.Ne):m.value m.base=0:=by
 have h:=acf hm 0
 rw[←agT,abK] at h
 grind
theorem ayk{l m:LnQ}(h:l.same m)(hm:m.Ne):onB m l=true:=by
 unfold onB
 rw[decide_eq_true_iff]
 refine⟨?_,?_⟩
 ·rcases h with rfl|rfl
  ·unfold crossI;omega
  ·unfold crossI LnQ.rev
   show(-l.a)*l.b-l.a*(-l.b)=0
   grind
 ·rw[abV]
  exact aiw h.symm (amG hm)
theorem Few.split{n:Nat}{f:FrQ}{t:List FrQ}(h:Few (n+1) (f::t))(hok: ∀g∈f::t,FOk g){side:Int}:Few n ((f::t).flatMap fun g=>aaX g f.l side):=by
 obtain⟨K,hK,hs⟩:=h
 refine⟨K.filter fun m=>!decide (m.same f.l),?_,fun g hg=>?_⟩
 ·obtain⟨m,hm,hm2⟩:=hs f aZ
  have:(K.filter fun m=>!decide (m.same f.l)).length<K.length:=by
   refine pZ.2 ⟨m,hm,by simp[hm2]⟩
  omega
 ·obtain⟨q,hq,hg⟩:=fW.1 hg
  obtain⟨_,e,ho⟩:=aiu (hok q hq) (hok f aZ).lb g hg
  obtain⟨m,hm,hm2⟩:=hs q hq
  refine⟨m,qV.2 ⟨hm,?_⟩,by rw[e];exact hm2⟩
  simp only[gQ,decide_eq_false_iff_not]
  intro h
  have:=ayk (h.symm.trans hm2) (hok q hq).ok.ne
  rw[this] at ho;cases ho
end Go.Sx
end
