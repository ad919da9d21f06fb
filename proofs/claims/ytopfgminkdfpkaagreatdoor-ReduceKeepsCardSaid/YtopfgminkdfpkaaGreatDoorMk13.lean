/- Part 13 of a proof. -/
import Derived.Test.YtopfgminkdfpkaaGreatDoorMk12
import Derived.WalkKit
import Derived.LaidEql
import Derived.Stop.Asserts
import Derived.RowKitTokens
set_option linter.unusedSimpArgs false
set_option maxHeartbeats 2000000
set_option maxRecDepth 100000
set_option linter.unusedVariables false
section
namespace Go.Sx
open Go Go.Proofs Tryz
variable {GB:Gh}
def aew(n:Nat)(f:Nat→Bool):List Value:=(List.range n).map fun j=> .bool (f j)
def aj3(f:Nat→Bool)(i:Nat):Nat→Bool:=fun j=>f j||Nat.beq j i
theorem ag6(n:Nat)(f:Nat→Bool):(aew n f).length=n:=by simp[aew]
theorem aeY{n i:Nat}{f:Nat→Bool}{b:Bool}(h:i<n)(hf:f i=b):(aew n f)[i]? =some (.bool b):=by simp[aew,h,hf]
theorem ahp{f:Nat→Bool}{i j:Nat}(e:j≠i):aj3 f i j=f j:=by
 unfold aj3
 cases hb:Nat.beq j i with
 |false=>rw[Bool.or_false]
 |true=>exact absurd (aW hb) e
theorem aop{f:Nat→Bool}{i:Nat}:aj3 f i i=true:=by
 unfold aj3;rw[mX,Bool.or_true]
theorem ajn(n i:Nat)(f:Nat→Bool):(aew n f).set i (.bool true)=aew n (aj3 f i):=by
 apply jM
 intro j
 rw[List.getElem?_set]
 simp only[aew,aX,pQ,fR]
 by_cases hj:j<n
 ·rw[qV hj]
  simp only[iV]
  by_cases e:i=j
  ·subst e;simp[hj,aop]
  ·rw[ahp (fun h=>e h.symm)];simp[e]
 ·rw[cV (by simpa using hj)]
  by_cases e:i=j
  ·subst e;simp[hj]
  ·simp[e]
theorem ak2(n:Nat):aaT (.bool false) n=aew n (fun _=>false):=by
 apply jM
 intro j
 by_cases hj:j<n
 ·rw[aeY hj rfl]
  unfold aaT
  rw[ad0 (aad (.bool false)) n j (by simpa[aad] using hj)]
  simp[aad,Nat.mod_one]
 ·rw[cV (by rw[abe];simp[aad];omega),cV (by rw[ag6];omega)]
structure RN where
 g:RL
 l:Int
 r:Int
def RN.d(n:RN):DV:= .ag [.v (.bool n.g.na),dLi n.g.da, .v (.bool n.g.nb),dLi n.g.db, .v (.bool n.g.nc),dLi n.g.dc, .v (.int .i64 n.l), .v (.int .i64 n.r)]
structure RS where
 f:Nat→Bool
 c:Nat
 b:Bool
inductive RR (ns:List RN):Int→RS→Tr→RS→Prop where
 |leaf (b:Bool) (s:RS):RR ns (acs b) s (.leaf b) s
 |bad (rt:Int) (s:RS) (h1:rt≠ -1) (h2:rt≠ -2) (h:rt<0∨(ns.length:Int)≤rt∨(∃k:Nat,rt=k∧k<ns.length∧s.f k=true)):RR ns rt s (.leaf false) ⟨s.f,s.c,true⟩
 |line (k:Nat) (n:RN) (s:RS) (h:ns[k]? =some n) (hf:s.f k=false) (hl:n.g.ln=none):RR ns (k:Int) s (.leaf false) ⟨aj3 s.f k,s.c+1,true⟩
 |node (k:Nat) (n:RN) (l:LnQ) (s s2 s3:RS) (x y:Tr) (h:ns[k]? =some n) (hf:s.f k=false) (hl:n.g.ln=some l) (h1:RR ns n.l ⟨aj3 s.f k,s.c+1,s.b⟩ x s2) (h2:RR ns n.r s2 y s3):RR ns (k:Int) s (.node l x y) s3
theorem RR.mono{ns:List RN}{rt:Int}{s s':RS}{t:Tr}(h:RR ns rt s t s'):s.c≤s'.c:=by
 induction h with
 |leaf=>exact bQ _
 |bad=>exact bQ _
 |line=>exact Nat.le_succ _
 |node k n l s s2 s3 x y h hf hl h1 h2 i1 i2=>simp only at i1;omega
theorem ahI{G:Gh}{q:Rat}{v:Value}(h:Is G (fp_ q) v): ∃p,v= .pointer p:=by
 rcases alr.1 h with⟨_,h⟩|⟨_,h⟩
 ·exact⟨_,h⟩
 ·obtain⟨b,m,h,_⟩:=ahh.1 h;exact⟨_,h⟩
theorem ayk{G:Gh}{l:LnQ}{v:Value}(h:Is G (eLn l) v): ∃n1 d1 p1 n2 d2 p2 n3 d3 p3,v= .agg ⟨[.int .i64 n1, .int .i64 d1, .pointer p1, .int .i64 n2, .int .i64 d2, .pointer p2, .int .i64 n3, .int .i64 d3, .pointer p3]⟩:=by
 obtain⟨m,rfl,g⟩:=abl.1 h
 clear h
 obtain⟨v1,m,rfl,h1,h⟩:=aab.1 g
 obtain⟨v2,m,rfl,h2,h⟩:=aab.1 h
 obtain⟨v3,m,rfl,h3,h⟩:=aab.1 h
 obtain⟨v4,m,rfl,h4,h⟩:=aab.1 h
 obtain⟨v5,m,rfl,h5,h⟩:=aab.1 h
 obtain⟨v6,m,rfl,h6,h⟩:=aab.1 h
 obtain⟨v7,m,rfl,h7,h⟩:=aab.1 h
 obtain⟨v8,m,rfl,h8,h⟩:=aab.1 h
 obtain⟨v9,m,rfl,h9,h⟩:=aab.1 h
 rw[aaz] at h;subst h
 obtain⟨_,rfl⟩:=ahI h3
 obtain⟨_,rfl⟩:=ahI h6
 obtain⟨_,rfl⟩:=ahI h9
 rw[aaM.1 h1,aaM.1 h2,aaM.1 h4,aaM.1 h5,aaM.1 h7,aaM.1 h8]
 exact⟨_,_,_,_,_,_,_,_,_,rfl⟩
theorem atl{G:Gh}{o:Option LnQ}{v:Value}(h:Is G (lnR o) v): ∃n1 d1 p1 n2 d2 p2 n3 d3 p3,v= .tuple #[.agg ⟨[.int .i64 n1, .int .i64 d1, .pointer p1, .int .i64 n2, .int .i64 d2, .pointer p2, .int .i64 n3, .int .i64 d3, .pointer p3]⟩, .bool o.isSome]∧
  ∀l,o=some l→Is G (eLn l) (.agg ⟨[.int .i64 n1, .int .i64 d1, .pointer p1, .int .i64 n2, .int .i64 d2, .pointer p2, .int .i64 n3, .int .i64 d3, .pointer p3]⟩):=by
 cases o with
 |some l=>
  obtain⟨m,rfl,g⟩:=acQ.1 h
  obtain⟨v1,m,rfl,h1,h⟩:=aab.1 g
  obtain⟨v2,m,rfl,h2,h⟩:=aab.1 h
  rw[aaz] at h;subst h
  obtain⟨n1,d1,p1,n2,d2,p2,n3,d3,p3,rfl⟩:=ayk h1
  rw[aaM.1 h2]
  exact⟨n1,d1,p1,n2,d2,p2,n3,d3,p3,rfl,fun k e=>by cases e;exact h1⟩
 |none=>
  obtain⟨m,rfl,g⟩:=acQ.1 h
  obtain⟨v1,m,rfl,h1,h⟩:=aab.1 g
  obtain⟨v2,m,rfl,h2,h⟩:=aab.1 h
  rw[aaz] at h;subst h
  clear g h
  obtain⟨m,rfl,g⟩:=abl.1 h1
  obtain⟨w1,m,rfl,k1,h⟩:=aab.1 g
  obtain⟨w2,m,rfl,k2,h⟩:=aab.1 h
  obtain⟨w3,m,rfl,k3,h⟩:=aab.1 h
  obtain⟨w4,m,rfl,k4,h⟩:=aab.1 h
  obtain⟨w5,m,rfl,k5,h⟩:=aab.1 h
  obtain⟨w6,m,rfl,k6,h⟩:=aab.1 h
  obtain⟨w7,m,rfl,k7,h⟩:=aab.1 h
  obtain⟨w8,m,rfl,k8,h⟩:=aab.1 h
  obtain⟨w9,m,rfl,k9,h⟩:=aab.1 h
  rw[aaz] at h;subst h
  rw[aaM.1 k1,aaM.1 k2,aaM.1 k3,aaM.1 k4,aaM.1 k5,aaM.1 k6,aaM.1 k7,aaM.1 k8,aaM.1 k9]
  rw[aaM.1 h2]
  exact⟨_,_,_,_,_,_,_,_,_,rfl,fun k e=>by cases e⟩
theorem aw0{G:Gh}{n:RN}{v:Value}(h:Is G n.d v): ∃x1 x2 x3:SV,v= .agg ⟨[.bool n.g.na, .slice x1.a x1.n x1.c, .bool n.g.nb, .slice x2.a x2.n x2.c, .bool n.g.nc, .slice x3.a x3.n x3.c, .int .i64 n.l, .int .i64 n.r]⟩∧
  Is G n.g.d (.agg ⟨[.bool n.g.na, .slice x1.a x1.n x1.c, .bool n.g.nb, .slice x2.a x2.n x2.c, .bool n.g.nc, .slice x3.a x3.n x3.c]⟩):=by
 obtain⟨m,rfl,g⟩:=abl.1 h
 clear h
 obtain⟨v1,m,rfl,h1,h⟩:=aab.1 g
 obtain⟨v2,m,rfl,h2,h⟩:=aab.1 h
 obtain⟨v3,m,rfl,h3,h⟩:=aab.1 h
 obtain⟨v4,m,rfl,h4,h⟩:=aab.1 h
 obtain⟨v5,m,rfl,h5,h⟩:=aab.1 h
 obtain⟨v6,m,rfl,h6,h⟩:=aab.1 h
 obtain⟨v7,m,rfl,h7,h⟩:=aab.1 h
 obtain⟨v8,m,rfl,h8,h⟩:=aab.1 h
 rw[aaz] at h;subst h
 obtain⟨_,x1,_,rfl,_,_⟩:=acz.1 (id h2)
 obtain⟨_,x2,_,rfl,_,_⟩:=acz.1 (id h4)
 obtain⟨_,x3,_,rfl,_,_⟩:=acz.1 (id h6)
 cases aaM.1 h1;cases aaM.1 h3;cases aaM.1 h5;cases aaM.1 h7;cases aaM.1 h8
 exact⟨x1,x2,x3,rfl,abl.2 ⟨_,rfl, .cons h1 (.cons h2 (.cons h3 (.cons h4 (.cons h5 (.cons h6 .nil)))))⟩⟩
theorem aeE{G:Gh}{t:Tr}{v:Value}(h:Is G (eU t) v): ∃p,v= .pointer p:=by
 obtain⟨b,m,h,_⟩:=ahh.1 h;exact⟨_,h⟩
theorem PF.fn0{P:Program}{f:FuncId}{ds:List DV}{r:DV}(h: ∀{GB:Gh},PF GB P f ds r){G:Gh}{vs:List Value}(hv:IsLs G ds vs):Fn P f vs G (fun v G'=>Is G' r v):=h (GB:=G) G vs (GLe.refl G) hv
abbrev aAu (x:SV) (ns:List RN) (A:Gh):Prop:= ∃es,adW A 8 x es∧IsLs A (ns.map RN.d) es
theorem auu{A:Gh}{ns:List RN}{x:SV}(hx:aAu x ns A)(hs: ∀n∈ns,n.g.sm)(hn:ns.length≤1000000){rt:Int}{s s':RS}{t:Tr}(h:RR ns rt s t s'): ∀{G:Gh} {rb sb:Nat} {lo lo2:Bool},[GL A G]→s'.c≤1000000→
  FnM prog 148 [.pointer (some ⟨rb,0,none⟩), .int .i64 rt] [⟨rb,[.slice x.a x.n x.c, .slice (some ⟨sb,0,none⟩) ns.length ns.length, .int .i64 s.c, .bool s.b],228,lo⟩,⟨sb,aew ns.length s.f,4,lo2⟩] G
   (fun v css G'=> ∃p,v= .pointer p∧Is G' (eU t) (.pointer p)∧css=[[.slice x.a x.n x.c, .slice (some ⟨sb,0,none⟩) ns.length ns.length, .int .i64 s'.c, .bool s'.b],aew ns.length s'.f]):=by
 obtain⟨es,hx,hes⟩:=hx
 have hel:=hes.len
 rw[aX] at hel
 have hlen:=hx.len
 rw[hel] at hlen
 obtain⟨xa,xn,xc⟩:=x
 simp only[] at hlen
 subst hlen
 induction h with
 |leaf bb s=>
  intro G rb sb lo lo2 _ hc
  refine FnM.intro func148 J J ntmps148 rfl ?_
  intro C _ _
  show St C _ _ [⟨rb,_,_,false⟩,⟨sb,_,_,false⟩] _ _
  cases bb
  case true=>
   refine sR<|sa J J<|zE<|aah<|aap<|sR<|sm J J<|sy (abG J J) rfl<|sm J J<|ss J J J J<|ss J J J J<|?_
   refine sy (acr J J) rfl<|sa J J<|zE<|abY rfl<|sR<|sm J J<|sy (abG J J) rfl<|?_
   refine sc (zC J J (PF.fn0 (ahG (b:=true)) (.cons (aaM.2 rfl) .nil)) rfl ?_)
   rintro _ G1 _ hp
   obtain⟨p,rfl⟩:=aeE hp
   refine sa J J<|zE<|aaC<|?_
   exact acq (css:=[_,_]) (.tmp rfl .nil) rfl _ (List.Perm.refl _) (List.Sublist.refl _) ⟨p,rfl,hp,rfl⟩
  refine sR<|sa J J<|zE<|aah<|aap<|sR<|sm J J<|sy (abG J J) rfl<|sm J J<|syg J J (aaN rfl) rfl<|syg J J (abG J J) rfl<|?_
  refine sy (abj J J) rfl<|sa J J<|zE<|abY rfl<|sR<|sm J J<|sy (abG J J) rfl<|?_
  refine sc (zC J J (PF.fn0 (ahG (b:=false)) (.cons (aaM.2 rfl) .nil)) rfl ?_)
  rintro _ G1 _ hp
  obtain⟨p,rfl⟩:=aeE hp
  refine sa J J<|zE<|aaC<|?_
  exact acq (css:=[_,_]) (.tmp rfl .nil) rfl _ (List.Perm.refl _) (List.Sublist.refl _) ⟨p,rfl,hp,rfl⟩
 |bad rt s h1 h2 h=>
  intro G rb sb lo lo2 _ hc
  refine FnM.intro func148 J J ntmps148 rfl ?_
  intro C _ _
  show St C _ [(0, .pointer (some ⟨rb,0,none⟩)),(1, .int .i64 rt)] [⟨rb,[.slice xa ns.length xc, .slice (some ⟨sb,0,none⟩) ns.length ns.length, .int .i64 s.c, .bool s.b],_,false⟩,⟨sb,aew ns.length s.f,_,false⟩] _ _
  refine sR<|sa J J<|zE<|aah<|aap<|sR<|sm J J<|sy (abG J J) rfl<|sm J J<|?_
  refine abP 12 rfl (fun hg=>absurd hg (by omega)) (fun hg=>?_)
  refine syg J J (aaN rfl) rfl<|syg J J (abG J J) rfl<|sy (abj J J) rfl<|sa J J<|zE<|?_
  refine aaE rfl (fun hc=>absurd hc (by omega)) (fun _=>?_)
  refine sR<|sm J J<|sy (abV J J) rfl<|sm J J<|?_
  refine abP 22 rfl (fun hg=>?_) (fun hg=>?_)
  ·refine ss J J J J<|ss J J J J<|ss J J J J<|ss J J J J<|ss J J J J<|ss J J J J<|ss J J J J<|sy (acr J J) rfl<|sm J J<|ss J J J J<|ss J J J J<|?_
   refine ss J J J J<|ss J J J J<|ss J J J J<|ss J J J J<|ss J J J J<|sy (acr J J) rfl<|sa J J<|zE<|abY rfl<|aah<|?_
   refine aaj<|sm J J<|sn J J<|sf J J<|?_
   refine sc (abN J J J (.hd ..) (nb rfl) J J ?_)
   refine zE<|sR<|?_
   refine sc (zC J J (PF.fn0 (ahG (b:=false)) (.cons (aaM.2 rfl) .nil)) rfl ?_)
   rintro _ G1 _ hp
   obtain⟨p,rfl⟩:=aeE hp
   refine sa J J<|zE<|aaC<|?_
   exact acq (css:=[_,_]) (.tmp rfl .nil) rfl _ (List.Perm.refl _) (List.Sublist.refl _) ⟨p,rfl,hp,rfl⟩
  refine syg J J (aaN rfl) rfl<|syg J J (aaN rfl) rfl<|syg J J (aaH rfl) rfl<|syg J J (aaO rfl) rfl<|syg J J (aaB J J) rfl<|syg J J (adv rfl) rfl<|syg J J (aga J J) rfl<|sy (abj J J) rfl<|sm J J<|?_
  refine abP 31 rfl (fun hg=>?_) (fun hg=>?_)
  ·refine ss J J J J<|ss J J J J<|ss J J J J<|ss J J J J<|ss J J J J<|ss J J J J<|ss J J J J<|?_
   refine sy (acr J J) rfl<|sa J J<|zE<|abY rfl<|sR<|sm J J<|sn J J<|sf J J<|?_
   refine sc (abN J J J (.hd ..) (nb rfl) J J ?_)
   refine zE<|sR<|?_
   refine sc (zC J J (PF.fn0 (ahG (b:=false)) (.cons (aaM.2 rfl) .nil)) rfl ?_)
   rintro _ G1 _ hp
   obtain⟨p,rfl⟩:=aeE hp
   refine sa J J<|zE<|aaC<|?_
   exact acq (css:=[_,_]) (.tmp rfl .nil) rfl _ (List.Perm.refl _) (List.Sublist.refl _) ⟨p,rfl,hp,rfl⟩
  obtain⟨k,rfl,hk,hf⟩: ∃k:Nat,rt=k∧k<ns.length∧s.f k=true:=by
   rcases h with h|h|h
   ·omega
   ·exact absurd h hg
   ·exact h
  refine syg J J (aaN rfl) rfl<|syg J J (aaH rfl) rfl<|syg J J (aaO rfl) rfl<|syg J J (aaB J J) rfl<|syg J J (aaN rfl) rfl<|syg J J (aa0 J J (by omega) (by omega)) rfl<|?_
  refine syg J J (aaB (v:= .bool true) rfl (by rw[aT,fS];exact aeY hk hf)) rfl<|sy (abj J J) rfl<|sa J J<|zE<|abY rfl<|?_
  refine sR<|sm J J<|sn J J<|sf J J<|?_
  refine sc (abN J J J (.hd ..) (nb rfl) J J ?_)
  refine zE<|sR<|?_
  refine sc (zC J J (PF.fn0 (ahG (b:=false)) (.cons (aaM.2 rfl) .nil)) rfl ?_)
  rintro _ G1 _ hp
  obtain⟨p,rfl⟩:=aeE hp
  refine sa J J<|zE<|aaC<|?_
  exact acq (css:=[_,_]) (.tmp rfl .nil) rfl _ (List.Perm.refl _) (List.Sublist.refl _) ⟨p,rfl,hp,rfl⟩
 |line base n s h0 hfb hl=>
  intro G rb sb lo lo2 _ hc
  have hbn:base<ns.length:=(bZ.1 h0).1
  simp only at hc
  obtain⟨z,hzi,hz⟩:=hes.get (i:=base) (d:=n.d) (by rw[fR,h0];rfl)
  obtain⟨x1,x2,x3,rfl,hzg⟩:=aw0 hz
  refine FnM.intro func148 J J ntmps148 rfl ?_
  intro C _ _
  show St C _ [(0, .pointer (some ⟨rb,0,none⟩)),(1, .int .i64 (base:Int))] [⟨rb,[.slice xa ns.length xc, .slice (some ⟨sb,0,none⟩) ns.length ns.length, .int .i64 s.c, .bool s.b],_,false⟩,⟨sb,aew ns.length s.f,_,false⟩] _ _
  refine sR<|sa J J<|zE<|aah<|aap<|sR<|sm J J<|sy (abG J J) rfl<|sm J J<|?_
  refine abP 12 rfl (fun hg=>absurd hg (by omega)) (fun hg=>?_)
  refine syg J J (aaN rfl) rfl<|syg J J (abG J J) rfl<|sy (abj J J) rfl<|sa J J<|zE<|?_
  refine aaE rfl (fun hc=>absurd hc (by omega)) (fun _=>?_)
  refine sR<|sm J J<|sy (abV J J) rfl<|sm J J<|?_
  refine abP 22 rfl (fun hg=>absurd hg (by omega)) (fun hg=>?_)
  refine syg J J (aaN rfl) rfl<|syg J J (aaN rfl) rfl<|syg J J (aaH rfl) rfl<|syg J J (aaO rfl) rfl<|syg J J (aaB J J) rfl<|syg J J (adv rfl) rfl<|syg J J (aga J J) rfl<|sy (abj J J) rfl<|sm J J<|?_
  refine abP 31 rfl (fun hg=>absurd hg (by omega)) (fun hg=>?_)
  refine syg J J (aaN rfl) rfl<|syg J J (aaH rfl) rfl<|syg J J (aaO rfl) rfl<|syg J J (aaB J J) rfl<|syg J J (aaN rfl) rfl<|syg J J (aa0 J J (by omega) (by omega)) rfl<|?_
  refine syg J J (aaB (v:= .bool false) rfl (by rw[aT,fS];exact aeY hbn hfb)) rfl<|sy (abj J J) rfl<|sa J J<|zE<|adC rfl<|zK<|?_
  refine sR<|sm J J<|sn J J<|sf J J<|ao1 J J J<|sm J J<|sy (aa0 J J (by omega) (by omega)) rfl<|?_
  refine sc (acf J J (.tl _ _ _ _ _ _ _ _ (.hd ..)) (by rw[ag6,aT,fS];exact hbn) J J ?_)
  rw[aT,fS,ajn]
  refine zE<|sR<|sm J J<|sn J J<|sf J J<|ao1 J J J<|sy (aao J J) rfl<|sn J J<|sf J J<|?_
  refine sc (abN J J J (by repeat (first|exact .hd .. |apply aeR.tl)) (nb rfl) J J ?_)
  rw[show(s.c:Int)+1=((s.c+1:Nat):Int) by omega]
  refine zE<|sR<|sm J J<|sn J J<|sf J J<|ao1 J J J<|sm J J<|sy (ava (z:=⟨xa,ns.length,xc⟩) hx J J (by omega) (by show(base:Int)<(ns.length:Int);omega)) rfl<|?_
  rw[aT]
  refine sy (atP (i:=base) hx rfl (by rw[hel];exact hbn) hzi) rfl<|?_
  refine sc (ac8 rfl ?_)
  intro b5
  refine sc (aea J J J (by repeat (first|exact .hd .. |apply aeR.tl)) rfl (nb rfl) J J ?_)
  refine zE<|sR<|sf J J<|slo J J J<|?_
  refine sc (zC J J (PF.fn0 (apa (hs n (cZ h0))) (.cons (hzg.up GL.le) .nil)) rfl ?_)
  rintro _ G6 _ hw
  rw[hl] at hw
  obtain⟨n1,d1,p1,n2,d2,p2,n3,d3,p3,rfl,hw⟩:=atl hw
  refine sm J J<|sx J J J<|sx J J J<|?_
  refine sc (ac8 rfl ?_)
  intro b6
  refine sc (aea J J J (by repeat (first|exact .hd .. |apply aeR.tl)) rfl (nb rfl) J J ?_)
  refine sa J J<|zE<|aah<|sR<|sm J J<|sy (al7 rfl) rfl<|zE<|abY rfl<|?_
  refine sR<|sm J J<|sn J J<|sf J J<|?_
  refine sc (abN J J J (by repeat (first|exact .hd .. |apply aeR.tl)) (nb rfl) J J ?_)
  refine zE<|sR<|?_
  refine sc (zC J J (PF.fn0 (ahG (b:=false)) (.cons (aaM.2 rfl) .nil)) rfl ?_)
  rintro _ G7 _ hp
  obtain⟨p,rfl⟩:=aeE hp
  refine sa J J<|zE<|aaC<|?_
  exact acq (css:=[_,_]) (.tmp rfl .nil) rfl _ (jV (l₁:=[_,_]) (l₂:=[_,_])) (.cons_cons _ (.cons_cons _ (jY _))) ⟨p,rfl,hp,rfl⟩
 |node base n l s s2 s3 tx ty h0 hfb hl h1 h2 ih1 ih2=>
  intro G rb sb lo lo2 _ hc
  have hbn:base<ns.length:=(bZ.1 h0).1
  have hm1:=h1.mono
  have hm2:=h2.mono
  simp only at hm1
  obtain⟨z,hzi,hz⟩:=hes.get (i:=base) (d:=n.d) (by rw[fR,h0];rfl)
  obtain⟨x1,x2,x3,rfl,hzg⟩:=aw0 hz
  refine FnM.intro func148 J J ntmps148 rfl ?_
  intro C _ _
  show St C _ [(0, .pointer (some ⟨rb,0,none⟩)),(1, .int .i64 (base:Int))] [⟨rb,[.slice xa ns.length xc, .slice (some ⟨sb,0,none⟩) ns.length ns.length, .int .i64 s.c, .bool s.b],_,false⟩,⟨sb,aew ns.length s.f,_,false⟩] _ _
  refine sR<|sa J J<|zE<|aah<|aap<|sR<|sm J J<|sy (abG J J) rfl<|sm J J<|?_
  refine abP 12 rfl (fun hg=>absurd hg (by omega)) (fun hg=>?_)
  refine syg J J (aaN rfl) rfl<|syg J J (abG J J) rfl<|sy (abj J J) rfl<|sa J J<|zE<|?_
  refine aaE rfl (fun hc=>absurd hc (by omega)) (fun _=>?_)
  refine sR<|sm J J<|sy (abV J J) rfl<|sm J J<|?_
  refine abP 22 rfl (fun hg=>absurd hg (by omega)) (fun hg=>?_)
  refine syg J J (aaN rfl) rfl<|syg J J (aaN rfl) rfl<|syg J J (aaH rfl) rfl<|syg J J (aaO rfl) rfl<|syg J J (aaB J J) rfl<|syg J J (adv rfl) rfl<|syg J J (aga J J) rfl<|sy (abj J J) rfl<|sm J J<|?_
  refine abP 31 rfl (fun hg=>absurd hg (by omega)) (fun hg=>?_)
  refine syg J J (aaN rfl) rfl<|syg J J (aaH rfl) rfl<|syg J J (aaO rfl) rfl<|syg J J (aaB J J) rfl<|syg J J (aaN rfl) rfl<|syg J J (aa0 J J (by omega) (by omega)) rfl<|?_
  refine syg J J (aaB (v:= .bool false) rfl (by rw[aT,fS];exact aeY hbn hfb)) rfl<|sy (abj J J) rfl<|sa J J<|zE<|adC rfl<|zK<|?_
  refine sR<|sm J J<|sn J J<|sf J J<|ao1 J J J<|sm J J<|sy (aa0 J J (by omega) (by omega)) rfl<|?_
  refine sc (acf J J (.tl _ _ _ _ _ _ _ _ (.hd ..)) (by rw[ag6,aT,fS];exact hbn) J J ?_)
  rw[aT,fS,ajn]
  refine zE<|sR<|sm J J<|sn J J<|sf J J<|ao1 J J J<|sy (aao J J) rfl<|sn J J<|sf J J<|?_
  refine sc (abN J J J (by repeat (first|exact .hd .. |apply aeR.tl)) (nb rfl) J J ?_)
  rw[show(s.c:Int)+1=((s.c+1:Nat):Int) by omega]
  refine zE<|sR<|sm J J<|sn J J<|sf J J<|ao1 J J J<|sm J J<|sy (ava (z:=⟨xa,ns.length,xc⟩) hx J J (by omega) (by show(base:Int)<(ns.length:Int);omega)) rfl<|?_
  rw[aT]
  refine sy (atP (i:=base) hx rfl (by rw[hel];exact hbn) hzi) rfl<|?_
  refine sc (ac8 rfl ?_)
  intro b5
  refine sc (aea J J J (by repeat (first|exact .hd .. |apply aeR.tl)) rfl (nb rfl) J J ?_)
  refine zE<|sR<|sf J J<|slo J J J<|?_
  refine sc (zC J J (PF.fn0 (apa (hs n (cZ h0))) (.cons (hzg.up GL.le) .nil)) rfl ?_)
  rintro _ G6 _ hw
  rw[hl] at hw
  obtain⟨n1,d1,p1,n2,d2,p2,n3,d3,p3,rfl,hw'⟩:=atl hw
  replace hw:=hw' l rfl
  refine sm J J<|sx J J J<|sx J J J<|?_
  refine sc (ac8 rfl ?_)
  intro b6
  refine sc (aea J J J (by repeat (first|exact .hd .. |apply aeR.tl)) rfl (nb rfl) J J ?_)
  refine sa J J<|zE<|aah<|sR<|sm J J<|sy (al7 rfl) rfl<|zE<|adC rfl<|zK<|?_
  refine sR<|sm J J<|sf J J<|ao1 J J J<|?_
  have hrp:=ih1 (G:=G6) (rb:=rb) (sb:=sb) (lo:=false) (lo2:=false) (by omega)
  refine sc (agq J J (jV (l₁:=[_,_]) (l₂:=[_,_])) hrp rfl ?_)
  rintro _ css G7 _ _ ⟨q1,rfl,hp1,rfl⟩
  show St C _ _ [⟨rb,[.slice xa ns.length xc, .slice (some ⟨sb,0,none⟩) ns.length ns.length, .int .i64 s2.c, .bool s2.b],228,false⟩,⟨sb,aew ns.length s2.f,4,false⟩,⟨b6,[.int .i64 n1, .int .i64 d1, .pointer p1, .int .i64 n2, .int .i64 d2, .pointer p2, .int .i64 n3, .int .i64 d3, .pointer p3],181,true⟩,⟨b5,[.bool n.g.na, .slice x1.a x1.n x1.c, .bool n.g.nb, .slice x2.a x2.n x2.c, .bool n.g.nc, .slice x3.a x3.n x3.c, .int .i64 n.l, .int .i64 n.r],135,true⟩] _ _
  refine sa J J<|zE<|aah<|?_
  refine drS [⟨b6,[.int .i64 n1, .int .i64 d1, .pointer p1, .int .i64 n2, .int .i64 d2, .pointer p2, .int .i64 n3, .int .i64 d3, .pointer p3],181,true⟩,⟨b5,[.bool n.g.na, .slice x1.a x1.n x1.c, .bool n.g.nb, .slice x2.a x2.n x2.c, .bool n.g.nc, .slice x3.a x3.n x3.c, .int .i64 n.l, .int .i64 n.r],135,true⟩] (fun _=>false) [(0,true),(1,true),(2,true),(3,true),(4,true),(5,false),(6,false),(7,true)] follows (by kernel_rfl)<|?_
  refine dL J J J J<|dM J J J<|dM J J J<|dF J J J<|dL1 J J J J<|?_
  have hrp:=ih2 (G:=G7) (rb:=rb) (sb:=sb) (lo:=false) (lo2:=false) hc
  refine dc J J (agq J J (M:=[_,_]) (rest:=[_,_]) (List.Perm.refl _) hrp rfl ?_)
  rintro _ css G8 _ _ ⟨q2,rfl,hp2,rfl⟩
  show St C _ _ [⟨rb,[.slice xa ns.length xc, .slice (some ⟨sb,0,none⟩) ns.length ns.length, .int .i64 s3.c, .bool s3.b],228,false⟩,⟨sb,aew ns.length s3.f,4,false⟩,⟨b6,[.int .i64 n1, .int .i64 d1, .pointer p1, .int .i64 n2, .int .i64 d2, .pointer p2, .int .i64 n3, .int .i64 d3, .pointer p3],181,true⟩,⟨b5,[.bool n.g.na, .slice x1.a x1.n x1.c, .bool n.g.nb, .slice x2.a x2.n x2.c, .bool n.g.nc, .slice x3.a x3.n x3.c, .int .i64 n.l, .int .i64 n.r],135,true⟩] _ _
  refine amI<|?_
  refine dc J J (zC J J (PF.fn0 (asn (l:=l) (x:=tx) (y:=ty)) (.cons (hw.up GL.le) (.cons (hp1.up GL.le) (.cons hp2 .nil)))) rfl ?_)
  rintro _ G9 _ hp
  obtain⟨p,rfl⟩:=aeE hp
  refine amI<|dA J J J<|dn<|aaC<|?_
  exact acq (css:=[_,_]) (.tmp rfl .nil) rfl _ (List.Perm.refl _) (.cons_cons _ (.cons_cons _ (jY _))) ⟨p,rfl,hp,rfl⟩
def rs0:RS:=⟨fun _=>false,0,false⟩
def ofD(ns:List RN)(t:Tr)(s:RS):DV:=if s.b=false∧s.c=ns.length then .tp [eU t,vB true] else .tp [.v (.pointer none),vB false]
def eRT(rt:Int)(ns:List RN):DV:= .ag [vI rt, .sl (ns.map RN.d)]
theorem aBc{ns:List RN}{rt:Int}{t:Tr}{s:RS}(hs: ∀n∈ns,n.g.sm)(hn:ns.length≤65536)(h:RR ns rt rs0 t s)(hc:s.c≤1000000):PF GB prog 74 [eRT rt ns] (ofD ns t s):=by
 intro G vs _ hv
 obtain⟨v0,m,rfl,h0,hm⟩:=aab.1 hv
 rw[aaz] at hm;subst hm
 obtain⟨m,rfl,g⟩:=abl.1 h0
 obtain⟨v1,m,rfl,h1,hm⟩:=aab.1 g
 obtain⟨v2,m,rfl,h2,hm⟩:=aab.1 hm
 rw[aaz] at hm;subst hm
 obtain⟨s0,x,es,rfl,hsl,hes⟩:=acz.1 h2
 rw[aaM.1 h1]
 have hel:=hes.len
 rw[aX] at hel
 have hlen:=hsl.len
 rw[hel] at hlen
 have hx:aAu x ns G:=by
  refine⟨es,?_,hes⟩
  rcases ad5 (s:=8) hsl hes (fun d hd=>by obtain⟨n,_,rfl⟩:=bM.1 hd;exact⟨rfl,rfl⟩) with e|e
  ·exact⟨hsl.len,hsl.cap, .inl e⟩
  ·rw[e] at hsl;exact hsl
 obtain⟨xa,xn,xc⟩:=x
 simp only[] at hlen
 subst hlen
 show Fn _ _ [.agg ⟨[.int .i64 rt, .slice xa ns.length xc]⟩] _ _
 refine Fn.intro func74 J J ntmps74 rfl ?_
 intro C _ _
 refine sR<|?_
 refine sc (aor J J ?_)
 intro b1
 refine sa J J<|sa J J<|zE<|aah<|sR<|sf J J<|ao1 J J J<|acx J J<|sy (ae4 J J) rfl<|zE<|?_
 refine aaE rfl (fun hc=>absurd hc (by omega)) (fun _=>?_)
 refine zK<|aah<|dr (fun _=>false) [(0,true),(1,true),(2,true),(3,true),(4,true),(5,false),(6,true),(7,false),(8,true)] follows (by kernel_rfl)<|dF J J J<|?_
 refine dL1 J J J J<|dF J J J<|dL1 J J J J<|dy rfl (fun _=>adv rfl) J J<|?_
 refine dc J J (adQ J J (by omega) (by omega) (by omega) (by rfl) rfl ?_)
 intro b2
 rw[aT,ak2]
 refine amI<|dy rfl (fun _=>ai9 rfl) J J<|?_
 refine dc J J (aor J J ?_)
 intro b3
 refine amI<|dA J J J<|dn<|sR<|sm J J<|sf J J<|ao1 J J J<|?_
 have hrp:=auu hx hs (by omega) h (G:=G) (rb:=b3) (sb:=b2) (lo:=true) (lo2:=true) hc
 refine sc (agq J J (M:=[_,_]) (rest:=[_]) (List.Perm.refl _) hrp rfl ?_)
 rintro _ css G4 _ _ ⟨p,rfl,hp,rfl⟩
 show St C _ _ [⟨b3,[.slice xa ns.length xc, .slice (some ⟨b2,0,none⟩) ns.length ns.length, .int .i64 s.c, .bool s.b],228,true⟩,⟨b2,aew ns.length s.f,4,true⟩,⟨b1,[.int .i64 rt, .slice xa ns.length xc],42,true⟩] _ _
 refine sa J J<|zE<|aah<|aah<|dr (fun _=>false) [(0,true),(1,true),(2,true),(3,true),(4,true),(5,true),(6,true),(7,true),(8,true),(9,true),(10,true),(11,true),(12,true),(13,true)] follows (by kernel_rfl)<|?_
 obtain⟨sf_,sc_,sb_⟩:=s
 cases sb_
 case true=>
  refine dM J J J<|dy rfl (fun _=>aaH rfl) J J<|dF J J J<|dL1 J J J J<|dM J J J<|?_
  refine dys J J J J J J<|dys J J J J J J<|dys J J J J J J<|dys J J J J J J<|dys J J J J J J<|dys J J J J J J<|?_
  refine dys J J J J J J<|dys J J J J J J<|dy rfl (fun _=>acr J J) J J<|dn<|abY rfl<|?_
  refine sR<|sa J J<|sa J J<|zE<|aaC<|?_
  refine zD (.tmp rfl (.tmp rfl .nil)) ?_
  rw[ofD,if_neg (fun e=>by cases e.1)]
  exact acQ.2 ⟨_,rfl, .cons (aaM.2 rfl) (.cons (aaM.2 rfl) .nil)⟩
 refine dM J J J<|dy rfl (fun _=>aaH rfl) J J<|dF J J J<|dL1 J J J J<|dM J J J<|?_
 refine dyg J J J J (fun _=>aaN rfl) rfl<|dyg J J J J (fun _=>aaH rfl) rfl<|dyg J J J J (fun _=>aaO rfl) rfl<|dyg J J J J (fun _=>aaB J J) rfl<|?_
 refine dyg J J J J (fun _=>aaO rfl) rfl<|dyg J J J J (fun _=>aaB J J) rfl<|dyg J J J J (fun _=>adv rfl) rfl<|dyg J J J J (fun _=>af3 J J) rfl<|?_
 refine dy rfl (fun _=>abj J J) J J<|dn<|?_
 refine aaE rfl (fun hc=>?_) (fun hc=>?_) -- slot 35
 ·refine sR<|sa J J<|sa J J<|zE<|aaC<|?_
  refine zD (.tmp rfl (.tmp rfl .nil)) ?_
  rw[ofD,if_neg (fun e=>hc (by have:=e.2;simp only at this;omega))]
  exact acQ.2 ⟨_,rfl, .cons (aaM.2 rfl) (.cons (aaM.2 rfl) .nil)⟩
 refine zK<|sR<|sm J J<|sa J J<|sa J J<|zE<|aaC<|?_
 refine zD (.tmp rfl (.tmp rfl .nil)) ?_
 rw[ofD,if_pos ⟨rfl,by have h9:=hc;simp at h9;show sc_=_;omega⟩]
 exact acQ.2 ⟨_,rfl, .cons hp (.cons (aaM.2 rfl) .nil)⟩
theorem auN{G:Gh}{l:LnQ}{x y:Tr}{m:List Value}(h:IsLs G (cU (.node l x y)) m): ∃n1 d1 p1 n2 d2 p2 n3 d3 p3 q r,m=[.int .i64 n1, .int .i64 d1, .pointer p1, .int .i64 n2, .int .i64 d2, .pointer p2, .int .i64 n3, .int .i64 d3, .pointer p3, .pointer q, .pointer r, .bool false]∧
  Is G (eLn l) (.agg ⟨[.int .i64 n1, .int .i64 d1, .pointer p1, .int .i64 n2, .int .i64 d2, .pointer p2, .int .i64 n3, .int .i64 d3, .pointer p3]⟩)∧Is G (eU x) (.pointer q)∧Is G (eU y) (.pointer r):=by
 obtain⟨v1,m,rfl,h1,h⟩:=aab.1 h
 obtain⟨v2,m,rfl,h2,h⟩:=aab.1 h
 obtain⟨v3,m,rfl,h3,h⟩:=aab.1 h
 obtain⟨v4,m,rfl,h4,h⟩:=aab.1 h
 obtain⟨v5,m,rfl,h5,h⟩:=aab.1 h
 obtain⟨v6,m,rfl,h6,h⟩:=aab.1 h
 obtain⟨v7,m,rfl,h7,h⟩:=aab.1 h
 obtain⟨v8,m,rfl,h8,h⟩:=aab.1 h
 obtain⟨v9,m,rfl,h9,h⟩:=aab.1 h
 obtain⟨va,m,rfl,ha,h⟩:=aab.1 h
 obtain⟨vb,m,rfl,hb,h⟩:=aab.1 h
 obtain⟨vc,m,rfl,hc,h⟩:=aab.1 h
 rw[aaz] at h;subst h
 obtain⟨_,rfl⟩:=ahI h3
 obtain⟨_,rfl⟩:=ahI h6
 obtain⟨_,rfl⟩:=ahI h9
 obtain⟨_,rfl⟩:=aeE ha
 obtain⟨_,rfl⟩:=aeE hb
 cases aaM.1 h1;cases aaM.1 h2;cases aaM.1 h4;cases aaM.1 h5;cases aaM.1 h7;cases aaM.1 h8;cases aaM.1 hc
 exact⟨_,_,_,_,_,_,_,_,_,_,_,rfl,abl.2 ⟨_,rfl, .cons h1 (.cons h2 (.cons h3 (.cons h4 (.cons h5 (.cons h6 (.cons h7 (.cons h8 (.cons h9 .nil))))))))⟩,ha,hb⟩
theorem au2{G:Gh}{b:Bool}{m:List Value}(h:IsLs G (cU (.leaf b)) m):m=[.int .i64 0, .int .i64 0, .pointer none, .int .i64 0, .int .i64 0, .pointer none, .int .i64 0, .int .i64 0, .pointer none, .pointer none, .pointer none, .bool b]:=by
 obtain⟨v1,m,rfl,h1,h⟩:=aab.1 h
 obtain⟨v2,m,rfl,h2,h⟩:=aab.1 h
 obtain⟨v3,m,rfl,h3,h⟩:=aab.1 h
 obtain⟨v4,m,rfl,h4,h⟩:=aab.1 h
 obtain⟨v5,m,rfl,h5,h⟩:=aab.1 h
 obtain⟨v6,m,rfl,h6,h⟩:=aab.1 h
 obtain⟨v7,m,rfl,h7,h⟩:=aab.1 h
 obtain⟨v8,m,rfl,h8,h⟩:=aab.1 h
 obtain⟨v9,m,rfl,h9,h⟩:=aab.1 h
 obtain⟨va,m,rfl,ha,h⟩:=aab.1 h
 obtain⟨vb,m,rfl,hb,h⟩:=aab.1 h
 obtain⟨vc,m,rfl,hc,h⟩:=aab.1 h
 rw[aaz] at h;subst h
 cases aaM.1 h1;cases aaM.1 h2;cases aaM.1 h3;cases aaM.1 h4;cases aaM.1 h5;cases aaM.1 h6;cases aaM.1 h7;cases aaM.1 h8;cases aaM.1 h9;cases aaM.1 ha;cases aaM.1 hb;cases aaM.1 hc
 rfl
theorem ald: ∀{t:Tr} {A A2 G:Gh} {p:Option Addr} {ob wb:Nat} {lo lo2:Bool} {x:SV} {zs:List ND} {ns:List NQ} {B:List Own},Is A (eU t) (.pointer p)→t.all LB→[GL A G]→[GL A2 G]→Buf 8 135 x (zs.map ND.val) B→afz (aqt 96 A2) zs ns→zs.length+t.size≤1000000→
  FnO prog 140 [.pointer p, .pointer (some ⟨ob,0,none⟩), .pointer (some ⟨wb,0,none⟩)] (⟨ob,[.int .i64 0, .slice x.a x.n x.c],42,lo⟩::⟨wb,[adp ob wb],218,lo2⟩::B) G
   (fun v own' G'=> ∃x' zs' B',v= .int .i64 (t.num zs.length)∧own'=⟨ob,[.int .i64 0, .slice x'.a x'.n x'.c],42,false⟩::⟨wb,[adp ob wb],218,false⟩::B'∧Buf 8 135 x' (zs'.map ND.val) B'∧afz (aqt 96 G') zs' (ns++t.wr zs.length))
 | .leaf bb,A,A2,G,p,ob,wb,lo,lo2,x,zs,ns,B,h,_,_,_,hB,hz,hle=>by
  obtain⟨n,m,e,hg,hm⟩:=ahh.1 (id h)
  cases e
  cases au2 hm
  have hG:asU A n _:=⟨hg⟩
  have hz':afz (aqt 96 G) zs (ns++[]):=by rw[gV];exact hz.imp fun _ _ h=>h.up
  refine FnO.intro func140 J J ntmps140 rfl ?_
  intro C _ _
  show St C _ _ (⟨ob,[.int .i64 0, .slice x.a x.n x.c],42,false⟩::⟨wb,[adp ob wb],218,false⟩::asB B) _ _
  refine sR<|sa J J<|zE<|aah<|sR<|sm J J<|?_
  refine sc (zC J J (PF.fn0 abI (.cons (h.up GL.le) .nil)) rfl ?_)
  rintro _ G1 _ hv
  cases aaM.1 hv
  refine zE<|abY rfl<|?_
  refine aah<|sR<|sm J J<|sn J J<|sf J J<|aBV J J J<|zE<|?_
  cases bb
  case true=>
   refine abY rfl<|sR<|sa J J<|zE<|aaC<|?_
   exact adL (.tmp rfl .nil) _ _ (List.Perm.refl _) (List.Sublist.refl _) ⟨x,zs,_,rfl,rfl,hB.asB,hz'.imp fun _ _ h=>h.up⟩
  refine adC rfl<|zK<|sR<|sa J J<|zE<|aaC<|?_
  exact adL (.tmp rfl .nil) _ _ (List.Perm.refl _) (List.Sublist.refl _) ⟨x,zs,_,rfl,rfl,hB.asB,hz'.imp fun _ _ h=>h.up⟩
 | .node l s u,A,A2,G,p,ob,wb,lo,lo2,x,zs,ns,B,h,hall,_,_,hB,hz,hle=>by
  obtain⟨hlb,hall1,hall2⟩:=id hall
  haveI:LB l:=hlb
  obtain⟨n,m,e,hg,hm⟩:=ahh.1 (id h)
  cases e
  obtain⟨n1,d1,p1,n2,d2,p2,n3,d3,p3,q,r,rfl,hzl,hs,hu⟩:=auN hm
  have hG:asU A n _:=⟨hg⟩
  have hxn:=hB.len
  have hzn:=hz.len
  simp only[Tr.size] at hle
  obtain⟨xa,xn,xc⟩:=x
  rw[aX] at hxn
  simp only[] at hxn
  subst hxn
  refine FnO.intro func140 J J ntmps140 rfl ?_
  intro C _ _
  show St C _ _ (⟨ob,[.int .i64 0, .slice xa zs.length xc],42,false⟩::⟨wb,[adp ob wb],218,false⟩::asB B) _ _
  replace hB:=hB.asB
  generalize asB B=B at hB
  refine sR<|sa J J<|zE<|aah<|sR<|sm J J<|?_
  refine sc (zC J J (PF.fn0 abu (.cons (h.up GL.le) .nil)) rfl ?_)
  rintro _ G1 _ hv
  cases aaM.1 hv
  refine zE<|adC rfl<|?_
  refine zK<|sR<|sf J J<|ao1 J J J<|acx J J<|sa J J<|zE<|aah<|?_
  refine drS [⟨ob,[.int .i64 0, .slice xa zs.length xc],42,false⟩] (fun i=>Nat.beq i 11) [(0,true),(1,true),(2,true),(3,true),(4,true),(5,true),(6,false),(7,true),(8,false),(9,false),(10,true),(11,false)] follows (by kernel_rfl)<|?_
  refine dF J J J<|dL1 J J J J<|dM J J J<|dy rfl (fun _=>aaH rfl) J J<|?_
  refine dF J J J<|dy rfl (fun _=>afA rfl ghi rfl) J J<|?_
  refine dc J J (zC J J (PF.fn0 (aye (l:=l)) (.cons (hzl.up GL.le) .nil)) rfl ?_)
  rintro _ G2 _ hv
  obtain⟨ia,ib,ic,rfl,hia,hib,hic⟩:=ayb hlb.bl hv
  refine amI<|dy rfl (fun _=>ai9 rfl) J J<|?_
  refine dc J J (aoN rfl (by rfl) (by rfl) (by decide) (by decide) rfl ?_)
  intro b3
  refine amI<|?_
  refine dc J J (aiC (v:=ND.val ⟨ia,ib,ic,0,0⟩) (vs:=zs.map ND.val) [_,_,_] rfl hB J J (afR inferInstance rfl) rfl (ND.flat [⟨ia,ib,ic,0,0⟩] _ aQ) (by decide) (by rw[aX];omega) J J ?_)
  intro x1 B1 hB1
  rw[show zs.map ND.val++[ND.val ⟨ia,ib,ic,0,0⟩]=(zs++[(⟨ia,ib,ic,0,0⟩:ND)]).map ND.val by simp] at hB1
  show St C _ _ (⟨b3,_,_,true⟩::⟨ob,[.int .i64 0, .slice xa zs.length xc],42,false⟩::⟨wb,[adp ob wb],218,false⟩::B1) _ _
  refine amI<|dF J J J<|?_
  refine dc J J (abN (cs':=[.int .i64 0, .slice x1.a x1.n x1.c]) J J J (.tl _ _ _ _ _ _ _ _ (.hd ..)) (nb rfl) J J ?_)
  refine aBN rfl<|dn<|?_
  refine ao7 _ (oT _ _) ?_
  have hz1:afz (aqt 96 G2) (zs++[(⟨ia,ib,ic,0,0⟩:ND)]) (ns++[⟨l,0,0⟩]):=(hz.imp fun _ _ h=>h.up).app (.cons ⟨hia,hib,hic,rfl,rfl⟩ .nil)
  refine aah<|drS [⟨wb,[adp ob wb],218,false⟩] (fun _=>false) [(0,true),(1,true),(2,true),(3,true),(4,true),(5,false),(6,true)] follows (by kernel_rfl)<|?_
  refine dL1 J J J J<|dM J J J<|dy rfl (fun _=>aaH rfl) J J<|dF J J J<|dy rfl (fun _=>acl rfl ghi rfl) J J<|?_
  refine dc J J (afG (c1:=[]) (M:=_::_::B1) (rest:=[]) J J (by rw[gV]) (ald (lo:=false) (lo2:=false) hs hall1 hB1 hz1 (by simp;omega)) rfl ?_)
  rintro _ _ G3 fl _ hf _ ⟨x2,zs2,B2,rfl,rfl,hB2,hz2⟩
  have e1:fl ob=false:=hf _ aQ rfl
  have e2:fl wb=false:=hf _ (aZ _ aQ) rfl
  replace hB2:=hB2.relo fl
  refine ak1 (own':=⟨ob,[.int .i64 0, .slice x2.a x2.n x2.c],42,false⟩::⟨wb,[adp ob wb],218,false⟩::B2.map (relo fl)) (by simp only[bL,relo,e1,e2,gV]) ?_
  generalize B2.map (relo fl)=B2 at hB2
  have hl2:=hz2.len
  simp only[aU,Tr.wr_len,pK] at hl2
  refine amI<|dA J J J<|dn<|aah<|drS [⟨wb,[adp ob wb],218,false⟩] (fun _=>false) [(0,true),(1,true),(2,true),(3,true),(4,true),(5,false),(6,true)] follows (by kernel_rfl)<|?_
  refine dL1 J J J J<|dM J J J<|dy rfl (fun _=>aaH rfl) J J<|dF J J J<|dy rfl (fun _=>acl rfl ghi rfl) J J<|?_
  refine dc J J (afG (c1:=[]) (M:=_::_::B2) (rest:=[]) J J (by rw[gV]) (ald (lo:=false) (lo2:=false) hu hall2 hB2 hz2 (by omega)) rfl ?_)
  rintro _ _ G4 fl _ hf _ ⟨x3,zs3,B3,rfl,rfl,hB3,hz3⟩
  have e3:fl ob=false:=hf _ aQ rfl
  have e4:fl wb=false:=hf _ (aZ _ aQ) rfl
  replace hB3:=hB3.relo fl
  refine ak1 (own':=⟨ob,[.int .i64 0, .slice x3.a x3.n x3.c],42,false⟩::⟨wb,[adp ob wb],218,false⟩::B3.map (relo fl)) (by simp only[bL,relo,e3,e4,gV]) ?_
  generalize B3.map (relo fl)=B3 at hB3
  have hl3:=hz3.len
  simp only[aU,Tr.wr_len,pK] at hl3
  have hn3:zs.length<zs3.length:=by omega
  rcases hB3 with⟨h1,_,_⟩|⟨nb,rest,lo3,hx3,rfl,hf1,hf2,hf3⟩
  ·have:=congrArg List.length h1;rw[aX,eY] at this;omega
  obtain⟨x3a,x3n,x3c⟩:=x3
  simp only[SV.mk.injEq] at hx3
  obtain⟨rfl,rfl,_⟩:=hx3
  rw[aX] at hf3
  have hzz:ns.length=zs.length:=hzn.symm
  obtain⟨zn,hzn1,hzn2⟩:=hz3.get (i:=zs.length) (b:=⟨l,0,0⟩) (by rw[cY,cY,←hzz,gW (bQ _),Nat.sub_self];rfl)
  obtain⟨_,hzn3⟩:=bZ.1 hzn1
  have hL1:(zs++[(⟨ia,ib,ic,0,0⟩:ND)]).length=zs.length+1:=by simp
  have hL2:zs2.length=zs.length+1+s.size:=by omega
  rw[hL1] at hz3
  rw[hL1,hL2]
  rw[hL2] at hz3
  refine amI<|dA J J J<|dn<|?_
  refine aah<|drS [⟨ob,[.int .i64 0, .slice (some ⟨nb,0,none⟩) (zs3.map ND.val).length x3c],42,false⟩] (fun _=>false) [(0,true),(1,true),(2,true),(3,true),(4,true),(5,true),(6,true),(7,true),(8,true),(9,true),(10,false),(11,true),(12,true),(13,false)] follows (by kernel_rfl)<|?_
  refine dF J J J<|dL1 J J J J<|dM J J J<|dF J J J<|?_
  refine dL1 J J J J<|dM J J J<|dM J J J<|dM J J J<|dy rfl (fun _=>aa0 J J (by omega) (by rw[aX];omega)) J J<|?_
  refine dF J J J<|?_
  refine dc J J (acf J J (.tl _ _ _ _ _ _ _ _ (.tl _ _ _ _ _ _ _ _ (.hd ..))) (by rw[aU,hf1,aX,aT];omega) J J ?_)
  rw[aT,ajB zs3 rest zs.length 6 _ {zn with l:=s.num (zs.length+1)} hn3 (by decide) (by rw[hzn3];rfl)]
  refine amI<|dy rfl (fun _=>aa0 J J (by omega) (by rw[aX];omega)) J J<|dF J J J<|?_
  refine dc J J (acf J J (.tl _ _ _ _ _ _ _ _ (.tl _ _ _ _ _ _ _ _ (.hd ..))) (by rw[aU,aam (s:=8) _ (ND.len8 _),aX,aY,aT];omega) J J ?_)
  rw[aT,ajB (zs3.set zs.length _) rest zs.length 7 _ {zn with l:=s.num (zs.length+1),r:=u.num (zs.length+1+s.size)} (by rw[aY];exact hn3) (by decide) (by rw[List.getElem_set_self];rfl)]
  refine amI<|dn<|sR<|sm J J<|sa J J<|zE<|aaC<|?_
  have hfin:=hz3.set (a:={zn with l:=s.num (zs.length+1),r:=u.num (zs.length+1+s.size)}) (b:=⟨l,s.num (zs.length+1),u.num (zs.length+1+s.size)⟩) ⟨hzn2.a,hzn2.b,hzn2.c,rfl,rfl⟩ zs.length
  have hns:(ns++[(⟨l,0,0⟩:NQ)]++s.wr (zs.length+1)++u.wr (zs.length+1+s.size)).set zs.length ⟨l,s.num (zs.length+1),u.num (zs.length+1+s.size)⟩=ns++(Tr.node l s u).wr zs.length:=by
   rw[cY,cY,mU _ _ (by omega),hzz,Nat.sub_self]
   simp[Tr.wr]
  rw[hns] at hfin
  refine adL (.tmp rfl .nil) _ _ (List.Perm.refl _) (List.Sublist.refl _) ⟨⟨some ⟨nb,0,none⟩,(zs3.map ND.val).length,x3c⟩,_,_,rfl,rfl,?_,hfin⟩
  refine .inr ⟨nb,rest,lo3,by simp,by rw[List.set_set],?_,?_,?_⟩
  ·rw[aam (s:=8) _ (ND.len8 _)]
  ·rw[aam (s:=8) _ (ND.len8 _),aX,aY];rw[hf1,aX] at hf2;exact hf2
  ·rw[aX,aY];exact hf3
theorem azW{t:Tr}(hb:t.all LB)(hs:t.size≤1000000):PF GB prog 66 [eU t] (eA t):=by
 intro G vs _ hv
 obtain⟨v0,m,rfl,h,hm⟩:=aab.1 hv
 rw[aaz] at hm;subst hm
 obtain⟨p,rfl⟩:=aeE h
 refine Fn.intro func66 J J ntmps66 rfl ?_
 intro C _ hC
 refine sR<|?_
 refine sc (ac8 rfl ?_)
 intro b1
 refine zE<|sR<|?_
 refine sc (ac8 rfl ?_)
 intro b2
 refine zE<|sR<|?_
 refine sc (ac8 rfl ?_)
 intro b3
 refine zE<|sR<|sy (aln J J) rfl<|?_
 refine sc (abN (cs':=[adp b2 b3]) J J J (.hd ..) (nb rfl) J J ?_)
 refine zE<|sR<|ao1 J J J<|sm J J<|?_
 refine sc (afG (c1:=[]) (M:=[⟨b2,[.int .i64 0, .slice none 0 0],42,true⟩,⟨b3,[adp b2 b3],218,true⟩]) (rest:=[⟨b1,[.int .i64 0, .slice none 0 0],42,true⟩]) J J (List.Perm.swap ..) (ald (A:=G) (A2:=G) (x:=⟨none,0,0⟩) (zs:=[]) (ns:=[]) (B:=[]) h hb (Buf.nil ..) .nil (by simpa using hs)) rfl ?_)
 rintro _ _ G4 fl _ _ hf ⟨x,zs,B,rfl,rfl,hB,hz⟩
 have e1:=hf (by simp) b2
 have e2:=hf (by simp) b3
 replace hB:=hB.relo fl
 refine ak1 (own':=⟨b2,[.int .i64 0, .slice x.a x.n x.c],42,true⟩::⟨b3,[adp b2 b3],218,true⟩::(B.map (relo fl)++[⟨b1,[.int .i64 0, .slice none 0 0],42,true⟩])) (by simp only[bL,relo,e1,e2,jU]) ?_
 generalize B.map (relo fl)=B at hB
 refine aiz (⟨b2,[.int .i64 0, .slice x.a x.n x.c],42,true⟩::⟨b3,[adp b2 b3],218,true⟩::⟨b1,[.int .i64 0, .slice none 0 0],42,true⟩::B) ((jV (l₁:=B) (l₂:=[_])).cons _ |>.cons _) ?_
 refine sf J J<|?_
 refine sc (abN (cs':=[.int .i64 (t.num 0), .slice x.a x.n x.c]) J J J (.hd ..) (nb rfl) J J ?_)
 refine zE<|sR<|slo J J J<|?_
 refine sc (aea (cs':=[.int .i64 (t.num 0), .slice x.a x.n x.c]) J J J (.tl _ _ _ _ _ _ _ _ (.tl _ _ _ _ _ _ _ _ (.hd ..))) rfl (nb rfl) J J ?_)
 refine zE<|?_
 refine aki (L:=[_,_,_]) hC hB (ND.len8 _) ?_
 intro G5 _ hsl
 show St C _ _ [⟨b2,_,_,true⟩,⟨b3,_,_,true⟩,⟨b1,[.int .i64 (t.num 0), .slice x.a x.n x.c],42,true⟩] _ _
 refine aaC<|?_
 exact zD (.agg rfl ii ii rfl .nil) (aw1 (k:=96) ⟨zs,hsl,by rw[gN] at hz;exact hz.imp fun _ _ h=>h.up⟩)
def Tr.pre:Tr→List Tr
 | .leaf b=>[.leaf b]
 | .node l x y=> .node l x y::(x.pre++y.pre)
structure Vis (f:FuncId) (c2:List Value) (σ:Type) (step:σ→Tr→σ) (ok:σ→Tr→Prop) (Inv:σ→List Own→Gh→Prop):Prop where
 up: ∀{s B G G'},GLe G G'→Inv s B G→Inv s B G'
 re: ∀{s B G} (fl:Nat→Bool),Inv s B G→Inv s (B.map (relo fl)) G
 go: ∀{s t p B G},ok s t→Inv s B G→Is G (eU t) (.pointer p)→FnO prog f (.pointer p::c2) B G (fun _ B' G'=>Inv (step s t) B' G')
section
variable {P:Program} {C:Ctx} {n:Nat} {fr:Fr} {own:List Own} {G:Gh}
end
def atS{σ:Type}(step:σ→Tr→σ)(ok:σ→Tr→Prop):σ→List Tr→Prop
 |_,[]=>True
 |s,t::ts=>ok s t∧atS step ok (step s t) ts
structure EX (σ:Type) where
 ts:List Tr
 vs:List Value
 rest:List Value
 b:Nat
 cap:Nat
 lo:Bool
 s:σ
 B:List Own
def tsz(t:Tr):Nat:=2*t.size+1
def stk(ts:List Tr):List Tr:=ts.reverse.flatMap Tr.pre
structure EI (A:Gh) {σ:Type} (step:σ→Tr→σ) (ok:σ→Tr→Prop) (Inv:σ→List Own→Gh→Prop) (N:Nat) (fin:σ) (x:EX σ) (G:Gh):Prop where
 rel:afz (fun v t=> ∃p,v= .pointer p∧Is A (eU t) (.pointer p)) x.vs x.ts
 cap:x.vs.length+x.rest.length=x.cap
 inv:Inv x.s x.B G
 mu:(x.ts.map tsz).sum≤N
 okf:atS step ok x.s (stk x.ts)
 fin:(stk x.ts).foldl step x.s=fin
/-! ### Size -/
def szI(nbk:Nat)(s:Nat)(B:List Own)(_:Gh):Prop:= ∃lo,B=[⟨nbk,[.int .i64 s],3,lo⟩]
def szS(s:Nat):Tr→Nat
 | .leaf _=>s
 | .node .. =>s+1
def af1(n:Nat)(f:Nat→Bool):Nat:=((List.range n).filter fun j=>!f j).length
theorem ang{n k:Nat}{f:Nat→Bool}(hk:k<n)(hf:f k=false):af1 n (aj3 f k)+1=af1 n f:=by
 unfold af1
 have key: ∀l:List Nat,l.Nodup→((l.filter fun j=>!aj3 f k j).length+(if k∈l then 1 else 0)=(l.filter fun j=>!f j).length):=fun l=>by
  induction l with
  |nil=>intro _;rfl
  |cons a l ih=>
   intro hn
   obtain⟨h1,h2⟩:=List.nodup_cons.1 hn
   have:=ih h2
   by_cases e:a=k
   ·subst e
    simp only[nW,aop,hf,aS,true_or,if_true] at this⊢
    rw[if_neg h1] at this
    simp at this⊢
    omega
   ·have e': ¬k=a:=fun h=>e h.symm
    simp only[nW,ahp e,aS,e',false_or] at this⊢
    cases f a<;>simp at this⊢ <;>omega
 have:=key (List.range n) List.nodup_range
 rwa [if_pos (mM.2 hk)] at this
def rdF(ns:List RN):Nat→Int→RS→Tr×RS
 |0,_,s=>(.leaf false,s)
 |m+1,rt,s=>
  if rt= -1 then(.leaf false,s) else if rt= -2 then(.leaf true,s) else
  match ns[rt.toNat]? with
  |none=>(.leaf false,⟨s.f,s.c,true⟩)
  |some n=>if rt<0∨s.f rt.toNat=true then(.leaf false,⟨s.f,s.c,true⟩) else
   match n.g.ln with
   |none=>(.leaf false,⟨aj3 s.f rt.toNat,s.c+1,true⟩)
   |some l=>let a:=rdF ns m n.l ⟨aj3 s.f rt.toNat,s.c+1,s.b⟩;let b:=rdF ns m n.r a.2;(.node l a.1 b.1,b.2)
theorem ajx{ns:List RN}: ∀{m:Nat} {rt:Int} {s:RS},af1 ns.length s.f<m→RR ns rt s (rdF ns m rt s).1 (rdF ns m rt s).2∧(rdF ns m rt s).2.c+af1 ns.length (rdF ns m rt s).2.f=s.c+af1 ns.length s.f
 |0,_,_,h=>absurd h (Nat.not_lt_zero _)
 |m+1,rt,s,h=>by
  rw[rdF]
  split
  ·rename_i e;subst e;exact⟨.leaf false s,rfl⟩
  rename_i e1
  split
  ·rename_i e;subst e;exact⟨.leaf true s,rfl⟩
  rename_i e2
  split
  ·rename_i hn
   have:=List.getElem?_eq_none_iff.1 hn
   exact⟨.bad rt s e1 e2 (by omega),rfl⟩
  rename_i n hn
  have hlt:=(bZ.1 hn).1
  split
  ·rename_i hb
   refine⟨.bad rt s e1 e2 ?_,rfl⟩
   rcases hb with hb|hb
   ·exact .inl hb
   ·by_cases h0:rt<0
    ·exact .inl h0
    ·exact .inr (.inr ⟨rt.toNat,by omega,hlt,hb⟩)
  rename_i hb
  obtain⟨k,rfl⟩: ∃k:Nat,rt=k:=⟨rt.toNat,by omega⟩
  rw[aT] at hn hlt hb⊢
  have hf:s.f k=false:=by
   cases hh:s.f k with
   |false=>rfl
   |true=>exact absurd (Or.inr hh) hb
  have hu:=ang hlt hf
  split
  ·rename_i hl;exact⟨.line k n s hn hf hl,by simp only;omega⟩
  rename_i l hl
  have h1:=ajx (ns:=ns) (m:=m) (rt:=n.l) (s:=⟨aj3 s.f k,s.c+1,s.b⟩) (by simp only;omega)
  have hc:=h1.1.mono
  simp only at h1 hc
  have h2:=ajx (ns:=ns) (m:=m) (rt:=n.r) (s:=(rdF ns m n.l ⟨aj3 s.f k,s.c+1,s.b⟩).2) (by omega)
  exact⟨.node k n l s _ _ _ _ hn hf hl h1.1 h2.1,by have:=h1.2;have:=h2.2;dsimp only;omega⟩
def ofQ(ns:List RN)(rt:Int):Option Tr:=
 let r:=rdF ns (ns.length+1) rt rs0
 if r.2.b=false∧r.2.c=ns.length then some r.1 else none
def ofR:Option Tr→DV
 |some t=> .tp [eU t,vB true]
 |none=> .tp [.v (.pointer none),vB false]
theorem ae3(n:Nat)(f:Nat→Bool):af1 n f≤n:=by
 unfold af1
 refine dK (List.length_filter_le _ _) ?_
 rw[pQ];exact bQ _
theorem awr{ns:List RN}{rt:Int}(hs: ∀n∈ns,n.g.sm)(hn:ns.length≤65536):PF GB prog 74 [eRT rt ns] (ofR (ofQ ns rt)):=by
 have h:=ajx (ns:=ns) (m:=ns.length+1) (rt:=rt) (s:=rs0) (by have:=ae3 ns.length rs0.f;omega)
 have hu:=ae3 ns.length rs0.f
 have h0:rs0.c=0:=rfl
 have h2:=aBc (GB:=GB) hs hn h.1 (by have:=h.2;omega)
 unfold ofD at h2
 unfold ofQ
 simp only
 split
 ·rename_i e;rw[if_pos e] at h2;exact h2
 ·rename_i e;rw[if_neg e] at h2;exact h2
theorem RL.ln_some{r:RL}{l:LnQ}(h:r.ln=some l):r.nm∧l.ok∧r.l=l:=by
 unfold RL.ln at h
 split at h
 ·rename_i e;cases h;exact⟨e.1,e.2,rfl⟩
 ·cases h
theorem RR.good{ns:List RN}(hs: ∀n∈ns,n.g.sm){rt:Int}{s s':RS}{t:Tr}(h:RR ns rt s t s'):t.all LB∧t.all LnQ.ok∧(s'.b=false→s.b=false∧s'.c=s.c+t.size):=by
 induction h with
 |leaf=>exact⟨trivial,trivial,fun h=>⟨h,rfl⟩⟩
 |bad=>exact⟨trivial,trivial,fun h=>by cases h⟩
 |line=>exact⟨trivial,trivial,fun h=>by cases h⟩
 |node k n l s s2 s3 x y h hf hl h1 h2 i1 i2=>
  obtain⟨_,h3,rfl⟩:=RL.ln_some hl
  refine⟨⟨RL.lb (hs n (cZ h)),i1.1,i2.1⟩,⟨h3,i1.2.1,i2.2.1⟩,fun hb=>?_⟩
  obtain⟨e1,e2⟩:=i2.2.2 hb
  obtain⟨e3,e4⟩:=i1.2.2 e1
  simp only[Tr.size] at e3 e4⊢
  exact⟨e3,by omega⟩
theorem arw{ns:List RN}{rt:Int}{t:Tr}(hs: ∀n∈ns,n.g.sm)(h:ofQ ns rt=some t):t.all LB∧t.all LnQ.ok∧t.size=ns.length:=by
 have hr:=ajx (ns:=ns) (m:=ns.length+1) (rt:=rt) (s:=rs0) (by have:=ae3 ns.length rs0.f;omega)
 have hg:=hr.1.good hs
 unfold ofQ at h
 simp only at h
 split at h
 ·rename_i e
  cases h
  refine⟨hg.1,hg.2.1,?_⟩
  have:=(hg.2.2 e.1).2
  have h0:rs0.c=0:=rfl
  omega
 ·cases h
end Go.Sx
end
section
namespace Go.Sx
open Go Go.Proofs Go.RowKit Go.Extern.Stop Go.Stop Go.Extern
theorem aqZ(v:Value)(w:World):(Extern.ReflectliteType.typeOf #[.iface 399 v]).run Tryz.prog w= .ok (.iface 198 (.agg #[.pointer (some ⟨Tryz.prog.globals.size,399,none⟩)])) w:=by kernel_rfl
def aAj:TypeId→Sem Value:=fun t=>do Go.Extern.Rtype.noPackHeld "Comparable" t;pure (.bool (←typeInfo t).comparable)
theorem ajm(w:World):((Extern.ReflectliteType.method aAj) #[.agg #[.pointer (some ⟨Tryz.prog.globals.size,399,none⟩)]]).run Tryz.prog w= .ok (.bool true) w:=by kernel_rfl
theorem aw5:(Tryz.prog.info? 399).map (·.comparable)=some true:=by kernel_rfl
theorem awR:(Tryz.prog.info? 424).map (·.size)=some 1:=by kernel_rfl
theorem afk(n:Nat)(v:Value)(w:World):(Go.method (n+1) 198 v "Comparable").run Tryz.prog w= .ok (347,v) w:=by
 kernel_rfl
theorem azN(a:Addr)(w:World):Calls Tryz.prog 15 #[.iface 399 (.pointer (some a)), .iface 399 (.pointer (some a))] w fun e w'=>e= .returned (.bool true)∧w'=w:=by
 obtain⟨i,hi,hcmp⟩:=Option.map_eq_some_iff.1 aw5
 obtain⟨j,hj,hjs⟩:=Option.map_eq_some_iff.1 awR
 have h8:= @run_callFunc_extern Tryz.prog 54 _ Extern.ReflectliteType.typeOf Tryz.func54 (by kernel_rfl) (by kernel_rfl) (by kernel_rfl) (by kernel_rfl)
 have h32:= @run_callFunc_extern Tryz.prog 347 _ (Extern.ReflectliteType.method aAj) Tryz.func347 (by kernel_rfl) (by kernel_rfl) (by kernel_rfl) (by kernel_rfl)
 have tT:=aqZ
 have cT:=ajm
 obtain⟨g,hg⟩: ∃g,g=Tryz.prog.globals.size:=⟨_,rfl⟩
 simp only[←hg] at tT cT
 clear hg
 have mR:=afk
 have heq:=run_eql_iface_ptr_same (P:=Tryz.prog) w a Tryz.underlying37 Tryz.underlying399 hi hcmp hj
 go_enter Tryz.func15,Tryz.ntmps15
 go_wp2
 refine wp_loop_rounds 1 ?_
 rw[rounds_succ]
 go_wp2
 go_ret
 exact⟨rfl,rfl⟩
def av9(a:Addr):DV:= .v (.iface 399 (.pointer (some a)))
end Go.Sx
end
section
namespace Go.Sx
open Go Go.Proofs Tryz
variable {GB:Gh}
section
variable {GB:Gh} {C:Ctx} {n:Nat} {Q0:Exit→Act→World→Prop} {fr fr':FrX} {own own':OwX} {cf cf':Cf} {vc:List Prop}
def glA(fr:FrX)(cf:Cf):Option Nat:=match opC fr cf with
 |some ⟨_, .load t (.global g),_,_,_,_⟩=>(match aa9 tt t with
  |some i=>match i.ag with
   |some none=>some g
   |_=>none
  |none=>none)
 |_=>none
theorem gl[fu:Fu]{g:Nat}{v:Value}(h:glA fr cf=some g)(hg:GB g=some [v])(hgo:goA tt n fu.n fr own cf (.d (.v v)) [] []=⟨vc,fr',own',cf'⟩)(k:CfS prog GB C n Q0 fr' own' cf')
  (hv:aag vc:=by first|exact trivial|(simp only[aag];kernel_rfl)|(simp only[aag];omega)):CfS prog GB C n Q0 fr own cf:=by
 unfold glA at h
 split at h<;>try (cases h;done)
 rename_i hh
 split at h<;>try (cases h;done)
 rename_i i hT
 split at h<;>cases h
 rename_i ha
 haveI:=ahi (abt _ _ hT) ha
 refine us (f:= .d (.v v)) hh (OpR.yd fun ρ G ov a w r=>⟨v,(aaM (G:=G)).2 rfl,?_⟩) hgo hv k
 haveI:asU G g [v]:=⟨r.gb _ _ hg⟩
 exact acl (b:=g) (off:=0) rfl ghi rfl
theorem akt{d:Nat}{f:FX}{x:DV}(hl:aau fr d=some f)(e:ahU f=some x){Φ:Act→World→Prop}(h:SX GB C n (aau ((d, .d x)::fr)) (aaA own) Φ):SX GB C n (aau fr) (aaA own) Φ:=aby (g:= .d x) hl (fun _ _ _ k=>aca k e) h
theorem dvE(d:Nat){f:FX}(x:DV){e:Exit}{K:List Kt}(hl:aau fr d=some f)(e1:ahU f=some x)(k:CfS prog GB C n Q0 ((d, .d x)::fr) own (.ex e K)):CfS prog GB C n Q0 fr own (.ex e K):=akt hl e1 k
theorem dvC(d:Nat){f:FX}(x:DV){c:Code}{K:List Kt}(hl:aau fr d=some f)(e1:ahU f=some x)(k:CfS prog GB C n Q0 ((d, .d x)::fr) own (.code c K)):CfS prog GB C n Q0 fr own (.code c K):=akt hl e1 k
def bzA(fr:FrX)(cf:Cf):Option (Nat×List FX):=match opC fr cf with
 |some ⟨some d, .build t ⟨[]⟩,_,_,_,_⟩=>match aa9 tt t with
  |some ⟨.st _,_,some zx,_⟩=>some (d,zx)
  |_=>none
 |_=>none
end
structure EG (GB:Gh) (ai al ae:Addr):Prop where
 ErrInvalid:GB 1=some [.iface 399 (.pointer (some ai))]
 ErrLimit:GB 2=some [.iface 399 (.pointer (some al))]
structure EGE (GB:Gh) (ai al ae:Addr):Prop extends EG GB ai al ae where
 ErrEmpty:GB 0=some [.iface 399 (.pointer (some ae))]
structure Tr.gd (t:Tr):Prop where
 lb:t.all LB
 ok:t.all LnQ.ok
theorem Tr.restrict_size: ∀(t:Tr) (c:aat),(t.restrict c).size≤t.size
 | .leaf _,_=>bQ _
 | .node l x y,c=>by
  rw[Tr.restrict]
  have hx:=fun c=>x.restrict_size c
  have hy:=fun c=>y.restrict_size c
  split
  ·have:=hx c;simp only[Tr.size];omega
  ·split
   ·have:=hy c;simp only[Tr.size];omega
   ·have h1:=hx (abg c l)
    have h2:=hy (abg c l.rev)
    rcases Tr.joinQ_cases l (x.restrict (abg c l)) (y.restrict (abg c l.rev)) with⟨h,_⟩|⟨h,_⟩<;>rw[h]<;>(try simp only[Tr.size])<;>omega
theorem Tr.depth_size: ∀t:Tr,t.depth≤t.size
 | .leaf _=>bQ _
 | .node l x y=>by
  have h1:=x.depth_size
  have h2:=y.depth_size
  simp only[Tr.depth,Tr.size]
  omega
def aAK(op:Int)(a b:Tr):Option Tr:=if 1024<a.depth+b.depth then none else if 65536<(a.mergeQ op b []).size then none else some (a.mergeQ op b [])
def aB3(al:Addr):Option Tr→DV
 |some t=> .tp [eU t, .v .nilIface]
 |none=> .tp [.v (.pointer none),av9 al]
def aA2(op:Int):Tr→List Tr→Option Tr
 |t,[]=>some t
 |t,u::us=>match aAK op t u with
  |none=>none
  |some r=>aA2 op r us
theorem ag3{t:Tr}(h:t.gd)(c:aat):(t.restrict c).gd:=⟨t.restrict_all LB c h.lb,t.restrict_all LnQ.ok c h.ok⟩
theorem awW{ns:List RN}{rt:Int}{t:Tr}(hs: ∀n∈ns,n.g.sm)(hn:ns.length≤65536)(h:ofQ ns rt=some t):PF GB prog 74 [eRT rt ns] (.tp [eU t,vB true]):=by
 have:=awr (GB:=GB) (rt:=rt) hs hn;rw[h] at this;exact this
theorem azL{ns:List RN}{rt:Int}(hs: ∀n∈ns,n.g.sm)(hn:ns.length≤65536)(h:ofQ ns rt=none):PF GB prog 74 [eRT rt ns] (.tp [.v (.pointer none),vB false]):=by
 have:=awr (GB:=GB) (rt:=rt) hs hn;rw[h] at this;exact this
def trZ:DV:= .ag [vI 0, .sl []]
def aA6:Tr ⊕ Addr→DV
 | .inl t=> .tp [eA t, .v .nilIface]
 | .inr e=> .tp [trZ,av9 e]
def aBm(ai:Addr):Option Tr→Tr ⊕ Addr
 |some t=> .inl t.compl
 |none=> .inr ai
def aAt(al:Addr):Option Tr→Tr ⊕ Addr
 |some t=> .inl t
 |none=> .inr al
def aAF(ai al:Addr)(op:Int):Option Tr→Option Tr→Tr ⊕ Addr
 |some a,some b=>if 1≤op∧op≤4 then aAt al (aAK op a b) else .inr ai
 |_,_=> .inr ai
theorem atf{ns:List RN}{rt:Int}{t:Tr}(hs: ∀n∈ns,n.g.sm)(hn:ns.length≤65536)(h:ofQ ns rt=some t):t.gd∧t.size≤65536:=by
 obtain⟨h1,h2,h3⟩:=arw hs h
 exact⟨⟨h1,h2⟩,by omega⟩
abbrev TIn:=Int×List RN
def TIn.d(x:TIn):DV:=eRT x.1 x.2
def TIn.q(x:TIn):Option Tr:=ofQ x.2 x.1
def ofP:Option Tr→DV
 |some t=>eU t
 |none=> .v (.pointer none)
def az7(op:Int)(ts:List TIn):Bool:=decide (1≤op∧op≤4)&&ts.all fun x=>x.q.isSome
def aCl(ai al ae:Addr)(op:Int)(ts:List TIn):Tr ⊕ Addr:=
 if az7 op ts then(match ts.filterMap TIn.q with
  |[]=> .inr ae
  |a::us=>if 1024<a.depth then .inr al else aAt al (aA2 op (a.restrict []) us)) else .inr ai
def aCq(ts:List TIn):List DV:=ts.map fun x=>ofP x.q
structure TIn.ok (x:TIn):Prop where
 s: ∀n∈x.2,n.g.sm
 n:x.2.length≤65536
def Tr.val:Tr→PtQ→Bool
 | .leaf b,_=>b
 | .node l x y,p=>if 0<l.value p then x.val p else y.val p
def Tr.lns:Tr→List LnQ
 | .leaf _=>[]
 | .node l x y=>l::(x.lns++y.lns)
theorem adg{P:LnQ→Prop}: ∀{t:Tr},t.all P↔ ∀l∈t.lns,P l
 | .leaf _=>⟨fun _ l hl=>(by cases hl),fun _=>trivial⟩
 | .node l x y=>by
  show(P l∧x.all P∧y.all P)↔ ∀m∈l::(x.lns++y.lns),P m
  rw[adg (t:=x),adg (t:=y)]
  constructor
  ·rintro ⟨h0,h1,h2⟩ m hm
   rcases aS.1 hm with rfl|hm
   ·exact h0
   ·rcases bS.1 hm with hm|hm
    ·exact h1 m hm
    ·exact h2 m hm
  ·intro h
   exact⟨h l aQ,fun m hm=>h m (aZ _ (bW _ hm)),fun m hm=>h m (aZ _ (bR _ hm))⟩
theorem adV{t:Tr}(h:t.all LnQ.ok): ∀l∈t.lns,l.ok:=adg.1 h
def Off(L:List LnQ)(p:PtQ):Prop:= ∀l∈L,l.value p≠0
theorem Off.sub{L M:List LnQ}{p:PtQ}(h:Off L p)(k: ∀l∈M,l∈L):Off M p:=fun l hl=>h l (k l hl)
theorem Off.l{l:LnQ}{x y:Tr}{p:PtQ}(h:Off (Tr.node l x y).lns p):l.value p≠0:=h l aQ
theorem Off.x{l:LnQ}{x y:Tr}{p:PtQ}(h:Off (Tr.node l x y).lns p):Off x.lns p:=h.sub fun m hm=>aZ _ (bW _ hm)
theorem Off.y{l:LnQ}{x y:Tr}{p:PtQ}(h:Off (Tr.node l x y).lns p):Off y.lns p:=h.sub fun m hm=>aZ _ (bR _ hm)
def opB(op:Int)(a b:Bool):Bool:=if op=1 then a||b else if op=2 then a&&b else if op=3 then a&&!b else a !=b
theorem Tr.val_join(l:LnQ)(X Y:Tr)(p:PtQ):(Tr.joinQ l X Y).val p=(Tr.node l X Y).val p:=by
 unfold Tr.joinQ
 split
 ·rename_i h
  cases X<;>cases Y<;>simp[Tr.isLeaf,Tr.code] at h
  subst h
  simp[Tr.val]
 ·rfl
theorem Tr.val_pos{l:LnQ}{x y:Tr}{p:PtQ}(h:0<l.value p):(Tr.node l x y).val p=x.val p:=by rw[Tr.val,if_pos h]
theorem Tr.val_neg{l:LnQ}{x y:Tr}{p:PtQ}(h: ¬0<l.value p):(Tr.node l x y).val p=y.val p:=by rw[Tr.val,if_neg h]
theorem arA{c:aat}{l:LnQ}(hc:ae1 c)(hl:l.ok)(hb:abv c l.rev=false){p:PtQ}(hp:InD c p)(h0:l.value p≠0):0<l.value p:=by
 by_cases h:0<l.value p
 ·exact h
 ·exfalso
  have:abv c l.rev=true:=(amE hc hl.rev).2 ⟨p,hp,by rw[ad7];grind⟩
  rw[hb] at this;cases this
theorem aq4{c:aat}{l:LnQ}(hc:ae1 c)(hl:l.ok)(hb:abv c l=false){p:PtQ}(hp:InD c p): ¬0<l.value p:=fun h=>by
 have:abv c l=true:=(amE hc hl).2 ⟨p,hp,h⟩
 rw[hb] at this;cases this
theorem Tr.val_restrict: ∀(t:Tr) (c:aat) (p:PtQ),t.all LnQ.ok→ae1 c→InD c p→Off t.lns p→(t.restrict c).val p=t.val p
 | .leaf _,_,_,_,_,_,_=>rfl
 | .node l x y,c,p,⟨hl,hx,hy⟩,hc,hp,ho=>by
  cases hb:abv c l.rev with
  |false=>rw[Tr.restrict_A _ _ hb,x.val_restrict c p hx hc hp ho.x,Tr.val_pos (arA hc hl hb hp ho.l)]
  |true=>
   cases hb2:abv c l with
   |false=>rw[Tr.restrict_B _ _ hb hb2,y.val_restrict c p hy hc hp ho.y,Tr.val_neg (aq4 hc hl hb2 hp)]
   |true=>
    rw[Tr.restrict_C _ _ hb hb2,Tr.val_join]
    obtain⟨g1,i1⟩:=aj7 hc hl hb2
    obtain⟨g2,i2⟩:=aj7 hc hl.rev hb
    by_cases h:0<l.value p
    ·rw[Tr.val_pos h,Tr.val_pos h,x.val_restrict _ p hx g1 ((i1 p).2 ⟨hp,h⟩) ho.x]
    ·rw[Tr.val_neg h,Tr.val_neg h,y.val_restrict _ p hy g2 ((i2 p).2 ⟨hp,by rw[ad7];have:=ho.l;grind⟩) ho.y]
theorem amf: ∀(L:List LnQ) (u:PtQ) (p:PtQ),Off L p→ ∃e:Rat,0<e∧ ∀d,0≤d→d≤e→Off L (aeS p u d)
 |[],u,p,_=>⟨1,by decide,fun d _ _ l hl=>by cases hl⟩
 |l::L,u,p,h=>by
  obtain⟨e,he,hm⟩:=amf L u p (h.sub fun m hm=>aZ _ hm)
  have h0:=h l aQ
  have key: ∃f:Rat,0<f∧ ∀d,0≤d→d≤f→l.value (aeS p u d)≠0:=by
   by_cases hk:l.nor.dot u=0
   ·exact⟨1,by decide,fun d _ _=>by rw[ab2,hk];grind⟩
   ·generalize hA:l.value p=A at*
    generalize hB:l.nor.dot u=B at*
    rcases aaU A with h|h|h
    ·exact absurd h h0
    ·rcases aaU B with k|k|k
     ·exact absurd k hk
     ·exact⟨1,by decide,fun d hd _=>by rw[ab2,hA,hB];have:=aai hd (iM k);grind⟩
     ·refine⟨A/(-B)/2,?_,fun d hd h2=>?_⟩
      ·have:0<A/(-B):=by
        have e1:A/(-B)*(-B)=A:=by grind
        exact(aaw (k:= -B) (by grind)).1 (by rw[e1];exact h)
       grind
      ·rw[ab2,hA,hB]
       have e1:A/(-B)*(-B)=A:=by grind
       generalize A/(-B)=q at*
       have h4:=aai (a:=q/2-d) (b:= -B) (by grind) (by grind)
       grind
    ·rcases aaU B with k|k|k
     ·exact absurd k hk
     ·refine⟨(-A)/B/2,?_,fun d hd h2=>?_⟩
      ·have:0<(-A)/B:=by
        have e1:(-A)/B*B= -A:=by grind
        exact(aaw (k:=B) k).1 (by rw[e1];grind)
       grind
      ·rw[ab2,hA,hB]
       have e1:(-A)/B*B= -A:=by grind
       generalize (-A)/B=q at*
       have h4:=aai (a:=q/2-d) (b:=B) (by grind) (by grind)
       grind
     ·exact⟨1,by decide,fun d hd _=>by rw[ab2,hA,hB];have:=aai hd (b:= -B) (by grind);grind⟩
  obtain⟨f,hf,hk⟩:=key
  refine⟨if e≤f then e else f,by split<;>assumption,fun d hd hde m hm'=>?_⟩
  have h1:d≤e∧d≤f:=by split at hde<;>grind
  rcases aS.1 hm' with rfl|hm'
  ·exact hk d hd h1.2
  ·exact hm d hd h1.1 m hm'
theorem amk{c:aat}{p:PtQ}(hp:InD c p): ∀(L:List LnQ),(∀l∈L,l.ok)→ ∃q,InD c q∧Off L q
 |[],_=>⟨p,hp,fun l hl=>by cases hl⟩
 |l::L,h=>by
  obtain⟨q,hq,ho⟩:=amk hp L fun m hm=>h m (aZ _ hm)
  by_cases h0:l.value q=0
  ·have hn:=ah3 (h l aQ).ne
   obtain⟨e,he,hm⟩:=hq.open l.nor
   obtain⟨f,hf,hk⟩:=amf L l.nor q ho
   refine⟨aeS q l.nor (if e≤f then e else f),hm _ (by split<;>grind) (by split<;>grind),fun m hm'=>?_⟩
   rcases aS.1 hm' with rfl|hm'
   ·rw[ab2,h0]
    have:=aae (a:=if e≤f then e else f) (b:=m.nor.dot m.nor) (by split<;>assumption) hn
    grind
   ·exact hk _ (by split<;>grind) (by split<;>grind) m hm'
  ·exact⟨q,hq,fun m hm=>by rcases aS.1 hm with rfl|hm;exact h0;exact ho m hm⟩
def Tr.Red:Tr→aat→Prop
 | .leaf _,_=>True
 | .node l x y,c=>abv c l=true∧abv c l.rev=true∧x.Red (abg c l)∧y.Red (abg c l.rev)∧ ¬(x.isLeaf=true∧y.isLeaf=true∧x.code=y.code)
theorem Tr.red_leaf{t:Tr}(h:t.isLeaf=true)(c:aat):t.Red c:=by
 cases t with
 |leaf b=>trivial
 |node l x y=>cases h
theorem Tr.join_red{l:LnQ}{x y:Tr}{c:aat}(h1:abv c l=true)(h2:abv c l.rev=true)(hx:x.Red (abg c l))(hy:y.Red (abg c l.rev)):(Tr.joinQ l x y).Red c:=by
 rcases Tr.joinQ_cases l x y with⟨e,h⟩|⟨e,h⟩
 ·rw[e];exact Tr.red_leaf h c
 ·rw[e];exact⟨h1,h2,hx,hy,h⟩
theorem Tr.restrict_red: ∀(t:Tr) (c:aat),(t.restrict c).Red c
 | .leaf _,_=>trivial
 | .node l x y,c=>by
  cases hb:abv c l.rev with
  |false=>rw[Tr.restrict_A _ _ hb];exact x.restrict_red c
  |true=>
   cases hb2:abv c l with
   |false=>rw[Tr.restrict_B _ _ hb hb2];exact y.restrict_red c
   |true=>rw[Tr.restrict_C _ _ hb hb2];exact Tr.join_red hb2 hb (x.restrict_red _) (y.restrict_red _)
theorem Tr.red_restrict: ∀{t:Tr} {c:aat},t.Red c→t.restrict c=t
 | .leaf _,_,_=>rfl
 | .node l x y,c,⟨h1,h2,h3,h4,h5⟩=>by
  rw[Tr.restrict_C _ _ h2 h1,Tr.red_restrict h3,Tr.red_restrict h4]
  rcases Tr.joinQ_cases l x y with⟨e,h⟩|⟨e,h⟩
  ·exfalso
   unfold Tr.joinQ at e
   split at e
   ·rename_i k;simp at k;exact h5 k
   ·cases x with
    |leaf b=>cases e
    |node a b d=>cases h
  ·exact e
theorem avp(p:PtQ):InD [] p:=fun s hs=>(by cases hs)
def LnQ.same(l m:LnQ):Prop:=m=l∨m=l.rev
instance (l m:LnQ):Decidable (l.same m):=inferInstanceAs (Decidable (_∨_))
def Tr.cnt(l:LnQ):Tr→Nat
 | .leaf _=>0
 | .node m x y=>(if l.same m then 1 else 0)+(x.cnt l+y.cnt l)
def aBQ(l:LnQ)(c:aat):Prop:= ∃p,InD c p∧l.value p=0
def inB(c:aat)(p:PtQ):Bool:=c.all fun s=>decide (0<s.l.value p)
def aAH(P:List PtQ)(l:LnQ)(t:Tr):Prop:=t.all fun m=>l.same m∨ ∀p,l.value p=0→m.value p=0→p∈P
def aqp(K:List LnQ)(t:Tr):Prop:=t.all fun n=> ∃m∈K,m.same n
def aAV(l m:LnQ):PtQ:=l.at (-(l.cutC m/l.cutK m))
def Kc(t:Tr):List LnQ→Nat
 |[]=>0
 |l::K=>t.cnt l+Kc t K
def Ks(n:LnQ):List LnQ→Nat
 |[]=>0
 |l::K=>(if l.same n then 1 else 0)+Ks n K
theorem asD{K:List LnQ}{t:Tr}(h: ∀l∈t.lns,l∈K):aqp K t:=adg.2 fun l hl=>⟨l,h l hl, .inl rfl⟩
theorem aqp.restrict{K:List LnQ}{t:Tr}(h:aqp K t)(c:aat):aqp K (t.restrict c):=t.restrict_all _ c h
def Tr.chooseL(op:Int)(b:Bool)(t:Tr)(c:List LnQ):Tr:=
 if op=1∧b=true then .leaf true
 else if(op=2∨op=3)∧b=false then .leaf false
 else if(op=3∨op=4)∧b=true then(t.restrictL c).compl else t.restrictL c
def Tr.mergeL(op:Int):Tr→Tr→List LnQ→Tr
 | .leaf b,u,c=>u.chooseL op b c
 | .node l x y,u,c=>if amz c l=1 then x.mergeL op u c else if amz c l= -1 then y.mergeL op u c else joinQ l (x.mergeL op u (ahS (c++[l]))) (y.mergeL op u (ahS (c++[l.rev])))
structure Gen (L:List LnQ) (a b:Tr):Prop where
 oa:a.all LnQ.ok
 ob:b.all LnQ.ok
 ok: ∀l∈L,l.ok
 la: ∀l∈a.lns,l∈L
 lb: ∀l∈b.lns,l∈L
def awb(x:Rat):List Rat→List Rat
 |[]=>[x]
 |u::t=>if u<x then u::awb x t else if u=x then u::t else x::u::t
def avV(l:List Rat):List Rat:=l.foldl (fun out x=>awb x out) []
def awp:List Rat→List Rat
 |a::b::t=>(a+b)/2::awp (b::t)
 |_=>[]
def arS:List Rat→List Rat
 |[]=>[0]
 |a::t=>(a-1)::(awp (a::t)++[(a::t).getLast (by simp)+1])
def xsQ:List LnQ→List Rat
 |[]=>[]
 |a::t=>(if a.b=0 then [a.base.x] else [])++(t.filterMap (fun b=>if crossI a b=0 then none else some (acF a b).x)++xsQ t)
def yA(a:LnQ)(x:Rat):Rat:= -(((a.a:Rat)*x+(a.c:Rat))/(a.b:Rat))
def ysQ(l:List LnQ)(x:Rat):List Rat:=l.filterMap fun a=>if a.b=0 then none else some (yA a x)
def awg(l:List LnQ):List PtQ:=(arS (avV (xsQ l))).flatMap fun x=>(arS (avV (ysQ l x))).map fun y=>⟨x,y⟩
def aAo(l:LnQ)(p:PtQ):LnQ:=if 0<l.value p then l else l.rev
def aAv(out:List Rat)(s:IvQ):List Rat:=if s.nh then(if s.nl then out else awb s.lo out) else awb s.hi (if s.nl then out else awb s.lo out)
def avt(l:List IvQ):List Rat:=l.foldl aAv []
def aAD:List IvQ→Rat→Int
 |[],_=>0
 |s::t,x=>
  let a:=if s.nl then 1 else adE x s.lo
  let b:=if s.nh then-1 else adE x s.hi
  if 0<a∧b<0 then 2 else if(a=0∧b≤0)∨(b=0∧0≤a) then 1 else aAD t x
def axk(l:List IvQ)(x:Rat):Bool:=decide (aAD l x=2)
def azY(cuts:List Rat)(i:Nat):IvQ:=⟨if i=0 then 0 else cuts.getD (i-1) 0,if i<cuts.length then cuts.getD i 0 else 0,decide (i=0),decide (i=cuts.length)⟩
def azv(v w:IvQ):IvQ:=⟨v.lo,w.hi,v.nl,w.nh⟩
def ayn(cuts:List Rat)(marks:List Bool):Nat→List IvQ
 |0=>[]
 |k+1=>
  let out:=ayn cuts marks k
  if marks.getD k false then
   (if 0<k∧marks.getD (k-1) false=true then(match out.getLast? with
    |some v=>out.dropLast++[azv v (azY cuts k)]
    |none=>out++[azY cuts k]) else out++[azY cuts k])
  else out
def azc(cuts:List Rat)(marks:List Bool):List IvQ:=ayn cuts marks marks.length
def azM(op:Int)(x y:Bool):Bool:=if op=2 then x&&y else if op=3 then x&&!y else if op=4 then x !=y else x||y
def azm(op:Int)(a b:List IvQ):List IvQ:=azc (avt (a++b)) ((arS (avt (a++b))).map fun t=>azM op (axk a t) (axk b t))
def awi(l m:LnQ)(side:Int):List IvQ:=
 if crossI l m=0 then(if(m.value l.base).num.sign=side then [IvQ.all] else [])
 else if(m.value (l.at (acC l (acF l m)+1))).num.sign=side then [⟨acC l (acF l m),0,false,true⟩] else [⟨0,acC l (acF l m),true,false⟩]
def onB(l m:LnQ):Bool:=decide (crossI l m=0∧(m.value l.base).num.sign=0)
def al8(f:FrQ)(m:LnQ)(side:Int):List FrQ:=if onB f.l m then [] else(azm 2 [f.v] (awi f.l m side)).map fun v=>⟨f.l,v⟩
structure aCa (cuts:List Rat) (v:IvQ):Prop where
 z:IvZ v
 lo:v.nl=true∨v.lo∈cuts
 hi:v.nh=true∨v.hi∈cuts
structure FOk (f:FrQ):Prop where
 lb:LB f.l
 ok:f.l.ok
 z:IvZ f.v
 lo:BQ f.v.lo 1200
 hi:BQ f.v.hi 1200
def azX(acc:PtQ→Bool):Nat→List FrQ→List LnQ→Tr
 |_,[],c=> .leaf (acc (asJ c c))
 |0,_::_,_=> .leaf false
 |n+1,f::t,c=> .node f.l (azX acc n ((f::t).flatMap fun g=>al8 g f.l 1) (c++[f.l])) (azX acc n ((f::t).flatMap fun g=>al8 g f.l (-1)) (c++[f.l.rev]))
def Few(n:Nat)(l:List FrQ):Prop:= ∃K:List LnQ,K.length≤n∧ ∀f∈l,∃m∈K,m.same f.l
theorem axL{p q r:Bool}{a b c:Nat}(h:Nat.gcd a b≠0):LnQ.ok ⟨zv p (a/Nat.gcd (Nat.gcd a b) c),zv q (b/Nat.gcd (Nat.gcd a b) c),zv r (c/Nat.gcd (Nat.gcd a b) c)⟩:=by
 have hg:0<Nat.gcd (Nat.gcd a b) c:=lL _ (iJ h)
 have d0:Nat.gcd (Nat.gcd a b) c∣Nat.gcd a b:=pU _ _
 have d1:Nat.gcd (Nat.gcd a b) c∣a:=Nat.dvd_trans d0 (pU _ _)
 have d2:Nat.gcd (Nat.gcd a b) c∣b:=Nat.dvd_trans d0 (oN _ _)
 have d3:Nat.gcd (Nat.gcd a b) c∣c:=oN _ _
 refine⟨?_,?_⟩
 ·rintro ⟨h1,h2⟩
  have h1':=congrArg Int.natAbs h1
  have h2':=congrArg Int.natAbs h2
  simp only[aez,Int.natAbs_zero] at h1' h2'
  have e1:=Nat.div_mul_cancel d1
  have e2:=Nat.div_mul_cancel d2
  rw[h1',iS] at e1
  rw[h2',iS] at e2
  exact h (by rw[←e1,←e2];rfl)
 ·simp only[aez]
  rw[Nat.gcd_div d1 d2,Nat.gcd_div d0 d3,Nat.div_self hg]
theorem aqn(p:Bool)(a g:Nat):(zv p (a/g)).natAbs≤a:=by rw[aez];exact iL ..
theorem PF.eq{P:Program}{f:FuncId}{vs:List DV}{r r':DV}(h:PF GB P f vs r)(e:r=r'):PF GB P f vs r':=e▸h
def iP(m n:Int):PtQ:=⟨(m:Rat),(n:Rat)⟩
theorem aw6{m:Int}{k:Nat}(h:m.natAbs<2^k):BI m k:=⟨h⟩
theorem biC{m:Int}{k:Nat}(h:m.natAbs≤1000)(hk:10≤k):BI m k:=⟨cJ (show m.natAbs<2^10 by omega) (aL (by decide) hk)⟩
instance BPt.int (m n:Int) (i:Nat) [h:BI m i] [k:BI n i]:BPt (iP m n) (i+1):=⟨inferInstanceAs (BQ (m:Rat) (i+1)),inferInstanceAs (BQ (n:Rat) (i+1))⟩
theorem eQI{q:Rat}{k:Int}(h:q=(k:Rat)):eQ q=eQ (k:Rat):=by rw[h]
theorem ePI{p:PtQ}{m n:Int}(h1:p.x=(m:Rat))(h2:p.y=(n:Rat)):eP p=eP (iP m n):=by
 obtain⟨x,y⟩:=p
 simp only at h1 h2
 subst h1 h2
 rfl
def mkL(a b c:Int):LnQ:=
 ⟨zv (decide (a<0)) (a.natAbs/Nat.gcd (Nat.gcd a.natAbs b.natAbs) c.natAbs),zv (decide (b<0)) (b.natAbs/Nat.gcd (Nat.gcd a.natAbs b.natAbs) c.natAbs),zv (decide (c<0)) (c.natAbs/Nat.gcd (Nat.gcd a.natAbs b.natAbs) c.natAbs)⟩
theorem awO{a b c:Int}(h: ¬(a=0∧b=0)):(mkL a b c).ok:=
 axL fun e=>h ⟨oK.1 (Nat.eq_zero_of_gcd_eq_zero_left e),oK.1 (Nat.eq_zero_of_gcd_eq_zero_right e)⟩
theorem ax5(a b c:Int):(mkL a b c).a.natAbs≤a.natAbs∧(mkL a b c).b.natAbs≤b.natAbs∧(mkL a b c).c.natAbs≤c.natAbs:=⟨aqn ..,aqn ..,aqn ..⟩
theorem ayM{m n:Int}(hm:m.natAbs≤1000)(hn:n.natAbs≤1000):PF GB prog 78 [.v (.int .i64 m), .v (.int .i64 n)] (eP (iP m n)):=by
 refine fn func78 J J ntmps78 J J (fun C=>?_)
 refine cl rfl (axV (n:=m) (by omega) (by omega)) rfl<|cl rfl (axV (n:=n) (by omega) (by omega)) rfl<|?_
 exact rz J J
theorem asL{m n m' n' k:Int}(hm:m.natAbs≤1000)(hn:n.natAbs≤1000)(hm':m'.natAbs≤1000)(hn':n'.natAbs≤1000)(hk:k.natAbs≤1000):PF GB prog 100 [eP (iP m n),eQ (k:Rat),eP (iP m' n')] (eP (iP (m+k*m') (n+k*n'))):=by
 haveI:=biC (k:=10) hm (by decide)
 haveI:=biC (k:=10) hn (by decide)
 haveI:=biC (k:=10) hm' (by decide)
 haveI:=biC (k:=10) hn' (by decide)
 haveI:=biC (k:=10) hk (by decide)
 exact PF.eq (atD (p:=iP m n) (q:=iP m' n') (c:=(k:Rat))) (ePI (by show(m:Rat)+(k:Rat)*(m':Rat)=_;push_cast;rfl) (by show(n:Rat)+(k:Rat)*(n':Rat)=_;push_cast;rfl))
theorem aya{m n m' n':Int}(hm:m.natAbs≤1000)(hn:n.natAbs≤1000)(hm':m'.natAbs≤1000)(hn':n'.natAbs≤1000):PF GB prog 155 [eP (iP m n),eP (iP m' n')] (eP (iP (m-m') (n-n'))):=by
 refine fn func155 J J ntmps155 J J (fun C=>?_)
 refine cl rfl (axV (n:= -1) (by decide) (by decide)) rfl<|cl rfl (asL (m:=m) (n:=n) (m':=m') (n':=n') (k:= -1) hm hn hm' hn' (by decide)) rfl<|?_
 exact rz rfl (by rw[show m-m'=m+ -1*m' by omega,show n-n'=n+ -1*n' by omega];rfl)
theorem arq{m n m' n':Int}(hm:m.natAbs≤1000)(hn:n.natAbs≤1000)(hm':m'.natAbs≤1000)(hn':n'.natAbs≤1000):PF GB prog 175 [eP (iP m n),eP (iP m' n')] (.v (.bool (decide (m=m'∧n=n')))):=by
 haveI:=biC (k:=10) hm (by decide)
 haveI:=biC (k:=10) hn (by decide)
 haveI:=biC (k:=10) hm' (by decide)
 haveI:=biC (k:=10) hn' (by decide)
 refine fn func175 J J ntmps175 J J (fun C=>?_)
 refine cl rfl (q_C (a:=(m:Rat)) (b:=(m':Rat))) rfl<|?_
 refine cs 11 J J J (fun hg11=>?_) (fun hg11=>?_)
 ·
  refine cl rfl (q_C (a:=(n:Rat)) (b:=(n':Rat))) rfl<|?_
  exact rz rfl (by rw[aeP] at hg11;have e:m=m':=(by exact_mod_cast hg11);exact congrArg (fun z=>DV.v (.bool z)) (decide_eq_decide.2 (by rw[aeP,mK];simp[e])))
 ·
  exact rz rfl (by rw[aeP] at hg11;have e: ¬m=m':=(fun e=>hg11 (by rw[e]));show DV.v (.bool false)=DV.v (.bool _);rw[decide_eq_false (fun h=>e h.1)])
theorem apl{a b k:Nat}(ha:a<k)(hb:b<k):Nat.gcd a b<k:=by
 rcases dZ a with rfl|p
 ·simpa using hb
 ·exact eX (Nat.gcd_le_left b p) ha
theorem avR{a b c:Int}{i:Nat}(ha:BI a i)(hb:BI b i)(hc:BI c i)(hi:i≤100000000)(h0: ¬(a=0∧b=0)):PF GB prog 158 [eI a,eI b,eI c] (.tp [eL (mkL a b c), .v (.bool true)]):=by
 have hgn:Nat.gcd a.natAbs b.natAbs≠0:=fun h=>h0 ⟨oK.1 (Nat.eq_zero_of_gcd_eq_zero_left h),oK.1 (Nat.eq_zero_of_gcd_eq_zero_right h)⟩
 have hgp:0<Nat.gcd (Nat.gcd a.natAbs b.natAbs) c.natAbs:=lL _ (iJ hgn)
 haveI hb1:BN (Nat.gcd a.natAbs b.natAbs) i:=⟨apl ha.h hb.h⟩
 haveI hb2:BN (Nat.gcd (Nat.gcd a.natAbs b.natAbs) c.natAbs) i:=⟨apl hb1.h hc.h⟩
 refine fn func158 J J ntmps158 J J (fun C=>?_)
 refine cl rfl (aiU (a:=a.natAbs) (b:=b.natAbs) (by omega) (by omega)) rfl<|?_
 refine br J J J (fun hc22=>?_) (fun hc22=>?_)
 ·
  exact absurd hc22 (by rw[aX];intro h;exact hgn (ack.1 (by omega)))
 ·
  refine cl rfl (aiU (a:=Nat.gcd a.natAbs b.natAbs) (b:=c.natAbs) (by omega) (by omega)) rfl<|cl rfl (aei (a:=a.natAbs) (b:=Nat.gcd (Nat.gcd a.natAbs b.natAbs) c.natAbs) hgp (by omega) (by omega)) rfl<|?_
  refine cl rfl (aei (a:=b.natAbs) (b:=Nat.gcd (Nat.gcd a.natAbs b.natAbs) c.natAbs) hgp (by omega) (by omega)) rfl<|cl rfl (aei (a:=c.natAbs) (b:=Nat.gcd (Nat.gcd a.natAbs b.natAbs) c.natAbs) hgp (by omega) (by omega)) rfl<|?_
  refine cl rfl (acw (m:=a.natAbs/(Nat.gcd (Nat.gcd a.natAbs b.natAbs) c.natAbs)) (neg:=decide (a<0))) rfl<|cl rfl (acw (m:=b.natAbs/(Nat.gcd (Nat.gcd a.natAbs b.natAbs) c.natAbs)) (neg:=decide (b<0))) rfl<|?_
  refine cl rfl (acw (m:=c.natAbs/(Nat.gcd (Nat.gcd a.natAbs b.natAbs) c.natAbs)) (neg:=decide (c<0))) rfl<|?_
  exact rz J J
def awa(n n':Int):Int:= -(n'-n)
def av3(m m':Int):Int:=m'-m
def ayC(m n m' n':Int):Int:= -(awa n n'*m+av3 m m'*n)
def aqT(m n m' n':Int):LnQ:=mkL (awa n n') (av3 m m') (ayC m n m' n')
theorem ahF{a b:Int}(ha:a.natAbs≤2000)(hb:b.natAbs≤1000):(a*b).natAbs≤2000000:=by
 rw[gU];exact kU ha hb
theorem ajP{m n m' n':Int}(hm:m.natAbs≤1000)(hn:n.natAbs≤1000)(hm':m'.natAbs≤1000)(hn':n'.natAbs≤1000)(h0: ¬(m=m'∧n=n')):PF GB prog 77 [eP (iP m n),eP (iP m' n')] (.tp [eL (aqT m n m' n'), .v (.bool true)]):=by
 obtain⟨a,hA⟩: ∃a,a=awa n n':=⟨_,rfl⟩
 obtain⟨b,hB⟩: ∃b,b=av3 m m':=⟨_,rfl⟩
 have hA':a= -(n'-n):=hA
 have hB':b=m'-m:=hB
 obtain⟨c,hC⟩: ∃c,c= -(a*m+b*n):=⟨_,rfl⟩
 have e1:=ahF (a:=a) (b:=m) (by omega) hm
 have e2:=ahF (a:=b) (b:=n) (by omega) hn
 haveI hm0:=biC (k:=10) hm (by decide)
 haveI hn0:=biC (k:=10) hn (by decide)
 haveI ha:BI a 30:=aw6 (by omega)
 haveI hb:BI b 30:=aw6 (by omega)
 haveI hc:BI c 30:=aw6 (by omega)
 have hthr:aqT m n m' n'=mkL a b c:=by rw[hC,hA,hB];rfl
 have hne: ¬(a=0∧b=0):=fun h=>h0 (by omega)
 refine fn func77 J J ntmps77 J J (fun C=>?_)
 refine cl rfl (aya (m:=m') (n:=n') (m':=m) (n':=n) hm' hn' hm hn) rfl<|cl rfl (PF.eq (aoV (q:=(((n'-n):Int):Rat))) (eQI (k:=a) (by rw[hA'];push_cast;rfl))) rfl<|?_
 refine cl rfl (PF.eq (abH (a:=(a:Rat)) (b:=(m:Rat))) (eQI (k:=a*m) (by push_cast;rfl))) rfl<|cl rfl (PF.eq (by haveI:BI (m'-m) 30:=(by rw[←hB'];exact hb);exact abH (a:=(((m'-m):Int):Rat)) (b:=(n:Rat))) (eQI (k:=b*n) (by rw[hB'];push_cast;rfl))) rfl<|?_
 refine cl rfl (PF.eq (ake (a:=((a*m:Int):Rat)) (b:=((b*n:Int):Rat))) (eQI (k:=a*m+b*n) (by push_cast;rfl))) rfl<|cl rfl (PF.eq (aoV (q:=((a*m+b*n:Int):Rat))) (eQI (k:=c) (by rw[hC];push_cast;rfl))) rfl<|?_
 refine cl rfl (adZ (q:=(a:Rat))) rfl<|cl rfl (adZ (q:=(((m'-m):Int):Rat))) rfl<|cl rfl (PF.eq (abX (a:=1) (b:=1)) rfl) rfl<|?_
 refine cl rfl (adZ (q:=(c:Rat))) rfl<|cl rfl (PF.eq (abX (a:=1) (b:=1)) rfl) rfl<|cl (fu:=⟨1⟩) rfl (acw (neg:=false) (m:=1)) rfl<|?_
 refine eqF 40 (.d (eQ ((1:Int):Rat))) J J ?_
 refine gx rfl<|cl rfl (PF.eq (abH (a:=(a:Rat)) (b:=((1:Int):Rat))) (eQI (k:=a) (by push_cast;grind))) rfl<|cl rfl (PF.eq (by haveI:BI (m'-m) 30:=(by rw[←hB'];exact hb);exact abH (a:=(((m'-m):Int):Rat)) (b:=((1:Int):Rat))) (eQI (k:=b) (by rw[hB'];push_cast;grind))) rfl<|?_
 refine cl rfl (PF.eq (abH (a:=(c:Rat)) (b:=((1:Int):Rat))) (eQI (k:=c) (by push_cast;grind))) rfl<|cl rfl (avR (a:=a) (b:=b) (c:=c) ha hb hc (by decide) hne) rfl<|?_
 exact rz rfl (by rw[hthr];rfl)
end Go.Sx
end
