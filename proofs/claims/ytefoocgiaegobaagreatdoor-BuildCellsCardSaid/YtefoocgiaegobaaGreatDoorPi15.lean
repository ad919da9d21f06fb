import Derived.Test.YtefoocgiaegobaaGreatDoorPi14
import Derived.WalkKit
import Derived.LaidEql
import Derived.Stop.Asserts
import Derived.RowKitTokens
set_option linter.all false
set_option maxHeartbeats 2000000
set_option maxRecDepth 100000
section
namespace Go.Sx
open Go Go.Proofs Tryz
variable {GB:Gh}
def l5(n:Nat)(f:Nat->Bool):List Value:=(List.range n).map fun j=> .bool (f j)
def kI(f:Nat->Bool)(i:Nat):Nat->Bool:=fun j=>f j||Nat.beq j i
def IA(n:Nat)(f:Nat->Bool):(l5 n f).length=n:=by simp[l5]
def AU{n i:Nat}{f:Nat->Bool}{b:Bool}(h:i<n)(hf:f i=b):(l5 n f)[i]? =some (.bool b):=by simp[l5,h,hf]
def zy{f:Nat->Bool}{i j:Nat}(e:j≠i):kI f i j=f j:=by
 unfold kI
 cases hb:Nat.beq j i with
 |false=>rw[sK]
 |true=>exact absurd (aU hb) e
def QD{f:Nat->Bool}{i:Nat}:kI f i i=true:=by
 unfold kI;rw[lV,Bool.or_true]
def JU(n i:Nat)(f:Nat->Bool):(l5 n f).set i (.bool true)=l5 n (kI f i):=by
 apply lJ;intro j;rw[nR];simp only[l5,aJ,nL,fS];by_cases hj:j<n
 ·rw[pN hj]
  simp only[jR];by_cases e:i=j
  ·subst e;simp[hj,QD]
  ·rw[zy (fun h=>e h.symm)];simp[e]
 ·rw[dW (by simpa using hj)]
  by_cases e:i=j
  ·subst e;simp[hj]
  ·simp[e]
def Zt(n:Nat):cO (.bool false) n=l5 n (fun _=>false):=by
 apply lJ;intro j;by_cases hj:j<n
 ·rw[AU hj J]
  unfold cO;rw[HV (aE (.bool false)) n j (by simpa[aE] using hj)];simp[aE,Nat.mod_one]
 ·rw[dW (by rw[m9];simp[aE];omega),dW (by rw[IA];omega)]
structure RN where
 g:RL
 l:Int
 r:Int
def RN.d(n:RN):DV:= .ag [.v (.bool n.g.na),f5 n.g.da, .v (.bool n.g.nb),f5 n.g.db, .v (.bool n.g.nc),f5 n.g.dc, .v (.int .i64 n.l), .v (.int .i64 n.r)]
structure RS where
 f:Nat->Bool
 c:Nat
 b:Bool
inductive RR (ns:List RN):Int->RS->Tr->RS->Prop where
 |leaf (b:Bool) (s:RS):RR ns (rk b) s (.leaf b) s
 |bad (rt:Int) (s:RS) (h1:rt≠ -1) (h2:rt≠ -2) (h:rt<0\/(ns.length:Int)<=rt\/(∃k:Nat,rt=k/\k<ns.length/\s.f k=true)):RR ns rt s (.leaf false) ⟨s.f,s.c,true⟩
 |line (k:Nat) (n:RN) (s:RS) (h:ns[k]? =some n) (hf:s.f k=false) (hl:n.g.ln=none):RR ns (k:Int) s (.leaf false) ⟨kI s.f k,s.c+1,true⟩
 |node (k:Nat) (n:RN) (l:aa) (s s2 s3:RS) (x y:Tr) (h:ns[k]? =some n) (hf:s.f k=false) (hl:n.g.ln=some l) (h1:RR ns n.l ⟨kI s.f k,s.c+1,s.b⟩ x s2) (h2:RR ns n.r s2 y s3):RR ns (k:Int) s (.node l x y) s3
def RR.mono{ns:List RN}{rt:Int}{s s':RS}{t:Tr}(h:RR ns rt s t s'):s.c<=s'.c:=by
 induction h with
 |leaf=>exact aN _
 |bad=>exact aN _
 |line=>exact Nat.le_succ _
 |node k n l s s2 s3 x y h hf hl h1 h2 i1 i2=>simp only at i1;omega
def xg{G:Gh}{q:Rat}{v:Value}(h:Is G (du q) v): ∃p,v= .pointer p:=by
 rcases tc.1 h with⟨_,h⟩|⟨_,h⟩
 ·exact⟨_,h⟩
 ·obtain⟨b,m,h,_⟩:=oH.1 h;exact⟨_,h⟩
def T4{G:Gh}{l:aa}{v:Value}(h:Is G (dq l) v): ∃n1 d1 p1 n2 d2 p2 n3 d3 p3,v= .agg ⟨[.int .i64 n1, .int .i64 d1, .pointer p1, .int .i64 n2, .int .i64 d2, .pointer p2, .int .i64 n3, .int .i64 d3, .pointer p3]⟩:=by
 obtain⟨m,rfl,g⟩:=c8.1 h;clear h;obtain⟨v1,m,rfl,h1,h⟩:=aP.1 g;obtain⟨v2,m,rfl,h2,h⟩:=aP.1 h;obtain⟨v3,m,rfl,h3,h⟩:=aP.1 h;obtain⟨v4,m,rfl,h4,h⟩:=aP.1 h;obtain⟨v5,m,rfl,h5,h⟩:=aP.1 h;obtain⟨v6,m,rfl,h6,h⟩:=aP.1 h;obtain⟨v7,m,rfl,h7,h⟩:=aP.1 h;obtain⟨v8,m,rfl,h8,h⟩:=aP.1 h;obtain⟨v9,m,rfl,h9,h⟩:=aP.1 h;rw[cG] at h;subst h;obtain⟨_,rfl⟩:=xg h3;obtain⟨_,rfl⟩:=xg h6;obtain⟨_,rfl⟩:=xg h9;rw[aF.1 h1,aF.1 h2,aF.1 h4,aF.1 h5,aF.1 h7,aF.1 h8];exact⟨_,_,_,_,_,_,_,_,_,J⟩
def KG{G:Gh}{o:Option aa}{v:Value}(h:Is G (vg o) v): ∃n1 d1 p1 n2 d2 p2 n3 d3 p3,v= .tuple #[.agg ⟨[.int .i64 n1, .int .i64 d1, .pointer p1, .int .i64 n2, .int .i64 d2, .pointer p2, .int .i64 n3, .int .i64 d3, .pointer p3]⟩, .bool o.isSome]/\
  ∀l,o=some l->Is G (dq l) (.agg ⟨[.int .i64 n1, .int .i64 d1, .pointer p1, .int .i64 n2, .int .i64 d2, .pointer p2, .int .i64 n3, .int .i64 d3, .pointer p3]⟩):=by
 cases o with
 |some l=>
  obtain⟨m,rfl,g⟩:=iF.1 h;obtain⟨v1,m,rfl,h1,h⟩:=aP.1 g;obtain⟨v2,m,rfl,h2,h⟩:=aP.1 h;rw[cG] at h;subst h;obtain⟨n1,d1,p1,n2,d2,p2,n3,d3,p3,rfl⟩:=T4 h1;rw[aF.1 h2];exact⟨n1,d1,p1,n2,d2,p2,n3,d3,p3,J,fun k e=>by cases e;exact h1⟩
 |none=>
  obtain⟨m,rfl,g⟩:=iF.1 h;obtain⟨v1,m,rfl,h1,h⟩:=aP.1 g;obtain⟨v2,m,rfl,h2,h⟩:=aP.1 h;rw[cG] at h;subst h;clear g h;obtain⟨m,rfl,g⟩:=c8.1 h1;obtain⟨w1,m,rfl,k1,h⟩:=aP.1 g;obtain⟨w2,m,rfl,k2,h⟩:=aP.1 h;obtain⟨w3,m,rfl,k3,h⟩:=aP.1 h;obtain⟨w4,m,rfl,k4,h⟩:=aP.1 h;obtain⟨w5,m,rfl,k5,h⟩:=aP.1 h;obtain⟨w6,m,rfl,k6,h⟩:=aP.1 h;obtain⟨w7,m,rfl,k7,h⟩:=aP.1 h;obtain⟨w8,m,rfl,k8,h⟩:=aP.1 h;obtain⟨w9,m,rfl,k9,h⟩:=aP.1 h;rw[cG] at h;subst h;rw[aF.1 k1,aF.1 k2,aF.1 k3,aF.1 k4,aF.1 k5,aF.1 k6,aF.1 k7,aF.1 k8,aF.1 k9];rw[aF.1 h2];exact⟨_,_,_,_,_,_,_,_,_,J,fun k e=>by cases e⟩
def I7{G:Gh}{n:RN}{v:Value}(h:Is G n.d v): ∃x1 x2 x3:SV,v= .agg ⟨[.bool n.g.na, .slice x1.a x1.n x1.c, .bool n.g.nb, .slice x2.a x2.n x2.c, .bool n.g.nc, .slice x3.a x3.n x3.c, .int .i64 n.l, .int .i64 n.r]⟩/\
  Is G n.g.d (.agg ⟨[.bool n.g.na, .slice x1.a x1.n x1.c, .bool n.g.nb, .slice x2.a x2.n x2.c, .bool n.g.nc, .slice x3.a x3.n x3.c]⟩):=by
 obtain⟨m,rfl,g⟩:=c8.1 h;clear h;obtain⟨v1,m,rfl,h1,h⟩:=aP.1 g;obtain⟨v2,m,rfl,h2,h⟩:=aP.1 h;obtain⟨v3,m,rfl,h3,h⟩:=aP.1 h;obtain⟨v4,m,rfl,h4,h⟩:=aP.1 h;obtain⟨v5,m,rfl,h5,h⟩:=aP.1 h;obtain⟨v6,m,rfl,h6,h⟩:=aP.1 h;obtain⟨v7,m,rfl,h7,h⟩:=aP.1 h;obtain⟨v8,m,rfl,h8,h⟩:=aP.1 h;rw[cG] at h;subst h;obtain⟨_,x1,_,rfl,_,_⟩:=ij.1 (id h2);obtain⟨_,x2,_,rfl,_,_⟩:=ij.1 (id h4);obtain⟨_,x3,_,rfl,_,_⟩:=ij.1 (id h6)
 cases aF.1 h1;cases aF.1 h3;cases aF.1 h5;cases aF.1 h7;cases aF.1 h8
 exact⟨x1,x2,x3,J,c8.2 ⟨_,J, .cons h1 (.cons h2 (.cons h3 (.cons h4 (.cons h5 (.cons h6 .nil)))))⟩⟩
def rB{G:Gh}{t:Tr}{v:Value}(h:Is G (eU t) v): ∃p,v= .pointer p:=by
 obtain⟨b,m,h,_⟩:=oH.1 h;exact⟨_,h⟩
def PF.fn0{P:Program}{f:FuncId}{ds:List DV}{r:DV}(h: ∀{GB:Gh},PF GB P f ds r){G:Gh}{vs:List Value}(hv:IsLs G ds vs):Fn P f vs G (fun v G'=>Is G' r v):=h (GB:=G) G vs (bz.refl G) hv
abbrev Pa (x:SV) (ns:List RN) (A:Gh):Prop:= ∃es,eB A 8 x es/\IsLs A (ns.map RN.d) es
def aBN{A:Gh}{ns:List RN}{x:SV}(hx:Pa x ns A)(hs: ∀n∈ns,n.g.sm)(hn:ns.length<=1000000){rt:Int}{s s':RS}{t:Tr}(h:RR ns rt s t s'): ∀{G:Gh} {rb sb:Nat} {lo lo2:Bool},[GL A G]->s'.c<=1000000->
  j0 prog 219 [.pointer (some ⟨rb,0,none⟩), .int .i64 rt] [⟨rb,[.slice x.a x.n x.c, .slice (some ⟨sb,0,none⟩) ns.length ns.length, .int .i64 s.c, .bool s.b],342,lo⟩,⟨sb,l5 ns.length s.f,4,lo2⟩] G
   (fun v css G'=> ∃p,v= .pointer p/\Is G' (eU t) (.pointer p)/\css=[[.slice x.a x.n x.c, .slice (some ⟨sb,0,none⟩) ns.length ns.length, .int .i64 s'.c, .bool s'.b],l5 ns.length s'.f]):=by
 obtain⟨es,hx,hes⟩:=hx;have hel:=hes.len;rw[aJ] at hel;have hlen:=hx.len;rw[hel] at hlen;obtain⟨xa,xn,xc⟩:=x;simp only[] at hlen;subst hlen
 induction h with
 |leaf bb s=>
  intro G rb sb lo lo2 _ hc;refine j0.intro func219 J J ntmps219 J ?_;intro C _ _;show St C _ _ [⟨rb,_,_,false⟩,⟨sb,_,_,false⟩] _ _
  cases bb
  case true=>
   refine sR<|sa J J<|zE<|bu<|d6<|sR<|sm J J<|sy (iD J J) J<|sm J J<|ss J J J J<|ss J J J J<|?_;refine sy (rF J J) J<|sa J J<|zE<|oA J<|sR<|sm J J<|sy (iD J J) J<|?_;refine sc (zC J J (PF.fn0 (s7 (b:=true)) (.cons (aF.2 J) .nil)) J ?_);rintro _ G1 _ hp;obtain⟨p,rfl⟩:=rB hp;refine sa J J<|zE<|di<|?_;exact rh (css:=[_,_]) (.tmp J .nil) J _ (List.Perm.refl _) (List.Sublist.refl _) ⟨p,J,hp,J⟩
  refine sR<|sa J J<|zE<|bu<|d6<|sR<|sm J J<|sy (iD J J) J<|sm J J<|bO J J (fI J) J<|bO J J (iD J J) J<|?_;refine sy (lG J J) J<|sa J J<|zE<|oA J<|sR<|sm J J<|sy (iD J J) J<|?_;refine sc (zC J J (PF.fn0 (s7 (b:=false)) (.cons (aF.2 J) .nil)) J ?_);rintro _ G1 _ hp;obtain⟨p,rfl⟩:=rB hp;refine sa J J<|zE<|di<|?_;exact rh (css:=[_,_]) (.tmp J .nil) J _ (List.Perm.refl _) (List.Sublist.refl _) ⟨p,J,hp,J⟩
 |bad rt s h1 h2 h=>
  intro G rb sb lo lo2 _ hc;refine j0.intro func219 J J ntmps219 J ?_;intro C _ _;show St C _ [(0, .pointer (some ⟨rb,0,none⟩)),(1, .int .i64 rt)] [⟨rb,[.slice xa ns.length xc, .slice (some ⟨sb,0,none⟩) ns.length ns.length, .int .i64 s.c, .bool s.b],_,false⟩,⟨sb,l5 ns.length s.f,_,false⟩] _ _;refine sR<|sa J J<|zE<|bu<|d6<|sR<|sm J J<|sy (iD J J) J<|sm J J<|?_;refine nP 12 J (fun hg=>absurd hg (by omega)) (fun hg=>?_);refine bO J J (fI J) J<|bO J J (iD J J) J<|sy (lG J J) J<|sa J J<|zE<|?_;refine gg J (fun hc=>absurd hc (by omega)) (fun _=>?_);refine sR<|sm J J<|sy (jf J J) J<|sm J J<|?_;refine nP 22 J (fun hg=>?_) (fun hg=>?_)
  ·refine ss J J J J<|ss J J J J<|ss J J J J<|ss J J J J<|ss J J J J<|ss J J J J<|ss J J J J<|sy (rF J J) J<|sm J J<|ss J J J J<|ss J J J J<|?_
   refine ss J J J J<|ss J J J J<|ss J J J J<|ss J J J J<|ss J J J J<|sy (rF J J) J<|sa J J<|zE<|oA J<|bu<|?_;refine d4<|sm J J<|sn J J<|sf J J<|?_;refine sc (s9 J J J (.hd ..) (nb J) J J ?_);refine zE<|sR<|?_;refine sc (zC J J (PF.fn0 (s7 (b:=false)) (.cons (aF.2 J) .nil)) J ?_);rintro _ G1 _ hp;obtain⟨p,rfl⟩:=rB hp;refine sa J J<|zE<|di<|?_;exact rh (css:=[_,_]) (.tmp J .nil) J _ (List.Perm.refl _) (List.Sublist.refl _) ⟨p,J,hp,J⟩
  refine bO J J (fI J) J<|bO J J (fI J) J<|bO J J (kD J) J<|bO J J (nF J) J<|bO J J (lg J J) J<|bO J J (nG J) J<|bO J J (uZ J J) J<|sy (lG J J) J<|sm J J<|?_;refine nP 31 J (fun hg=>?_) (fun hg=>?_)
  ·refine ss J J J J<|ss J J J J<|ss J J J J<|ss J J J J<|ss J J J J<|ss J J J J<|ss J J J J<|?_
   refine sy (rF J J) J<|sa J J<|zE<|oA J<|sR<|sm J J<|sn J J<|sf J J<|?_;refine sc (s9 J J J (.hd ..) (nb J) J J ?_);refine zE<|sR<|?_;refine sc (zC J J (PF.fn0 (s7 (b:=false)) (.cons (aF.2 J) .nil)) J ?_);rintro _ G1 _ hp;obtain⟨p,rfl⟩:=rB hp;refine sa J J<|zE<|di<|?_;exact rh (css:=[_,_]) (.tmp J .nil) J _ (List.Perm.refl _) (List.Sublist.refl _) ⟨p,J,hp,J⟩
  obtain⟨k,rfl,hk,hf⟩: ∃k:Nat,rt=k/\k<ns.length/\s.f k=true:=by
   rcases h with h|h|h
   ·omega
   ·exact absurd h hg
   ·exact h
  refine bO J J (fI J) J<|bO J J (kD J) J<|bO J J (nF J) J<|bO J J (lg J J) J<|bO J J (fI J) J<|bO J J (fA J J (by omega) (by omega)) J<|?_;refine bO J J (lg (v:= .bool true) J (by rw[bQ,iL];exact AU hk hf)) J<|sy (lG J J) J<|sa J J<|zE<|oA J<|?_;refine sR<|sm J J<|sn J J<|sf J J<|?_;refine sc (s9 J J J (.hd ..) (nb J) J J ?_);refine zE<|sR<|?_;refine sc (zC J J (PF.fn0 (s7 (b:=false)) (.cons (aF.2 J) .nil)) J ?_);rintro _ G1 _ hp;obtain⟨p,rfl⟩:=rB hp;refine sa J J<|zE<|di<|?_;exact rh (css:=[_,_]) (.tmp J .nil) J _ (List.Perm.refl _) (List.Sublist.refl _) ⟨p,J,hp,J⟩
 |line base n s h0 hfb hl=>
  intro G rb sb lo lo2 _ hc;have hbn:base<ns.length:=(aR.1 h0).1;simp only at hc;obtain⟨z,hzi,hz⟩:=hes.get (i:=base) (d:=n.d) (by rw[fS,h0];rfl);obtain⟨x1,x2,x3,rfl,hzg⟩:=I7 hz;refine j0.intro func219 J J ntmps219 J ?_;intro C _ _;show St C _ [(0, .pointer (some ⟨rb,0,none⟩)),(1, .int .i64 (base:Int))] [⟨rb,[.slice xa ns.length xc, .slice (some ⟨sb,0,none⟩) ns.length ns.length, .int .i64 s.c, .bool s.b],_,false⟩,⟨sb,l5 ns.length s.f,_,false⟩] _ _;refine sR<|sa J J<|zE<|bu<|d6<|sR<|sm J J<|sy (iD J J) J<|sm J J<|?_;refine nP 12 J (fun hg=>absurd hg (by omega)) (fun hg=>?_);refine bO J J (fI J) J<|bO J J (iD J J) J<|sy (lG J J) J<|sa J J<|zE<|?_;refine gg J (fun hc=>absurd hc (by omega)) (fun _=>?_);refine sR<|sm J J<|sy (jf J J) J<|sm J J<|?_;refine nP 22 J (fun hg=>absurd hg (by omega)) (fun hg=>?_);refine bO J J (fI J) J<|bO J J (fI J) J<|bO J J (kD J) J<|bO J J (nF J) J<|bO J J (lg J J) J<|bO J J (nG J) J<|bO J J (uZ J J) J<|sy (lG J J) J<|sm J J<|?_;refine nP 31 J (fun hg=>absurd hg (by omega)) (fun hg=>?_);refine bO J J (fI J) J<|bO J J (kD J) J<|bO J J (nF J) J<|bO J J (lg J J) J<|bO J J (fI J) J<|bO J J (fA J J (by omega) (by omega)) J<|?_;refine bO J J (lg (v:= .bool false) J (by rw[bQ,iL];exact AU hbn hfb)) J<|sy (lG J J) J<|sa J J<|zE<|vi J<|zK<|?_;refine sR<|sm J J<|sn J J<|sf J J<|pz J J J<|sm J J<|sy (fA J J (by omega) (by omega)) J<|?_;refine sc (sv J J (.tl _ _ _ _ _ _ _ _ (.hd ..)) (by rw[IA,bQ,iL];exact hbn) J J ?_);rw[bQ,iL,JU];refine zE<|sR<|sm J J<|sn J J<|sf J J<|pz J J J<|sy (d5 J J) J<|sn J J<|sf J J<|?_
  refine sc (s9 J J J (by repeat (first|exact .hd .. |apply fH.tl)) (nb J) J J ?_);rw[show(s.c:Int)+1=((s.c+1:Nat):Int) by omega];refine zE<|sR<|sm J J<|sn J J<|sf J J<|pz J J J<|sm J J<|sy (Es (z:=⟨xa,ns.length,xc⟩) hx J J (by omega) (by show(base:Int)<(ns.length:Int);omega)) J<|?_;rw[bQ];refine sy (KO (i:=base) hx J (by rw[hel];exact hbn) hzi) J<|?_;refine sc (tH J ?_);intro b5;refine sc (AK J J J (by repeat (first|exact .hd .. |apply fH.tl)) J (nb J) J J ?_);refine zE<|sR<|sf J J<|Fh J J J<|?_;refine sc (zC J J (PF.fn0 (O' (hs n (bX h0))) (.cons (hzg.up GL.le) .nil)) J ?_);rintro _ G6 _ hw;rw[hl] at hw;obtain⟨n1,d1,p1,n2,d2,p2,n3,d3,p3,rfl,hw⟩:=KG hw;refine sm J J<|sx J J J<|sx J J J<|?_;refine sc (tH J ?_);intro b6;refine sc (AK J J J (by repeat (first|exact .hd .. |apply fH.tl)) J (nb J) J J ?_);refine sa J J<|zE<|bu<|sR<|sm J J<|sy (BJ J) J<|zE<|oA J<|?_;refine sR<|sm J J<|sn J J<|sf J J<|?_;refine sc (s9 J J J (by repeat (first|exact .hd .. |apply fH.tl)) (nb J) J J ?_);refine zE<|sR<|?_;refine sc (zC J J (PF.fn0 (s7 (b:=false)) (.cons (aF.2 J) .nil)) J ?_);rintro _ G7 _ hp;obtain⟨p,rfl⟩:=rB hp;refine sa J J<|zE<|di<|?_;exact rh (css:=[_,_]) (.tmp J .nil) J _ (mQ (l₁:=[_,_]) (l₂:=[_,_])) (.cons_cons _ (.cons_cons _ (jL _))) ⟨p,J,hp,J⟩
 |node base n l s s2 s3 tx ty h0 hfb hl h1 h2 ih1 ih2=>
  intro G rb sb lo lo2 _ hc;have hbn:base<ns.length:=(aR.1 h0).1;have hm1:=h1.mono;have hm2:=h2.mono;simp only at hm1;obtain⟨z,hzi,hz⟩:=hes.get (i:=base) (d:=n.d) (by rw[fS,h0];rfl);obtain⟨x1,x2,x3,rfl,hzg⟩:=I7 hz;refine j0.intro func219 J J ntmps219 J ?_;intro C _ _;show St C _ [(0, .pointer (some ⟨rb,0,none⟩)),(1, .int .i64 (base:Int))] [⟨rb,[.slice xa ns.length xc, .slice (some ⟨sb,0,none⟩) ns.length ns.length, .int .i64 s.c, .bool s.b],_,false⟩,⟨sb,l5 ns.length s.f,_,false⟩] _ _;refine sR<|sa J J<|zE<|bu<|d6<|sR<|sm J J<|sy (iD J J) J<|sm J J<|?_;refine nP 12 J (fun hg=>absurd hg (by omega)) (fun hg=>?_);refine bO J J (fI J) J<|bO J J (iD J J) J<|sy (lG J J) J<|sa J J<|zE<|?_;refine gg J (fun hc=>absurd hc (by omega)) (fun _=>?_);refine sR<|sm J J<|sy (jf J J) J<|sm J J<|?_;refine nP 22 J (fun hg=>absurd hg (by omega)) (fun hg=>?_);refine bO J J (fI J) J<|bO J J (fI J) J<|bO J J (kD J) J<|bO J J (nF J) J<|bO J J (lg J J) J<|bO J J (nG J) J<|bO J J (uZ J J) J<|sy (lG J J) J<|sm J J<|?_;refine nP 31 J (fun hg=>absurd hg (by omega)) (fun hg=>?_);refine bO J J (fI J) J<|bO J J (kD J) J<|bO J J (nF J) J<|bO J J (lg J J) J<|bO J J (fI J) J<|bO J J (fA J J (by omega) (by omega)) J<|?_;refine bO J J (lg (v:= .bool false) J (by rw[bQ,iL];exact AU hbn hfb)) J<|sy (lG J J) J<|sa J J<|zE<|vi J<|zK<|?_;refine sR<|sm J J<|sn J J<|sf J J<|pz J J J<|sm J J<|sy (fA J J (by omega) (by omega)) J<|?_;refine sc (sv J J (.tl _ _ _ _ _ _ _ _ (.hd ..)) (by rw[IA,bQ,iL];exact hbn) J J ?_);rw[bQ,iL,JU]
  refine zE<|sR<|sm J J<|sn J J<|sf J J<|pz J J J<|sy (d5 J J) J<|sn J J<|sf J J<|?_;refine sc (s9 J J J (by repeat (first|exact .hd .. |apply fH.tl)) (nb J) J J ?_);rw[show(s.c:Int)+1=((s.c+1:Nat):Int) by omega];refine zE<|sR<|sm J J<|sn J J<|sf J J<|pz J J J<|sm J J<|sy (Es (z:=⟨xa,ns.length,xc⟩) hx J J (by omega) (by show(base:Int)<(ns.length:Int);omega)) J<|?_;rw[bQ];refine sy (KO (i:=base) hx J (by rw[hel];exact hbn) hzi) J<|?_;refine sc (tH J ?_);intro b5;refine sc (AK J J J (by repeat (first|exact .hd .. |apply fH.tl)) J (nb J) J J ?_);refine zE<|sR<|sf J J<|Fh J J J<|?_;refine sc (zC J J (PF.fn0 (O' (hs n (bX h0))) (.cons (hzg.up GL.le) .nil)) J ?_);rintro _ G6 _ hw;rw[hl] at hw;obtain⟨n1,d1,p1,n2,d2,p2,n3,d3,p3,rfl,hw'⟩:=KG hw;replace hw:=hw' l J;refine sm J J<|sx J J J<|sx J J J<|?_;refine sc (tH J ?_);intro b6;refine sc (AK J J J (by repeat (first|exact .hd .. |apply fH.tl)) J (nb J) J J ?_);refine sa J J<|zE<|bu<|sR<|sm J J<|sy (BJ J) J<|zE<|vi J<|zK<|?_;refine sR<|sm J J<|sf J J<|pz J J J<|?_;have hrp:=ih1 (G:=G6) (rb:=rb) (sb:=sb) (lo:=false) (lo2:=false) (by omega);refine sc (Dr J J (mQ (l₁:=[_,_]) (l₂:=[_,_])) hrp J ?_);rintro _ css G7 _ _ ⟨q1,rfl,hp1,rfl⟩;show St C _ _ [⟨rb,[.slice xa ns.length xc, .slice (some ⟨sb,0,none⟩) ns.length ns.length, .int .i64 s2.c, .bool s2.b],342,false⟩,⟨sb,l5 ns.length s2.f,4,false⟩,⟨b6,[.int .i64 n1, .int .i64 d1, .pointer p1, .int .i64 n2, .int .i64 d2, .pointer p2, .int .i64 n3, .int .i64 d3, .pointer p3],218,true⟩,⟨b5,[.bool n.g.na, .slice x1.a x1.n x1.c, .bool n.g.nb, .slice x2.a x2.n x2.c, .bool n.g.nc, .slice x3.a x3.n x3.c, .int .i64 n.l, .int .i64 n.r],149,true⟩] _ _
  refine sa J J<|zE<|bu<|?_;refine zM [⟨b6,[.int .i64 n1, .int .i64 d1, .pointer p1, .int .i64 n2, .int .i64 d2, .pointer p2, .int .i64 n3, .int .i64 d3, .pointer p3],218,true⟩,⟨b5,[.bool n.g.na, .slice x1.a x1.n x1.c, .bool n.g.nb, .slice x2.a x2.n x2.c, .bool n.g.nc, .slice x3.a x3.n x3.c, .int .i64 n.l, .int .i64 n.r],149,true⟩] (fun _=>false) [(0,true),(1,true),(2,true),(3,true),(4,true),(5,false),(6,false),(7,true)] follows (by kernel_rfl)<|?_;refine dL J J J J<|dM J J J<|dM J J J<|dF J J J<|qD J J J J<|?_;have hrp:=ih2 (G:=G7) (rb:=rb) (sb:=sb) (lo:=false) (lo2:=false) hc;refine dc J J (Dr J J (M:=[_,_]) (rest:=[_,_]) (List.Perm.refl _) hrp J ?_);rintro _ css G8 _ _ ⟨q2,rfl,hp2,rfl⟩;show St C _ _ [⟨rb,[.slice xa ns.length xc, .slice (some ⟨sb,0,none⟩) ns.length ns.length, .int .i64 s3.c, .bool s3.b],342,false⟩,⟨sb,l5 ns.length s3.f,4,false⟩,⟨b6,[.int .i64 n1, .int .i64 d1, .pointer p1, .int .i64 n2, .int .i64 d2, .pointer p2, .int .i64 n3, .int .i64 d3, .pointer p3],218,true⟩,⟨b5,[.bool n.g.na, .slice x1.a x1.n x1.c, .bool n.g.nb, .slice x2.a x2.n x2.c, .bool n.g.nc, .slice x3.a x3.n x3.c, .int .i64 n.l, .int .i64 n.r],149,true⟩] _ _;refine mG<|?_;refine dc J J (zC J J (PF.fn0 (wM (l:=l) (x:=tx) (y:=ty)) (.cons (hw.up GL.le) (.cons (hp1.up GL.le) (.cons hp2 .nil)))) J ?_);rintro _ G9 _ hp;obtain⟨p,rfl⟩:=rB hp;refine mG<|dA J J J<|dn<|di<|?_;exact rh (css:=[_,_]) (.tmp J .nil) J _ (List.Perm.refl _) (.cons_cons _ (.cons_cons _ (jL _))) ⟨p,J,hp,J⟩
def rA:RS:=⟨fun _=>false,0,false⟩
def Ay(ns:List RN)(t:Tr)(s:RS):DV:=if s.b=false/\s.c=ns.length then .tp [eU t,vB true] else .tp [.v (.pointer none),vB false]
def xA(rt:Int)(ns:List RN):DV:= .ag [vI rt, .sl (ns.map RN.d)]
def YA{ns:List RN}{rt:Int}{t:Tr}{s:RS}(hs: ∀n∈ns,n.g.sm)(hn:ns.length<=65536)(h:RR ns rt rA t s)(hc:s.c<=1000000):PF GB prog 129 [xA rt ns] (Ay ns t s):=by
 intro G vs _ hv;obtain⟨v0,m,rfl,h0,hm⟩:=aP.1 hv;rw[cG] at hm;subst hm;obtain⟨m,rfl,g⟩:=c8.1 h0;obtain⟨v1,m,rfl,h1,hm⟩:=aP.1 g;obtain⟨v2,m,rfl,h2,hm⟩:=aP.1 hm;rw[cG] at hm;subst hm;obtain⟨s0,x,es,rfl,hsl,hes⟩:=ij.1 h2;rw[aF.1 h1];have hel:=hes.len;rw[aJ] at hel;have hlen:=hsl.len;rw[hel] at hlen;have hx:Pa x ns G:=by
  refine⟨es,?_,hes⟩;rcases yM (s:=8) hsl hes (fun d hd=>by obtain⟨n,_,rfl⟩:=bJ.1 hd;exact⟨rfl,rfl⟩) with e|e
  ·exact⟨hsl.len,hsl.cap, .inl e⟩
  ·rw[e] at hsl;exact hsl
 obtain⟨xa,xn,xc⟩:=x;simp only[] at hlen;subst hlen;show Fn _ _ [.agg ⟨[.int .i64 rt, .slice xa ns.length xc]⟩] _ _;refine Fn.intro func129 J J ntmps129 J ?_;intro C _ _;refine sR<|?_;refine sc (I1 J J ?_);intro b1;refine sa J J<|sa J J<|zE<|bu<|sR<|sf J J<|pz J J J<|c7 J J<|sy (sE J J) J<|zE<|?_;refine gg J (fun hc=>absurd hc (by omega)) (fun _=>?_);refine zK<|bu<|dr (fun _=>false) [(0,true),(1,true),(2,true),(3,true),(4,true),(5,false),(6,true),(7,false),(8,true)] follows (by kernel_rfl)<|dF J J J<|?_;refine qD J J J J<|dF J J J<|qD J J J J<|dy J (fun _=>nG J) J J<|?_;refine dc J J (r5 J J (by omega) (by omega) (by omega) (by rfl) J ?_);intro b2;rw[bQ,Zt];refine mG<|dy J (fun _=>E7 J) J J<|?_;refine dc J J (I1 J J ?_);intro b3;refine mG<|dA J J J<|dn<|sR<|sm J J<|sf J J<|pz J J J<|?_;have hrp:=aBN hx hs (by omega) h (G:=G) (rb:=b3) (sb:=b2) (lo:=true) (lo2:=true) hc;refine sc (Dr J J (M:=[_,_]) (rest:=[_]) (List.Perm.refl _) hrp J ?_);rintro _ css G4 _ _ ⟨p,rfl,hp,rfl⟩;show St C _ _ [⟨b3,[.slice xa ns.length xc, .slice (some ⟨b2,0,none⟩) ns.length ns.length, .int .i64 s.c, .bool s.b],342,true⟩,⟨b2,l5 ns.length s.f,4,true⟩,⟨b1,[.int .i64 rt, .slice xa ns.length xc],32,true⟩] _ _;refine sa J J<|zE<|bu<|bu<|dr (fun _=>false) [(0,true),(1,true),(2,true),(3,true),(4,true),(5,true),(6,true),(7,true),(8,true),(9,true),(10,true),(11,true),(12,true),(13,true)] follows (by kernel_rfl)<|?_;obtain⟨sf_,sc_,sb_⟩:=s
 cases sb_
 case true=>
  refine dM J J J<|dy J (fun _=>kD J) J J<|dF J J J<|qD J J J J<|dM J J J<|?_;refine tr J J J J J J<|tr J J J J J J<|tr J J J J J J<|tr J J J J J J<|tr J J J J J J<|tr J J J J J J<|?_;refine tr J J J J J J<|tr J J J J J J<|dy J (fun _=>rF J J) J J<|dn<|oA J<|?_;refine sR<|sa J J<|sa J J<|zE<|di<|?_;refine zD (.tmp J (.tmp J .nil)) ?_;rw[Ay,if_neg (fun e=>by cases e.1)];exact iF.2 ⟨_,J, .cons (aF.2 J) (.cons (aF.2 J) .nil)⟩
 refine dM J J J<|dy J (fun _=>kD J) J J<|dF J J J<|qD J J J J<|dM J J J<|?_;refine uh J J J J (fun _=>fI J) J<|uh J J J J (fun _=>kD J) J<|uh J J J J (fun _=>nF J) J<|uh J J J J (fun _=>lg J J) J<|?_;refine uh J J J J (fun _=>nF J) J<|uh J J J J (fun _=>lg J J) J<|uh J J J J (fun _=>nG J) J<|uh J J J J (fun _=>uB J J) J<|?_;refine dy J (fun _=>lG J J) J J<|dn<|?_;refine gg J (fun hc=>?_) (fun hc=>?_) -- slot 35
 ·refine sR<|sa J J<|sa J J<|zE<|di<|?_
  refine zD (.tmp J (.tmp J .nil)) ?_;rw[Ay,if_neg (fun e=>hc (by have:=e.2;simp only at this;omega))];exact iF.2 ⟨_,J, .cons (aF.2 J) (.cons (aF.2 J) .nil)⟩
 refine zK<|sR<|sm J J<|sa J J<|sa J J<|zE<|di<|?_;refine zD (.tmp J (.tmp J .nil)) ?_;rw[Ay,if_pos ⟨J,by have h9:=hc;simp at h9;show sc_=_;omega⟩];exact iF.2 ⟨_,J, .cons hp (.cons (aF.2 J) .nil)⟩
def aCf{G:Gh}{l:aa}{x y:Tr}{m:List Value}(h:IsLs G (cU (.node l x y)) m): ∃n1 d1 p1 n2 d2 p2 n3 d3 p3 q r,m=[.int .i64 n1, .int .i64 d1, .pointer p1, .int .i64 n2, .int .i64 d2, .pointer p2, .int .i64 n3, .int .i64 d3, .pointer p3, .pointer q, .pointer r, .bool false]/\
  Is G (dq l) (.agg ⟨[.int .i64 n1, .int .i64 d1, .pointer p1, .int .i64 n2, .int .i64 d2, .pointer p2, .int .i64 n3, .int .i64 d3, .pointer p3]⟩)/\Is G (eU x) (.pointer q)/\Is G (eU y) (.pointer r):=by
 obtain⟨v1,m,rfl,h1,h⟩:=aP.1 h;obtain⟨v2,m,rfl,h2,h⟩:=aP.1 h;obtain⟨v3,m,rfl,h3,h⟩:=aP.1 h;obtain⟨v4,m,rfl,h4,h⟩:=aP.1 h;obtain⟨v5,m,rfl,h5,h⟩:=aP.1 h;obtain⟨v6,m,rfl,h6,h⟩:=aP.1 h;obtain⟨v7,m,rfl,h7,h⟩:=aP.1 h;obtain⟨v8,m,rfl,h8,h⟩:=aP.1 h;obtain⟨v9,m,rfl,h9,h⟩:=aP.1 h;obtain⟨va,m,rfl,ha,h⟩:=aP.1 h;obtain⟨vb,m,rfl,hb,h⟩:=aP.1 h;obtain⟨vc,m,rfl,hc,h⟩:=aP.1 h;rw[cG] at h;subst h;obtain⟨_,rfl⟩:=xg h3;obtain⟨_,rfl⟩:=xg h6;obtain⟨_,rfl⟩:=xg h9;obtain⟨_,rfl⟩:=rB ha;obtain⟨_,rfl⟩:=rB hb
 cases aF.1 h1;cases aF.1 h2;cases aF.1 h4;cases aF.1 h5;cases aF.1 h7;cases aF.1 h8;cases aF.1 hc
 exact⟨_,_,_,_,_,_,_,_,_,_,_,J,c8.2 ⟨_,J, .cons h1 (.cons h2 (.cons h3 (.cons h4 (.cons h5 (.cons h6 (.cons h7 (.cons h8 (.cons h9 .nil))))))))⟩,ha,hb⟩
def aBr{G:Gh}{b:Bool}{m:List Value}(h:IsLs G (cU (.leaf b)) m):m=[.int .i64 0, .int .i64 0, .pointer none, .int .i64 0, .int .i64 0, .pointer none, .int .i64 0, .int .i64 0, .pointer none, .pointer none, .pointer none, .bool b]:=by
 obtain⟨v1,m,rfl,h1,h⟩:=aP.1 h;obtain⟨v2,m,rfl,h2,h⟩:=aP.1 h;obtain⟨v3,m,rfl,h3,h⟩:=aP.1 h;obtain⟨v4,m,rfl,h4,h⟩:=aP.1 h;obtain⟨v5,m,rfl,h5,h⟩:=aP.1 h;obtain⟨v6,m,rfl,h6,h⟩:=aP.1 h;obtain⟨v7,m,rfl,h7,h⟩:=aP.1 h;obtain⟨v8,m,rfl,h8,h⟩:=aP.1 h;obtain⟨v9,m,rfl,h9,h⟩:=aP.1 h;obtain⟨va,m,rfl,ha,h⟩:=aP.1 h;obtain⟨vb,m,rfl,hb,h⟩:=aP.1 h;obtain⟨vc,m,rfl,hc,h⟩:=aP.1 h;rw[cG] at h;subst h
 cases aF.1 h1;cases aF.1 h2;cases aF.1 h3;cases aF.1 h4;cases aF.1 h5;cases aF.1 h6;cases aF.1 h7;cases aF.1 h8;cases aF.1 h9;cases aF.1 ha;cases aF.1 hb;cases aF.1 hc
 rfl
def GC: ∀{t:Tr} {A A2 G:Gh} {p:Option Addr} {ob wb:Nat} {lo lo2:Bool} {x:SV} {zs:List ND} {ns:List NQ} {B:List ao},Is A (eU t) (.pointer p)->t.all LB->[GL A G]->[GL A2 G]->ir 8 149 x (zs.map ND.val) B->gl (rp 96 A2) zs ns->zs.length+t.size<=1000000->
  iA prog 170 [.pointer p, .pointer (some ⟨ob,0,none⟩), .pointer (some ⟨wb,0,none⟩)] (⟨ob,[.int .i64 0, .slice x.a x.n x.c],32,lo⟩::⟨wb,[oe ob wb],274,lo2⟩::B) G
   (fun v own' G'=> ∃x' zs' B',v= .int .i64 (t.num zs.length)/\own'=⟨ob,[.int .i64 0, .slice x'.a x'.n x'.c],32,false⟩::⟨wb,[oe ob wb],274,false⟩::B'/\ir 8 149 x' (zs'.map ND.val) B'/\gl (rp 96 G') zs' (ns++t.wr zs.length))
 | .leaf bb,A,A2,G,p,ob,wb,lo,lo2,x,zs,ns,B,h,_,_,_,hB,hz,hle=>by
  obtain⟨n,m,e,hg,hm⟩:=oH.1 (id h)
  cases e
  cases aBr hm
  have hG:wC A n _:=⟨hg⟩;have hz':gl (rp 96 G) zs (ns++[]):=by rw[iK];exact hz.imp fun _ _ h=>h.up
  refine iA.intro func170 J J ntmps170 J ?_;intro C _ _;show St C _ _ (⟨ob,[.int .i64 0, .slice x.a x.n x.c],32,false⟩::⟨wb,[oe ob wb],274,false⟩::asB B) _ _;refine sR<|sa J J<|zE<|bu<|sR<|sm J J<|?_;refine sc (zC J J (PF.fn0 wA (.cons (h.up GL.le) .nil)) J ?_);rintro _ G1 _ hv
  cases aF.1 hv
  refine zE<|oA J<|?_;refine bu<|sR<|sm J J<|sn J J<|sf J J<|Vu J J J<|zE<|?_
  cases bb
  case true=>
   refine oA J<|sR<|sa J J<|zE<|di<|?_;exact yy (.tmp J .nil) _ _ (List.Perm.refl _) (List.Sublist.refl _) ⟨x,zs,_,J,J,hB.asB,hz'.imp fun _ _ h=>h.up⟩
  refine vi J<|zK<|sR<|sa J J<|zE<|di<|?_;exact yy (.tmp J .nil) _ _ (List.Perm.refl _) (List.Sublist.refl _) ⟨x,zs,_,J,J,hB.asB,hz'.imp fun _ _ h=>h.up⟩
 | .node l s u,A,A2,G,p,ob,wb,lo,lo2,x,zs,ns,B,h,hall,_,_,hB,hz,hle=>by
  obtain⟨hlb,hall1,hall2⟩:=id hall;haveI:LB l:=hlb;obtain⟨n,m,e,hg,hm⟩:=oH.1 (id h)
  cases e
  obtain⟨n1,d1,p1,n2,d2,p2,n3,d3,p3,q,r,rfl,hzl,hs,hu⟩:=aCf hm;have hG:wC A n _:=⟨hg⟩;have hxn:=hB.len;have hzn:=hz.len;simp only[Tr.size] at hle;obtain⟨xa,xn,xc⟩:=x;rw[aJ] at hxn;simp only[] at hxn;subst hxn;refine iA.intro func170 J J ntmps170 J ?_;intro C _ _;show St C _ _ (⟨ob,[.int .i64 0, .slice xa zs.length xc],32,false⟩::⟨wb,[oe ob wb],274,false⟩::asB B) _ _;replace hB:=hB.asB;generalize asB B=B at hB;refine sR<|sa J J<|zE<|bu<|sR<|sm J J<|?_;refine sc (zC J J (PF.fn0 uA (.cons (h.up GL.le) .nil)) J ?_);rintro _ G1 _ hv
  cases aF.1 hv
  refine zE<|vi J<|?_;refine zK<|sR<|sf J J<|pz J J J<|c7 J J<|sa J J<|zE<|bu<|?_;refine zM [⟨ob,[.int .i64 0, .slice xa zs.length xc],32,false⟩] (fun i=>Nat.beq i 11) [(0,true),(1,true),(2,true),(3,true),(4,true),(5,true),(6,false),(7,true),(8,false),(9,false),(10,true),(11,false)] follows (by kernel_rfl)<|?_;refine dF J J J<|qD J J J J<|dM J J J<|dy J (fun _=>kD J) J J<|?_;refine dF J J J<|dy J (fun _=>F2 J Eb J) J J<|?_;refine dc J J (zC J J (PF.fn0 (Ty (l:=l)) (.cons (hzl.up GL.le) .nil)) J ?_);rintro _ G2 _ hv;obtain⟨ia,ib,ic,rfl,hia,hib,hic⟩:=TG hlb.bl hv;refine mG<|dy J (fun _=>E7 J) J J<|?_;refine dc J J (VZ J (by rfl) (by rfl) (by decide) (by decide) J ?_);intro b3;refine mG<|?_;refine dc J J (alw (v:=ND.val ⟨ia,ib,ic,0,0⟩) (vs:=zs.map ND.val) [_,_,_] rfl hB J J (xI inferInstance J) J (ND.flat [⟨ia,ib,ic,0,0⟩] _ aQ) (by decide) (by rw[aJ];omega) J J ?_);intro x1 B1 hB1;rw[show zs.map ND.val++[ND.val ⟨ia,ib,ic,0,0⟩]=(zs++[(⟨ia,ib,ic,0,0⟩:ND)]).map ND.val by simp] at hB1;show St C _ _ (⟨b3,_,_,true⟩::⟨ob,[.int .i64 0, .slice xa zs.length xc],32,false⟩::⟨wb,[oe ob wb],274,false⟩::B1) _ _;refine mG<|dF J J J<|?_;refine dc J J (s9 (cs':=[.int .i64 0, .slice x1.a x1.n x1.c]) J J J (.tl _ _ _ _ _ _ _ _ (.hd ..)) (nb J) J J ?_);refine aJk J<|dn<|?_;refine J9 _ (rU _ _) ?_;have hz1:gl (rp 96 G2) (zs++[(⟨ia,ib,ic,0,0⟩:ND)]) (ns++[⟨l,0,0⟩]):=(hz.imp fun _ _ h=>h.up).app (.cons ⟨hia,hib,hic,J,J⟩ .nil);refine bu<|zM [⟨wb,[oe ob wb],274,false⟩] (fun _=>false) [(0,true),(1,true),(2,true),(3,true),(4,true),(5,false),(6,true)] follows (by kernel_rfl)<|?_
  refine qD J J J J<|dM J J J<|dy J (fun _=>kD J) J J<|dF J J J<|dy J (fun _=>y5 J Eb J) J J<|?_;refine dc J J (Em (c1:=[]) (M:=_::_::B1) (rest:=[]) J J (by rw[iK]) (GC (lo:=false) (lo2:=false) hs hall1 hB1 hz1 (by simp;omega)) J ?_);rintro _ _ G3 fl _ hf _ ⟨x2,QR,B2,rfl,rfl,hB2,hz2⟩;have e1:fl ob=false:=hf _ aQ J;have e2:fl wb=false:=hf _ (aZ _ aQ) J;replace hB2:=hB2.relo fl;refine EM (own':=⟨ob,[.int .i64 0, .slice x2.a x2.n x2.c],32,false⟩::⟨wb,[oe ob wb],274,false⟩::B2.map (relo fl)) (by simp only[bS,relo,e1,e2,iK]) ?_;generalize B2.map (relo fl)=B2 at hB2;have hl2:=hz2.len;simp only[aS,Tr.wr_len,rN] at hl2;refine mG<|dA J J J<|dn<|bu<|zM [⟨wb,[oe ob wb],274,false⟩] (fun _=>false) [(0,true),(1,true),(2,true),(3,true),(4,true),(5,false),(6,true)] follows (by kernel_rfl)<|?_;refine qD J J J J<|dM J J J<|dy J (fun _=>kD J) J J<|dF J J J<|dy J (fun _=>y5 J Eb J) J J<|?_;refine dc J J (Em (c1:=[]) (M:=_::_::B2) (rest:=[]) J J (by rw[iK]) (GC (lo:=false) (lo2:=false) hu hall2 hB2 hz2 (by omega)) J ?_);rintro _ _ G4 fl _ hf _ ⟨x3,xD,B3,rfl,rfl,hB3,hz3⟩;have e3:fl ob=false:=hf _ aQ J;have e4:fl wb=false:=hf _ (aZ _ aQ) J;replace hB3:=hB3.relo fl;refine EM (own':=⟨ob,[.int .i64 0, .slice x3.a x3.n x3.c],32,false⟩::⟨wb,[oe ob wb],274,false⟩::B3.map (relo fl)) (by simp only[bS,relo,e3,e4,iK]) ?_;generalize B3.map (relo fl)=B3 at hB3;have hl3:=hz3.len;simp only[aS,Tr.wr_len,rN] at hl3;have hn3:zs.length<xD.length:=by omega
  rcases hB3 with⟨h1,_,_⟩|⟨nb,rest,lo3,hx3,rfl,hf1,hf2,hf3⟩
  ·have:=congrArg List.length h1;rw[aJ,jQ] at this;omega
  obtain⟨x3a,x3n,x3c⟩:=x3;simp only[SV.mk.injEq] at hx3;obtain⟨rfl,rfl,_⟩:=hx3;rw[aJ] at hf3;have hzz:ns.length=zs.length:=hzn.symm;obtain⟨zn,hzn1,hzn2⟩:=hz3.get (i:=zs.length) (b:=⟨l,0,0⟩) (by rw[dK,dK,<-hzz,gQ (aN _),tJ];rfl);obtain⟨_,hzn3⟩:=aR.1 hzn1;have hL1:(zs++[(⟨ia,ib,ic,0,0⟩:ND)]).length=zs.length+1:=by simp
  have hL2:QR.length=zs.length+1+s.size:=by omega
  rw[hL1] at hz3;rw[hL1,hL2];rw[hL2] at hz3;refine mG<|dA J J J<|dn<|?_;refine bu<|zM [⟨ob,[.int .i64 0, .slice (some ⟨nb,0,none⟩) (xD.map ND.val).length x3c],32,false⟩] (fun _=>false) [(0,true),(1,true),(2,true),(3,true),(4,true),(5,true),(6,true),(7,true),(8,true),(9,true),(10,false),(11,true),(12,true),(13,false)] follows (by kernel_rfl)<|?_;refine dF J J J<|qD J J J J<|dM J J J<|dF J J J<|?_;refine qD J J J J<|dM J J J<|dM J J J<|dM J J J<|dy J (fun _=>fA J J (by omega) (by rw[aJ];omega)) J J<|?_;refine dF J J J<|?_;refine dc J J (sv J J (.tl _ _ _ _ _ _ _ _ (.tl _ _ _ _ _ _ _ _ (.hd ..))) (by rw[aS,hf1,aJ,bQ];omega) J J ?_);rw[bQ,J8 xD rest zs.length 6 _ {zn with l:=s.num (zs.length+1)} hn3 (by decide) (by rw[hzn3];rfl)];refine mG<|dy J (fun _=>fA J J (by omega) (by rw[aJ];omega)) J J<|dF J J J<|?_;refine dc J J (sv J J (.tl _ _ _ _ _ _ _ _ (.tl _ _ _ _ _ _ _ _ (.hd ..))) (by rw[aS,d7 (s:=8) _ (ND.len8 _),aJ,aT,bQ];omega) J J ?_);rw[bQ,J8 (xD.set zs.length _) rest zs.length 7 _ {zn with l:=s.num (zs.length+1),r:=u.num (zs.length+1+s.size)} (by rw[aT];exact hn3) (by decide) (by rw[List.getElem_set_self];rfl)];refine mG<|dn<|sR<|sm J J<|sa J J<|zE<|di<|?_;have hfin:=hz3.set (a:={zn with l:=s.num (zs.length+1),r:=u.num (zs.length+1+s.size)}) (b:=⟨l,s.num (zs.length+1),u.num (zs.length+1+s.size)⟩) ⟨hzn2.a,hzn2.b,hzn2.c,J,J⟩ zs.length;have hns:(ns++[(⟨l,0,0⟩:NQ)]++s.wr (zs.length+1)++u.wr (zs.length+1+s.size)).set zs.length ⟨l,s.num (zs.length+1),u.num (zs.length+1+s.size)⟩=ns++(Tr.node l s u).wr zs.length:=by
   rw[dK,dK,nW _ _ (by omega),hzz,tJ];simp[Tr.wr]
  rw[hns] at hfin;refine yy (.tmp J .nil) _ _ (List.Perm.refl _) (List.Sublist.refl _) ⟨⟨some ⟨nb,0,none⟩,(xD.map ND.val).length,x3c⟩,_,_,J,J,?_,hfin⟩;refine .inr ⟨nb,rest,lo3,by simp,by rw[List.set_set],?_,?_,?_⟩
  ·rw[d7 (s:=8) _ (ND.len8 _)]
  ·rw[d7 (s:=8) _ (ND.len8 _),aJ,aT];rw[hf1,aJ] at hf2;exact hf2
  ·rw[aJ,aT];exact hf3
def Fv{t:Tr}(hb:t.all LB)(hs:t.size<=1000000):PF GB prog 78 [eU t] (eA t):=by
 intro G vs _ hv;obtain⟨v0,m,rfl,h,hm⟩:=aP.1 hv;rw[cG] at hm;subst hm;obtain⟨p,rfl⟩:=rB h;refine Fn.intro func78 J J ntmps78 J ?_;intro C _ hC;refine sR<|?_;refine sc (tH J ?_);intro b1;refine zE<|sR<|?_;refine sc (tH J ?_);intro b2;refine zE<|sR<|?_;refine sc (tH J ?_);intro b3;refine zE<|sR<|sy (yB J J) J<|?_;refine sc (s9 (cs':=[oe b2 b3]) J J J (.hd ..) (nb J) J J ?_);refine zE<|sR<|pz J J J<|sm J J<|?_;refine sc (Em (c1:=[]) (M:=[⟨b2,[.int .i64 0, .slice none 0 0],32,true⟩,⟨b3,[oe b2 b3],274,true⟩]) (rest:=[⟨b1,[.int .i64 0, .slice none 0 0],32,true⟩]) J J (List.Perm.swap ..) (GC (A:=G) (A2:=G) (x:=⟨none,0,0⟩) (zs:=[]) (ns:=[]) (B:=[]) h hb (ir.nil ..) .nil (by simpa using hs)) J ?_);rintro _ _ G4 fl _ _ hf ⟨x,zs,B,rfl,rfl,hB,hz⟩;have e1:=hf (by simp) b2;have e2:=hf (by simp) b3;replace hB:=hB.relo fl;refine EM (own':=⟨b2,[.int .i64 0, .slice x.a x.n x.c],32,true⟩::⟨b3,[oe b2 b3],274,true⟩::(B.map (relo fl)++[⟨b1,[.int .i64 0, .slice none 0 0],32,true⟩])) (by simp only[bS,relo,e1,e2,cW]) ?_;generalize B.map (relo fl)=B at hB;refine CJ (⟨b2,[.int .i64 0, .slice x.a x.n x.c],32,true⟩::⟨b3,[oe b2 b3],274,true⟩::⟨b1,[.int .i64 0, .slice none 0 0],32,true⟩::B) ((mQ (l₁:=B) (l₂:=[_])).cons _ |>.cons _) ?_;refine sf J J<|?_;refine sc (s9 (cs':=[.int .i64 (t.num 0), .slice x.a x.n x.c]) J J J (.hd ..) (nb J) J J ?_);refine zE<|sR<|Fh J J J<|?_;refine sc (AK (cs':=[.int .i64 (t.num 0), .slice x.a x.n x.c]) J J J (.tl _ _ _ _ _ _ _ _ (.tl _ _ _ _ _ _ _ _ (.hd ..))) J (nb J) J J ?_)
 refine zE<|?_;refine amA (L:=[_,_,_]) hC hB (ND.len8 _) ?_;intro G5 _ hsl;show St C _ _ [⟨b2,_,_,true⟩,⟨b3,_,_,true⟩,⟨b1,[.int .i64 (t.num 0), .slice x.a x.n x.c],32,true⟩] _ _;refine di<|?_;exact zD (.agg J ii ii J .nil) (Zh (k:=96) ⟨zs,hsl,by rw[cV] at hz;exact hz.imp fun _ _ h=>h.up⟩)
def Tr.pre:Tr->List Tr
 | .leaf b=>[.leaf b]
 | .node l x y=> .node l x y::(x.pre++y.pre)
structure Vis (f:FuncId) (c2:List Value) (σ:Type) (step:σ->Tr->σ) (ok:σ->Tr->Prop) (Inv:σ->List ao->Gh->Prop):Prop where
 up: ∀{s B G G'},bz G G'->Inv s B G->Inv s B G'
 re: ∀{s B G} (fl:Nat->Bool),Inv s B G->Inv s (B.map (relo fl)) G
 go: ∀{s t p B G},ok s t->Inv s B G->Is G (eU t) (.pointer p)->iA prog f (.pointer p::c2) B G (fun _ B' G'=>Inv (step s t) B' G')
section
variable {P:Program} {C:aD} {n:Nat} {fr:Fr} {own:List ao} {G:Gh}
end
def PS{σ:Type}(step:σ->Tr->σ)(ok:σ->Tr->Prop):σ->List Tr->Prop
 |_,[]=>True
 |s,t::ts=>ok s t/\PS step ok (step s t) ts
structure EX (σ:Type) where
 ts:List Tr
 vs:List Value
 rest:List Value
 b:Nat
 cap:Nat
 lo:Bool
 s:σ
 B:List ao
def TO(t:Tr):Nat:=2*t.size+1
def KV(ts:List Tr):List Tr:=ts.reverse.flatMap Tr.pre
structure EI (A:Gh) {σ:Type} (step:σ->Tr->σ) (ok:σ->Tr->Prop) (Inv:σ->List ao->Gh->Prop) (N:Nat) (fin:σ) (x:EX σ) (G:Gh):Prop where
 rel:gl (fun v t=> ∃p,v= .pointer p/\Is A (eU t) (.pointer p)) x.vs x.ts
 cap:x.vs.length+x.rest.length=x.cap
 inv:Inv x.s x.B G
 mu:(x.ts.map TO).sum<=N
 okf:PS step ok x.s (KV x.ts)
 fin:(KV x.ts).foldl step x.s=fin
def szI(nbk:Nat)(s:Nat)(B:List ao)(_:Gh):Prop:= ∃lo,B=[⟨nbk,[.int .i64 s],3,lo⟩]
def szS(s:Nat):Tr->Nat
 | .leaf _=>s
 | .node .. =>s+1
def uw(n:Nat)(f:Nat->Bool):Nat:=((List.range n).filter fun j=>!f j).length
def Zq{n k:Nat}{f:Nat->Bool}(hk:k<n)(hf:f k=false):uw n (kI f k)+1=uw n f:=by
 unfold uw;have key: ∀l:List Nat,l.Nodup->((l.filter fun j=>!kI f k j).length+(if k∈l then 1 else 0)=(l.filter fun j=>!f j).length):=fun l=>by
  induction l with
  |nil=>intro _;rfl
  |cons a l ih=>
   intro hn;obtain⟨h1,h2⟩:=List.nodup_cons.1 hn;have:=ih h2;by_cases e:a=k
   ·subst e
    simp only[pU,QD,hf,aY,true_or,if_true] at this⊢;rw[if_neg h1] at this;simp at this⊢;omega
   ·have e': ¬k=a:=fun h=>e h.symm
    simp only[pU,zy e,aY,e',false_or] at this⊢
    cases f a<;>simp at this⊢ <;>omega
 have:=key (List.range n) List.nodup_range;rwa [if_pos (oV.2 hk)] at this
def sP(ns:List RN):Nat->Int->RS->Tr×RS
 |0,_,s=>(.leaf false,s)
 |m+1,rt,s=>
  if rt= -1 then(.leaf false,s) else if rt= -2 then(.leaf true,s) else
  match ns[rt.toNat]? with
  |none=>(.leaf false,⟨s.f,s.c,true⟩)
  |some n=>if rt<0\/s.f rt.toNat=true then(.leaf false,⟨s.f,s.c,true⟩) else
   match n.g.ln with
   |none=>(.leaf false,⟨kI s.f rt.toNat,s.c+1,true⟩)
   |some l=>let a:=sP ns m n.l ⟨kI s.f rt.toNat,s.c+1,s.b⟩;let b:=sP ns m n.r a.2;(.node l a.1 b.1,b.2)
def Bv{ns:List RN}: ∀{m:Nat} {rt:Int} {s:RS},uw ns.length s.f<m->RR ns rt s (sP ns m rt s).1 (sP ns m rt s).2/\(sP ns m rt s).2.c+uw ns.length (sP ns m rt s).2.f=s.c+uw ns.length s.f
 |0,_,_,h=>absurd h (Nat.not_lt_zero _)
 |m+1,rt,s,h=>by
  rw[sP];split
  ·rename_i e;subst e;exact⟨.leaf false s,rfl⟩
  rename_i e1;split
  ·rename_i e;subst e;exact⟨.leaf true s,rfl⟩
  rename_i e2;split
  ·rename_i hn
   have:=List.getElem?_eq_none_iff.1 hn;exact⟨.bad rt s e1 e2 (by omega),J⟩
  rename_i n hn;have hlt:=(aR.1 hn).1;split
  ·rename_i hb
   refine⟨.bad rt s e1 e2 ?_,J⟩;rcases hb with hb|hb
   ·exact .inl hb
   ·by_cases h0:rt<0
    ·exact .inl h0
    ·exact .inr (.inr ⟨rt.toNat,by omega,hlt,hb⟩)
  rename_i hb;obtain⟨k,rfl⟩: ∃k:Nat,rt=k:=⟨rt.toNat,by omega⟩;rw[bQ] at hn hlt hb⊢;have hf:s.f k=false:=by
   cases hh:s.f k with
   |false=>rfl
   |true=>exact absurd (Or.inr hh) hb
  have hu:=Zq hlt hf;split
  ·rename_i hl;exact⟨.line k n s hn hf hl,by simp only;omega⟩
  rename_i l hl;have h1:=Bv (ns:=ns) (m:=m) (rt:=n.l) (s:=⟨kI s.f k,s.c+1,s.b⟩) (by simp only;omega);have hc:=h1.1.mono;simp only at h1 hc;have h2:=Bv (ns:=ns) (m:=m) (rt:=n.r) (s:=(sP ns m n.l ⟨kI s.f k,s.c+1,s.b⟩).2) (by omega);exact⟨.node k n l s _ _ _ _ hn hf hl h1.1 h2.1,by have:=h1.2;have:=h2.2;dsimp only;omega⟩
def vt(ns:List RN)(rt:Int):Option Tr:=
 let r:=sP ns (ns.length+1) rt rA
 if r.2.b=false/\r.2.c=ns.length then some r.1 else none
def V2:Option Tr->DV
 |some t=> .tp [eU t,vB true]
 |none=> .tp [.v (.pointer none),vB false]
def Ey(n:Nat)(f:Nat->Bool):uw n f<=n:=by
 unfold uw;refine cM (sQ _ _) ?_;rw[nL];exact aN _
def Yi{ns:List RN}{rt:Int}(hs: ∀n∈ns,n.g.sm)(hn:ns.length<=65536):PF GB prog 129 [xA rt ns] (V2 (vt ns rt)):=by
 have h:=Bv (ns:=ns) (m:=ns.length+1) (rt:=rt) (s:=rA) (by have:=Ey ns.length rA.f;omega);have hu:=Ey ns.length rA.f;have h0:rA.c=0:=J;have h2:=YA (GB:=GB) hs hn h.1 (by have:=h.2;omega);unfold Ay at h2;unfold vt;simp only;split
 ·rename_i e;rw[if_pos e] at h2;exact h2
 ·rename_i e;rw[if_neg e] at h2;exact h2
end Go.Sx
end
section
namespace Go.Sx
open Go Go.Proofs Go.RowKit Go.Extern.Stop Go.Stop Go.Extern
def aKv:TypeId->Sem Value:=fun t=>do Go.Extern.Rtype.noPackHeld "Comparable" t;pure (.bool (<-typeInfo t).comparable)
def zL(a:Addr):DV:= .v (.iface 499 (.pointer (some a)))
end Go.Sx
end
section
namespace Go.Sx
open Go Go.Proofs Tryz
structure EG (GB:Gh) (ai al ae:Addr):Prop where
 ErrInvalid:GB 0=some [.iface 499 (.pointer (some ai))]
 ErrLimit:GB 1=some [.iface 499 (.pointer (some al))]
structure EGE (GB:Gh) (ai al ae:Addr):Prop extends EG GB ai al ae where
 ErrEmpty:GB 4=some [.iface 499 (.pointer (some ae))]
structure Tr.gd (t:Tr):Prop where
 lb:t.all LB
 ok:t.all aa.ok
def KH(op:Int)(a b:Tr):Option Tr:=if 1024<a.depth+b.depth then none else if 65536<(a.mergeQ op b []).size then none else some (a.mergeQ op b [])
def aKx(al:Addr):Option Tr->DV
 |some t=> .tp [eU t, .v .nilIface]
 |none=> .tp [.v (.pointer none),zL al]
def Lm(op:Int):Tr->List Tr->Option Tr
 |t,[]=>some t
 |t,u::us=>match KH op t u with
  |none=>none
  |some r=>Lm op r us
def TB{t:Tr}(h:t.gd)(c:aC):(t.restrict c).gd:=⟨t.restrict_all LB c h.lb,t.restrict_all aa.ok c h.ok⟩
def SK{GB:Gh}{ns:List RN}{rt:Int}{t:Tr}(hs: ∀n∈ns,n.g.sm)(hn:ns.length<=65536)(h:vt ns rt=some t):PF GB prog 129 [xA rt ns] (.tp [eU t,vB true]):=by
 have:=Yi (GB:=GB) (rt:=rt) hs hn;rw[h] at this;exact this
def Hl:DV:= .ag [vI 0, .sl []]
def aKq:Tr ⊕ Addr->DV
 | .inl t=> .tp [eA t, .v .nilIface]
 | .inr e=> .tp [Hl,zL e]
def aJn(ai:Addr):Option Tr->Tr ⊕ Addr
 |some t=> .inl t.compl
 |none=> .inr ai
def MM(al:Addr):Option Tr->Tr ⊕ Addr
 |some t=> .inl t
 |none=> .inr al
def aIA(ai al:Addr)(op:Int):Option Tr->Option Tr->Tr ⊕ Addr
 |some a,some b=>if 1<=op/\op<=4 then MM al (KH op a b) else .inr ai
 |_,_=> .inr ai
abbrev rg:=Int×List RN
def rg.d(x:rg):DV:=xA x.1 x.2
def rg.q(x:rg):Option Tr:=vt x.2 x.1
def Uq:Option Tr->DV
 |some t=>eU t
 |none=> .v (.pointer none)
def aHa(op:Int)(ts:List rg):Bool:=decide (1<=op/\op<=4)&&ts.all fun x=>x.q.isSome
def aKS(ai al ae:Addr)(op:Int)(ts:List rg):Tr ⊕ Addr:=
 if aHa op ts then(match ts.filterMap rg.q with
  |[]=> .inr ae
  |a::us=>if 1024<a.depth then .inr al else MM al (Lm op (a.restrict []) us)) else .inr ai
def aKZ(ts:List rg):List DV:=ts.map fun x=>Uq x.q
structure rg.ok (x:rg):Prop where
 s: ∀n∈x.2,n.g.sm
 n:x.2.length<=65536
def Tr.val:Tr->ab->Bool
 | .leaf b,_=>b
 | .node l x y,p=>if 0<l.value p then x.val p else y.val p
def Tr.lns:Tr->List aa
 | .leaf _=>[]
 | .node l x y=>l::(x.lns++y.lns)
def pH{P:aa->Prop}: ∀{t:Tr},t.all P↔ ∀l∈t.lns,P l
 | .leaf _=>⟨fun _ l hl=>(by cases hl),fun _=>trivial⟩
 | .node l x y=>by
  show(P l/\x.all P/\y.all P)↔ ∀m∈l::(x.lns++y.lns),P m;rw[pH (t:=x),pH (t:=y)];constructor
  ·rintro ⟨h0,h1,h2⟩ m hm
   rcases aY.1 hm with rfl|hm
   ·exact h0
   ·rcases bV.1 hm with hm|hm
    ·exact h1 m hm
    ·exact h2 m hm
  ·intro h
   exact⟨h l aQ,fun m hm=>h m (aZ _ (bK _ hm)),fun m hm=>h m (aZ _ (bM _ hm))⟩
def ri{t:Tr}(h:t.all aa.ok): ∀l∈t.lns,l.ok:=pH.1 h
def e8(L:List aa)(p:ab):Prop:= ∀l∈L,l.value p≠0
def e8.sub{L M:List aa}{p:ab}(h:e8 L p)(k: ∀l∈M,l∈L):e8 M p:=fun l hl=>h l (k l hl)
def e8.l{l:aa}{x y:Tr}{p:ab}(h:e8 (Tr.node l x y).lns p):l.value p≠0:=h l aQ
def e8.x{l:aa}{x y:Tr}{p:ab}(h:e8 (Tr.node l x y).lns p):e8 x.lns p:=h.sub fun m hm=>aZ _ (bK _ hm)
def e8.y{l:aa}{x y:Tr}{p:ab}(h:e8 (Tr.node l x y).lns p):e8 y.lns p:=h.sub fun m hm=>aZ _ (bM _ hm)
def e8.app{L M:List aa}{p:ab}:e8 (L++M) p↔e8 L p/\e8 M p:=by
 unfold e8;constructor
 ·intro h;exact⟨fun l hl=>h l (bK _ hl),fun l hl=>h l (bM _ hl)⟩
 ·rintro ⟨h1,h2⟩ l hl;rcases bV.1 hl with h|h;exact h1 l h;exact h2 l h
def opB(op:Int)(a b:Bool):Bool:=if op=1 then a||b else if op=2 then a&&b else if op=3 then a&&!b else a !=b
def Tr.val_join(l:aa)(X Y:Tr)(p:ab):(Tr.joinQ l X Y).val p=(Tr.node l X Y).val p:=by
 unfold Tr.joinQ;split
 ·rename_i h
  cases X<;>cases Y<;>simp[Tr.isLeaf,Tr.code] at h
  subst h;simp[Tr.val]
 ·rfl
def Tr.val_pos{l:aa}{x y:Tr}{p:ab}(h:0<l.value p):(Tr.node l x y).val p=x.val p:=by rw[Tr.val,if_pos h]
def Tr.val_neg{l:aa}{x y:Tr}{p:ab}(h: ¬0<l.value p):(Tr.node l x y).val p=y.val p:=by rw[Tr.val,if_neg h]
def RT{c:aC}{l:aa}(hc:cI c)(hl:l.ok)(hb:cH c l.rev=false){p:ab}(hp:bw c p)(h0:l.value p≠0):0<l.value p:=by
 by_cases h:0<l.value p
 ·exact h
 ·exfalso
  have:cH c l.rev=true:=(r8 hc hl.rev).2 ⟨p,hp,by rw[f7];grind⟩;rw[hb] at this;cases this
def Rk{c:aC}{l:aa}(hc:cI c)(hl:l.ok)(hb:cH c l=false){p:ab}(hp:bw c p): ¬0<l.value p:=fun h=>by
 have:cH c l=true:=(r8 hc hl).2 ⟨p,hp,h⟩;rw[hb] at this;cases this
def Tr.val_restrict: ∀(t:Tr) (c:aC) (p:ab),t.all aa.ok->cI c->bw c p->e8 t.lns p->(t.restrict c).val p=t.val p
 | .leaf _,_,_,_,_,_,_=>rfl
 | .node l x y,c,p,⟨hl,hx,hy⟩,hc,hp,ho=>by
  cases hb:cH c l.rev with
  |false=>rw[Tr.restrict_A _ _ hb,x.val_restrict c p hx hc hp ho.x,Tr.val_pos (RT hc hl hb hp ho.l)]
  |true=>
   cases hb2:cH c l with
   |false=>rw[Tr.restrict_B _ _ hb hb2,y.val_restrict c p hy hc hp ho.y,Tr.val_neg (Rk hc hl hb2 hp)]
   |true=>
    rw[Tr.restrict_C _ _ hb hb2,Tr.val_join];obtain⟨g1,i1⟩:=jv hc hl hb2;obtain⟨g2,i2⟩:=jv hc hl.rev hb;by_cases h:0<l.value p
    ·rw[Tr.val_pos h,Tr.val_pos h,x.val_restrict _ p hx g1 ((i1 p).2 ⟨hp,h⟩) ho.x]
    ·rw[Tr.val_neg h,Tr.val_neg h,y.val_restrict _ p hy g2 ((i2 p).2 ⟨hp,by rw[f7];have:=ho.l;grind⟩) ho.y]
def OY: ∀(L:List aa) (u:ab) (p:ab),e8 L p-> ∃e:Rat,0<e/\ ∀d,0<=d->d<=e->e8 L (ce p u d)
 |[],u,p,_=>⟨1,by decide,fun d _ _ l hl=>by cases hl⟩
 |l::L,u,p,h=>by
  obtain⟨e,he,hm⟩:=OY L u p (h.sub fun m hm=>aZ _ hm);have h0:=h l aQ;have key: ∃f:Rat,0<f/\ ∀d,0<=d->d<=f->l.value (ce p u d)≠0:=by
   by_cases hk:l.nor.dot u=0
   ·exact⟨1,by decide,fun d _ _=>by rw[iw,hk];grind⟩
   ·generalize hA:l.value p=A at*
    generalize hB:l.nor.dot u=B at*;rcases fE A with h|h|h
    ·exact absurd h h0
    ·rcases fE B with k|k|k
     ·exact absurd k hk
     ·exact⟨1,by decide,fun d hd _=>by rw[iw,hA,hB];have:=eO hd (dS k);grind⟩
     ·refine⟨A/(-B)/2,?_,fun d hd h2=>?_⟩
      ·have:0<A/(-B):=by
        have e1:A/(-B)*(-B)=A:=by grind
        exact(il (k:= -B) (by grind)).1 (by rw[e1];exact h)
       grind
      ·rw[iw,hA,hB]
       have e1:A/(-B)*(-B)=A:=by grind
       generalize A/(-B)=q at*;have h4:=eO (a:=q/2-d) (b:= -B) (by grind) (by grind);grind
    ·rcases fE B with k|k|k
     ·exact absurd k hk
     ·refine⟨(-A)/B/2,?_,fun d hd h2=>?_⟩
      ·have:0<(-A)/B:=by
        have e1:(-A)/B*B= -A:=by grind
        exact(il (k:=B) k).1 (by rw[e1];grind)
       grind
      ·rw[iw,hA,hB]
       have e1:(-A)/B*B= -A:=by grind
       generalize (-A)/B=q at*;have h4:=eO (a:=q/2-d) (b:=B) (by grind) (by grind);grind
     ·exact⟨1,by decide,fun d hd _=>by rw[iw,hA,hB];have:=eO hd (b:= -B) (by grind);grind⟩
  obtain⟨f,hf,hk⟩:=key;refine⟨if e<=f then e else f,by split<;>assumption,fun d hd hde m hm'=>?_⟩;have h1:d<=e/\d<=f:=by split at hde<;>grind
  rcases aY.1 hm' with rfl|hm'
  ·exact hk d hd h1.2
  ·exact hm d hd h1.1 m hm'
def DG{c:aC}{p:ab}(hp:bw c p): ∀(L:List aa),(∀l∈L,l.ok)-> ∃q,bw c q/\e8 L q
 |[],_=>⟨p,hp,fun l hl=>by cases hl⟩
 |l::L,h=>by
  obtain⟨q,hq,ho⟩:=DG hp L fun m hm=>h m (aZ _ hm);by_cases h0:l.value q=0
  ·have hn:=po (h l aQ).ne
   obtain⟨e,he,hm⟩:=hq.open l.nor;obtain⟨f,hf,hk⟩:=OY L l.nor q ho;refine⟨ce q l.nor (if e<=f then e else f),hm _ (by split<;>grind) (by split<;>grind),fun m hm'=>?_⟩;rcases aY.1 hm' with rfl|hm'
   ·rw[iw,h0]
    have:=b8 (a:=if e<=f then e else f) (b:=m.nor.dot m.nor) (by split<;>assumption) hn;grind
   ·exact hk _ (by split<;>grind) (by split<;>grind) m hm'
  ·exact⟨q,hq,fun m hm=>by rcases aY.1 hm with rfl|hm;exact h0;exact ho m hm⟩
def Ug{c:aC}(hc:cI c)(L:List aa)(h: ∀l∈L,l.ok): ∃q,bw c q/\e8 L q:=by
 obtain⟨p,hp⟩:=hc.ne;exact DG hp L h
def Tr.Red:Tr->aC->Prop
 | .leaf _,_=>True
 | .node l x y,c=>cH c l=true/\cH c l.rev=true/\x.Red (bE c l)/\y.Red (bE c l.rev)/\ ¬(x.isLeaf=true/\y.isLeaf=true/\x.code=y.code)
def Tr.red_leaf{t:Tr}(h:t.isLeaf=true)(c:aC):t.Red c:=by
 cases t with
 |leaf b=>trivial
 |node l x y=>cases h
def Tr.join_red{l:aa}{x y:Tr}{c:aC}(h1:cH c l=true)(h2:cH c l.rev=true)(hx:x.Red (bE c l))(hy:y.Red (bE c l.rev)):(Tr.joinQ l x y).Red c:=by
 rcases Tr.joinQ_cases l x y with⟨e,h⟩|⟨e,h⟩
 ·rw[e];exact Tr.red_leaf h c
 ·rw[e];exact⟨h1,h2,hx,hy,h⟩
def Tr.restrict_red: ∀(t:Tr) (c:aC),(t.restrict c).Red c
 | .leaf _,_=>trivial
 | .node l x y,c=>by
  cases hb:cH c l.rev with
  |false=>rw[Tr.restrict_A _ _ hb];exact x.restrict_red c
  |true=>
   cases hb2:cH c l with
   |false=>rw[Tr.restrict_B _ _ hb hb2];exact y.restrict_red c
   |true=>rw[Tr.restrict_C _ _ hb hb2];exact Tr.join_red hb2 hb (x.restrict_red _) (y.restrict_red _)
def Yg(p:ab):bw [] p:=fun s hs=>(by cases hs)
def aa.same(l m:aa):Prop:=m=l\/m=l.rev
instance (l m:aa):Decidable (l.same m):=inferInstanceAs (Decidable (_\/_))
def Tr.cnt(l:aa):Tr->Nat
 | .leaf _=>0
 | .node m x y=>(if l.same m then 1 else 0)+(x.cnt l+y.cnt l)
def qn{l m:aa}(h:l.same m){p:ab}(hp:l.value p=0):m.value p=0:=by
 rcases h with rfl|rfl
 ·exact hp
 ·rw[f7,hp];rfl
def BR(l:aa)(c:aC):Prop:= ∃p,bw c p/\l.value p=0
def Tr.cnt_zero{l:aa}: ∀{t:Tr} {c:aC},t.Red c->t.all aa.ok->cI c-> ¬BR l c->t.cnt l=0
 | .leaf _,_,_,_,_,_=>rfl
 | .node m x y,c,⟨h1,h2,h3,h4,_⟩,⟨hm,hx,hy⟩,hc,hn=>by
  obtain⟨g1,i1⟩:=jv hc hm h1;obtain⟨g2,i2⟩:=jv hc hm.rev h2;have e1:=Tr.cnt_zero (l:=l) h3 hx g1 (fun⟨p,hp,h0⟩=>hn ⟨p,((i1 p).1 hp).1,h0⟩);have e2:=Tr.cnt_zero (l:=l) h4 hy g2 (fun⟨p,hp,h0⟩=>hn ⟨p,((i2 p).1 hp).1,h0⟩);rw[Tr.cnt,e1,e2];by_cases hs:l.same m
  ·exfalso
   -- m crosses the cell
   obtain⟨p,hp,k1⟩:=(r8 hc hm).1 h1;obtain⟨q,hq,k2⟩:=(r8 hc hm.rev).1 h2;rw[f7] at k2;generalize hA:m.value p=A at*;generalize hB:m.value q=B at*;have hAB:0<A-B:=by grind
   have e:A/(A-B)*(A-B)=A:=by grind
   generalize A/(A-B)=r at*;have r0:0<=r:=(jB hAB).1 (by rw[e];exact dS k1);have r1:r<=1:=by
    have:=(jB (s:=1-r) hAB).1 (by grind);grind
   have hz:=hp.seg hq r0 r1;have hv:m.value (bt p q r)=0:=by rw[jH,hA,hB];grind
   refine hn ⟨_,hz,?_⟩;rcases hs with rfl|rfl
   ·exact hv
   ·rw[f7] at hv;grind
  ·rw[if_neg hs]
def p9(c:aC)(p:ab):Bool:=c.all fun s=>decide (0<s.l.value p)
def rj{c:aC}{p:ab}:p9 c p=true↔bw c p:=by
 unfold p9 bw;rw[fZ];simp
def I8(P:List ab)(l:aa)(t:Tr):Prop:=t.all fun m=>l.same m\/ ∀p,l.value p=0->m.value p=0->p∈P
def GG{α:Type}{p q r:α->Bool}: ∀(P:List α),(∀x∈P,q x=true->p x=true)->(∀x∈P,r x=true->p x=true)->(∀x∈P,¬(q x=true/\r x=true))->P.countP q+P.countP r<=P.countP p
 |[],_,_,_=>aN _
 |x::P,h1,h2,h3=>by
  have ih:=GG (p:=p) (q:=q) (r:=r) P (fun y hy=>h1 y (aZ _ hy)) (fun y hy=>h2 y (aZ _ hy)) (fun y hy=>h3 y (aZ _ hy));have a:=h1 x aQ;have b:=h2 x aQ;have c:=h3 x aQ;rw[oU,oU,oU]
  cases hq:q x<;>cases hr:r x<;>simp_all<;>omega
def Pg{α:Type}{p q r:α->Bool}: ∀(P:List α),(∀x∈P,q x=true->p x=true)->(∀x∈P,r x=true->p x=true)->(∀x∈P,¬(q x=true/\r x=true))->(∃x∈P,p x=true/\q x=false/\r x=false)->P.countP q+P.countP r+1<=P.countP p
 |[],_,_,_,⟨x,hx,_⟩=>by cases hx
 |x::P,h1,h2,h3,h4=>by
  have i2:=GG (p:=p) (q:=q) (r:=r) P (fun y hy=>h1 y (aZ _ hy)) (fun y hy=>h2 y (aZ _ hy)) (fun y hy=>h3 y (aZ _ hy));have a:=h1 x aQ;have b:=h2 x aQ;have c:=h3 x aQ;rw[oU,oU,oU];obtain⟨z,hz,k1,k2,k3⟩:=h4;rcases aY.1 hz with rfl|hz
  ·simp only[k1,k2,k3];simp;omega
  ·have ih:=Pg (p:=p) (q:=q) (r:=r) P (fun y hy=>h1 y (aZ _ hy)) (fun y hy=>h2 y (aZ _ hy)) (fun y hy=>h3 y (aZ _ hy)) ⟨z,hz,k1,k2,k3⟩
   cases hq:q x<;>cases hr:r x<;>simp_all<;>omega
def Tr.cnt_le{l:aa}(hl:l.ok){P:List ab}: ∀{t:Tr} {c:aC},t.Red c->t.all aa.ok->cI c->I8 P l t->t.cnt l<=1+P.countP (p9 c)
 | .leaf _,_,_,_,_,_=>bU _
 | .node m x y,c,⟨h1,h2,h3,h4,_⟩,⟨hm,hx,hy⟩,hc,⟨v0,v1,v2⟩=>by
  obtain⟨g1,i1⟩:=jv hc hm h1;obtain⟨g2,i2⟩:=jv hc hm.rev h2;have q1: ∀p∈P,p9 (bE c m) p=true->p9 c p=true:=fun p _ h=>rj.2 ((i1 p).1 (rj.1 h)).1;have q2: ∀p∈P,p9 (bE c m.rev) p=true->p9 c p=true:=fun p _ h=>rj.2 ((i2 p).1 (rj.1 h)).1;have q3: ∀p∈P,¬(p9 (bE c m) p=true/\p9 (bE c m.rev) p=true):=fun p _ ⟨a,b⟩=>by
   have a:=((i1 p).1 (rj.1 a)).2;have b:=((i2 p).1 (rj.1 b)).2;rw[f7] at b;grind
  have ct:=GG P q1 q2 q3;rw[Tr.cnt];by_cases hs:l.same m
  ·have e1:=Tr.cnt_zero (l:=l) h3 hx g1 (fun⟨p,hp,h0⟩=>by have:=((i1 p).1 hp).2;rw[qn hs h0] at this;grind)
   have e2:=Tr.cnt_zero (l:=l) h4 hy g2 (fun⟨p,hp,h0⟩=>by have:=((i2 p).1 hp).2;rw[f7,qn hs h0] at this;grind);rw[e1,e2,if_pos hs];omega
  ·rw[if_neg hs]
   have b1:=Tr.cnt_le hl h3 hx g1 v1;have b2:=Tr.cnt_le hl h4 hy g2 v2;by_cases w1:BR l (bE c m)
   ·by_cases w2:BR l (bE c m.rev)
    ·-- the crossing lies in the cell
     obtain⟨p,hp,k1⟩:=w1;obtain⟨q,hq,k2⟩:=w2;obtain⟨hp,ap⟩:=(i1 p).1 hp;obtain⟨hq,aq⟩:=(i2 q).1 hq;rw[f7] at aq;generalize hA:m.value p=A at*;generalize hB:m.value q=B at*;have hAB:0<A-B:=by grind
     have e:A/(A-B)*(A-B)=A:=by grind
     generalize A/(A-B)=r at*;have r0:0<=r:=(jB hAB).1 (by rw[e];exact dS ap);have r1:r<=1:=by
      have:=(jB (s:=1-r) hAB).1 (by grind);grind
     have hz:=hp.seg hq r0 r1;have hv:m.value (bt p q r)=0:=by rw[jH,hA,hB];grind
     have hv2:l.value (bt p q r)=0:=by rw[jH,k1,k2];grind
     have hmem:bt p q r∈P:=by
      rcases v0 with h|h
      ·exact absurd h hs
      ·exact h _ hv2 hv
     have c3:=Pg P q1 q2 q3 ⟨_,hmem,rj.2 hz,by
      rw[<-kK,rj,i1];rintro ⟨_,h⟩;rw[hv] at h;grind,by
      rw[<-kK,rj,i2];rintro ⟨_,h⟩;rw[f7,hv] at h;grind⟩
     omega
    ·rw[Tr.cnt_zero h4 hy g2 w2];omega
   ·rw[Tr.cnt_zero h3 hx g1 w1];omega
def M5(l:aa):l.rev.rev=l:=by cases l;simp[aa.rev]
def aa.same.symm{l m:aa}(h:l.same m):m.same l:=by
 rcases h with rfl|rfl
 ·exact .inl J
 ·exact .inr (M5 l).symm
def aa.same.trans{l m n:aa}(h:l.same m)(k:m.same n):l.same n:=by
 rcases h with rfl|rfl
 ·exact k
 ·rcases k with rfl|rfl
  ·exact .inr J
  ·exact .inl (M5 l)
def od(K:List aa)(t:Tr):Prop:=t.all fun n=> ∃m∈K,m.same n
def ym(l m:aa):ab:=l.at (-(l.cutC m/l.cutK m))
def Cm{l m:aa}(hl:l.ok)(hm:m.ok){p:ab}(h1:l.value p=0)(h2:m.value p=0):l.same m\/p=ym l m:=by
 obtain⟨t,rfl⟩:=yN hl.ne h1;rw[lI] at h2;by_cases hk:l.cutK m=0
 ·left
  have hc:l.cutC m=0:=by rw[hk] at h2;grind
  rcases yj hm hl (fun s=>by rw[lI,hk,hc];grind) with h|h
  ·exact .inl h
  ·exact .inr h
 ·right
  unfold ym;congr 1;grind
def od.covers{K:List aa}(hK: ∀m∈K,m.ok){l:aa}(hl:l.ok): ∀{t:Tr},od K t->I8 (K.map (ym l)) l t
 | .leaf _,_=>trivial
 | .node n x y,⟨⟨m,hm,hs⟩,h1,h2⟩=>by
  refine⟨?_,od.covers hK hl h1,od.covers hK hl h2⟩;by_cases h:l.same n
  ·exact .inl h
  ·right
   intro p k1 k2;rcases Cm hl (hK m hm) k1 (qn hs.symm k2) with h3|h3
   ·exact absurd (h3.trans hs) h
   ·rw[h3];exact iN hm
def Kc(t:Tr):List aa->Nat
 |[]=>0
 |l::K=>t.cnt l+Kc t K
def Ks(n:aa):List aa->Nat
 |[]=>0
 |l::K=>(if l.same n then 1 else 0)+Ks n K
def OR{n:aa}{x y:Tr}: ∀K,Kc (.node n x y) K=Ks n K+(Kc x K+Kc y K)
 |[]=>rfl
 |l::K=>by
  have:=OR (n:=n) (x:=x) (y:=y) K;show(Tr.node n x y).cnt l+Kc (.node n x y) K=_;rw[this,Tr.cnt];show _=(if l.same n then 1 else 0)+Ks n K+(x.cnt l+Kc x K+(y.cnt l+Kc y K));omega
def Kz{n m:aa}(hs:m.same n): ∀{K:List aa},m∈K->1<=Ks n K
 |[],h=>by cases h
 |l::K,h=>by
  show 1<=(if l.same n then 1 else 0)+Ks n K;rcases aY.1 h with rfl|h
  ·rw[if_pos hs];omega
  ·have:=Kz hs h;omega
def IU{K:List aa}: ∀{t:Tr},od K t->t.size<=Kc t K
 | .leaf _,_=>bU _
 | .node n x y,⟨⟨m,hm,hs⟩,h1,h2⟩=>by
  have a:=IU h1;have b:=IU h2;have c:=Kz hs hm;rw[OR,Tr.size];omega
def Ml{t:Tr}{B:Nat}: ∀{K:List aa},(∀l∈K,t.cnt l<=B)->Kc t K<=K.length*B
 |[],_=>bU _
 |l::K,h=>by
  have:=Ml (t:=t) (B:=B) (K:=K) fun m hm=>h m (aZ _ hm);have:=h l aQ;show t.cnt l+Kc t K<=(K.length+1)*B;rw[gU];omega
def Tr.size_le{K:List aa}(hK: ∀m∈K,m.ok){t:Tr}{c:aC}(hr:t.Red c)(ht:t.all aa.ok)(hc:cI c)(h:od K t):t.size<=K.length*(1+K.length):=by
 refine cM (IU h) (Ml fun l hl=>?_);refine cM (Tr.cnt_le (hK l hl) hr ht hc (h.covers hK (hK l hl))) ?_;have:=List.countP_le_length (p:=p9 c) (l:=K.map (ym l));rw[aJ] at this;omega
def od.restrict{K:List aa}{t:Tr}(h:od K t)(c:aC):od K (t.restrict c):=t.restrict_all _ c h
def Tr.chooseL(op:Int)(b:Bool)(t:Tr)(c:List aa):Tr:=
 if op=1/\b=true then .leaf true
 else if(op=2\/op=3)/\b=false then .leaf false
 else if(op=3\/op=4)/\b=true then(t.restrictL c).compl else t.restrictL c
def Tr.mergeL(op:Int):Tr->Tr->List aa->Tr
 | .leaf b,u,c=>u.chooseL op b c
 | .node l x y,u,c=>if Ct c l=1 then x.mergeL op u c else if Ct c l= -1 then y.mergeL op u c else joinQ l (x.mergeL op u (d9 (c++[l]))) (y.mergeL op u (d9 (c++[l.rev])))
structure Gen (L:List aa) (a b:Tr):Prop where
 oa:a.all aa.ok
 ob:b.all aa.ok
 ok: ∀l∈L,l.ok
 la: ∀l∈a.lns,l∈L
 lb: ∀l∈b.lns,l∈L
def fq(x:Rat):List Rat->List Rat
 |[]=>[x]
 |u::t=>if u<x then u::fq x t else if u=x then u::t else x::u::t
def Hg(l:List Rat):List Rat:=l.foldl (fun out x=>fq x out) []
def i8:List Rat->List Rat
 |a::b::t=>(a+b)/2::i8 (b::t)
 |_=>[]
def gG:List Rat->List Rat
 |[]=>[0]
 |a::t=>(a-1)::(i8 (a::t)++[(a::t).getLast (by simp)+1])
def wB{x y:Rat}: ∀{l:List Rat},y∈fq x l↔y=x\/y∈l
 |[]=>by simp[fq]
 |u::t=>by
  rw[fq];split
  ·rw[aY,wB (l:=t),aY];grind
  ·split
   ·rename_i h;subst h;simp
   ·simp
def AH{x:Rat}: ∀{l:List Rat},l.Pairwise (· < ·)->(fq x l).Pairwise (· < ·)
 |[],_=>by simp[fq]
 |u::t,h=>by
  rw[bY] at h;rw[fq];split
  ·rename_i hu
   rw[bY];refine⟨fun y hy=>?_,AH h.2⟩;rcases wB.1 hy with rfl|hy
   ·exact hu
   ·exact h.1 y hy
  ·rename_i hu
   split
   ·rw[bY];exact h
   ·rename_i hn
    have hx:x<u:=by grind
    rw[bY,bY];refine⟨fun y hy=>?_,h⟩;rcases aY.1 hy with rfl|hy
    ·exact hx
    ·have:=h.1 y hy;grind
def OE: ∀{l:List Rat} (h:l.Pairwise (· < ·)) (hn:l≠[]),∀y∈l,y<=l.getLast hn
 |[a],_,_,y,hy=>by rw[aW] at hy;subst hy;exact gT
 |a::b::t,h,_,y,hy=>by
  rw[bY] at h;rw[List.getLast_cons (by simp)];have ih:=OE h.2 (by simp);rcases aY.1 hy with rfl|hy
  ·have:=h.1 b aQ
   have:=ih b aQ;grind
  ·exact ih y hy
def LQ:List aa->List Rat
 |[]=>[]
 |a::t=>(if a.b=0 then [a.base.x] else [])++(t.filterMap (fun b=>if crossI a b=0 then none else some (gr a b).x)++LQ t)
def yA(a:aa)(x:Rat):Rat:= -(((a.a:Rat)*x+(a.c:Rat))/(a.b:Rat))
def L9(l:List aa)(x:Rat):List Rat:=l.filterMap fun a=>if a.b=0 then none else some (yA a x)
def QB(l:List aa):List ab:=(gG (Hg (LQ l))).flatMap fun x=>(gG (Hg (L9 l x))).map fun y=>⟨x,y⟩
def aIK(l:aa)(p:ab):aa:=if 0<l.value p then l else l.rev
def iG(out:List Rat)(s:aj):List Rat:=if s.nh then(if s.nl then out else fq s.lo out) else fq s.hi (if s.nl then out else fq s.lo out)
def gF(l:List aj):List Rat:=l.foldl iG []
def Aw:List aj->Rat->Int
 |[],_=>0
 |s::t,x=>
  let a:=if s.nl then 1 else cg x s.lo
  let b:=if s.nh then-1 else cg x s.hi
  if 0<a/\b<0 then 2 else if(a=0/\b<=0)\/(b=0/\0<=a) then 1 else Aw t x
def ng(l:List aj)(x:Rat):Bool:=decide (Aw l x=2)
def gA(cuts:List Rat)(i:Nat):aj:=⟨if i=0 then 0 else cuts.getD (i-1) 0,if i<cuts.length then cuts.getD i 0 else 0,decide (i=0),decide (i=cuts.length)⟩
def pB(v w:aj):aj:=⟨v.lo,w.hi,v.nl,w.nh⟩
def iH(cuts:List Rat)(marks:List Bool):Nat->List aj
 |0=>[]
 |k+1=>
  let out:=iH cuts marks k
  if marks.getD k false then
   (if 0<k/\marks.getD (k-1) false=true then(match out.getLast? with
    |some v=>out.dropLast++[pB v (gA cuts k)]
    |none=>out++[gA cuts k]) else out++[gA cuts k])
  else out
def lD(cuts:List Rat)(marks:List Bool):List aj:=iH cuts marks marks.length
def EH(op:Int)(x y:Bool):Bool:=if op=2 then x&&y else if op=3 then x&&!y else if op=4 then x !=y else x||y
def i5(op:Int)(a b:List aj):List aj:=lD (gF (a++b)) ((gG (gF (a++b))).map fun t=>EH op (ng a t) (ng b t))
def vd(l m:aa)(side:Int):List aj:=
 if crossI l m=0 then(if(m.value l.base).num.sign=side then [aj.all] else [])
 else if(m.value (l.at (fg l (gr l m)+1))).num.sign=side then [⟨fg l (gr l m),0,false,true⟩] else [⟨0,fg l (gr l m),true,false⟩]
def uS(l m:aa):Bool:=decide (crossI l m=0/\(m.value l.base).num.sign=0)
def jz(f:aO)(m:aa)(side:Int):List aO:=if uS f.l m then [] else(i5 2 [f.v] (vd f.l m side)).map fun v=>⟨f.l,v⟩
def Q8(l:List aj):(gF l).Pairwise (· < ·)/\ ∀y∈gF l,∃s∈l,(s.nl=false/\y=s.lo)\/(s.nh=false/\y=s.hi):=by
 have key: ∀(l:List aj) (o:List Rat),o.Pairwise (· < ·)->(l.foldl iG o).Pairwise (· < ·)/\ ∀y∈l.foldl iG o,y∈o\/ ∃s∈l,(s.nl=false/\y=s.lo)\/(s.nh=false/\y=s.hi):=by
  intro l
  induction l with
  |nil=>intro o h;exact⟨h,fun y hy=> .inl hy⟩
  |cons s t ih=>
   intro o h;have h1:(iG o s).Pairwise (· < ·)/\ ∀y∈iG o s,y∈o\/(s.nl=false/\y=s.lo)\/(s.nh=false/\y=s.hi):=by
    unfold iG
    cases e1:s.nl<;>cases e2:s.nh<;>simp only[if_true,dZ,if_false]
    ·refine⟨AH (AH h),fun y hy=>?_⟩
     rcases wB.1 hy with h|h
     ·exact .inr (.inr ⟨trivial,h⟩)
     ·rcases wB.1 h with h|h
      ·exact .inr (.inl ⟨trivial,h⟩)
      ·exact .inl h
    ·refine⟨AH h,fun y hy=>?_⟩
     rcases wB.1 hy with h|h
     ·exact .inr (.inl ⟨trivial,h⟩)
     ·exact .inl h
    ·refine⟨AH h,fun y hy=>?_⟩
     rcases wB.1 hy with h|h
     ·exact .inr (.inr ⟨trivial,h⟩)
     ·exact .inl h
    ·exact⟨h,fun y hy=> .inl hy⟩
   obtain⟨k1,k2⟩:=ih (iG o s) h1.1;refine⟨k1,fun y hy=>?_⟩;rcases k2 y hy with h2|⟨q,hq,h2⟩
   ·rcases h1.2 y h2 with h3|h3
    ·exact .inl h3
    ·exact .inr ⟨s,aQ,h3⟩
   ·exact .inr ⟨q,aZ _ hq,h2⟩
 have:=key l [] List.Pairwise.nil;refine⟨this.1,fun y hy=>?_⟩;rcases this.2 y hy with h|h
 ·cases h
 ·exact h
structure E6 (cuts:List Rat) (v:aj):Prop where
 z:ik v
 lo:v.nl=true\/v.lo∈cuts
 hi:v.nh=true\/v.hi∈cuts
def Sm{cuts:List Rat}{i:Nat}(h:i<=cuts.length):E6 cuts (gA cuts i):=by
 unfold gA;refine⟨⟨fun e=>?_,fun e=>?_⟩,?_,?_⟩
 ·simp only[decide_eq_true_eq] at e;simp[e]
 ·simp only[decide_eq_true_eq] at e;simp[e]
 ·by_cases h0:i=0
  ·left;simp[h0]
  ·right
   simp only[if_neg h0];rw[aK,aX (by omega)];exact cY _
 ·by_cases h0:i=cuts.length
  ·left;simp[h0]
  ·right
   simp only[if_pos (show i<cuts.length by omega)];rw[aK,aX (by omega)];exact cY _
def On{cuts:List Rat}{marks:List Bool}: ∀{k:Nat},k<=cuts.length+1-> ∀v∈iH cuts marks k,E6 cuts v
 |0,_,v,hv=>by cases hv
 |k+1,hk,v,hv=>by
  have ih:=On (cuts:=cuts) (marks:=marks) (k:=k) (by omega);have hg:=Sm (cuts:=cuts) (i:=k) (by omega);rw[iH] at hv;split at hv
  ·split at hv
   ·split at hv
    ·rename_i w hw
     rcases bV.1 hv with h|h
     ·exact ih v ((List.dropLast_sublist _).subset h)
     ·rw[aW] at h;subst h
      have hw':=ih w (sU hw);exact⟨⟨hw'.z.1,hg.z.2⟩,hw'.lo,hg.hi⟩
    ·rcases bV.1 hv with h|h
     ·exact ih v h
     ·rw[aW] at h;subst h;exact hg
   ·rcases bV.1 hv with h|h
    ·exact ih v h
    ·rw[aW] at h;subst h;exact hg
  ·exact ih v hv
def Mc{l:List Rat}:(gG l).length=l.length+1:=by
 have key: ∀(l:List Rat) (a:Rat),(i8 (a::l)).length=l.length:=by
  intro l
  induction l with
  |nil=>intro a;rfl
  |cons b t ih=>intro a;rw[i8,bW,ih b,bW]
 cases l with
 |nil=>rfl
 |cons a t=>rw[gG,bW,aS,key];simp
def ZL{op:Int}{a b:List aj}: ∀v∈i5 op a b,E6 (gF (a++b)) v:=fun v hv=>by
 unfold i5 lD at hv;refine On ?_ v hv;rw[aJ,Mc];omega
structure ph (f:aO):Prop where
 lb:LB f.l
 ok:f.l.ok
 z:ik f.v
 lo:BQ f.v.lo 1200
 hi:BQ f.v.hi 1200
theorem BQ.zero1200:BQ (0:Rat) 1200:=BQ.mono (k:=1) ⟨by decide,by decide⟩ (by decide)
def SO{l m:aa}(hl:LB l)(hm:LB m)(hlo:l.ok){side:Int}: ∀v∈vd l m side,ik v/\BQ v.lo 1200/\BQ v.hi 1200:=fun v hv=>by
 unfold vd at hv;split at hv
 ·split at hv
  ·rw[aW] at hv;subst hv;exact⟨ik.all,BQ.zero1200,BQ.zero1200⟩
  ·cases hv
 ·rename_i hc
  have:=Eq hlo.ne hc;split at hv
  ·rw[aW] at hv;subst hv;exact⟨⟨fun h=>(by cases h),fun _=>J⟩,this,BQ.zero1200⟩
  ·rw[aW] at hv;subst hv;exact⟨⟨fun _=>J,fun h=>(by cases h)⟩,BQ.zero1200,this⟩
def CU{f:aO}{m:aa}(h:ph f)(hm:LB m){side:Int}: ∀g∈jz f m side,ph g/\g.l=f.l/\uS f.l m=false:=fun g hg=>by
 unfold jz at hg;split at hg
 ·cases hg
 ·rename_i ho
  obtain⟨v,hv,rfl⟩:=bJ.1 hg;have hi:=ZL v hv;have bd: ∀y∈gF ([f.v]++vd f.l m side),BQ y 1200:=fun y hy=>by
   obtain⟨s,hs,h1⟩:=(Q8 _).2 y hy;rcases bV.1 hs with hs|hs
   ·rw[aW] at hs;subst hs
    rcases h1 with⟨_,rfl⟩|⟨_,rfl⟩
    ·exact h.lo
    ·exact h.hi
   ·have:=SO h.lb hm h.ok s hs
    rcases h1 with⟨_,rfl⟩|⟨_,rfl⟩
    ·exact this.2.1
    ·exact this.2.2
  refine⟨⟨h.lb,h.ok,hi.z,?_,?_⟩,J,by simpa using ho⟩
  ·rcases hi.lo with e|e
   ·rw[hi.z.1 e];exact BQ.zero1200
   ·exact bd _ e
  ·rcases hi.hi with e|e
   ·rw[hi.z.2 e];exact BQ.zero1200
   ·exact bd _ e
def kj(acc:ab->Bool):Nat->List aO->List aa->Tr
 |_,[],c=> .leaf (acc (kr c c))
 |0,_::_,_=> .leaf false
 |n+1,f::t,c=> .node f.l (kj acc n ((f::t).flatMap fun g=>jz g f.l 1) (c++[f.l])) (kj acc n ((f::t).flatMap fun g=>jz g f.l (-1)) (c++[f.l.rev]))
def Sw{f g:aO}{m:aa}{side:Int}(h:g∈jz f m side):g.l=f.l:=by
 unfold jz at h;split at h
 ·cases h
 ·obtain⟨v,_,rfl⟩:=bJ.1 h;rfl
def rP{acc:ab->Bool}{P:aa->Prop}: ∀{n:Nat} {l:List aO} {c:List aa},(∀f∈l,P f.l)->(kj acc n l c).all P
 |n,[],c,_=>by unfold kj;trivial
 |0,_::_,_,_=>by unfold kj;trivial
 |n+1,f::t,c,h=>by
  rw[kj];refine⟨h f aQ,rP fun g hg=>?_,rP fun g hg=>?_⟩<;>
  ·obtain⟨q,hq,hg⟩:=gM.1 hg
   rw[Sw hg];exact h q hq
def C8{acc:ab->Bool}: ∀{n:Nat} {l:List aO} {c:List aa},(kj acc n l c).depth<=n
 |n,[],c=>by unfold kj;exact bU _
 |0,_::_,_=>by unfold kj;exact bU _
 |n+1,f::t,c=>by
  rw[kj,Tr.depth];have h1:=C8 (acc:=acc) (n:=n) (l:=(f::t).flatMap fun g=>jz g f.l 1) (c:=c++[f.l]);have h2:=C8 (acc:=acc) (n:=n) (l:=(f::t).flatMap fun g=>jz g f.l (-1)) (c:=c++[f.l.rev]);omega
def mO(n:Nat)(l:List aO):Prop:= ∃K:List aa,K.length<=n/\ ∀f∈l,∃m∈K,m.same f.l
def amB{m:aa}(hm:m.Ne):m.value m.base=0:=by
 have h:=nH hm 0;rw[<-sr,iw] at h;grind
def axy{l m:aa}(h:l.same m)(hm:m.Ne):uS m l=true:=by
 unfold uS;rw[decide_eq_true_iff];refine⟨?_,?_⟩
 ·rcases h with rfl|rfl
  ·unfold crossI;omega
  ·unfold crossI aa.rev
   show(-l.a)*l.b-l.a*(-l.b)=0;grind
 ·rw[jj]
  exact qn h.symm (amB hm)
def mO.split{n:Nat}{f:aO}{t:List aO}(h:mO (n+1) (f::t))(hok: ∀g∈f::t,ph g){side:Int}:mO n ((f::t).flatMap fun g=>jz g f.l side):=by
 obtain⟨K,hK,hs⟩:=h;refine⟨K.filter fun m=>!decide (m.same f.l),?_,fun g hg=>?_⟩
 ·obtain⟨m,hm,hm2⟩:=hs f aQ
  have:(K.filter fun m=>!decide (m.same f.l)).length<K.length:=by
   refine pJ.2 ⟨m,hm,by simp[hm2]⟩
  omega
 ·obtain⟨q,hq,hg⟩:=gM.1 hg
  obtain⟨_,e,ho⟩:=CU (hok q hq) (hok f aQ).lb g hg;obtain⟨m,hm,hm2⟩:=hs q hq;refine⟨m,kS.2 ⟨hm,?_⟩,by rw[e];exact hm2⟩;simp only[iJ,decide_eq_false_iff_not];intro h;have:=axy (h.symm.trans hm2) (hok q hq).ok.ne;rw[this] at ho;cases ho
end Go.Sx
end
