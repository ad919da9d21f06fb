import Derived.Test.YtidmgdlbilojcaaGreatDoorMb12
import Derived.WalkKit
import Derived.LaidEql
import Derived.Stop.Asserts
import Derived.RowKitTokens
set_option linter.all false
set_option maxHeartbeats 2000000
set_option maxRecDepth 100000
section
namespace Go.Sx
open Go Go.Proofs Tryz
variable {GB:Gh}
def cU:Tr->List DV
 | .leaf b=>[vI 0,vI 0, .v (.pointer none),vI 0,vI 0, .v (.pointer none),vI 0,vI 0, .v (.pointer none), .v (.pointer none), .v (.pointer none), .v (.bool b)]
 | .node l x y=>[vI (ce (l.a:Rat)),vI (b9 (l.a:Rat)),cg (l.a:Rat),vI (ce (l.b:Rat)),vI (b9 (l.b:Rat)),cg (l.b:Rat),vI (ce (l.c:Rat)),vI (b9 (l.c:Rat)),cg (l.c:Rat), .pt (cU x), .pt (cU y), .v (.bool false)]
def eU(t:Tr):DV:= .pt (cU t)
def AC{b:Bool}:PF GB prog 181 [.v (.bool b)] (eU (.leaf b)):=by
 refine fn func181 J J ntmps181 J J (fun C=>?_);refine iE 5 J ?_;exact rz J J
def YA{l:aa}{x y:Tr}:PF GB prog 182 [gi l,eU x,eU y] (eU (.node l x y)):=by
 refine fn func182 J J ntmps182 J J (fun C=>?_);refine iE 11 J ?_;exact rz J J
def Dn{b:Bool}:PF GB prog 130 [eU (.leaf b)] (.v (.bool true)):=by
 refine fn func130 J J ntmps130 J J (fun C=>?_);exact rz J J
def Ai{l:aa}{x y:Tr}:PF GB prog 130 [eU (.node l x y)] (.v (.bool false)):=by
 refine fn func130 J J ntmps130 J J (fun C=>?_);exact rz J J
def WG{b:Bool}:PF GB prog 102 [eU (.leaf b)] (vI (Tr.depth (.leaf b):Nat)):=by
 refine fn func102 J J ntmps102 J J (fun C=>?_);refine cl (fu:=⟨0⟩) J Dn J<|?_;refine tO 4 J ?_;refine gx J<|?_;exact rz J J
def aoT{l:aa}{x y:Tr}(hd:(Tr.node l x y).depth<=1000000)(ihx:PF GB prog 102 [eU x] (vI (Tr.depth x:Nat)))(ihy:PF GB prog 102 [eU y] (vI (Tr.depth y:Nat))):PF GB prog 102 [eU (.node l x y)] (vI (Tr.depth (.node l x y):Nat)):=by
 have hdp:(Tr.node l x y).depth=1+max x.depth y.depth:=J;have hdx:=sM x.depth y.depth;have hdy:=sJ x.depth y.depth;refine fn func102 J J ntmps102 J J (fun C=>?_);refine cl (fu:=⟨0⟩) J Ai J<|?_;refine wn 4 J ?_;refine gx J<|cl J ihx J<|cl (hv:=by simp only[ac];exact⟨by omega,by kernel_rfl⟩) J ihy J<|?_;exact rz J (by show DV.v (.int _ _)= .v (.int _ _);congr 2;split<;>omega)
def Kx: ∀{t:Tr},t.depth<=1000000->PF GB prog 102 [eU t] (vI (Tr.depth t:Nat))
 | .leaf _,_=>WG
 | .node l x y,h=>aoT h (Kx (by have:=sM x.depth y.depth;have:(Tr.node l x y).depth=1+max x.depth y.depth:=J;omega)) (Kx (by have:=sJ x.depth y.depth;have:(Tr.node l x y).depth=1+max x.depth y.depth:=J;omega))
def Tr.compl:Tr->Tr
 | .leaf b=> .leaf !b
 | .node l x y=> .node l x.compl y.compl
def Tr.chooseQ(op:Int)(b:Bool)(t:Tr)(c:aw):Tr:=
 if op=1\/op=2 then(if b=decide (op=1) then .leaf b else t.restrict c)
 else if op=3/\b=false then .leaf false
 else if b then(t.restrict c).compl else t.restrict c
def Tr.mergeQ(op:Int):Tr->Tr->aw->Tr
 | .leaf b,u,c=>u.chooseQ op b c
 | .node l x y,u,c=>if !dh c l.rev then x.mergeQ op u c else if !dh c l then y.mergeQ op u c else joinQ l (x.mergeQ op u (cj c l)) (y.mergeQ op u (cj c l.rev))
def X9:DV:= .ag [vI 0,vI 0, .v (.pointer none),vI 0,vI 0, .v (.pointer none),vI 0,vI 0, .v (.pointer none)]
def uE:Option aa->DV
 |some l=> .tp [gi l,vB true]
 |none=> .tp [X9,vB false]
def Pp{l:aa}(h: ¬l.ok)(hz: ¬(l.a=0/\l.b=0)):decide (rgcd (rgcd (l.a:Rat) (l.b:Rat)) (l.c:Rat)=((1:Int):Rat))=false:=by
 rw[CG,CG];refine decide_eq_false fun e=>h ⟨hz,?_⟩;simp only[iL] at e;have:=nN.1 e;omega
def Uy{l:aa}[hl:LB l](ha:l.a=0)(hb:l.b=0):PF GB prog 167 [eL l] (uE none):=by
 refine fn func167 J J ntmps167 J J (fun C=>?_);refine cl (fu:=⟨0⟩) J (s9 (m:=l.a)) J<|cG J J J<|cl (fu:=⟨0⟩) J (s9 (m:=l.b)) J<|cG J J J<|cl (fu:=⟨0⟩) J (s9 (m:=l.c)) J<|?_;refine cG J J J<|cl J (tF (m:=l.a)) J<|cl J (tF (m:=l.b)) J<|cl J (tF (m:=l.c)) J<|cl (fu:=⟨0⟩) J (wV (q:=(l.a:Rat))) J<|?_;refine cB J (by show some (decide _)=some true;rw[ha];rfl) J<|cl (fu:=⟨0⟩) J (wV (q:=(l.b:Rat))) J<|cB J (by show some (decide _)=some true;rw[hb];rfl) J<|?_;exact rz J J
def Ve{l:aa}[hl:LB l](hz: ¬(l.a=0/\l.b=0))(ho: ¬l.ok):PF GB prog 167 [eL l] (uE none):=by
 refine fn func167 J J ntmps167 J J (fun C=>?_);refine cl (fu:=⟨0⟩) J (s9 (m:=l.a)) J<|cG J J J<|cl (fu:=⟨0⟩) J (s9 (m:=l.b)) J<|cG J J J<|cl (fu:=⟨0⟩) J (s9 (m:=l.c)) J<|?_;refine cG J J J<|cl J (tF (m:=l.a)) J<|cl J (tF (m:=l.b)) J<|cl J (tF (m:=l.c)) J<|cl (fu:=⟨0⟩) J (wV (q:=(l.a:Rat))) J<|?_;refine ml (fu2:=⟨4⟩) J J J J (fun hg35=>?_) (fun hg35=>?_)
 .
  have ha:l.a=0:=dV.1 hg35;refine cl (fu:=⟨1⟩) J (wV (q:=(l.b:Rat))) J<|cG J (by first|rfl|(show some (decide _)=some false;rw[decide_eq_false (fun e=>hz ⟨ha,dV.1 e⟩)])) J<|?_;refine cl J (tj (p:=(l.a:Rat)) (q:=(l.b:Rat))) J<|cl J (tj (p:=rgcd l.a l.b) (q:=(l.c:Rat))) J<|cl J (qa (m:=1) (by decide)) J<|?_;refine cl (fu:=⟨0⟩) J (C5 (p:=rgcd (rgcd l.a l.b) l.c) (q:=((1:Int):Rat))) J<|cB J (by show some (!decide _)=some true;rw[Pp ho hz];rfl) J<|?_;exact rz J J
 .
  refine cG J (by first|rfl|(show some (decide _)=some false;rw[decide_eq_false (fun e=>hz ⟨ha,dV.1 e⟩)])) J<|cl J (tj (p:=(l.a:Rat)) (q:=(l.b:Rat))) J<|?_;refine cl J (tj (p:=rgcd l.a l.b) (q:=(l.c:Rat))) J<|cl J (qa (m:=1) (by decide)) J<|cl (fu:=⟨0⟩) J (C5 (p:=rgcd (rgcd l.a l.b) l.c) (q:=((1:Int):Rat))) J<|?_;refine cB J (by show some (!decide _)=some true;rw[Pp ho hz];rfl) J<|?_;exact rz J J
def aC4{l:aa}[hl:LB l][Decidable l.ok]:PF GB prog 167 [eL l] (uE (if l.ok then some l else none)):=by
 split
 ·rename_i h;exact aDH h
 ·rename_i h
  by_cases hz:l.a=0/\l.b=0
  ·exact Uy hz.1 hz.2
  ·exact Ve hz h
def lI(n:Bool)(ds:List Nat):Prop:=eh ds/\(n=true->0<ds.length)
instance (n:Bool) (ds:List Nat):Decidable (lI n ds):=inferInstanceAs (Decidable (_/\_))
def y8{neg:Bool}{ds:List Nat}(h:bi ds/\ds.length<=3):PF GB prog 221 [.ag [.v (.bool neg),fp ds]] (vB (decide (lI neg ds))):=Pe h.1 (by have:=h.2;omega)
structure RL where
 na:Bool
 da:List Nat
 nb:Bool
 db:List Nat
 nc:Bool
 dc:List Nat
def RL.d(r:RL):DV:= .ag [.v (.bool r.na),fp r.da, .v (.bool r.nb),fp r.db, .v (.bool r.nc),fp r.dc]
def o4(n:Bool)(ds:List Nat):Int:=if n then-(dv ds:Int) else dv ds
def RL.l(r:RL):aa:=⟨o4 r.na r.da,o4 r.nb r.db,o4 r.nc r.dc⟩
def RL.nm(r:RL):Prop:=lI r.na r.da/\lI r.nb r.db/\lI r.nc r.dc
instance (l:aa):Decidable l.ok:=inferInstanceAs (Decidable (_/\_))
instance (r:RL):Decidable r.nm:=inferInstanceAs (Decidable (_/\_/\_))
def RL.ln(r:RL):Option aa:=if r.nm/\r.l.ok then some r.l else none
structure RL.sm (r:RL):Prop where
 a:bi r.da/\r.da.length<=3
 b:bi r.db/\r.db.length<=3
 c:bi r.dc/\r.dc.length<=3
def Ma(n:Bool)(ds:List Nat):(o4 n ds).natAbs=dv ds:=by unfold o4;cases n<;>simp
def Kg{n:Bool}{ds:List Nat}(hd:bi ds)(h:lI n ds):decide (o4 n ds<0)=n:=by
 unfold o4
 cases n with
 |false=>simp
 |true=>
  have h0:0<dv ds:=by
   refine iS fun e=>?_;have:=z8 hd h.1;rw[e,zb] at this;have h2:=h.2 J;rw[<-this] at h2;exact absurd h2 (by decide)
  simp only[if_true,decide_eq_true_eq];omega
def RL.eL{r:RL}(s:r.sm)(h:r.nm):r.d=Go.Sx.eL r.l:=by
 unfold RL.d Go.Sx.eL RL.l;simp only[Ma,Kg s.a.1 h.1,Kg s.b.1 h.2.1,Kg s.c.1 h.2.2,dN,z8 s.a.1 h.1.1,z8 s.b.1 h.2.1.1,z8 s.c.1 h.2.2.1];rfl
theorem RL.lb{r:RL}(s:r.sm):LB r.l:=by
 have key: ∀(n:Bool) (ds:List Nat),bi ds/\ds.length<=3->(o4 n ds).natAbs<2^96:=fun n ds h=>by
  rw[Ma];refine dW (jB h.1) ?_;rw[show(2:Nat)^96=4294967296^3 by decide];exact bY (by decide) h.2
 exact⟨key _ _ s.a,key _ _ s.b,key _ _ s.c⟩
def Z4{r:RL}(s:r.sm)(h: ¬lI r.na r.da):PF GB prog 167 [r.d] (uE none):=by
 refine fn func167 J J ntmps167 J J (fun C=>?_);refine cl (fu:=⟨0⟩) J (y8 (neg:=r.na) (ds:=r.da) s.a) J<|cB J (by show some (!decide _)=some true;rw[decide_eq_false h];rfl) J<|?_;exact rz J J
def Vq{r:RL}(s:r.sm)(h1:lI r.na r.da)(h: ¬lI r.nb r.db):PF GB prog 167 [r.d] (uE none):=by
 refine fn func167 J J ntmps167 J J (fun C=>?_);refine cl (fu:=⟨0⟩) J (y8 (neg:=r.na) (ds:=r.da) s.a) J<|cG J (by show some (!decide _)=some false;rw[decide_eq_true h1];rfl) J<|cl (fu:=⟨0⟩) J (y8 (neg:=r.nb) (ds:=r.db) s.b) J<|?_;refine cB J (by show some (!decide _)=some true;rw[decide_eq_false h];rfl) J<|?_;exact rz J J
def XH{r:RL}(s:r.sm)(h1:lI r.na r.da)(h2:lI r.nb r.db)(h: ¬lI r.nc r.dc):PF GB prog 167 [r.d] (uE none):=by
 refine fn func167 J J ntmps167 J J (fun C=>?_);refine cl (fu:=⟨0⟩) J (y8 (neg:=r.na) (ds:=r.da) s.a) J<|cG J (by show some (!decide _)=some false;rw[decide_eq_true h1];rfl) J<|cl (fu:=⟨0⟩) J (y8 (neg:=r.nb) (ds:=r.db) s.b) J<|?_;refine cG J (by show some (!decide _)=some false;rw[decide_eq_true h2];rfl) J<|cl (fu:=⟨0⟩) J (y8 (neg:=r.nc) (ds:=r.dc) s.c) J<|cB J (by show some (!decide _)=some true;rw[decide_eq_false h];rfl) J<|?_;exact rz J J
def Mc{r:RL}(s:r.sm):PF GB prog 167 [r.d] (uE r.ln):=by
 by_cases h1:lI r.na r.da
 ·by_cases h2:lI r.nb r.db
  ·by_cases h3:lI r.nc r.dc
   ·haveI:=RL.lb s
    rw[RL.eL s ⟨h1,h2,h3⟩,show r.ln=if r.l.ok then some r.l else none by unfold RL.ln;simp[show r.nm from⟨h1,h2,h3⟩]];exact aC4
   ·rw[show r.ln=none from if_neg fun e=>h3 e.1.2.2]
    exact XH s h1 h2 h3
  ·rw[show r.ln=none from if_neg fun e=>h2 e.1.2.1]
   exact Vq s h1 h2
 ·rw[show r.ln=none from if_neg fun e=>h1 e.1.1]
  exact Z4 s h1
def l6(n:Nat)(f:Nat->Bool):List Value:=(List.range n).map fun j=> .bool (f j)
def li(f:Nat->Bool)(i:Nat):Nat->Bool:=fun j=>f j||Nat.beq j i
def F6(n:Nat)(f:Nat->Bool):(l6 n f).length=n:=by simp[l6]
def DB{n i:Nat}{f:Nat->Bool}{b:Bool}(h:i<n)(hf:f i=b):(l6 n f)[i]? =some (.bool b):=by simp[l6,h,hf]
def B7{f:Nat->Bool}{i j:Nat}(e:j≠i):li f i j=f j:=by
 unfold li
 cases hb:Nat.beq j i with
 |false=>rw[Bool.or_false]
 |true=>exact absurd (aR hb) e
def Pu{f:Nat->Bool}{i:Nat}:li f i i=true:=by
 unfold li;rw[oJ,Bool.or_true]
def O7(n i:Nat)(f:Nat->Bool):(l6 n f).set i (.bool true)=l6 n (li f i):=by
 apply jW;intro j;rw[mW];simp only[l6,aK,rR,cV];by_cases hj:j<n
 ·rw[oR hj]
  simp only[jR];by_cases e:i=j
  ·subst e;simp[hj,Pu]
  ·rw[B7 (fun h=>e h.symm)];simp[e]
 ·rw[cM (by simpa using hj)]
  by_cases e:i=j
  ·subst e;simp[hj]
  ·simp[e]
def Y9(n:Nat):dm (.bool false) n=l6 n (fun _=>false):=by
 apply jW;intro j;by_cases hj:j<n
 ·rw[DB hj J]
  unfold dm;rw[Hx (aD (.bool false)) n j (by simpa[aD] using hj)];simp[aD,Nat.mod_one]
 ·rw[cM (by rw[pD];simp[aD];omega),cM (by rw[F6];omega)]
structure RN where
 g:RL
 l:Int
 r:Int
def RN.d(n:RN):DV:= .ag [.v (.bool n.g.na),fp n.g.da, .v (.bool n.g.nb),fp n.g.db, .v (.bool n.g.nc),fp n.g.dc, .v (.int .i64 n.l), .v (.int .i64 n.r)]
structure RS where
 f:Nat->Bool
 c:Nat
 b:Bool
inductive RR (ns:List RN):Int->RS->Tr->RS->Prop where
 |leaf (b:Bool) (s:RS):RR ns (rA b) s (.leaf b) s
 |bad (rt:Int) (s:RS) (h1:rt≠ -1) (h2:rt≠ -2) (h:rt<0\/(ns.length:Int)<=rt\/(∃k:Nat,rt=k/\k<ns.length/\s.f k=true)):RR ns rt s (.leaf false) ⟨s.f,s.c,true⟩
 |line (k:Nat) (n:RN) (s:RS) (h:ns[k]? =some n) (hf:s.f k=false) (hl:n.g.ln=none):RR ns (k:Int) s (.leaf false) ⟨li s.f k,s.c+1,true⟩
 |node (k:Nat) (n:RN) (l:aa) (s s2 s3:RS) (x y:Tr) (h:ns[k]? =some n) (hf:s.f k=false) (hl:n.g.ln=some l) (h1:RR ns n.l ⟨li s.f k,s.c+1,s.b⟩ x s2) (h2:RR ns n.r s2 y s3):RR ns (k:Int) s (.node l x y) s3
def RR.mono{ns:List RN}{rt:Int}{s s':RS}{t:Tr}(h:RR ns rt s t s'):s.c<=s'.c:=by
 induction h with
 |leaf=>exact aN _
 |bad=>exact aN _
 |line=>exact Nat.le_succ _
 |node k n l s s2 s3 x y h hf hl h1 h2 i1 i2=>simp only at i1;omega
def Gl{G:Gh}{q:Rat}{v:Value}(h:Is G (cg q) v): ∃p,v= .pointer p:=by
 rcases wk.1 h with⟨_,h⟩|⟨_,h⟩
 ·exact⟨_,h⟩
 ·obtain⟨b,m,h,_⟩:=so.1 h;exact⟨_,h⟩
def ZC{G:Gh}{l:aa}{v:Value}(h:Is G (gi l) v): ∃n1 d1 p1 n2 d2 p2 n3 d3 p3,v= .agg ⟨[.int .i64 n1, .int .i64 d1, .pointer p1, .int .i64 n2, .int .i64 d2, .pointer p2, .int .i64 n3, .int .i64 d3, .pointer p3]⟩:=by
 obtain⟨m,rfl,g⟩:=d6.1 h;clear h;obtain⟨v1,m,rfl,h1,h⟩:=bh.1 g;obtain⟨v2,m,rfl,h2,h⟩:=bh.1 h;obtain⟨v3,m,rfl,h3,h⟩:=bh.1 h;obtain⟨v4,m,rfl,h4,h⟩:=bh.1 h;obtain⟨v5,m,rfl,h5,h⟩:=bh.1 h;obtain⟨v6,m,rfl,h6,h⟩:=bh.1 h;obtain⟨v7,m,rfl,h7,h⟩:=bh.1 h;obtain⟨v8,m,rfl,h8,h⟩:=bh.1 h;obtain⟨v9,m,rfl,h9,h⟩:=bh.1 h;rw[eG] at h;subst h;obtain⟨_,rfl⟩:=Gl h3;obtain⟨_,rfl⟩:=Gl h6;obtain⟨_,rfl⟩:=Gl h9;rw[aI.1 h1,aI.1 h2,aI.1 h4,aI.1 h5,aI.1 h7,aI.1 h8];exact⟨_,_,_,_,_,_,_,_,_,J⟩
def Rd{G:Gh}{o:Option aa}{v:Value}(h:Is G (uE o) v): ∃n1 d1 p1 n2 d2 p2 n3 d3 p3,v= .tuple #[.agg ⟨[.int .i64 n1, .int .i64 d1, .pointer p1, .int .i64 n2, .int .i64 d2, .pointer p2, .int .i64 n3, .int .i64 d3, .pointer p3]⟩, .bool o.isSome]/\
  ∀l,o=some l->Is G (gi l) (.agg ⟨[.int .i64 n1, .int .i64 d1, .pointer p1, .int .i64 n2, .int .i64 d2, .pointer p2, .int .i64 n3, .int .i64 d3, .pointer p3]⟩):=by
 cases o with
 |some l=>
  obtain⟨m,rfl,g⟩:=iH.1 h;obtain⟨v1,m,rfl,h1,h⟩:=bh.1 g;obtain⟨v2,m,rfl,h2,h⟩:=bh.1 h;rw[eG] at h;subst h;obtain⟨n1,d1,p1,n2,d2,p2,n3,d3,p3,rfl⟩:=ZC h1;rw[aI.1 h2];exact⟨n1,d1,p1,n2,d2,p2,n3,d3,p3,J,fun k e=>by cases e;exact h1⟩
 |none=>
  obtain⟨m,rfl,g⟩:=iH.1 h;obtain⟨v1,m,rfl,h1,h⟩:=bh.1 g;obtain⟨v2,m,rfl,h2,h⟩:=bh.1 h;rw[eG] at h;subst h;clear g h;obtain⟨m,rfl,g⟩:=d6.1 h1;obtain⟨w1,m,rfl,k1,h⟩:=bh.1 g;obtain⟨w2,m,rfl,k2,h⟩:=bh.1 h;obtain⟨w3,m,rfl,k3,h⟩:=bh.1 h;obtain⟨w4,m,rfl,k4,h⟩:=bh.1 h;obtain⟨w5,m,rfl,k5,h⟩:=bh.1 h;obtain⟨w6,m,rfl,k6,h⟩:=bh.1 h;obtain⟨w7,m,rfl,k7,h⟩:=bh.1 h;obtain⟨w8,m,rfl,k8,h⟩:=bh.1 h;obtain⟨w9,m,rfl,k9,h⟩:=bh.1 h;rw[eG] at h;subst h;rw[aI.1 k1,aI.1 k2,aI.1 k3,aI.1 k4,aI.1 k5,aI.1 k6,aI.1 k7,aI.1 k8,aI.1 k9];rw[aI.1 h2];exact⟨_,_,_,_,_,_,_,_,_,J,fun k e=>by cases e⟩
def P'{G:Gh}{n:RN}{v:Value}(h:Is G n.d v): ∃x1 x2 x3:SV,v= .agg ⟨[.bool n.g.na, .slice x1.a x1.n x1.c, .bool n.g.nb, .slice x2.a x2.n x2.c, .bool n.g.nc, .slice x3.a x3.n x3.c, .int .i64 n.l, .int .i64 n.r]⟩/\
  Is G n.g.d (.agg ⟨[.bool n.g.na, .slice x1.a x1.n x1.c, .bool n.g.nb, .slice x2.a x2.n x2.c, .bool n.g.nc, .slice x3.a x3.n x3.c]⟩):=by
 obtain⟨m,rfl,g⟩:=d6.1 h;clear h;obtain⟨v1,m,rfl,h1,h⟩:=bh.1 g;obtain⟨v2,m,rfl,h2,h⟩:=bh.1 h;obtain⟨v3,m,rfl,h3,h⟩:=bh.1 h;obtain⟨v4,m,rfl,h4,h⟩:=bh.1 h;obtain⟨v5,m,rfl,h5,h⟩:=bh.1 h;obtain⟨v6,m,rfl,h6,h⟩:=bh.1 h;obtain⟨v7,m,rfl,h7,h⟩:=bh.1 h;obtain⟨v8,m,rfl,h8,h⟩:=bh.1 h;rw[eG] at h;subst h;obtain⟨_,x1,_,rfl,_,_⟩:=iB.1 (id h2);obtain⟨_,x2,_,rfl,_,_⟩:=iB.1 (id h4);obtain⟨_,x3,_,rfl,_,_⟩:=iB.1 (id h6)
 cases aI.1 h1;cases aI.1 h3;cases aI.1 h5;cases aI.1 h7;cases aI.1 h8
 exact⟨x1,x2,x3,J,d6.2 ⟨_,J, .cons h1 (.cons h2 (.cons h3 (.cons h4 (.cons h5 (.cons h6 .nil)))))⟩⟩
def xq{G:Gh}{t:Tr}{v:Value}(h:Is G (eU t) v): ∃p,v= .pointer p:=by
 obtain⟨b,m,h,_⟩:=so.1 h;exact⟨_,h⟩
def PF.fn0{P:Program}{f:FuncId}{ds:List DV}{r:DV}(h: ∀{GB:Gh},PF GB P f ds r){G:Gh}{vs:List Value}(hv:IsLs G ds vs):Fn P f vs G (fun v G'=>Is G' r v):=h (GB:=G) G vs (bp.refl G) hv
abbrev P2 (x:SV) (ns:List RN) (A:Gh):Prop:= ∃es,eH A 8 x es/\IsLs A (ns.map RN.d) es
def aAI{A:Gh}{ns:List RN}{x:SV}(hx:P2 x ns A)(hs: ∀n∈ns,n.g.sm)(hn:ns.length<=1000000){rt:Int}{s s':RS}{t:Tr}(h:RR ns rt s t s'): ∀{G:Gh} {rb sb:Nat} {lo lo2:Bool},[GL A G]->s'.c<=1000000->
  jO prog 127 [.pointer (some ⟨rb,0,none⟩), .int .i64 rt] [⟨rb,[.slice x.a x.n x.c, .slice (some ⟨sb,0,none⟩) ns.length ns.length, .int .i64 s.c, .bool s.b],235,lo⟩,⟨sb,l6 ns.length s.f,4,lo2⟩] G
   (fun v css G'=> ∃p,v= .pointer p/\Is G' (eU t) (.pointer p)/\css=[[.slice x.a x.n x.c, .slice (some ⟨sb,0,none⟩) ns.length ns.length, .int .i64 s'.c, .bool s'.b],l6 ns.length s'.f]):=by
 obtain⟨es,hx,hes⟩:=hx;have hel:=hes.len;rw[aK] at hel;have hlen:=hx.len;rw[hel] at hlen;obtain⟨xa,xn,xc⟩:=x;simp only[] at hlen;subst hlen
 induction h with
 |leaf bb s=>
  intro G rb sb lo lo2 _ hc;refine jO.intro func127 J J ntmps127 J ?_;intro C _ _;show St C _ _ [⟨rb,_,_,false⟩,⟨sb,_,_,false⟩] _ _
  cases bb
  case true=>
   refine sR<|sa J J<|zE<|bu<|d7<|sR<|sm J J<|sy (iD J J) J<|sm J J<|ss J J J J<|ss J J J J<|?_;refine sy (rP J J) J<|sa J J<|zE<|r9 J<|sR<|sm J J<|sy (iD J J) J<|?_;refine sc (zC J J (PF.fn0 (AC (b:=true)) (.cons (aI.2 J) .nil)) J ?_);rintro _ G1 _ hp;obtain⟨p,rfl⟩:=xq hp;refine sa J J<|zE<|dq<|?_;exact r5 (css:=[_,_]) (.tmp J .nil) J _ (List.Perm.refl _) (List.Sublist.refl _) ⟨p,J,hp,J⟩
  refine sR<|sa J J<|zE<|bu<|d7<|sR<|sm J J<|sy (iD J J) J<|sm J J<|bB J J (fG J) J<|bB J J (iD J J) J<|?_;refine sy (mc J J) J<|sa J J<|zE<|r9 J<|sR<|sm J J<|sy (iD J J) J<|?_;refine sc (zC J J (PF.fn0 (AC (b:=false)) (.cons (aI.2 J) .nil)) J ?_);rintro _ G1 _ hp;obtain⟨p,rfl⟩:=xq hp;refine sa J J<|zE<|dq<|?_;exact r5 (css:=[_,_]) (.tmp J .nil) J _ (List.Perm.refl _) (List.Sublist.refl _) ⟨p,J,hp,J⟩
 |bad rt s h1 h2 h=>
  intro G rb sb lo lo2 _ hc;refine jO.intro func127 J J ntmps127 J ?_;intro C _ _;show St C _ [(0, .pointer (some ⟨rb,0,none⟩)),(1, .int .i64 rt)] [⟨rb,[.slice xa ns.length xc, .slice (some ⟨sb,0,none⟩) ns.length ns.length, .int .i64 s.c, .bool s.b],_,false⟩,⟨sb,l6 ns.length s.f,_,false⟩] _ _;refine sR<|sa J J<|zE<|bu<|d7<|sR<|sm J J<|sy (iD J J) J<|sm J J<|?_;refine oP 12 J (fun hg=>absurd hg (by omega)) (fun hg=>?_);refine bB J J (fG J) J<|bB J J (iD J J) J<|sy (mc J J) J<|sa J J<|zE<|?_;refine f8 J (fun hc=>absurd hc (by omega)) (fun _=>?_);refine sR<|sm J J<|sy (jk J J) J<|sm J J<|?_;refine oP 22 J (fun hg=>?_) (fun hg=>?_)
  ·refine ss J J J J<|ss J J J J<|ss J J J J<|ss J J J J<|ss J J J J<|ss J J J J<|ss J J J J<|sy (rP J J) J<|sm J J<|ss J J J J<|ss J J J J<|?_
   refine ss J J J J<|ss J J J J<|ss J J J J<|ss J J J J<|ss J J J J<|sy (rP J J) J<|sa J J<|zE<|r9 J<|bu<|?_;refine dO<|sm J J<|sn J J<|sf J J<|?_;refine sc (AH J J J (.hd ..) (nb J) J J ?_);refine zE<|sR<|?_;refine sc (zC J J (PF.fn0 (AC (b:=false)) (.cons (aI.2 J) .nil)) J ?_);rintro _ G1 _ hp;obtain⟨p,rfl⟩:=xq hp;refine sa J J<|zE<|dq<|?_;exact r5 (css:=[_,_]) (.tmp J .nil) J _ (List.Perm.refl _) (List.Sublist.refl _) ⟨p,J,hp,J⟩
  refine bB J J (fG J) J<|bB J J (fG J) J<|bB J J (n5 J) J<|bB J J (o5 J) J<|bB J J (mr J J) J<|bB J J (oE J) J<|bB J J (uU J J) J<|sy (mc J J) J<|sm J J<|?_;refine oP 31 J (fun hg=>?_) (fun hg=>?_)
  ·refine ss J J J J<|ss J J J J<|ss J J J J<|ss J J J J<|ss J J J J<|ss J J J J<|ss J J J J<|?_
   refine sy (rP J J) J<|sa J J<|zE<|r9 J<|sR<|sm J J<|sn J J<|sf J J<|?_;refine sc (AH J J J (.hd ..) (nb J) J J ?_);refine zE<|sR<|?_;refine sc (zC J J (PF.fn0 (AC (b:=false)) (.cons (aI.2 J) .nil)) J ?_);rintro _ G1 _ hp;obtain⟨p,rfl⟩:=xq hp;refine sa J J<|zE<|dq<|?_;exact r5 (css:=[_,_]) (.tmp J .nil) J _ (List.Perm.refl _) (List.Sublist.refl _) ⟨p,J,hp,J⟩
  obtain⟨k,rfl,hk,hf⟩: ∃k:Nat,rt=k/\k<ns.length/\s.f k=true:=by
   rcases h with h|h|h
   ·omega
   ·exact absurd h hg
   ·exact h
  refine bB J J (fG J) J<|bB J J (n5 J) J<|bB J J (o5 J) J<|bB J J (mr J J) J<|bB J J (fG J) J<|bB J J (f5 J J (by omega) (by omega)) J<|?_;refine bB J J (mr (v:= .bool true) J (by rw[bJ,iY];exact DB hk hf)) J<|sy (mc J J) J<|sa J J<|zE<|r9 J<|?_;refine sR<|sm J J<|sn J J<|sf J J<|?_;refine sc (AH J J J (.hd ..) (nb J) J J ?_);refine zE<|sR<|?_;refine sc (zC J J (PF.fn0 (AC (b:=false)) (.cons (aI.2 J) .nil)) J ?_);rintro _ G1 _ hp;obtain⟨p,rfl⟩:=xq hp;refine sa J J<|zE<|dq<|?_;exact r5 (css:=[_,_]) (.tmp J .nil) J _ (List.Perm.refl _) (List.Sublist.refl _) ⟨p,J,hp,J⟩
 |line base n s h0 hfb hl=>
  intro G rb sb lo lo2 _ hc;have hbn:base<ns.length:=(aS.1 h0).1;simp only at hc;obtain⟨z,hzi,hz⟩:=hes.get (i:=base) (d:=n.d) (by rw[cV,h0];rfl);obtain⟨x1,x2,x3,rfl,hzg⟩:=P' hz;refine jO.intro func127 J J ntmps127 J ?_;intro C _ _;show St C _ [(0, .pointer (some ⟨rb,0,none⟩)),(1, .int .i64 (base:Int))] [⟨rb,[.slice xa ns.length xc, .slice (some ⟨sb,0,none⟩) ns.length ns.length, .int .i64 s.c, .bool s.b],_,false⟩,⟨sb,l6 ns.length s.f,_,false⟩] _ _;refine sR<|sa J J<|zE<|bu<|d7<|sR<|sm J J<|sy (iD J J) J<|sm J J<|?_;refine oP 12 J (fun hg=>absurd hg (by omega)) (fun hg=>?_);refine bB J J (fG J) J<|bB J J (iD J J) J<|sy (mc J J) J<|sa J J<|zE<|?_;refine f8 J (fun hc=>absurd hc (by omega)) (fun _=>?_);refine sR<|sm J J<|sy (jk J J) J<|sm J J<|?_;refine oP 22 J (fun hg=>absurd hg (by omega)) (fun hg=>?_);refine bB J J (fG J) J<|bB J J (fG J) J<|bB J J (n5 J) J<|bB J J (o5 J) J<|bB J J (mr J J) J<|bB J J (oE J) J<|bB J J (uU J J) J<|sy (mc J J) J<|sm J J<|?_;refine oP 31 J (fun hg=>absurd hg (by omega)) (fun hg=>?_);refine bB J J (fG J) J<|bB J J (n5 J) J<|bB J J (o5 J) J<|bB J J (mr J J) J<|bB J J (fG J) J<|bB J J (f5 J J (by omega) (by omega)) J<|?_;refine bB J J (mr (v:= .bool false) J (by rw[bJ,iY];exact DB hbn hfb)) J<|sy (mc J J) J<|sa J J<|zE<|AT J<|zK<|?_;refine sR<|sm J J<|sn J J<|sf J J<|tw J J J<|sm J J<|sy (f5 J J (by omega) (by omega)) J<|?_;refine sc (wQ J J (.tl _ _ _ _ _ _ _ _ (.hd ..)) (by rw[F6,bJ,iY];exact hbn) J J ?_);rw[bJ,iY,O7];refine zE<|sR<|sm J J<|sn J J<|sf J J<|tw J J J<|sy (d4 J J) J<|sn J J<|sf J J<|?_
  refine sc (AH J J J (by repeat (first|exact .hd .. |apply fE.tl)) (nb J) J J ?_);rw[show(s.c:Int)+1=((s.c+1:Nat):Int) by omega];refine zE<|sR<|sm J J<|sn J J<|sf J J<|tw J J J<|sm J J<|sy (Hy (z:=⟨xa,ns.length,xc⟩) hx J J (by omega) (by show(base:Int)<(ns.length:Int);omega)) J<|?_;rw[bJ];refine sy (Qh (i:=base) hx J (by rw[hel];exact hbn) hzi) J<|?_;refine sc (AL J ?_);intro b5;refine sc (ES J J J (by repeat (first|exact .hd .. |apply fE.tl)) J (nb J) J J ?_);refine zE<|sR<|sf J J<|Qc J J J<|?_;refine sc (zC J J (PF.fn0 (Mc (hs n (aT h0))) (.cons (hzg.up GL.le) .nil)) J ?_);rintro _ G6 _ hw;rw[hl] at hw;obtain⟨n1,d1,p1,n2,d2,p2,n3,d3,p3,rfl,hw⟩:=Rd hw;refine sm J J<|sx J J J<|sx J J J<|?_;refine sc (AL J ?_);intro b6;refine sc (ES J J J (by repeat (first|exact .hd .. |apply fE.tl)) J (nb J) J J ?_);refine sa J J<|zE<|bu<|sR<|sm J J<|sy (EL J) J<|zE<|r9 J<|?_;refine sR<|sm J J<|sn J J<|sf J J<|?_;refine sc (AH J J J (by repeat (first|exact .hd .. |apply fE.tl)) (nb J) J J ?_);refine zE<|sR<|?_;refine sc (zC J J (PF.fn0 (AC (b:=false)) (.cons (aI.2 J) .nil)) J ?_);rintro _ G7 _ hp;obtain⟨p,rfl⟩:=xq hp;refine sa J J<|zE<|dq<|?_;exact r5 (css:=[_,_]) (.tmp J .nil) J _ (List.perm_append_comm (l₁:=[_,_]) (l₂:=[_,_])) (.cons_cons _ (.cons_cons _ (lJ _))) ⟨p,J,hp,J⟩
 |node base n l s s2 s3 tx ty h0 hfb hl h1 h2 ih1 ih2=>
  intro G rb sb lo lo2 _ hc;have hbn:base<ns.length:=(aS.1 h0).1;have hm1:=h1.mono;have hm2:=h2.mono;simp only at hm1;obtain⟨z,hzi,hz⟩:=hes.get (i:=base) (d:=n.d) (by rw[cV,h0];rfl);obtain⟨x1,x2,x3,rfl,hzg⟩:=P' hz;refine jO.intro func127 J J ntmps127 J ?_;intro C _ _;show St C _ [(0, .pointer (some ⟨rb,0,none⟩)),(1, .int .i64 (base:Int))] [⟨rb,[.slice xa ns.length xc, .slice (some ⟨sb,0,none⟩) ns.length ns.length, .int .i64 s.c, .bool s.b],_,false⟩,⟨sb,l6 ns.length s.f,_,false⟩] _ _;refine sR<|sa J J<|zE<|bu<|d7<|sR<|sm J J<|sy (iD J J) J<|sm J J<|?_;refine oP 12 J (fun hg=>absurd hg (by omega)) (fun hg=>?_);refine bB J J (fG J) J<|bB J J (iD J J) J<|sy (mc J J) J<|sa J J<|zE<|?_;refine f8 J (fun hc=>absurd hc (by omega)) (fun _=>?_);refine sR<|sm J J<|sy (jk J J) J<|sm J J<|?_;refine oP 22 J (fun hg=>absurd hg (by omega)) (fun hg=>?_);refine bB J J (fG J) J<|bB J J (fG J) J<|bB J J (n5 J) J<|bB J J (o5 J) J<|bB J J (mr J J) J<|bB J J (oE J) J<|bB J J (uU J J) J<|sy (mc J J) J<|sm J J<|?_;refine oP 31 J (fun hg=>absurd hg (by omega)) (fun hg=>?_);refine bB J J (fG J) J<|bB J J (n5 J) J<|bB J J (o5 J) J<|bB J J (mr J J) J<|bB J J (fG J) J<|bB J J (f5 J J (by omega) (by omega)) J<|?_;refine bB J J (mr (v:= .bool false) J (by rw[bJ,iY];exact DB hbn hfb)) J<|sy (mc J J) J<|sa J J<|zE<|AT J<|zK<|?_;refine sR<|sm J J<|sn J J<|sf J J<|tw J J J<|sm J J<|sy (f5 J J (by omega) (by omega)) J<|?_;refine sc (wQ J J (.tl _ _ _ _ _ _ _ _ (.hd ..)) (by rw[F6,bJ,iY];exact hbn) J J ?_);rw[bJ,iY,O7]
  refine zE<|sR<|sm J J<|sn J J<|sf J J<|tw J J J<|sy (d4 J J) J<|sn J J<|sf J J<|?_;refine sc (AH J J J (by repeat (first|exact .hd .. |apply fE.tl)) (nb J) J J ?_);rw[show(s.c:Int)+1=((s.c+1:Nat):Int) by omega];refine zE<|sR<|sm J J<|sn J J<|sf J J<|tw J J J<|sm J J<|sy (Hy (z:=⟨xa,ns.length,xc⟩) hx J J (by omega) (by show(base:Int)<(ns.length:Int);omega)) J<|?_;rw[bJ];refine sy (Qh (i:=base) hx J (by rw[hel];exact hbn) hzi) J<|?_;refine sc (AL J ?_);intro b5;refine sc (ES J J J (by repeat (first|exact .hd .. |apply fE.tl)) J (nb J) J J ?_);refine zE<|sR<|sf J J<|Qc J J J<|?_;refine sc (zC J J (PF.fn0 (Mc (hs n (aT h0))) (.cons (hzg.up GL.le) .nil)) J ?_);rintro _ G6 _ hw;rw[hl] at hw;obtain⟨n1,d1,p1,n2,d2,p2,n3,d3,p3,rfl,hw'⟩:=Rd hw;replace hw:=hw' l J;refine sm J J<|sx J J J<|sx J J J<|?_;refine sc (AL J ?_);intro b6;refine sc (ES J J J (by repeat (first|exact .hd .. |apply fE.tl)) J (nb J) J J ?_);refine sa J J<|zE<|bu<|sR<|sm J J<|sy (EL J) J<|zE<|AT J<|zK<|?_;refine sR<|sm J J<|sf J J<|tw J J J<|?_;have hrp:=ih1 (G:=G6) (rb:=rb) (sb:=sb) (lo:=false) (lo2:=false) (by omega);refine sc (EU J J (List.perm_append_comm (l₁:=[_,_]) (l₂:=[_,_])) hrp J ?_);rintro _ css G7 _ _ ⟨q1,rfl,hp1,rfl⟩;show St C _ _ [⟨rb,[.slice xa ns.length xc, .slice (some ⟨sb,0,none⟩) ns.length ns.length, .int .i64 s2.c, .bool s2.b],235,false⟩,⟨sb,l6 ns.length s2.f,4,false⟩,⟨b6,[.int .i64 n1, .int .i64 d1, .pointer p1, .int .i64 n2, .int .i64 d2, .pointer p2, .int .i64 n3, .int .i64 d3, .pointer p3],108,true⟩,⟨b5,[.bool n.g.na, .slice x1.a x1.n x1.c, .bool n.g.nb, .slice x2.a x2.n x2.c, .bool n.g.nc, .slice x3.a x3.n x3.c, .int .i64 n.l, .int .i64 n.r],182,true⟩] _ _
  refine sa J J<|zE<|bu<|?_;refine Wh [⟨b6,[.int .i64 n1, .int .i64 d1, .pointer p1, .int .i64 n2, .int .i64 d2, .pointer p2, .int .i64 n3, .int .i64 d3, .pointer p3],108,true⟩,⟨b5,[.bool n.g.na, .slice x1.a x1.n x1.c, .bool n.g.nb, .slice x2.a x2.n x2.c, .bool n.g.nc, .slice x3.a x3.n x3.c, .int .i64 n.l, .int .i64 n.r],182,true⟩] (fun _=>false) [(0,true),(1,true),(2,true),(3,true),(4,true),(5,false),(6,false),(7,true)] follows (by kernel_rfl)<|?_;refine dL J J J J<|dM J J J<|dM J J J<|dF J J J<|CH J J J J<|?_;have hrp:=ih2 (G:=G7) (rb:=rb) (sb:=sb) (lo:=false) (lo2:=false) hc;refine dc J J (EU J J (M:=[_,_]) (rest:=[_,_]) (List.Perm.refl _) hrp J ?_);rintro _ css G8 _ _ ⟨q2,rfl,hp2,rfl⟩;show St C _ _ [⟨rb,[.slice xa ns.length xc, .slice (some ⟨sb,0,none⟩) ns.length ns.length, .int .i64 s3.c, .bool s3.b],235,false⟩,⟨sb,l6 ns.length s3.f,4,false⟩,⟨b6,[.int .i64 n1, .int .i64 d1, .pointer p1, .int .i64 n2, .int .i64 d2, .pointer p2, .int .i64 n3, .int .i64 d3, .pointer p3],108,true⟩,⟨b5,[.bool n.g.na, .slice x1.a x1.n x1.c, .bool n.g.nb, .slice x2.a x2.n x2.c, .bool n.g.nc, .slice x3.a x3.n x3.c, .int .i64 n.l, .int .i64 n.r],182,true⟩] _ _;refine xd<|?_;refine dc J J (zC J J (PF.fn0 (YA (l:=l) (x:=tx) (y:=ty)) (.cons (hw.up GL.le) (.cons (hp1.up GL.le) (.cons hp2 .nil)))) J ?_);rintro _ G9 _ hp;obtain⟨p,rfl⟩:=xq hp;refine xd<|dA J J J<|dn<|dq<|?_;exact r5 (css:=[_,_]) (.tmp J .nil) J _ (List.Perm.refl _) (.cons_cons _ (.cons_cons _ (lJ _))) ⟨p,J,hp,J⟩
def ry:RS:=⟨fun _=>false,0,false⟩
def AI(ns:List RN)(t:Tr)(s:RS):DV:=if s.b=false/\s.c=ns.length then .tp [eU t,vB true] else .tp [.v (.pointer none),vB false]
def yh(rt:Int)(ns:List RN):DV:= .ag [vI rt, .sl (ns.map RN.d)]
def Ww{ns:List RN}{rt:Int}{t:Tr}{s:RS}(hs: ∀n∈ns,n.g.sm)(hn:ns.length<=65536)(h:RR ns rt ry t s)(hc:s.c<=1000000):PF GB prog 64 [yh rt ns] (AI ns t s):=by
 intro G vs _ hv;obtain⟨v0,m,rfl,h0,hm⟩:=bh.1 hv;rw[eG] at hm;subst hm;obtain⟨m,rfl,g⟩:=d6.1 h0;obtain⟨v1,m,rfl,h1,hm⟩:=bh.1 g;obtain⟨v2,m,rfl,h2,hm⟩:=bh.1 hm;rw[eG] at hm;subst hm;obtain⟨s0,x,es,rfl,hsl,hes⟩:=iB.1 h2;rw[aI.1 h1];have hel:=hes.len;rw[aK] at hel;have hlen:=hsl.len;rw[hel] at hlen;have hx:P2 x ns G:=by
  refine⟨es,?_,hes⟩;rcases CE (s:=8) hsl hes (fun d hd=>by obtain⟨n,_,rfl⟩:=bQ.1 hd;exact⟨rfl,rfl⟩) with e|e
  ·exact⟨hsl.len,hsl.cap, .inl e⟩
  ·rw[e] at hsl;exact hsl
 obtain⟨xa,xn,xc⟩:=x;simp only[] at hlen;subst hlen;show Fn _ _ [.agg ⟨[.int .i64 rt, .slice xa ns.length xc]⟩] _ _;refine Fn.intro func64 J J ntmps64 J ?_;intro C _ _;refine sR<|?_;refine sc (K3 J J ?_);intro b1;refine sa J J<|sa J J<|zE<|bu<|sR<|sf J J<|tw J J J<|c7 J J<|sy (te J J) J<|zE<|?_;refine f8 J (fun hc=>absurd hc (by omega)) (fun _=>?_);refine zK<|bu<|dr (fun _=>false) [(0,true),(1,true),(2,true),(3,true),(4,true),(5,false),(6,true),(7,false),(8,true)] follows (by kernel_rfl)<|dF J J J<|?_;refine CH J J J J<|dF J J J<|CH J J J J<|dy J (fun _=>oE J) J J<|?_;refine dc J J (t6 J J (by omega) (by omega) (by omega) (by rfl) J ?_);intro b2;rw[bJ,Y9];refine xd<|dy J (fun _=>Jn J) J J<|?_;refine dc J J (K3 J J ?_);intro b3;refine xd<|dA J J J<|dn<|sR<|sm J J<|sf J J<|tw J J J<|?_;have hrp:=aAI hx hs (by omega) h (G:=G) (rb:=b3) (sb:=b2) (lo:=true) (lo2:=true) hc;refine sc (EU J J (M:=[_,_]) (rest:=[_]) (List.Perm.refl _) hrp J ?_);rintro _ css G4 _ _ ⟨p,rfl,hp,rfl⟩;show St C _ _ [⟨b3,[.slice xa ns.length xc, .slice (some ⟨b2,0,none⟩) ns.length ns.length, .int .i64 s.c, .bool s.b],235,true⟩,⟨b2,l6 ns.length s.f,4,true⟩,⟨b1,[.int .i64 rt, .slice xa ns.length xc],25,true⟩] _ _;refine sa J J<|zE<|bu<|bu<|dr (fun _=>false) [(0,true),(1,true),(2,true),(3,true),(4,true),(5,true),(6,true),(7,true),(8,true),(9,true),(10,true),(11,true),(12,true),(13,true)] follows (by kernel_rfl)<|?_;obtain⟨sf_,sc_,sb_⟩:=s
 cases sb_
 case true=>
  refine dM J J J<|dy J (fun _=>n5 J) J J<|dF J J J<|CH J J J J<|dM J J J<|?_;refine ut J J J J J J<|ut J J J J J J<|ut J J J J J J<|ut J J J J J J<|ut J J J J J J<|ut J J J J J J<|?_;refine ut J J J J J J<|ut J J J J J J<|dy J (fun _=>rP J J) J J<|dn<|r9 J<|?_;refine sR<|sa J J<|sa J J<|zE<|dq<|?_;refine zD (.tmp J (.tmp J .nil)) ?_;rw[AI,if_neg (fun e=>by cases e.1)];exact iH.2 ⟨_,J, .cons (aI.2 J) (.cons (aI.2 J) .nil)⟩
 refine dM J J J<|dy J (fun _=>n5 J) J J<|dF J J J<|CH J J J J<|dM J J J<|?_;refine vp J J J J (fun _=>fG J) J<|vp J J J J (fun _=>n5 J) J<|vp J J J J (fun _=>o5 J) J<|vp J J J J (fun _=>mr J J) J<|?_;refine vp J J J J (fun _=>o5 J) J<|vp J J J J (fun _=>mr J J) J<|vp J J J J (fun _=>oE J) J<|vp J J J J (fun _=>vq J J) J<|?_;refine dy J (fun _=>mc J J) J J<|dn<|?_;refine f8 J (fun hc=>?_) (fun hc=>?_) -- slot 35
 ·refine sR<|sa J J<|sa J J<|zE<|dq<|?_
  refine zD (.tmp J (.tmp J .nil)) ?_;rw[AI,if_neg (fun e=>hc (by have:=e.2;simp only at this;omega))];exact iH.2 ⟨_,J, .cons (aI.2 J) (.cons (aI.2 J) .nil)⟩
 refine zK<|sR<|sm J J<|sa J J<|sa J J<|zE<|dq<|?_;refine zD (.tmp J (.tmp J .nil)) ?_;rw[AI,if_pos ⟨J,by have h9:=hc;simp at h9;show sc_=_;omega⟩];exact iH.2 ⟨_,J, .cons hp (.cons (aI.2 J) .nil)⟩

def Tr.pre:Tr->List Tr
 | .leaf b=>[.leaf b]
 | .node l x y=> .node l x y::(x.pre++y.pre)
structure Vis (f:FuncId) (c2:List Value) (σ:Type) (step:σ->Tr->σ) (ok:σ->Tr->Prop) (Inv:σ->List av->Gh->Prop):Prop where
 up: ∀{s B G G'},bp G G'->Inv s B G->Inv s B G'
 re: ∀{s B G} (fl:Nat->Bool),Inv s B G->Inv s (B.map (relo fl)) G
 go: ∀{s t p B G},ok s t->Inv s B G->Is G (eU t) (.pointer p)->mz prog f (.pointer p::c2) B G (fun _ B' G'=>Inv (step s t) B' G')
section
variable {P:Program} {C:aB} {n:Nat} {fr:Fr} {own:List av} {G:Gh}
end
def Nv{σ:Type}(step:σ->Tr->σ)(ok:σ->Tr->Prop):σ->List Tr->Prop
 |_,[]=>True
 |s,t::ts=>ok s t/\Nv step ok (step s t) ts
structure EX (σ:Type) where
 ts:List Tr
 vs:List Value
 rest:List Value
 b:Nat
 cap:Nat
 lo:Bool
 s:σ
 B:List av
def Zy(t:Tr):Nat:=2*t.size+1
def M4(ts:List Tr):List Tr:=ts.reverse.flatMap Tr.pre
structure EI (A:Gh) {σ:Type} (step:σ->Tr->σ) (ok:σ->Tr->Prop) (Inv:σ->List av->Gh->Prop) (N:Nat) (fin:σ) (x:EX σ) (G:Gh):Prop where
 rel:ta (fun v t=> ∃p,v= .pointer p/\Is A (eU t) (.pointer p)) x.vs x.ts
 cap:x.vs.length+x.rest.length=x.cap
 inv:Inv x.s x.B G
 mu:(x.ts.map Zy).sum<=N
 okf:Nv step ok x.s (M4 x.ts)
 fin:(M4 x.ts).foldl step x.s=fin
def szI(nbk:Nat)(s:Nat)(B:List av)(_:Gh):Prop:= ∃lo,B=[⟨nbk,[.int .i64 s],3,lo⟩]
def szS(s:Nat):Tr->Nat
 | .leaf _=>s
 | .node .. =>s+1
def vd(n:Nat)(f:Nat->Bool):Nat:=((List.range n).filter fun j=>!f j).length
def ZI{n k:Nat}{f:Nat->Bool}(hk:k<n)(hf:f k=false):vd n (li f k)+1=vd n f:=by
 unfold vd;have key: ∀l:List Nat,l.Nodup->((l.filter fun j=>!li f k j).length+(if k∈l then 1 else 0)=(l.filter fun j=>!f j).length):=fun l=>by
  induction l with
  |nil=>intro _;rfl
  |cons a l ih=>
   intro hn;obtain⟨h1,h2⟩:=List.nodup_cons.1 hn;have:=ih h2;by_cases e:a=k
   ·subst e
    simp only[qW,Pu,hf,aW,true_or,if_true] at this⊢;rw[if_neg h1] at this;simp at this⊢;omega
   ·have e': ¬k=a:=fun h=>e h.symm
    simp only[qW,B7 e,aW,e',false_or] at this⊢
    cases f a<;>simp at this⊢ <;>omega
 have:=key (List.range n) List.nodup_range;rwa [if_pos (kJ.2 hk)] at this
def tv(ns:List RN):Nat->Int->RS->Tr×RS
 |0,_,s=>(.leaf false,s)
 |m+1,rt,s=>
  if rt= -1 then(.leaf false,s) else if rt= -2 then(.leaf true,s) else
  match ns[rt.toNat]? with
  |none=>(.leaf false,⟨s.f,s.c,true⟩)
  |some n=>if rt<0\/s.f rt.toNat=true then(.leaf false,⟨s.f,s.c,true⟩) else
   match n.g.ln with
   |none=>(.leaf false,⟨li s.f rt.toNat,s.c+1,true⟩)
   |some l=>let a:=tv ns m n.l ⟨li s.f rt.toNat,s.c+1,s.b⟩;let b:=tv ns m n.r a.2;(.node l a.1 b.1,b.2)
def EK{ns:List RN}: ∀{m:Nat} {rt:Int} {s:RS},vd ns.length s.f<m->RR ns rt s (tv ns m rt s).1 (tv ns m rt s).2/\(tv ns m rt s).2.c+vd ns.length (tv ns m rt s).2.f=s.c+vd ns.length s.f
 |0,_,_,h=>absurd h (Nat.not_lt_zero _)
 |m+1,rt,s,h=>by
  rw[tv];split
  ·rename_i e;subst e;exact⟨.leaf false s,rfl⟩
  rename_i e1;split
  ·rename_i e;subst e;exact⟨.leaf true s,rfl⟩
  rename_i e2;split
  ·rename_i hn
   have:=List.getElem?_eq_none_iff.1 hn;exact⟨.bad rt s e1 e2 (by omega),J⟩
  rename_i n hn;have hlt:=(aS.1 hn).1;split
  ·rename_i hb
   refine⟨.bad rt s e1 e2 ?_,J⟩;rcases hb with hb|hb
   ·exact .inl hb
   ·by_cases h0:rt<0
    ·exact .inl h0
    ·exact .inr (.inr ⟨rt.toNat,by omega,hlt,hb⟩)
  rename_i hb;obtain⟨k,rfl⟩: ∃k:Nat,rt=k:=⟨rt.toNat,by omega⟩;rw[bJ] at hn hlt hb⊢;have hf:s.f k=false:=by
   cases hh:s.f k with
   |false=>rfl
   |true=>exact absurd (Or.inr hh) hb
  have hu:=ZI hlt hf;split
  ·rename_i hl;exact⟨.line k n s hn hf hl,by simp only;omega⟩
  rename_i l hl;have h1:=EK (ns:=ns) (m:=m) (rt:=n.l) (s:=⟨li s.f k,s.c+1,s.b⟩) (by simp only;omega);have hc:=h1.1.mono;simp only at h1 hc;have h2:=EK (ns:=ns) (m:=m) (rt:=n.r) (s:=(tv ns m n.l ⟨li s.f k,s.c+1,s.b⟩).2) (by omega);exact⟨.node k n l s _ _ _ _ hn hf hl h1.1 h2.1,by have:=h1.2;have:=h2.2;dsimp only;omega⟩
def wj(ns:List RN)(rt:Int):Option Tr:=
 let r:=tv ns (ns.length+1) rt ry
 if r.2.b=false/\r.2.c=ns.length then some r.1 else none
def ofR:Option Tr->DV
 |some t=> .tp [eU t,vB true]
 |none=> .tp [.v (.pointer none),vB false]
def GX(n:Nat)(f:Nat->Bool):vd n f<=n:=by
 unfold vd;refine cR (lL _ _) ?_;rw[rR];exact aN _
def Uc{ns:List RN}{rt:Int}(hs: ∀n∈ns,n.g.sm)(hn:ns.length<=65536):PF GB prog 64 [yh rt ns] (ofR (wj ns rt)):=by
 have h:=EK (ns:=ns) (m:=ns.length+1) (rt:=rt) (s:=ry) (by have:=GX ns.length ry.f;omega);have hu:=GX ns.length ry.f;have h0:ry.c=0:=J;have h2:=Ww (GB:=GB) hs hn h.1 (by have:=h.2;omega);unfold AI at h2;unfold wj;simp only;split
 ·rename_i e;rw[if_pos e] at h2;exact h2
 ·rename_i e;rw[if_neg e] at h2;exact h2
end Go.Sx
end
section
namespace Go.Sx
open Go Go.Proofs Go.RowKit Go.Extern.Stop Go.Stop Go.Extern
def T4(v:Value)(w:World):(Extern.ReflectliteType.typeOf #[.iface 405 v]).run Tryz.prog w= .ok (.iface 243 (.agg #[.pointer (some ⟨Tryz.prog.globals.size,405,none⟩)])) w:=by kernel_rfl
def RA:TypeId->Sem Value:=fun t=>do Go.Extern.Rtype.noPackHeld "Comparable" t;pure (.bool (<-typeInfo t).comparable)
def ZL(w:World):((Extern.ReflectliteType.method RA) #[.agg #[.pointer (some ⟨Tryz.prog.globals.size,405,none⟩)]]).run Tryz.prog w= .ok (.bool true) w:=by kernel_rfl
def TP:(Tryz.prog.info? 405).map (·.comparable)=some true:=by kernel_rfl
def aEU:(Tryz.prog.info? 430).map (·.size)=some 1:=by kernel_rfl
def Xq(n:Nat)(v:Value)(w:World):(Go.method (n+1) 243 v "Comparable").run Tryz.prog w= .ok (330,v) w:=by
 kernel_rfl
def aDa(a:Addr)(w:World):Calls Tryz.prog 27 #[.iface 405 (.pointer (some a)), .iface 405 (.pointer (some a))] w fun e w'=>e= .returned (.bool true)/\w'=w:=by
 obtain⟨i,hi,hcmp⟩:=Option.map_eq_some_iff.1 TP;obtain⟨j,hj,hjs⟩:=Option.map_eq_some_iff.1 aEU;have h8:= @run_callFunc_extern Tryz.prog 76 _ Extern.ReflectliteType.typeOf Tryz.func76 (by kernel_rfl) (by kernel_rfl) (by kernel_rfl) (by kernel_rfl);have h32:= @run_callFunc_extern Tryz.prog 330 _ (Extern.ReflectliteType.method RA) Tryz.func330 (by kernel_rfl) (by kernel_rfl) (by kernel_rfl) (by kernel_rfl);have tT:=T4;have cT:=ZL;obtain⟨g,hg⟩: ∃g,g=Tryz.prog.globals.size:=⟨_,rfl⟩;simp only[<-hg] at tT cT;clear hg;have mR:=Xq;have heq:=run_eql_iface_ptr_same (P:=Tryz.prog) w a Tryz.underlying38 Tryz.underlying405 hi hcmp hj
 go_enter Tryz.func27,Tryz.ntmps27
 go_wp2
 refine wp_loop_rounds 1 ?_;rw[rounds_succ]
 go_wp2
 go_ret
 exact⟨J,J⟩
def Yv:rh Tryz.prog 27:=⟨_,Tryz.func27,by kernel_rfl,by kernel_rfl⟩
def vC(a:Addr):DV:= .v (.iface 405 (.pointer (some a)))
def aHN{GB:Gh}{a:Addr}:PF GB Tryz.prog 27 [vC a,vC a] (.v (.bool true)):=by
 intro G vs _ hv;obtain⟨v1,m,rfl,h1,hm⟩:=bh.1 hv;obtain⟨v2,m,rfl,h2,hm⟩:=bh.1 hm;rw[eG] at hm;subst hm
 cases aI.1 h1;cases aI.1 h2
 exact(Fn.of_calls Yv (aDa a)).mono fun v G' _ h=>aI.2 h
end Go.Sx
end
section
namespace Go.Sx
open Go Go.Proofs Tryz
section
variable {GB:Gh} {C:aB} {n:Nat} {Q0:Exit->Act->World->Prop} {fr fr':az} {own own':aC} {cf cf':Cf} {vc:List Prop}
def Oy(fr:az)(cf:Cf):Option Nat:=match cx fr cf with
 |some ⟨_, .load t (.global g),_,_,_,_⟩=>(match dl tt t with
  |some i=>match i.ag with
   |some none=>some g
   |_=>none
  |none=>none)
 |_=>none
def gl[fu:Fu]{g:Nat}{v:Value}(h:Oy fr cf=some g)(hg:GB g=some [v])(hgo:cF tt n fu.n fr own cf (.d (.v v)) [] []=⟨vc,fr',own',cf'⟩)(k:ak prog GB C n Q0 fr' own' cf')
  (hv:ac vc:=by first|exact trivial|(simp only[ac];kernel_rfl)|(simp only[ac];omega)):ak prog GB C n Q0 fr own cf:=by
 unfold Oy at h;split at h<;>try (cases h;done)
 rename_i hh;split at h<;>try (cases h;done)
 rename_i i hT;split at h<;>cases h;rename_i ha;haveI:=yb (dP _ _ hT) ha;refine us (f:= .d (.v v)) hh (bD.yd fun ρ G ov a w r=>⟨v,(aI (G:=G)).2 J,?_⟩) hgo hv k;haveI:BE G g [v]:=⟨r.gb _ _ hg⟩;exact I9 (b:=g) (off:=0) J ghi J
def M0{d:Nat}{f:FX}{x:DV}(hl:aH fr d=some f)(e:jD f=some x){Φ:Act->World->Prop}(h:SX GB C n (aH ((d, .d x)::fr)) (aP own) Φ):SX GB C n (aH fr) (aP own) Φ:=qc (g:= .d x) hl (fun _ _ _ k=>mF k e) h
def RP(d:Nat){f:FX}(x:DV){e:Exit}{K:List Kt}(hl:aH fr d=some f)(e1:jD f=some x)(k:ak prog GB C n Q0 ((d, .d x)::fr) own (.ex e K)):ak prog GB C n Q0 fr own (.ex e K):=M0 hl e1 k
def M1(d:Nat){f:FX}(x:DV){c:Code}{K:List Kt}(hl:aH fr d=some f)(e1:jD f=some x)(k:ak prog GB C n Q0 ((d, .d x)::fr) own (.code c K)):ak prog GB C n Q0 fr own (.code c K):=M0 hl e1 k
def aG5{nm0 nm:Nat}{B1 B2:Option Bk}:aP (mh (mh own nm0 B1) nm B2)=upB (upB (aP own) [(nm0,B1)]) [(nm,B2)]:=by
 funext j;rw[vX];simp only[upB];rw[vX]
def axh{nm0 nm k:Nat}(hnm:Nat.blt nm 2000000=true){ty0:TypeId}{cs:List FX}{lo:Bool}(hb:aP own nm0=some (.o ty0 cs lo))(hk:cs[k]? =some .nl)(hne:nm0≠nm){Φ:Act->World->Prop}{ty s:Nat}(hf:kr [nm] none (aH fr) (aP own))
  (h:SX GB C n (aH fr) (aP (mh (mh own nm0 (some (.o ty0 (cs.set k (.rw nm)) lo))) nm (some (.b ty s [] true)))) Φ):SX GB C n (aH fr) (aP own) Φ:=by
 refine⟨fun ρ G ov a w r=>?_⟩;obtain⟨f1,f2⟩:=hf nm aQ;rw[aG5] at h;refine h.run (fun k=>if k=nm then⟨none,0,0⟩ else ρ k) G ov a w ⟨r.gb,r.h,r.sz,r.df,fun k f e=>?_,fun m B e=>?_,fun m m' B B' e e' hne=>?_,fun m p h1 h2 e=>by
  have:nm<2000000:=by simpa[mU] using hnm
  show(if m=nm then(⟨none,0,0⟩:SV) else ρ m).a=_;rw[if_neg (by omega)];exact r.fxd m p h1 h2 e⟩
 ·obtain⟨v,h1,h2⟩:=r.fx k f e
  exact⟨v,h1,h2.ren fun m hm=>uQ _ fun hc=>f1 k f (by simp) e (by rw[hm,hc])⟩
 ·simp only[upB] at e
  by_cases hm:m=nm
  ·subst hm;simp only[if_true] at e;cases e
   exact⟨[],⟨[],by simp only[if_true];exact .inl ⟨J,J,J⟩, .nil,by simp,fun _ o ho=>by cases ho⟩,fun o ho=>by cases ho⟩
  ·simp only[hm,if_false] at e
   by_cases hm0:m=nm0
   ·subst hm0;simp only[if_true] at e;cases e
    obtain⟨os,h1,h2⟩:=r.bx m _ hb;have h1':lh (fun k=>if k=nm then⟨none,0,0⟩ else ρ k) G m (.o ty0 cs lo) os:=h1.ren (if_neg hm) fun q hq=>uQ _ fun hc=>f2 m _ hm hb (by rw[<-hc];exact hq);obtain⟨b,ms,k1,k2,k3⟩:=h1';refine⟨os,⟨b,ms,k1,k2,?_⟩,h2⟩;obtain⟨y,e1,e2⟩:=k3.get hk;have:=k3.set (f:= .rw nm) (y:=y) k (by show y=_;simp only[if_true];exact e2);rwa [show ms.set k y=ms by apply jW;intro j;rw[mW];split<;>(try rfl);rename_i hj;subst hj;split<;>simp_all] at this
   ·simp only[hm0,if_false] at e
    obtain⟨os,h1,h2⟩:=r.bx m B e;exact⟨os,h1.ren (if_neg hm) fun q hq=>uQ _ fun hc=>f2 m B hm e (by rw[<-hc];exact hq),h2⟩
 ·intro b hbb hb'
  have key: ∀q B,upB (upB (aP own) [(nm0,some (.o ty0 (cs.set k (.rw nm)) lo))]) [(nm,some (.b ty s [] true))] q=some B->q≠nm-> ∃B0,aP own q=some B0:=fun q B eq hq=>by
   simp only[upB,hq,if_false] at eq;by_cases hq0:q=nm0
   ·subst hq0;exact⟨_,hb⟩
   ·simp only[hq0,if_false] at eq;exact⟨_,eq⟩
  by_cases hm:m=nm
  ·simp[hm] at hbb
  ·by_cases hm':m'=nm
   ·simp[hm'] at hb'
   ·obtain⟨B0,g0⟩:=key m B e hm
    obtain⟨B1,g1⟩:=key m' B' e' hm';simp only[hm,hm',if_false] at hbb hb';exact r.dj m m' B0 B1 g0 g1 hne b hbb hb'
def Tx(nm0 k nm ty s:Nat){ty0:TypeId}{cs:List FX}{lo:Bool}{own1:aC}{c:Code}{K:List Kt}(hb:aP own nm0=some (.o ty0 cs lo))(hk:cs[k]? =some .nl)(hf:uL [nm] none fr own=true)(hne:Nat.beq nm0 nm=false)
  (ho:mh (mh own nm0 (some (.o ty0 (cs.set k (.rw nm)) lo))) nm (some (.b ty s [] true))=own1)(h:ak prog GB C n Q0 fr own1 (.code c K))(hnm:Nat.blt nm 2000000=true:=by rfl):ak prog GB C n Q0 fr own (.code c K):=by
 subst ho;exact axh hnm hb hk (fun e=>by subst e;rw[oJ] at hne;cases hne) (BW hf) h
def OX{ρ:NE}{G:Gh}: ∀{a b:List FX} {m:List Value},de ρ G (a++b) m-> ∃m1 m2,m=m1++m2/\de ρ G a m1/\de ρ G b m2
 |[],b,m,h=>⟨[],m,J,J,h⟩
 |f::t,b,m,⟨y,n,e,h1,h2⟩=>by
  obtain⟨m1,m2,rfl,k1,k2⟩:=OX h2;exact⟨y::m1,m2,e,⟨y,m1,J,h1,k1⟩,k2⟩
def TH{ρ:NE}{G:Gh}: ∀{l:List DV} {m:List Value},de ρ G (l.map .d) m->IsLs G l m
 |[],m,h=>eG.2 h
 |d::t,m,⟨y,n,e,h1,h2⟩=>by subst e;exact .cons h1 (TH h2)
def bzA(fr:az)(cf:Cf):Option (Nat×List FX):=match cx fr cf with
 |some ⟨some d, .build t ⟨[]⟩,_,_,_,_⟩=>match dl tt t with
  |some ⟨.st _,_,some zx,_⟩=>some (d,zx)
  |_=>none
 |_=>none
end
structure EG (GB:Gh) (ai al ae:Addr):Prop where
 ErrInvalid:GB 2=some [.iface 405 (.pointer (some ai))]
 ErrLimit:GB 4=some [.iface 405 (.pointer (some al))]
structure EGE (GB:Gh) (ai al ae:Addr):Prop extends EG GB ai al ae where
 ErrEmpty:GB 0=some [.iface 405 (.pointer (some ae))]
structure Tr.gd (t:Tr):Prop where
 lb:t.all LB
 ok:t.all aa.ok
def Tr.compl_all(p:aa->Prop): ∀t:Tr,t.all p->t.compl.all p
 | .leaf _,h=>h
 | .node l x y,⟨h0,h1,h2⟩=>⟨h0,x.compl_all p h1,y.compl_all p h2⟩
def Tr.compl_depth: ∀t:Tr,t.compl.depth=t.depth
 | .leaf _=>rfl
 | .node l x y=>by simp only[Tr.compl,Tr.depth,x.compl_depth,y.compl_depth]
def Tr.chooseQ_all(p:aa->Prop)(op:Int)(b:Bool)(t:Tr)(c:aw)(h:t.all p):(t.chooseQ op b c).all p:=by
 have:=t.restrict_all p c h;unfold chooseQ;split
 ·split
  ·trivial
  ·exact this
 ·split
  ·trivial
  ·split
   ·exact(t.restrict c).compl_all p this
   ·exact this
def Tr.mergeQ_all(p:aa->Prop)(op:Int){u:Tr}(hu:u.all p): ∀(t:Tr) (c:aw),t.all p->(t.mergeQ op u c).all p
 | .leaf b,c,_=>u.chooseQ_all p op b c hu
 | .node l x y,c,⟨h0,h1,h2⟩=>by
  rw[Tr.mergeQ];split
  ·exact Tr.mergeQ_all p op hu x c h1
  ·split
   ·exact Tr.mergeQ_all p op hu y c h2
   ·rcases Tr.joinQ_cases l (x.mergeQ op u (cj c l)) (y.mergeQ op u (cj c l.rev)) with⟨h,_⟩|⟨h,_⟩
    ·rw[h];exact Tr.mergeQ_all p op hu x _ h1
    ·rw[h];exact⟨h0,Tr.mergeQ_all p op hu x _ h1,Tr.mergeQ_all p op hu y _ h2⟩
def Np(op:Int)(a b:Tr):Option Tr:=if 1024<a.depth+b.depth then none else if 65536<(a.mergeQ op b []).size then none else some (a.mergeQ op b [])
def aJR(al:Addr):Option Tr->DV
 |some t=> .tp [eU t, .v .nilIface]
 |none=> .tp [.v (.pointer none),vC al]
def Sh(op:Int):Tr->List Tr->Option Tr
 |t,[]=>some t
 |t,u::us=>match Np op t u with
  |none=>none
  |some r=>Sh op r us
def WK{t:Tr}(h:t.gd)(c:aw):(t.restrict c).gd:=⟨t.restrict_all LB c h.lb,t.restrict_all aa.ok c h.ok⟩
def aHc{GB:Gh}{ns:List RN}{rt:Int}{t:Tr}(hs: ∀n∈ns,n.g.sm)(hn:ns.length<=65536)(h:wj ns rt=some t):PF GB prog 64 [yh rt ns] (.tp [eU t,vB true]):=by
 have:=Uc (GB:=GB) (rt:=rt) hs hn;rw[h] at this;exact this
def GY:DV:= .ag [vI 0, .sl []]
def aKe:Tr ⊕ Addr->DV
 | .inl t=> .tp [eA t, .v .nilIface]
 | .inr e=> .tp [GY,vC e]
def aJk(ai:Addr):Option Tr->Tr ⊕ Addr
 |some t=> .inl t.compl
 |none=> .inr ai
def OH(al:Addr):Option Tr->Tr ⊕ Addr
 |some t=> .inl t
 |none=> .inr al
def aIf(ai al:Addr)(op:Int):Option Tr->Option Tr->Tr ⊕ Addr
 |some a,some b=>if 1<=op/\op<=4 then OH al (Np op a b) else .inr ai
 |_,_=> .inr ai
abbrev se:=Int×List RN
def se.d(x:se):DV:=yh x.1 x.2
def se.q(x:se):Option Tr:=wj x.2 x.1
def ofP:Option Tr->DV
 |some t=>eU t
 |none=> .v (.pointer none)
def aHL(op:Int)(ts:List se):Bool:=decide (1<=op/\op<=4)&&ts.all fun x=>x.q.isSome
def aKh(ai al ae:Addr)(op:Int)(ts:List se):Tr ⊕ Addr:=
 if aHL op ts then(match ts.filterMap se.q with
  |[]=> .inr ae
  |a::us=>if 1024<a.depth then .inr al else OH al (Sh op (a.restrict []) us)) else .inr ai
def aKg(ts:List se):List DV:=ts.map fun x=>ofP x.q
structure se.ok (x:se):Prop where
 s: ∀n∈x.2,n.g.sm
 n:x.2.length<=65536
def Tr.val:Tr->ab->Bool
 | .leaf b,_=>b
 | .node l x y,p=>if 0<l.value p then x.val p else y.val p
def Tr.lns:Tr->List aa
 | .leaf _=>[]
 | .node l x y=>l::(x.lns++y.lns)
def sd{P:aa->Prop}: ∀{t:Tr},t.all P↔ ∀l∈t.lns,P l
 | .leaf _=>⟨fun _ l hl=>(by cases hl),fun _=>trivial⟩
 | .node l x y=>by
  show(P l/\x.all P/\y.all P)↔ ∀m∈l::(x.lns++y.lns),P m;rw[sd (t:=x),sd (t:=y)];constructor
  ·rintro ⟨h0,h1,h2⟩ m hm
   rcases aW.1 hm with rfl|hm
   ·exact h0
   ·rcases bK.1 hm with hm|hm
    ·exact h1 m hm
    ·exact h2 m hm
  ·intro h
   exact⟨h l aQ,fun m hm=>h m (aJ _ (bT _ hm)),fun m hm=>h m (aJ _ (cJ _ hm))⟩
def qP{t:Tr}(h:t.all aa.ok): ∀l∈t.lns,l.ok:=sd.1 h
def fi(L:List aa)(p:ab):Prop:= ∀l∈L,l.value p≠0
def fi.sub{L M:List aa}{p:ab}(h:fi L p)(k: ∀l∈M,l∈L):fi M p:=fun l hl=>h l (k l hl)
def fi.l{l:aa}{x y:Tr}{p:ab}(h:fi (Tr.node l x y).lns p):l.value p≠0:=h l aQ
def fi.x{l:aa}{x y:Tr}{p:ab}(h:fi (Tr.node l x y).lns p):fi x.lns p:=h.sub fun m hm=>aJ _ (bT _ hm)
def fi.y{l:aa}{x y:Tr}{p:ab}(h:fi (Tr.node l x y).lns p):fi y.lns p:=h.sub fun m hm=>aJ _ (cJ _ hm)
def fi.app{L M:List aa}{p:ab}:fi (L++M) p↔fi L p/\fi M p:=by
 unfold fi;constructor
 ·intro h;exact⟨fun l hl=>h l (bT _ hl),fun l hl=>h l (cJ _ hl)⟩
 ·rintro ⟨h1,h2⟩ l hl;rcases bK.1 hl with h|h;exact h1 l h;exact h2 l h
def Cy(op:Int)(a b:Bool):Bool:=if op=1 then a||b else if op=2 then a&&b else if op=3 then a&&!b else a !=b
def Tr.val_join(l:aa)(X Y:Tr)(p:ab):(Tr.joinQ l X Y).val p=(Tr.node l X Y).val p:=by
 unfold Tr.joinQ;split
 ·rename_i h
  cases X<;>cases Y<;>simp[Tr.isLeaf,Tr.code] at h
  subst h;simp[Tr.val]
 ·rfl
def Tr.val_pos{l:aa}{x y:Tr}{p:ab}(h:0<l.value p):(Tr.node l x y).val p=x.val p:=by rw[Tr.val,if_pos h]
def Tr.val_neg{l:aa}{x y:Tr}{p:ab}(h: ¬0<l.value p):(Tr.node l x y).val p=y.val p:=by rw[Tr.val,if_neg h]
def Tr.val_compl: ∀(t:Tr) (p:ab),t.compl.val p=!t.val p
 | .leaf b,p=>rfl
 | .node l x y,p=>by
  rw[Tr.compl];by_cases h:0<l.value p
  ·rw[Tr.val_pos h,Tr.val_pos h,x.val_compl]
  ·rw[Tr.val_neg h,Tr.val_neg h,y.val_compl]
def Ob{c:aw}{l:aa}(hc:bP c)(hl:l.ok)(hb:dh c l.rev=false){p:ab}(hp:bm c p)(h0:l.value p≠0):0<l.value p:=by
 by_cases h:0<l.value p
 ·exact h
 ·exfalso
  have:dh c l.rev=true:=(sr hc hl.rev).2 ⟨p,hp,by rw[fh];grind⟩;rw[hb] at this;cases this
def OE{c:aw}{l:aa}(hc:bP c)(hl:l.ok)(hb:dh c l=false){p:ab}(hp:bm c p): ¬0<l.value p:=fun h=>by
 have:dh c l=true:=(sr hc hl).2 ⟨p,hp,h⟩;rw[hb] at this;cases this
def Tr.val_restrict: ∀(t:Tr) (c:aw) (p:ab),t.all aa.ok->bP c->bm c p->fi t.lns p->(t.restrict c).val p=t.val p
 | .leaf _,_,_,_,_,_,_=>rfl
 | .node l x y,c,p,⟨hl,hx,hy⟩,hc,hp,ho=>by
  cases hb:dh c l.rev with
  |false=>rw[Tr.restrict_A _ _ hb,x.val_restrict c p hx hc hp ho.x,Tr.val_pos (Ob hc hl hb hp ho.l)]
  |true=>
   cases hb2:dh c l with
   |false=>rw[Tr.restrict_B _ _ hb hb2,y.val_restrict c p hy hc hp ho.y,Tr.val_neg (OE hc hl hb2 hp)]
   |true=>
    rw[Tr.restrict_C _ _ hb hb2,Tr.val_join];obtain⟨g1,i1⟩:=jy hc hl hb2;obtain⟨g2,i2⟩:=jy hc hl.rev hb;by_cases h:0<l.value p
    ·rw[Tr.val_pos h,Tr.val_pos h,x.val_restrict _ p hx g1 ((i1 p).2 ⟨hp,h⟩) ho.x]
    ·rw[Tr.val_neg h,Tr.val_neg h,y.val_restrict _ p hy g2 ((i2 p).2 ⟨hp,by rw[fh];have:=ho.l;grind⟩) ho.y]
def Tr.val_choose(op:Int)(b:Bool)(t:Tr)(c:aw)(p:ab)(ht:t.all aa.ok)(hc:bP c)(hp:bm c p)(ho:fi t.lns p):(t.chooseQ op b c).val p=Cy op b (t.val p):=by
 have hr:=t.val_restrict c p ht hc hp ho;unfold Tr.chooseQ Cy;by_cases h1:op=1
 ·subst h1;cases b<;>simp[hr,Tr.val]
 ·by_cases h2:op=2
  ·subst h2;cases b<;>simp[hr,Tr.val]
  ·by_cases h3:op=3
   ·subst h3;cases b<;>simp[hr,Tr.val,Tr.val_compl]
   ·cases b<;>simp[h1,h2,h3,hr,Tr.val_compl]
def Tr.val_merge(op:Int)(u:Tr)(hu:u.all aa.ok): ∀(t:Tr) (c:aw) (p:ab),t.all aa.ok->bP c->bm c p->fi t.lns p->fi u.lns p->(t.mergeQ op u c).val p=Cy op (t.val p) (u.val p)
 | .leaf b,c,p,_,hc,hp,_,ho=>u.val_choose op b c p hu hc hp ho
 | .node l x y,c,p,⟨hl,hx,hy⟩,hc,hp,ho,hou=>by
  rw[Tr.mergeQ]
  cases hb:dh c l.rev with
  |false=>
   rw[if_pos (show(!false)=true from J),Tr.val_merge op u hu x c p hx hc hp ho.x hou,Tr.val_pos (Ob hc hl hb hp ho.l)]
  |true=>
   rw[if_neg (by decide)]
   cases hb2:dh c l with
   |false=>rw[if_pos (show(!false)=true from J),Tr.val_merge op u hu y c p hy hc hp ho.y hou,Tr.val_neg (OE hc hl hb2 hp)]
   |true=>
    rw[if_neg (by decide),Tr.val_join];obtain⟨g1,i1⟩:=jy hc hl hb2;obtain⟨g2,i2⟩:=jy hc hl.rev hb;by_cases h:0<l.value p
    ·rw[Tr.val_pos h,Tr.val_pos h,Tr.val_merge op u hu x _ p hx g1 ((i1 p).2 ⟨hp,h⟩) ho.x hou]
    ·rw[Tr.val_neg h,Tr.val_neg h,Tr.val_merge op u hu y _ p hy g2 ((i2 p).2 ⟨hp,by rw[fh];have:=ho.l;grind⟩) ho.y hou]
def Qq: ∀(L:List aa) (u:ab) (p:ab),fi L p-> ∃e:Rat,0<e/\ ∀d,0<=d->d<=e->fi L (bF p u d)
 |[],u,p,_=>⟨1,by decide,fun d _ _ l hl=>by cases hl⟩
 |l::L,u,p,h=>by
  obtain⟨e,he,hm⟩:=Qq L u p (h.sub fun m hm=>aJ _ hm);have h0:=h l aQ;have key: ∃f:Rat,0<f/\ ∀d,0<=d->d<=f->l.value (bF p u d)≠0:=by
   by_cases hk:l.nor.dot u=0
   ·exact⟨1,by decide,fun d _ _=>by rw[gv,hk];grind⟩
   ·generalize hA:l.value p=A at*
    generalize hB:l.nor.dot u=B at*;rcases fD A with h|h|h
    ·exact absurd h h0
    ·rcases fD B with k|k|k
     ·exact absurd k hk
     ·exact⟨1,by decide,fun d hd _=>by rw[gv,hA,hB];have:=cD hd (dQ k);grind⟩
     ·refine⟨A/(-B)/2,?_,fun d hd h2=>?_⟩
      ·have:0<A/(-B):=by
        have e1:A/(-B)*(-B)=A:=by grind
        exact(gy (k:= -B) (by grind)).1 (by rw[e1];exact h)
       grind
      ·rw[gv,hA,hB]
       have e1:A/(-B)*(-B)=A:=by grind
       generalize A/(-B)=q at*;have h4:=cD (a:=q/2-d) (b:= -B) (by grind) (by grind);grind
    ·rcases fD B with k|k|k
     ·exact absurd k hk
     ·refine⟨(-A)/B/2,?_,fun d hd h2=>?_⟩
      ·have:0<(-A)/B:=by
        have e1:(-A)/B*B= -A:=by grind
        exact(gy (k:=B) k).1 (by rw[e1];grind)
       grind
      ·rw[gv,hA,hB]
       have e1:(-A)/B*B= -A:=by grind
       generalize (-A)/B=q at*;have h4:=cD (a:=q/2-d) (b:=B) (by grind) (by grind);grind
     ·exact⟨1,by decide,fun d hd _=>by rw[gv,hA,hB];have:=cD hd (b:= -B) (by grind);grind⟩
  obtain⟨f,hf,hk⟩:=key;refine⟨if e<=f then e else f,by split<;>assumption,fun d hd hde m hm'=>?_⟩;have h1:d<=e/\d<=f:=by split at hde<;>grind
  rcases aW.1 hm' with rfl|hm'
  ·exact hk d hd h1.2
  ·exact hm d hd h1.1 m hm'
def Hz{c:aw}{p:ab}(hp:bm c p): ∀(L:List aa),(∀l∈L,l.ok)-> ∃q,bm c q/\fi L q
 |[],_=>⟨p,hp,fun l hl=>by cases hl⟩
 |l::L,h=>by
  obtain⟨q,hq,ho⟩:=Hz hp L fun m hm=>h m (aJ _ hm);by_cases h0:l.value q=0
  ·have hn:=sv (h l aQ).ne
   obtain⟨e,he,hm⟩:=hq.open l.nor;obtain⟨f,hf,hk⟩:=Qq L l.nor q ho;refine⟨bF q l.nor (if e<=f then e else f),hm _ (by split<;>grind) (by split<;>grind),fun m hm'=>?_⟩;rcases aW.1 hm' with rfl|hm'
   ·rw[gv,h0]
    have:=bO (a:=if e<=f then e else f) (b:=m.nor.dot m.nor) (by split<;>assumption) hn;grind
   ·exact hk _ (by split<;>grind) (by split<;>grind) m hm'
  ·exact⟨q,hq,fun m hm=>by rcases aW.1 hm with rfl|hm;exact h0;exact ho m hm⟩
def X'{c:aw}(hc:bP c)(L:List aa)(h: ∀l∈L,l.ok): ∃q,bm c q/\fi L q:=by
 obtain⟨p,hp⟩:=hc.ne;exact Hz hp L h
def Tr.Red:Tr->aw->Prop
 | .leaf _,_=>True
 | .node l x y,c=>dh c l=true/\dh c l.rev=true/\x.Red (cj c l)/\y.Red (cj c l.rev)/\ ¬(x.isLeaf=true/\y.isLeaf=true/\x.code=y.code)
def Tr.red_leaf{t:Tr}(h:t.isLeaf=true)(c:aw):t.Red c:=by
 cases t with
 |leaf b=>trivial
 |node l x y=>cases h
def Tr.join_red{l:aa}{x y:Tr}{c:aw}(h1:dh c l=true)(h2:dh c l.rev=true)(hx:x.Red (cj c l))(hy:y.Red (cj c l.rev)):(Tr.joinQ l x y).Red c:=by
 rcases Tr.joinQ_cases l x y with⟨e,h⟩|⟨e,h⟩
 ·rw[e];exact Tr.red_leaf h c
 ·rw[e];exact⟨h1,h2,hx,hy,h⟩
def Tr.restrict_red: ∀(t:Tr) (c:aw),(t.restrict c).Red c
 | .leaf _,_=>trivial
 | .node l x y,c=>by
  cases hb:dh c l.rev with
  |false=>rw[Tr.restrict_A _ _ hb];exact x.restrict_red c
  |true=>
   cases hb2:dh c l with
   |false=>rw[Tr.restrict_B _ _ hb hb2];exact y.restrict_red c
   |true=>rw[Tr.restrict_C _ _ hb hb2];exact Tr.join_red hb2 hb (x.restrict_red _) (y.restrict_red _)
def Tr.compl_leaf{t:Tr}:t.compl.isLeaf=t.isLeaf:=by cases t<;>rfl
def Tr.compl_code{t:Tr}(h:t.isLeaf=true):t.compl.code=!t.code:=by
 cases t with
 |leaf b=>rfl
 |node l x y=>cases h
def Tr.compl_red: ∀{t:Tr} {c:aw},t.Red c->t.compl.Red c
 | .leaf _,_,_=>trivial
 | .node l x y,c,⟨h1,h2,h3,h4,h5⟩=>by
  refine⟨h1,h2,Tr.compl_red h3,Tr.compl_red h4,fun⟨a,b,e⟩=>?_⟩;rw[Tr.compl_leaf] at a b;rw[Tr.compl_code a,Tr.compl_code b] at e;exact h5 ⟨a,b,by simpa using e⟩
def Tr.choose_red(op:Int)(b:Bool)(t:Tr)(c:aw):(t.chooseQ op b c).Red c:=by
 have h:=t.restrict_red c;unfold Tr.chooseQ;split
 ·split
  ·trivial
  ·exact h
 ·split
  ·trivial
  ·split
   ·exact Tr.compl_red h
   ·exact h
def Tr.merge_red(op:Int)(u:Tr): ∀(t:Tr) (c:aw),(t.mergeQ op u c).Red c
 | .leaf b,c=>u.choose_red op b c
 | .node l x y,c=>by
  rw[Tr.mergeQ]
  cases hb:dh c l.rev with
  |false=>rw[if_pos (show(!false)=true from J)];exact Tr.merge_red op u x c
  |true=>
   rw[if_neg (by decide)]
   cases hb2:dh c l with
   |false=>rw[if_pos (show(!false)=true from J)];exact Tr.merge_red op u y c
   |true=>rw[if_neg (by decide)];exact Tr.join_red hb2 hb (Tr.merge_red op u x _) (Tr.merge_red op u y _)
def Tr.red_restrict: ∀{t:Tr} {c:aw},t.Red c->t.restrict c=t
 | .leaf _,_,_=>rfl
 | .node l x y,c,⟨h1,h2,h3,h4,h5⟩=>by
  rw[Tr.restrict_C _ _ h2 h1,Tr.red_restrict h3,Tr.red_restrict h4];rcases Tr.joinQ_cases l x y with⟨e,h⟩|⟨e,h⟩
  ·exfalso
   unfold Tr.joinQ at e;split at e
   ·rename_i k;simp at k;exact h5 k
   ·cases x with
    |leaf b=>cases e
    |node a b d=>cases h
  ·exact e
def aa.same(l m:aa):Prop:=m=l\/m=l.rev
instance (l m:aa):Decidable (l.same m):=inferInstanceAs (Decidable (_\/_))
def Tr.cnt(l:aa):Tr->Nat
 | .leaf _=>0
 | .node m x y=>(if l.same m then 1 else 0)+(x.cnt l+y.cnt l)
def CY{l m:aa}(h:l.same m){p:ab}(hp:l.value p=0):m.value p=0:=by
 rcases h with rfl|rfl
 ·exact hp
 ·rw[fh,hp];rfl
def Ko(l:aa)(c:aw):Prop:= ∃p,bm c p/\l.value p=0
def Tr.cnt_zero{l:aa}: ∀{t:Tr} {c:aw},t.Red c->t.all aa.ok->bP c-> ¬Ko l c->t.cnt l=0
 | .leaf _,_,_,_,_,_=>rfl
 | .node m x y,c,⟨h1,h2,h3,h4,_⟩,⟨hm,hx,hy⟩,hc,hn=>by
  obtain⟨g1,i1⟩:=jy hc hm h1;obtain⟨g2,i2⟩:=jy hc hm.rev h2;have e1:=Tr.cnt_zero (l:=l) h3 hx g1 (fun⟨p,hp,h0⟩=>hn ⟨p,((i1 p).1 hp).1,h0⟩);have e2:=Tr.cnt_zero (l:=l) h4 hy g2 (fun⟨p,hp,h0⟩=>hn ⟨p,((i2 p).1 hp).1,h0⟩);rw[Tr.cnt,e1,e2];by_cases hs:l.same m
  ·exfalso
   -- m crosses the cell
   obtain⟨p,hp,k1⟩:=(sr hc hm).1 h1;obtain⟨q,hq,k2⟩:=(sr hc hm.rev).1 h2;rw[fh] at k2;generalize hA:m.value p=A at*;generalize hB:m.value q=B at*;have hAB:0<A-B:=by grind
   have e:A/(A-B)*(A-B)=A:=by grind
   generalize A/(A-B)=r at*;have r0:0<=r:=(kw hAB).1 (by rw[e];exact dQ k1);have r1:r<=1:=by
    have:=(kw (s:=1-r) hAB).1 (by grind);grind
   have hz:=hp.seg hq r0 r1;have hv:m.value (bj p q r)=0:=by rw[nO,hA,hB];grind
   refine hn ⟨_,hz,?_⟩;rcases hs with rfl|rfl
   ·exact hv
   ·rw[fh] at hv;grind
  ·rw[if_neg hs]
def si(c:aw)(p:ab):Bool:=c.all fun s=>decide (0<s.l.value p)
def t8{c:aw}{p:ab}:si c p=true↔bm c p:=by
 unfold si bm;rw[dK];simp
def TL(P:List ab)(l:aa)(t:Tr):Prop:=t.all fun m=>l.same m\/ ∀p,l.value p=0->m.value p=0->p∈P
def JG{α:Type}{p q r:α->Bool}: ∀(P:List α),(∀x∈P,q x=true->p x=true)->(∀x∈P,r x=true->p x=true)->(∀x∈P,¬(q x=true/\r x=true))->P.countP q+P.countP r<=P.countP p
 |[],_,_,_=>aN _
 |x::P,h1,h2,h3=>by
  have ih:=JG (p:=p) (q:=q) (r:=r) P (fun y hy=>h1 y (aJ _ hy)) (fun y hy=>h2 y (aJ _ hy)) (fun y hy=>h3 y (aJ _ hy));have a:=h1 x aQ;have b:=h2 x aQ;have c:=h3 x aQ;rw[pV,pV,pV]
  cases hq:q x<;>cases hr:r x<;>simp_all<;>omega
def Pr{α:Type}{p q r:α->Bool}: ∀(P:List α),(∀x∈P,q x=true->p x=true)->(∀x∈P,r x=true->p x=true)->(∀x∈P,¬(q x=true/\r x=true))->(∃x∈P,p x=true/\q x=false/\r x=false)->P.countP q+P.countP r+1<=P.countP p
 |[],_,_,_,⟨x,hx,_⟩=>by cases hx
 |x::P,h1,h2,h3,h4=>by
  have i2:=JG (p:=p) (q:=q) (r:=r) P (fun y hy=>h1 y (aJ _ hy)) (fun y hy=>h2 y (aJ _ hy)) (fun y hy=>h3 y (aJ _ hy));have a:=h1 x aQ;have b:=h2 x aQ;have c:=h3 x aQ;rw[pV,pV,pV];obtain⟨z,hz,k1,k2,k3⟩:=h4;rcases aW.1 hz with rfl|hz
  ·simp only[k1,k2,k3];simp;omega
  ·have ih:=Pr (p:=p) (q:=q) (r:=r) P (fun y hy=>h1 y (aJ _ hy)) (fun y hy=>h2 y (aJ _ hy)) (fun y hy=>h3 y (aJ _ hy)) ⟨z,hz,k1,k2,k3⟩
   cases hq:q x<;>cases hr:r x<;>simp_all<;>omega
def Tr.cnt_le{l:aa}(hl:l.ok){P:List ab}: ∀{t:Tr} {c:aw},t.Red c->t.all aa.ok->bP c->TL P l t->t.cnt l<=1+P.countP (si c)
 | .leaf _,_,_,_,_,_=>bV _
 | .node m x y,c,⟨h1,h2,h3,h4,_⟩,⟨hm,hx,hy⟩,hc,⟨v0,v1,v2⟩=>by
  obtain⟨g1,i1⟩:=jy hc hm h1;obtain⟨g2,i2⟩:=jy hc hm.rev h2;have q1: ∀p∈P,si (cj c m) p=true->si c p=true:=fun p _ h=>t8.2 ((i1 p).1 (t8.1 h)).1;have q2: ∀p∈P,si (cj c m.rev) p=true->si c p=true:=fun p _ h=>t8.2 ((i2 p).1 (t8.1 h)).1;have q3: ∀p∈P,¬(si (cj c m) p=true/\si (cj c m.rev) p=true):=fun p _ ⟨a,b⟩=>by
   have a:=((i1 p).1 (t8.1 a)).2;have b:=((i2 p).1 (t8.1 b)).2;rw[fh] at b;grind
  have ct:=JG P q1 q2 q3;rw[Tr.cnt];by_cases hs:l.same m
  ·have e1:=Tr.cnt_zero (l:=l) h3 hx g1 (fun⟨p,hp,h0⟩=>by have:=((i1 p).1 hp).2;rw[CY hs h0] at this;grind)
   have e2:=Tr.cnt_zero (l:=l) h4 hy g2 (fun⟨p,hp,h0⟩=>by have:=((i2 p).1 hp).2;rw[fh,CY hs h0] at this;grind);rw[e1,e2,if_pos hs];omega
  ·rw[if_neg hs]
   have b1:=Tr.cnt_le hl h3 hx g1 v1;have b2:=Tr.cnt_le hl h4 hy g2 v2;by_cases w1:Ko l (cj c m)
   ·by_cases w2:Ko l (cj c m.rev)
    ·-- the crossing s7 in the cell
     obtain⟨p,hp,k1⟩:=w1;obtain⟨q,hq,k2⟩:=w2;obtain⟨hp,ap⟩:=(i1 p).1 hp;obtain⟨hq,aq⟩:=(i2 q).1 hq;rw[fh] at aq;generalize hA:m.value p=A at*;generalize hB:m.value q=B at*;have hAB:0<A-B:=by grind
     have e:A/(A-B)*(A-B)=A:=by grind
     generalize A/(A-B)=r at*;have r0:0<=r:=(kw hAB).1 (by rw[e];exact dQ ap);have r1:r<=1:=by
      have:=(kw (s:=1-r) hAB).1 (by grind);grind
     have hz:=hp.seg hq r0 r1;have hv:m.value (bj p q r)=0:=by rw[nO,hA,hB];grind
     have hv2:l.value (bj p q r)=0:=by rw[nO,k1,k2];grind
     have hmem:bj p q r∈P:=by
      rcases v0 with h|h
      ·exact absurd h hs
      ·exact h _ hv2 hv
     have c3:=Pr P q1 q2 q3 ⟨_,hmem,t8.2 hz,by
      rw[<-nW,t8,i1];rintro ⟨_,h⟩;rw[hv] at h;grind,by
      rw[<-nW,t8,i2];rintro ⟨_,h⟩;rw[fh,hv] at h;grind⟩
     omega
    ·rw[Tr.cnt_zero h4 hy g2 w2];omega
   ·rw[Tr.cnt_zero h3 hx g1 w1];omega
def HJ(l:aa):l.rev.rev=l:=by cases l;simp[aa.rev]
def aa.same.symm{l m:aa}(h:l.same m):m.same l:=by
 rcases h with rfl|rfl
 ·exact .inl J
 ·exact .inr (HJ l).symm
def aa.same.trans{l m n:aa}(h:l.same m)(k:m.same n):l.same n:=by
 rcases h with rfl|rfl
 ·exact k
 ·rcases k with rfl|rfl
  ·exact .inr J
  ·exact .inl (HJ l)
def lz(K:List aa)(t:Tr):Prop:=t.all fun n=> ∃m∈K,m.same n
def DW(l m:aa):ab:=l.at (-(l.cutC m/l.cutK m))
def aph{l m:aa}(hl:l.ok)(hm:m.ok){p:ab}(h1:l.value p=0)(h2:m.value p=0):l.same m\/p=DW l m:=by
 obtain⟨t,rfl⟩:=zz hl.ne h1;rw[j'] at h2;by_cases hk:l.cutK m=0
 ·left
  have hc:l.cutC m=0:=by rw[hk] at h2;grind
  rcases zf hm hl (fun s=>by rw[j',hk,hc];grind) with h|h
  ·exact .inl h
  ·exact .inr h
 ·right
  unfold DW;congr 1;grind
def lz.covers{K:List aa}(hK: ∀m∈K,m.ok){l:aa}(hl:l.ok): ∀{t:Tr},lz K t->TL (K.map (DW l)) l t
 | .leaf _,_=>trivial
 | .node n x y,⟨⟨m,hm,hs⟩,h1,h2⟩=>by
  refine⟨?_,lz.covers hK hl h1,lz.covers hK hl h2⟩;by_cases h:l.same n
  ·exact .inl h
  ·right
   intro p k1 k2;rcases aph hl (hK m hm) k1 (CY hs.symm k2) with h3|h3
   ·exact absurd (h3.trans hs) h
   ·rw[h3];exact eJ hm
def Kc(t:Tr):List aa->Nat
 |[]=>0
 |l::K=>t.cnt l+Kc t K
def Ks(n:aa):List aa->Nat
 |[]=>0
 |l::K=>(if l.same n then 1 else 0)+Ks n K
def PU{n:aa}{x y:Tr}: ∀K,Kc (.node n x y) K=Ks n K+(Kc x K+Kc y K)
 |[]=>rfl
 |l::K=>by
  have:=PU (n:=n) (x:=x) (y:=y) K;show(Tr.node n x y).cnt l+Kc (.node n x y) K=_;rw[this,Tr.cnt];show _=(if l.same n then 1 else 0)+Ks n K+(x.cnt l+Kc x K+(y.cnt l+Kc y K));omega
def Pk{n m:aa}(hs:m.same n): ∀{K:List aa},m∈K->1<=Ks n K
 |[],h=>by cases h
 |l::K,h=>by
  show 1<=(if l.same n then 1 else 0)+Ks n K;rcases aW.1 h with rfl|h
  ·rw[if_pos hs];omega
  ·have:=Pk hs h;omega
def H7{K:List aa}: ∀{t:Tr},lz K t->t.size<=Kc t K
 | .leaf _,_=>bV _
 | .node n x y,⟨⟨m,hm,hs⟩,h1,h2⟩=>by
  have a:=H7 h1;have b:=H7 h2;have c:=Pk hs hm;rw[PU,Tr.size];omega
def Qm{t:Tr}{B:Nat}: ∀{K:List aa},(∀l∈K,t.cnt l<=B)->Kc t K<=K.length*B
 |[],_=>bV _
 |l::K,h=>by
  have:=Qm (t:=t) (B:=B) (K:=K) fun m hm=>h m (aJ _ hm);have:=h l aQ;show t.cnt l+Kc t K<=(K.length+1)*B;rw[iR];omega
def Tr.size_le{K:List aa}(hK: ∀m∈K,m.ok){t:Tr}{c:aw}(hr:t.Red c)(ht:t.all aa.ok)(hc:bP c)(h:lz K t):t.size<=K.length*(1+K.length):=by
 refine cR (H7 h) (Qm fun l hl=>?_);refine cR (Tr.cnt_le (hK l hl) hr ht hc (h.covers hK (hK l hl))) ?_;have:=List.countP_le_length (p:=si c) (l:=K.map (DW l));rw[aK] at this;omega
def lz.mono{K M:List aa}{t:Tr}(h:lz K t)(k: ∀l∈K,∃m∈M,m.same l):lz M t:=sd.2 fun l hl=>by
 obtain⟨m,hm,hs⟩:=sd.1 h l hl;obtain⟨n,hn,hs2⟩:=k m hm;exact⟨n,hn,hs2.trans hs⟩
def lz.restrict{K:List aa}{t:Tr}(h:lz K t)(c:aw):lz K (t.restrict c):=t.restrict_all _ c h
def lz.merge{K:List aa}{op:Int}{t u:Tr}(h:lz K t)(hu:lz K u)(c:aw):lz K (t.mergeQ op u c):=Tr.mergeQ_all _ op hu t c h
def Tr.chooseL(op:Int)(b:Bool)(t:Tr)(c:List aa):Tr:=
 if op=1/\b=true then .leaf true
 else if(op=2\/op=3)/\b=false then .leaf false
 else if(op=3\/op=4)/\b=true then(t.restrictL c).compl else t.restrictL c
def Tr.mergeL(op:Int):Tr->Tr->List aa->Tr
 | .leaf b,u,c=>u.chooseL op b c
 | .node l x y,u,c=>if nP c l=1 then x.mergeL op u c else if nP c l= -1 then y.mergeL op u c else joinQ l (x.mergeL op u (e8 (c++[l]))) (y.mergeL op u (e8 (c++[l.rev])))
def Tr.chooseL_eq{op:Int}(ho:1<=op/\op<=4)(b:Bool)(t:Tr)(c:List aa)(d:aw)(ht:t.all aa.ok)(hc: ∀l∈c,l.ok)(hd:bP d)(he: ∀p,bm d p↔cI c p):t.chooseL op b c=t.chooseQ op b d:=by
 have h:=t.restrictL_eq c d ht hc hd he;unfold Tr.chooseL Tr.chooseQ;rw[h];have:op=1\/op=2\/op=3\/op=4:=by omega
 rcases this with rfl|rfl|rfl|rfl<;>cases b<;>simp
def Tr.mergeL_eq{op:Int}(ho:1<=op/\op<=4)(u:Tr)(hu:u.all aa.ok): ∀(t:Tr) (c:List aa) (d:aw),t.all aa.ok->(∀l∈c,l.ok)->bP d->(∀p,bm d p↔cI c p)->t.mergeL op u c=t.mergeQ op u d
 | .leaf b,c,d,_,hc,hd,he=>u.chooseL_eq ho b c d hu hc hd he
 | .node l x y,c,d,h,hc,hd,he=>by
  obtain⟨hl,hx,hy⟩:=h;have i1:=zq (iv hc hl);have i2:=zq (iv hc hl.rev);obtain⟨p0,hp0⟩:=hd.ne;rcases s7 hd hl with⟨a1,a⟩|⟨a1,a2,a⟩|⟨a1,a2,ag1,ag2,ae1,ae2⟩
  ·have b1:iO (c++[l])=true:=i1.2 ⟨p0,jx.2 ⟨(he p0).1 hp0,a p0 hp0⟩⟩
   have b2:iO (c++[l.rev])=false:=by
    rw[<-nW,i2];rintro ⟨p,hp⟩;have hp:=jx.1 hp;have:=a p ((he p).2 hp.1);rw[fh] at hp;grind
   rw[Tr.mergeQ,a1,if_pos (show(!false)=true from J),Tr.mergeL,nP,b1,b2];exact Tr.mergeL_eq ho u hu x c d hx hc hd he
  ·have b2:iO (c++[l.rev])=true:=i2.2 ⟨p0,jx.2 ⟨(he p0).1 hp0,by rw[fh];have:=a p0 hp0;grind⟩⟩
   have b1:iO (c++[l])=false:=by
    rw[<-nW,i1];rintro ⟨p,hp⟩;have hp:=jx.1 hp;have:=a p ((he p).2 hp.1);grind
   rw[Tr.mergeQ,a1,a2,if_neg (by decide),if_pos (show(!false)=true from J),Tr.mergeL,nP,b1,b2];exact Tr.mergeL_eq ho u hu y c d hy hc hd he
  ·have n1: ∃p,cI (c++[l]) p:=by
    obtain⟨p,hp⟩:=ag1.ne;exact⟨p,jx.2 ⟨(he p).1 ((ae1 p).1 hp).1,((ae1 p).1 hp).2⟩⟩
   have n2: ∃p,cI (c++[l.rev]) p:=by
    obtain⟨p,hp⟩:=ag2.ne;exact⟨p,jx.2 ⟨(he p).1 ((ae2 p).1 hp).1,by rw[fh];have:=((ae2 p).1 hp).2;grind⟩⟩
   rw[Tr.mergeQ,a1,a2,if_neg (by decide),if_neg (by decide),Tr.mergeL,nP,i1.2 n1,i2.2 n2];have k1:=Tr.mergeL_eq ho u hu x (e8 (c++[l])) (cj d l) hx (fun m hm=>iv hc hl m (pc.1 hm).1) ag1 fun p=>by
    rw[AJ (iv hc hl) n1,ae1,jx,he]
   have k2:=Tr.mergeL_eq ho u hu y (e8 (c++[l.rev])) (cj d l.rev) hy (fun m hm=>iv hc hl.rev m (pc.1 hm).1) ag2 fun p=>by
    rw[AJ (iv hc hl.rev) n2,ae2,jx,he,fh];constructor<;>rintro ⟨a,b⟩<;>exact⟨a,by grind⟩
   rw[k1,k2];rfl
def aB6(p:ab):bm [] p↔cI [] p:=by unfold bm cI;simp
def Tr.mergeL_nil{op:Int}(ho:1<=op/\op<=4){t u:Tr}(ht:t.all aa.ok)(hu:u.all aa.ok):t.mergeL op u []=t.mergeQ op u []:=
 Tr.mergeL_eq ho u hu t [] [] ht (fun l hl=>by cases hl) bP.nil aB6
def Tr.mergeQ_depth(op:Int)(u:Tr): ∀(t:Tr) (c:aw),(t.mergeQ op u c).depth<=t.depth+u.depth
 | .leaf b,c=>by
  have:=u.restrict_depth c;have h2:=(u.restrict c).compl_depth;show(u.chooseQ op b c).depth<=_;unfold Tr.chooseQ;split
  ·split
   ·exact bV _
   ·simp only[Tr.depth];omega
  ·split
   ·exact bV _
   ·split
    ·simp only[Tr.depth];omega
    ·simp only[Tr.depth];omega
 | .node l x y,c=>by
  have hx:=fun c=>Tr.mergeQ_depth op u x c;have hy:=fun c=>Tr.mergeQ_depth op u y c;rw[Tr.mergeQ];simp only[Tr.depth];split
  ·have:=hx c;omega
  ·split
   ·have:=hy c;omega
   ·have h1:=hx (cj c l)
    have h2:=hy (cj c l.rev);rcases Tr.joinQ_cases l (x.mergeQ op u (cj c l)) (y.mergeQ op u (cj c l.rev)) with⟨h,_⟩|⟨h,_⟩<;>rw[h]<;>(try simp only[Tr.depth])<;>omega
structure Gen (L:List aa) (a b:Tr):Prop where
 oa:a.all aa.ok
 ob:b.all aa.ok
 ok: ∀l∈L,l.ok
 la: ∀l∈a.lns,l∈L
 lb: ∀l∈b.lns,l∈L
def mH(x:Rat):List Rat->List Rat
 |[]=>[x]
 |u::t=>if u<x then u::mH x t else if u=x then u::t else x::u::t
def HF(l:List Rat):List Rat:=l.foldl (fun out x=>mH x out) []
def iI:List Rat->List Rat
 |a::b::t=>(a+b)/2::iI (b::t)
 |_=>[]
def e7:List Rat->List Rat
 |[]=>[0]
 |a::t=>(a-1)::(iI (a::t)++[(a::t).getLast (by simp)+1])
def qj{x y:Rat}: ∀{l:List Rat},y∈mH x l↔y=x\/y∈l
 |[]=>by simp[mH]
 |u::t=>by
  rw[mH];split
  ·rw[aW,qj (l:=t),aW];grind
  ·split
   ·rename_i h;subst h;simp
   ·simp
def Bq{x:Rat}: ∀{l:List Rat},l.Pairwise (· < ·)->(mH x l).Pairwise (· < ·)
 |[],_=>by simp[mH]
 |u::t,h=>by
  rw[bR] at h;rw[mH];split
  ·rename_i hu
   rw[bR];refine⟨fun y hy=>?_,Bq h.2⟩;rcases qj.1 hy with rfl|hy
   ·exact hu
   ·exact h.1 y hy
  ·rename_i hu
   split
   ·rw[bR];exact h
   ·rename_i hn
    have hx:x<u:=by grind
    rw[bR,bR];refine⟨fun y hy=>?_,h⟩;rcases aW.1 hy with rfl|hy
    ·exact hx
    ·have:=h.1 y hy;grind
def MC: ∀{l:List Rat} (h:l.Pairwise (· < ·)) (hn:l≠[]),∀y∈l,y<=l.getLast hn
 |[a],_,_,y,hy=>by rw[aU] at hy;subst hy;exact dR
 |a::b::t,h,_,y,hy=>by
  rw[bR] at h;rw[List.getLast_cons (by simp)];have ih:=MC h.2 (by simp);rcases aW.1 hy with rfl|hy
  ·have:=h.1 b aQ
   have:=ih b aQ;grind
  ·exact ih y hy
def Ph:List aa->List Rat
 |[]=>[]
 |a::t=>(if a.b=0 then [a.base.x] else [])++(t.filterMap (fun b=>if crossI a b=0 then none else some (d9 a b).x)++Ph t)
def yA(a:aa)(x:Rat):Rat:= -(((a.a:Rat)*x+(a.c:Rat))/(a.b:Rat))
def No(l:List aa)(x:Rat):List Rat:=l.filterMap fun a=>if a.b=0 then none else some (yA a x)
def SF(l:List aa):List ab:=(e7 (HF (Ph l))).flatMap fun x=>(e7 (HF (No l x))).map fun y=>⟨x,y⟩
def aII(l:aa)(p:ab):aa:=if 0<l.value p then l else l.rev
end Go.Sx
end
