import Derived.Test.YtjpdfobnjmflkaaGreatDoorMs15
set_option linter.all false
set_option maxHeartbeats 4000000
set_option maxRecDepth 100000
section
namespace Go.Sx
open Go Go.Proofs Tryz
variable {GB G A:Gh}{k i n nm ty e:Nat}{t a b y:Tr}{r:List ZP}{p:ah}{u:ZP}{v:Value}{es es0:List Int}{C:aE}{Q0:Exit->Act->World->Prop}{fr fr' fr1 fr2:aD}{own' own1 own2:aI}{cf cf' cf1 cf2:Cf}{vc vc1 vc2:List Prop}{op r0:Int}{ls l:List aa}{c:ao}{ns:List NQ}{α β:Type}{qs cuts:List Rat}
def js.red_size(h:js k t)(hr:t.Red []):t.size<=k*(1+k):=by
 obtain⟨K,h1,h2,h3⟩:=h.am;exact cM (Tr.size_le h2 hr h.gd.ok bC.nil h3) (fM h1 (by omega))
structure gc (k:Nat) (t:Tr):Prop where
 o:js k t
 s:t.size<=3000
def gc.gd{k:Nat}{t:Tr}(h:gc k t):t.gd:=h.o.gd
def gc.lb{k:Nat}{t:Tr}(h:gc k t):t.all LB:=h.o.gd.lb
def gc.ok{k:Nat}{t:Tr}(h:gc k t):t.all aa.ok:=h.o.gd.ok
def gc.bl{k:Nat}{t:Tr}(h:gc k t):t.all (fun l=>BL l 96):=Tr.all_imp (fun _ h=>h.bl) h.o.gd.lb
def gc.dp{k:Nat}{t:Tr}(h:gc k t):t.depth<=k:=h.o.dp
def gc.compl{k:Nat}{t:Tr}(h:gc k t):gc k t.compl:=⟨h.o.compl,by rw[t.compl_size];exact h.s⟩
def js.x(h:js k t)(hr:t.Red [])(hk:k<=54):gc k t:=
 ⟨h,cM (h.red_size hr) (cM (fM hk (show 1+k<=55 by omega)) (by decide))⟩
def C0(rs:List (List ZP))(fill:Int):(fC rs fill).Red []:=Tr.restrict_red _ _
def iF(r:List ZP)(i k:Nat):Bool:=decide (k=i)||decide (k=(i+1)%r.length)||decide (0<uU (r.getD i (0,0)).q (i7 r i).q (r.getD k (0,0)).q)
def EC(r:List ZP):Bool:=(List.range r.length).all fun i=>(List.range r.length).all fun k=>iF r i k
def Lr(hi:i<r.length)(hk:k<r.length)(h:iF r i k=false):EC r=false:=by
 rw[Bool.eq_false_iff];intro e;have:=(dJ.1 ((dJ.1 e) i (kQ.2 hi))) k (kQ.2 hk);rw[h] at this;cases this
def Mp(h: ∀i,i<r.length-> ∀k,k<r.length->iF r i k=true):EC r=true:=
 dJ.2 fun i hi=>dJ.2 fun k hk=>h i (kQ.1 hi) k (kQ.1 hk)
def KE(a b c:ZP):uU a.q b.q c.q=(jv (b.1-a.1,b.2-a.2) (c.1-a.1,c.2-a.2)).sign:=by
 have e:ah.cross (cF b.q a.q (-1)) (cF c.q a.q (-1))=((jv (b.1-a.1,b.2-a.2) (c.1-a.1,c.2-a.2):Int):Rat):=by
  unfold ah.cross cF jv ZP.q iP;push_cast;grind
 unfold uU;rw[e,mL]
def GC{a:Int}:0<a.sign↔0<a:=by
 rcases pY a 0 with h|h|h
 .rw[eK h];omega
 .subst h;simp
 .rw[fT h];omega
def ZV{p v:ZP}:EC (gp p u v)=decide (0<jv u v):=by
 obtain⟨p1,p2⟩:=p;obtain⟨u1,u2⟩:=u;obtain⟨v1,v2⟩:=v;have e1:iF (gp (p1,p2) (u1,u2) (v1,v2)) 0 2=decide (0<jv (u1,u2) (v1,v2)):=by
  unfold iF i7 gp j0;simp only[bZ,dS,qW,oY,Nat.reduceAdd,Nat.reduceMod,KE,GC];simp[jv];congr 2
  all_goals (first|omega|grind)
 have e2:iF (gp (p1,p2) (u1,u2) (v1,v2)) 1 0=decide (0<jv (u1,u2) (v1,v2)):=by
  unfold iF i7 gp j0;simp only[bZ,dS,qW,oY,Nat.reduceAdd,Nat.reduceMod,KE,GC];simp[jv];constructor<;>intro h<;>grind
 have e3:iF (gp (p1,p2) (u1,u2) (v1,v2)) 2 1=decide (0<jv (u1,u2) (v1,v2)):=by
  unfold iF i7 gp j0;simp only[bZ,dS,qW,oY,Nat.reduceAdd,Nat.reduceMod,KE,GC];simp[jv];constructor<;>intro h<;>grind
 by_cases h:0<jv (u1,u2) (v1,v2)
 .rw[decide_eq_true h] at e1 e2 e3⊢
  refine Mp fun i hi k hk=>?_;have hl:(gp (p1,p2) (u1,u2) (v1,v2)).length=3:=J;rw[hl] at hi hk;have hs: ∀j,iF (gp (p1,p2) (u1,u2) (v1,v2)) j j=true:=fun j=>by unfold iF;simp
  have hn: ∀j,iF (gp (p1,p2) (u1,u2) (v1,v2)) j ((j+1)%3)=true:=fun j=>by unfold iF;simp[hl]
  have h1:i=0\/i=1\/i=2:=by omega
  have h2:k=0\/k=1\/k=2:=by omega
  rcases h1 with rfl|rfl|rfl<;>rcases h2 with rfl|rfl|rfl<;>first|assumption|exact hs _|exact hn _
 .rw[decide_eq_false h] at e1⊢
  exact Lr (i:=0) (k:=2) (by simp[gp]) (by simp[gp]) e1
def UW(hle: ∀p∈r,ZP.le 100 p)(h6:r.length<=6):PF GB prog 39 [.sl (r.map pe)] (vB (EC r)):=by
 have hm:=eo pe r;refine fn (fu:=⟨9⟩) func39 J J ntmps39 J J (fun C=>?_);refine aj 7 (.d (vI (r.length:Nat))) J (by rw[hm]<;>rfl)<|gx (fu:=⟨8⟩) J<|aj 9 (.d (vI (r.length:Nat))) J (by rw[hm]<;>rfl)<|gx J<|lp (X:=Nat) (fun i=>[(10, .d (vI (i:Nat)))]) (fun i=>[]) (fun i=>i<=r.length/\ ∀j,j<i-> ∀q,q<r.length->iF r j q=true) (fun i=>r.length-i) 0 J ⟨aM _,fun j hj=>absurd hj (by omega)⟩ (fun _=>J) (fun i hk=>?_);obtain⟨i1,i2⟩:=hk;refine br (fu1:=⟨14⟩) J J J (fun hc11=>?_) (fun hc11=>?_)
 .
  have hir:i<r.length:=by omega
  refine aj 14 (.d (vI (r.length:Nat))) J (by rw[hm]<;>rfl)<|gx J<|lp (X:=Nat) (fun k=>[(15, .d (vI (k:Nat)))]) (fun k=>[]) (fun k=>k<=r.length/\ ∀q,q<k->iF r i q=true) (fun k=>r.length-k) 0 J ⟨aM _,fun j hj=>absurd hj (by omega)⟩ (fun _=>J) (fun k hk=>?_);obtain⟨k1,k2⟩:=hk;refine br (fu1:=⟨14⟩) J J J (fun hc16=>?_) (fun hc16=>?_)
  .
   have hkr:k<r.length:=by omega
   haveI hvb:aC (r.getD i (0,0)).q 12:=uP (hle _ (uI hir));haveI hwb:aC (i7 r i).q 12:=uP (hle _ (wZ hir));haveI hub:aC (r.getD k (0,0)).q 12:=uP (hle _ (uI hkr));refine kj (fu1:=⟨6⟩) (v2:=fun hg20=>by simp only[ak];exact⟨by kernel_rfl,by omega⟩) J J J J (fun hg20=>?_) (fun hg20=>?_)
   .
    refine aj 26 (.d (vI ((i+1)%r.length:Nat))) J (by rfl)<|gx (fu:=⟨0⟩) J<|kj (v2:=fun hg27=>by simp only[ak];exact⟨by kernel_rfl,by omega⟩) J J J J (fun hg27=>?_) (fun hg27=>?_)
    .
     refine ix (fu:=⟨6⟩) _ J (Bl hir) J<|aj 38 (.d (vI ((i+1)%r.length:Nat))) J (by rfl)<|gx J<|ix _ J (JC hir) J<|ix _ J (Bl hkr) J<|cl J (IX (a:=(r.getD i (0,0)).q) (b:=(i7 r i).q) (c:=(r.getD k (0,0)).q) (i:=12) (j:=12) (k:=12)) J<|br J J J (fun hc47=>?_) (fun hc47=>?_)
     .
      have hcv:iF r i k=false:=by unfold iF;rw[decide_eq_false (show¬k=i by omega),decide_eq_false (show¬k=(i+1)%r.length by omega),decide_eq_false (show¬0<(uU (r.getD i (0,0)).q (i7 r i).q (r.getD k (0,0)).q) by omega)];rfl
      exact rz J (by rw[Lr hir hkr hcv];rfl)
     .
      have hcv:iF r i k=true:=by unfold iF;rw[decide_eq_true (show 0<uU _ _ _ by omega)];simp
      exact at_ (k+1) ⟨⟨by omega,fun q hq=>by by_cases e:q=k;(subst e;exact hcv);exact k2 q (by omega)⟩,(by omega)⟩
    .
     have hcv:iF r i k=true:=by unfold iF;rw[decide_eq_true (show k=(i+1)%r.length by omega)];simp
     exact at_ (k+1) ⟨⟨by omega,fun q hq=>by by_cases e:q=k;(subst e;exact hcv);exact k2 q (by omega)⟩,(by omega)⟩
   .
    have hcv:iF r i k=true:=by unfold iF;rw[decide_eq_true (show k=i by omega)];rfl
    exact at_ (k+1) ⟨⟨by omega,fun q hq=>by by_cases e:q=k;(subst e;exact hcv);exact k2 q (by omega)⟩,(by omega)⟩
  .
   obtain rfl:k=r.length:=by omega
   exact at_ (i+1) ⟨⟨by omega,fun j hj q hq=>by by_cases e:j=i;(subst e;exact k2 q (by omega));exact i2 j (by omega) q hq⟩,(by omega)⟩
 .
  obtain rfl:i=r.length:=by omega
  exact rz J (by rw[Mp fun j hj q hq=>i2 j hj q hq];rfl)
def YE{p v:ZP}(h1:ZP.le 40 p)(h2:ZP.le 40 u)(h3:ZP.le 40 v): ∀q∈gp p u v,ZP.le 100 q:=fun q hq=>by
 unfold ZP.le at*;simp only[gp,j0,aW,dT,or_false] at hq;rcases hq with rfl|rfl|rfl<;>((try dsimp only);omega)
def Uo{p v:ZP}(h1:ZP.le 40 p)(h2:ZP.le 40 u)(h3:ZP.le 40 v):PF GB prog 39 [.sl ((gp p u v).map pe)] (vB (decide (0<jv u v))):=by
 have:=UW (GB:=GB) (r:=gp p u v) (YE h1 h2 h3) (by simp[gp]);rw[ZV] at this;exact this
def H4{b:Nat}(hes:es.length<=400){a:Nat}(ha:a<=es.length):PM GB prog 8 (kv [none] b) b 84 [.sl (es.map vI), .v (.int .i64 (a:Nat))] (jg (gn es a).1) [.sl (es.map vI), .v (.int .i64 ((gn es a).2:Nat))]:=by
 have hk0:=hH (n:=2) ha;have hx1:=hH (n:=3) hk0;have hy1:=hH (n:=3) hx1;have l1:=dO (es:=es) (n:=3) (a:=(au es 2 a).2);have l2:=dO (es:=es) (n:=3) (a:=(au es 3 (au es 2 a).2).2);refine xW func8 J J ntmps8 J J (fun C b m lo hmb=>?_);refine cm J (fun b=>(nF (n:=2) hes ha)) J<|br J J J (fun hc13=>?_) (fun hc13=>?_)
 .
  have hz1:=hH (n:=2) hy1;have l3:=dO (es:=es) (n:=2) (a:=(au es 3 (au es 3 (au es 2 a).2).2).2);have l4:=dO (es:=es) (n:=2) (a:=(au es 2 (au es 3 (au es 3 (au es 2 a).2).2).2).2);refine cm J (fun b=>(nF (n:=3) hes hk0)) J<|cm J (fun b=>(nF (n:=3) hes hx1)) J<|cm J (fun b=>(nF (n:=2) hes hy1)) J<|cm J (fun b=>(nF (n:=2) hes hz1)) J<|cl J (i8 (m:=(((au es 3 (au es 2 a).2).1:Int)-1)) (n:=(((au es 3 (au es 3 (au es 2 a).2).2).1:Int)-1))) J<|cl J (i8 (m:=(((au es 3 (au es 2 a).2).1:Int)-1+1+((au es 2 (au es 3 (au es 3 (au es 2 a).2).2).2).1:Int))) (n:=(((au es 3 (au es 3 (au es 2 a).2).2).1:Int)-1))) J<|cl J (i8 (m:=(((au es 3 (au es 2 a).2).1:Int)-1+1+((au es 2 (au es 3 (au es 3 (au es 2 a).2).2).2).1:Int))) (n:=(((au es 3 (au es 3 (au es 2 a).2).2).1:Int)-1+1+((au es 2 (au es 2 (au es 3 (au es 3 (au es 2 a).2).2).2).2).1:Int)))) J<|cl J (i8 (m:=(((au es 3 (au es 2 a).2).1:Int)-1)) (n:=(((au es 3 (au es 3 (au es 2 a).2).2).1:Int)-1+1+((au es 2 (au es 2 (au es 3 (au es 3 (au es 2 a).2).2).2).2).1:Int)))) J<|rf J J<|?_;exact mF hmb J J (by rw[show gn es a=_ from if_pos hc13];rfl) (by rw[show gn es a=_ from if_pos hc13];rfl)
 .
  have hu1:=hH (n:=2) hy1;have hu2:=hH (n:=3) hu1;have hv1:=hH (n:=3) hu2;have m1:=dO (es:=es) (n:=2) (a:=(au es 3 (au es 3 (au es 2 a).2).2).2);have m2:=dO (es:=es) (n:=3) (a:=(au es 2 (au es 3 (au es 3 (au es 2 a).2).2).2).2);have m3:=dO (es:=es) (n:=3) (a:=(au es 3 (au es 2 (au es 3 (au es 3 (au es 2 a).2).2).2).2).2);have m4:=dO (es:=es) (n:=2) (a:=(au es 3 (au es 3 (au es 2 (au es 3 (au es 3 (au es 2 a).2).2).2).2).2).2);refine cm J (fun b=>(nF (n:=3) hes hk0)) J<|cm J (fun b=>(nF (n:=3) hes hx1)) J<|cl J (i8 (m:=(((au es 3 (au es 2 a).2).1:Int)-1)) (n:=(((au es 3 (au es 3 (au es 2 a).2).2).1:Int)-1))) J<|cm J (fun b=>(nF (n:=2) hes hy1)) J<|cm J (fun b=>(nF (n:=3) hes hu1)) J<|cl J (i8 (m:=(1+((au es 2 (au es 3 (au es 3 (au es 2 a).2).2).2).1:Int))) (n:=(((au es 3 (au es 2 (au es 3 (au es 3 (au es 2 a).2).2).2).2).1:Int)-1))) J<|cm J (fun b=>(nF (n:=3) hes hu2)) J<|cm J (fun b=>(nF (n:=2) hes hv1)) J<|cl J (i8 (m:=(((au es 3 (au es 3 (au es 2 (au es 3 (au es 3 (au es 2 a).2).2).2).2).2).1:Int)-1)) (n:=(1+((au es 2 (au es 3 (au es 3 (au es 2 (au es 3 (au es 3 (au es 2 a).2).2).2).2).2).2).1:Int)))) J<|cl J (iw (n:=1)) J<|cl J (EU (m:=(((au es 3 (au es 2 a).2).1:Int)-1)) (n:=(((au es 3 (au es 3 (au es 2 a).2).2).1:Int)-1)) (m':=(1+((au es 2 (au es 3 (au es 3 (au es 2 a).2).2).2).1:Int))) (n':=(((au es 3 (au es 2 (au es 3 (au es 3 (au es 2 a).2).2).2).2).1:Int)-1)) (k:=1) (by omega) (by omega) (by omega) (by omega)) J<|cl J (iw (n:=1)) J<|cl J (EU (m:=(((au es 3 (au es 2 a).2).1:Int)-1)) (n:=(((au es 3 (au es 3 (au es 2 a).2).2).1:Int)-1)) (m':=(((au es 3 (au es 3 (au es 2 (au es 3 (au es 3 (au es 2 a).2).2).2).2).2).1:Int)-1)) (n':=(1+((au es 2 (au es 3 (au es 3 (au es 2 (au es 3 (au es 3 (au es 2 a).2).2).2).2).2).2).1:Int))) (k:=1) (by omega) (by omega) (by omega) (by omega)) J<|rf J J<|cl J (Uo (p:=((((au es 3 (au es 2 a).2).1:Int)-1),(((au es 3 (au es 3 (au es 2 a).2).2).1:Int)-1))) (u:=((1+((au es 2 (au es 3 (au es 3 (au es 2 a).2).2).2).1:Int)),(((au es 3 (au es 2 (au es 3 (au es 3 (au es 2 a).2).2).2).2).1:Int)-1))) (v:=((((au es 3 (au es 3 (au es 2 (au es 3 (au es 3 (au es 2 a).2).2).2).2).2).1:Int)-1),(1+((au es 2 (au es 3 (au es 3 (au es 2 (au es 3 (au es 3 (au es 2 a).2).2).2).2).2).2).1:Int)))) ⟨by omega,by omega⟩ ⟨by omega,by omega⟩ ⟨by omega,by omega⟩) J<|bb J J J (fun hc76=>?_) (fun hc76=>?_)
  .
   refine cl J (i8 (m:=0) (n:=0) (by decide) (by decide)) J<|cl J (i8 (m:=1) (n:=0) (by decide) (by decide)) J<|cl J (i8 (m:=0) (n:=1) (by decide) (by decide)) J<|rf J J<|?_;exact mF hmb J J (by rw[show gn es a=_ from(if_neg hc13).trans (congrArg (fun r=>(r,(au es 2 (au es 3 (au es 3 (au es 2 (au es 3 (au es 3 (au es 2 a).2).2).2).2).2).2).2)) (if_neg (by simpa using hc76)))];rfl) (by rw[show gn es a=_ from if_neg hc13])
  .
   exact mF hmb J J (by rw[show gn es a=_ from(if_neg hc13).trans (congrArg (fun r=>(r,(au es 2 (au es 3 (au es 3 (au es 2 (au es 3 (au es 3 (au es 2 a).2).2).2).2).2).2).2)) (if_pos (by simpa using hc76)))];rfl) (by rw[show gn es a=_ from if_neg hc13])
section
variable {own:aI}
end
def aGb(hb:es0.length<=1125899906842624)(he:es=es0.take 400):PN GB prog 6 [.sl (es0.map vI)] 84 Unit (fun _=>[.sl (es.map vI), .v (.int .i64 (0:Nat))]):=by
 subst he;exact UF hb
def VK{s:Tr}(hs:s.all (fun l=>BL l 96))(h:t=s)(hn:s.size<=1000000):PF GB prog 14 [eA s,eA t] (.v (.bool true)):=by
 subst h;have:=aB5 (GB:=GB) hs hs hn;rw[decide_eq_true (⟨J,J⟩:_/\_)] at this;exact this
def AX(h:gc k t):PF GB prog 10 [eT t] (eA t):=WS h.bl (by have:=h.s;omega)
def Nz{s:Tr}(hs:gc k s)(h:t=s):PF GB prog 14 [eA s,eA t] (.v (.bool true)):=VK hs.bl h (by have:=hs.s;omega)
def V'{j:Nat}(ho:1<=op/\op<=4)(ha:gc j a)(hb:gc k b)(hk:j+k<=900):PF GB prog 49 [vI op,eT a,eT b, .sl []] (eT (a.mergeQ op b [])):=by
 have:=GZ (GB:=GB) (op:=op) hb.lb hb.ok (t:=a) (c:=[]) ha.lb ha.ok (fun m h=>by cases h) (fun m h=>by cases h) (by have:=ha.dp;have:=hb.dp;rw[dS];omega);rw[Tr.mergeL_nil ho ha.ok hb.ok] at this;exact this
def aKJ:Option ao->DV
 |some c=> .tp [.sl (c.map dd),vB true]
 |none=> .tp [.sl [],vB false]
def KF{l:aa}(h:ls[k]? =some l):iI (ls.drop k) c=if co c l then iI (ls.drop (k+1)) (bD c l) else none:=by
 obtain⟨hk,rfl⟩:=aR.1 h;rw[bX hk,iI]
def d9.nil:d9 []:=fun s hs=>by cases hs
def YQ(hb: ∀l∈ls,LB l)(ho: ∀l∈ls,l.ok)(hn:ls.length<=10000):PF GB prog 60 [.sl (ls.map cP)] (aKJ (iI ls [])):=by
 have hm:=tI cP ls;refine fn (fu:=⟨25⟩) func60 J J ntmps60 J J (fun C=>?_);refine aj 9 (.d (vI (ls.length:Nat))) J (by rw[hm]<;>rfl)<|gx J<|B9 4 J<|S4 5 (vB true) J J<|lp (X:=ao×Nat) (fun⟨c,k⟩=>[(10, .d (vI (k:Nat))),(4, .d (.sl (c.map dd))),(5, .d (vB true))]) (fun⟨c,k⟩=>[]) (fun⟨c,k⟩=>k<=ls.length/\d9 c/\c.length<=k/\iI (ls.drop k) c=iI ls []) (fun⟨c,k⟩=>ls.length-k) ([],0) J ⟨aM _,d9.nil,bK _,J⟩ (fun _=>J) (fun⟨c,k⟩ hk=>?_);obtain⟨h1,h2,h3,h4⟩:=hk;dsimp only at*;refine br J J J (fun hc11=>?_) (fun hc11=>?_)
 .
  obtain⟨l,hx0⟩: ∃s,ls[k]? =some s:=⟨_,aZ (by omega)⟩;haveI:=hb l (aK hx0);have hlo:=ho l (aK hx0);refine ix _ J (ck hx0) J<|cl J (HF (c:=c) (l:=l) hlo h2 (by omega)) J<|bb J J J (fun hc21=>?_) (fun hc21=>?_)
  .
   refine bb J J J (fun hc24=>?_) (fun hc24=>?_)
   .
    exact rz J (by rw[<-h4,KF hx0,if_neg (by simpa using hc21)];rfl)
   .
    exact rz J (by simp only[hc21] at hc24;simp at hc24)
  .
   refine aj 5 (.d (vB true)) J (by rw[show co c l=true by simpa using hc21])<|at_ (bD c l,k+1) (by dsimp only;exact⟨⟨by omega,qI (ho l (aK hx0)) h2,by have:=tC c l;omega,by rw[<-h4,KF hx0,if_pos (by simpa using hc21)]⟩,(by omega)⟩)
 .
  refine bb J J J (fun hc24=>?_) (fun hc24=>?_)
  .
   exact rz J (absurd hc24 (by decide))
  .
   exact rz J (by rw[<-h4,iU (by omega)];rfl)
def WX(hb: ∀l∈ls,LB l)(ho: ∀l∈ls,l.ok)(hn:ls.length<=10000)(h:iI ls []=some c):PF GB prog 60 [.sl (ls.map cP)] (.tp [.sl (c.map dd),vB true]):=by
 have:=YQ (GB:=GB) hb ho hn;rw[h] at this;exact this

section
variable {own:aI}{ops:Array Oper}{r:List Oper}{K:List Kt}
def V7(k:Nat){d:DV}(hl:aO fr k=some (.d d))(h: ∀(GB':Gh) (pv:Value),bP GB GB'->Is GB' d pv->av prog GB' C n Q0 ((k, .d (.v pv))::fr) own (.ops ops r K)):av prog GB C n Q0 fr own (.ops ops r K):=by
 refine⟨fun ρ G ov a w r0=>?_⟩;obtain⟨y,hy,hy'⟩:=r0.fx k _ hl;refine(h G y r0.gb hy').run ρ G ov a w ⟨bP.refl _,r0.h,r0.sz,r0.df,fun j f e=>?_,r0.bx,r0.dj,r0.fxd⟩;rw[jO] at e;split at e
 .rename_i hj
  cases e;subst hj
  exact⟨y,hy,(aH (G:=G)).2 J⟩
 .exact r0.fx j f e
def L0(fr:aD)(own:aI)(cf:Cf):Option (TypeId×Nat×Nat×List FX×Bool×FX):=match c6 fr cf with
 |some ⟨_, .store t x y,_,_,_,_⟩=>match bh (cg fr cf) x with
  |some (.ov nm 0)=>match iO fr own cf nm with
   |some (.o ty cs lo)=>match bh (cg fr cf) y with
    |some fv=>some (t,nm,ty,cs,lo,fv)
    |_=>none
   |_=>none
  |_=>none
 |_=>none
def He[fu:Fu]{t len:Nat}{cs:List FX}{lo:Bool}{fv:FX}{j:TypeInfo}(h:L0 fr own cf=some (t,nm,ty,cs,lo,fv))(hu:prog.underlying t=some (.array len e))(hj:prog.info? t=some j)(hc:fv.okc=true/\fv.cells.length=j.size/\j.size=cs.length)
  (hgo:cH tt n fu.n fr own cf .un [(nm,some (.o ty (wq cs 0 fv.cells) lo))] []=⟨vc,fr',own',cf'⟩)(k:av prog GB C n Q0 fr' own' cf')
  (hv:autoParam (ak vc) cL._auto_1):av prog GB C n Q0 fr own cf:=by
 unfold L0 at h;split at h<;>try (cases h;done)
 rename_i hh;split at h<;>try (cases h;done)
 rename_i e1;split at h<;>try (cases h;done)
 rename_i hb;split at h<;>cases h;rename_i e2;obtain⟨c1,c2,c3⟩:=hc;have:kA prog t j.size:=⟨fun w=>Ay hu w,fun w=>vt hj w⟩;refine us hh ?_ hgo hv k;intro hd tl tb K s1 s2 hf hk;refine⟨fun ρ G ov a w r Q=>?_⟩;have r1:=r.mono s1 s2;obtain⟨p,h1,h2⟩:=r1.ev e1;obtain⟨q,h3,h4⟩:=r1.ev e2;obtain⟨b,m,rfl,ha,h5,h6⟩:=r1.own h2 hb;obtain⟨h7,h8⟩:=h4.cells c1;obtain⟨own',u1,u2,u3⟩:=ik.of_mem (cs':=cC m 0 (aG q)) h6;exact C4 h1 h3 u1 (by rw[h7.len,c2]) (by rw[h5.len,c3];omega) (dJ.2 h8) hd (fun a' w' rl=>r.wrote (m:=m) (s2 _ _ hb) ha (h5.ov h7) u2 u3 hk rl) a w Q ⟨r.h,r.sz,cG a,r.df⟩
def W9:TypeDesc->Bool
 | .struct _=>false
 | .array _ _=>false
 |_=>true
end
def qH(ns:List NQ):Nat->Tr->Prop
 |_, .leaf _=>True
 |k, .node l x y=>ns[k]? =some ⟨l,x.num (k+1),y.num (k+1+x.size)⟩/\qH ns (k+1) x/\qH ns (k+1+x.size) y
def qH.of: ∀{t:Tr} {ns a b:List NQ} {k:Nat},ns=a++t.wr k++b->a.length=k->qH ns k t
 | .leaf _,_,_,_,_,_,_=>trivial
 | .node l x y,ns,a,b,k,e,ha=>by
  simp only[Tr.wr,dW,gW] at e;refine⟨?_,qH.of (a:=a++[⟨l,x.num (k+1),y.num (k+1+x.size)⟩]) (b:=y.wr (k+1+x.size)++b) (by rw[e];simp) (by simp[ha]),qH.of (a:=a++⟨l,x.num (k+1),y.num (k+1+x.size)⟩::x.wr (k+1)) (b:=b) (by rw[e];simp) (by rw[aY,bZ,Tr.wr_len,ha];omega)⟩;rw[e,jU (by omega),ha,pS];rfl
abbrev In (x:SV) (ns:List NQ) (A:Gh):Prop:= ∃es,gg A 8 x es/\IsLs A (ns.map eN) es
def sK(n k:Nat):List Value:=tn n (fun j=>Nat.blt j k)
def Tc(n k:Nat):(sK n k).length=n:=Qb _ _
def Mu(h:k<n):(sK n k)[k]? =some (.bool false):=HI h (by rw[Bool.eq_false_iff,ne_eq,kM];omega)
def KI(n k:Nat):(sK n k).set k (.bool true)=sK n (k+1):=by
 refine(VG n k _).trans (congrArg _ (funext fun j=>?_));unfold yl;rw[qL,gQ,kM,kM,Nat.beq_eq];omega
def Pe{l:aa}{a b:Int}(h:Is G (eN ⟨l,a,b⟩) v): ∃x1 x2 x3:SV,v= .agg ⟨[.bool (decide (l.a<0)), .slice x1.a x1.n x1.c, .bool (decide (l.b<0)), .slice x2.a x2.n x2.c, .bool (decide (l.c<0)), .slice x3.a x3.n x3.c, .int .i64 a, .int .i64 b]⟩/\
  Is G (eL l) (.agg ⟨[.bool (decide (l.a<0)), .slice x1.a x1.n x1.c, .bool (decide (l.b<0)), .slice x2.a x2.n x2.c, .bool (decide (l.c<0)), .slice x3.a x3.n x3.c]⟩):=aJh (n:=RN.of ⟨l,a,b⟩) h
def aFf{l:aa}(h:Is G (.tp [cP l,vB true]) v): ∃n1 d1 p1 n2 d2 p2 n3 d3 p3,v= .tuple #[.agg ⟨[.int .i64 n1, .int .i64 d1, .pointer p1, .int .i64 n2, .int .i64 d2, .pointer p2, .int .i64 n3, .int .i64 d3, .pointer p3]⟩, .bool true]/\
  Is G (cP l) (.agg ⟨[.int .i64 n1, .int .i64 d1, .pointer p1, .int .i64 n2, .int .i64 d2, .pointer p2, .int .i64 n3, .int .i64 d3, .pointer p3]⟩):=by
 obtain⟨m,rfl,g⟩:=l5.1 h;obtain⟨v1,m,rfl,h1,h⟩:=bi.1 g;obtain⟨v2,m,rfl,h2,h⟩:=bi.1 h;rw[en] at h;subst h;obtain⟨n1,d1,p1,n2,d2,p2,n3,d3,p3,rfl⟩:=aFp h1;rw[aH.1 h2];exact⟨_,_,_,_,_,_,_,_,_,J,h1⟩
def Yr{l:aa}(h:Is G (.tp [eL l,vB true]) v): ∃x1 x2 x3:SV,v= .tuple #[.agg ⟨[.bool (decide (l.a<0)), .slice x1.a x1.n x1.c, .bool (decide (l.b<0)), .slice x2.a x2.n x2.c, .bool (decide (l.c<0)), .slice x3.a x3.n x3.c]⟩, .bool true]/\
  Is G (eL l) (.agg ⟨[.bool (decide (l.a<0)), .slice x1.a x1.n x1.c, .bool (decide (l.b<0)), .slice x2.a x2.n x2.c, .bool (decide (l.c<0)), .slice x3.a x3.n x3.c]⟩):=by
 obtain⟨m,rfl,g⟩:=l5.1 h;obtain⟨v1,m,rfl,h1,h⟩:=bi.1 g;obtain⟨v2,m,rfl,h2,h⟩:=bi.1 h;rw[en] at h;subst h;obtain⟨x1,x2,x3,rfl⟩:=ZN h1;rw[aH.1 h2];exact⟨_,_,_,J,h1⟩
def Yl{l:aa}[hl:LB l](ho:l.ok):PF GB prog 169 [eL l] (.tp [eL l,vB true]):=by
 have hm:(RN.of ⟨l,0,0⟩).g.nm:=⟨JW _,JW _,JW _⟩;refine(aFN (RN.of_sm (n:=⟨l,0,0⟩) hl) hm).to ?_;rw[Df,if_pos hm,RN.of_l,decide_eq_true ⟨hm,ho⟩]
def R2{vs:List Value}(hv:IsLs G [eA t] vs): ∃x:SV,x.n=(t.wr 0).length/\vs=[.agg ⟨[.int .i64 (t.num 0), .slice x.a x.n x.c]⟩]/\In x (t.wr 0) G:=by
 obtain⟨v0,m,rfl,h0,hm⟩:=bi.1 hv;rw[en] at hm;subst hm;obtain⟨m,rfl,g⟩:=ew.1 h0;obtain⟨v1,m,rfl,h1,hm⟩:=bi.1 g;obtain⟨v2,m,rfl,h2,hm⟩:=bi.1 hm;rw[en] at hm;subst hm;obtain⟨s0,x,es,rfl,hsl,hes⟩:=gw.1 h2;rw[aH.1 h1];have hel:=hes.len;rw[aX] at hel;have hlen:=hsl.len;rw[hel] at hlen;refine⟨x,hlen,J,es,?_,hes⟩;rcases Bs (s:=8) hsl hes (fun d hd=>by obtain⟨n,_,rfl⟩:=aT.1 hd;exact⟨rfl,rfl⟩) with e|e
 .exact⟨hsl.len,hsl.cap, .inl e⟩
 .rw[e] at hsl;exact hsl
def aI3{x:SV}(hx:In x ns A)(hn:ns.length<=1000000): ∀{t:Tr} {k:Nat},qH ns k t->k+t.size<=ns.length->t.all LB->t.all aa.ok-> ∀{G:Gh} {rb sb:Nat} {lo lo2:Bool},[GL A G]->
  kg prog 147 [.pointer (some ⟨rb,0,none⟩), .int .i64 (t.num k)] [⟨rb,[.slice x.a x.n x.c, .slice (some ⟨sb,0,none⟩) ns.length ns.length, .int .i64 k, .bool false],258,lo⟩,⟨sb,sK ns.length k,4,lo2⟩] G
   (fun v css G'=> ∃p,v= .pointer p/\Is G' (eU t) (.pointer p)/\css=[[.slice x.a x.n x.c, .slice (some ⟨sb,0,none⟩) ns.length ns.length, .int .i64 (k+t.size:Nat), .bool false],sK ns.length (k+t.size)]):=by
 obtain⟨es,hx,hes⟩:=hx;have hel:=hes.len;rw[aX] at hel;have hlen:=hx.len;rw[hel] at hlen;obtain⟨xa,xn,xc⟩:=x;simp only[] at hlen;subst hlen;intro t
 induction t with
 |leaf bb=>
  intro k _ _ _ _ G rb sb lo lo2 _;refine kg.intro func147 J J ntmps147 J ?_;intro C _ _;show St C _ _ [⟨rb,_,_,false⟩,⟨sb,_,_,false⟩] _ _
  cases bb
  case true=>
   refine sR<|sa J J<|zE<|fj<|vL<|sR<|sm J J<|sy (ly J J) J<|sm J J<|ss J J J J<|ss J J J J<|?_;refine sy (Dq J J) J<|sa J J<|zE<|tc J<|sR<|sm J J<|sy (ly J J) J<|?_;refine sc (zC J J (PF.fn0 (rB (b:=true)) (.cons (aH.2 J) .nil)) J ?_);rintro _ G1 _ hp;obtain⟨p,rfl⟩:=wV hp;refine sa J J<|zE<|lu<|?_;exact tH (css:=[_,_]) (.tmp J .nil) J _ (List.Perm.refl _) (List.Sublist.refl _) ⟨p,J,hp,J⟩
  refine sR<|sa J J<|zE<|fj<|vL<|sR<|sm J J<|sy (ly J J) J<|sm J J<|fB J J (l6 J) J<|fB J J (ly J J) J<|?_;refine sy (qO J J) J<|sa J J<|zE<|tc J<|sR<|sm J J<|sy (ly J J) J<|?_;refine sc (zC J J (PF.fn0 (rB (b:=false)) (.cons (aH.2 J) .nil)) J ?_);rintro _ G1 _ hp;obtain⟨p,rfl⟩:=wV hp;refine sa J J<|zE<|lu<|?_;exact tH (css:=[_,_]) (.tmp J .nil) J _ (List.Perm.refl _) (List.Sublist.refl _) ⟨p,J,hp,J⟩
 |node l tx ty ih1 ih2=>
  intro k ⟨h0,h1,h2⟩ hk ⟨hb,hb1,hb2⟩ ⟨ho,ho1,ho2⟩ G rb sb lo lo2 _;haveI:=hb;have hsz:k+(Tr.node l tx ty).size=k+1+tx.size+ty.size:=by simp only[Tr.size];omega
  rw[hsz] at hk⊢;have hbn:k<ns.length:=by omega
  obtain⟨z,hzi,hz⟩:=hes.get (i:=k) (by rw[cY,h0];rfl);obtain⟨x1,x2,x3,rfl,hzg⟩:=Pe hz;refine kg.intro func147 J J ntmps147 J ?_;intro C _ _;show St C _ [(0, .pointer (some ⟨rb,0,none⟩)),(1, .int .i64 (k:Int))] [⟨rb,[.slice xa ns.length xc, .slice (some ⟨sb,0,none⟩) ns.length ns.length, .int .i64 k, .bool false],_,false⟩,⟨sb,sK ns.length k,_,false⟩] _ _;refine sR<|sa J J<|zE<|fj<|vL<|sR<|sm J J<|sy (ly J J) J<|sm J J<|?_;refine xl 12 J (fun hg=>absurd hg (by omega)) (fun hg=>?_);refine fB J J (l6 J) J<|fB J J (ly J J) J<|sy (qO J J) J<|sa J J<|zE<|?_;refine vv J (fun hc=>absurd hc (by omega)) (fun _=>?_);refine sR<|sm J J<|sy (Dw J J) J<|sm J J<|?_;refine xl 22 J (fun hg=>absurd hg (by omega)) (fun hg=>?_);refine fB J J (l6 J) J<|fB J J (l6 J) J<|fB J J (nE J) J<|fB J J (rm J) J<|fB J J (nH J J) J<|fB J J (uq J) J<|fB J J (Kd J J) J<|sy (qO J J) J<|sm J J<|?_;refine xl 31 J (fun hg=>absurd hg (by omega)) (fun hg=>?_);refine fB J J (l6 J) J<|fB J J (nE J) J<|fB J J (rm J) J<|fB J J (nH J J) J<|fB J J (l6 J) J<|fB J J (ux J J) J<|?_;refine fB J J (nH (v:= .bool false) J (by rw[cK,jJ];exact Mu hbn)) J<|sy (qO J J) J<|sa J J<|zE<|rg J<|zK<|?_;refine sR<|sm J J<|sn J J<|sf J J<|nB J J J<|sm J J<|sy (ux J J) J<|?_;refine sc (ut J J (.tl _ _ _ _ _ _ _ _ (.hd ..)) (by rw[Tc,cK,jJ];exact hbn) J J ?_);rw[cK,jJ,KI];refine zE<|sR<|sm J J<|sn J J<|sf J J<|nB J J J<|sy (wj J J) J<|sn J J<|sf J J<|?_;refine sc (yq J J J (by repeat (first|exact .hd .. |apply ik.tl)) (nb J) J J ?_)
  rw[show(k:Int)+1=((k+1:Nat):Int) by omega];refine zE<|sR<|sm J J<|sn J J<|sf J J<|nB J J J<|sm J J<|sy (Zn (z:=⟨xa,ns.length,xc⟩) hx J J (by omega) (by show(k:Int)<(ns.length:Int);omega)) J<|?_;rw[cK];refine sy (YB (i:=k) hx J (by rw[hel];exact hbn) hzi) J<|?_;refine sc (uD J ?_);intro b5;refine sc (DI J J J (by repeat (first|exact .hd .. |apply ik.tl)) J (nb J) J J ?_);refine zE<|sR<|sf J J<|EB J J J<|?_;refine sc (zC J J (PF.fn0 (aGx ho) (.cons (hzg.up GL.le) .nil)) J ?_);rintro _ G6 _ hw;obtain⟨n1,d1,p1,n2,d2,p2,n3,d3,p3,rfl,hwl⟩:=aFf hw;refine sm J J<|sx J J J<|sx J J J<|?_;refine sc (uD J ?_);intro b6;refine sc (DI J J J (by repeat (first|exact .hd .. |apply ik.tl)) J (nb J) J J ?_);refine sa J J<|zE<|fj<|sR<|sm J J<|sy (t6 J) J<|zE<|rg J<|zK<|?_;refine sR<|sm J J<|sf J J<|nB J J J<|?_;have hrp:=ih1 h1 (by omega) hb1 ho1 (G:=G6) (rb:=rb) (sb:=sb) (lo:=false) (lo2:=false);refine sc (wh J J (jQ (l₁:=[_,_]) (l₂:=[_,_])) hrp J ?_);rintro _ css G7 _ _ ⟨q1,rfl,hp1,rfl⟩;show St C _ _ [⟨rb,[.slice xa ns.length xc, .slice (some ⟨sb,0,none⟩) ns.length ns.length, .int .i64 (k+1+tx.size:Nat), .bool false],258,false⟩,⟨sb,sK ns.length (k+1+tx.size),4,false⟩,⟨b6,[.int .i64 n1, .int .i64 d1, .pointer p1, .int .i64 n2, .int .i64 d2, .pointer p2, .int .i64 n3, .int .i64 d3, .pointer p3],213,true⟩,⟨b5,[.bool (decide (l.a<0)), .slice x1.a x1.n x1.c, .bool (decide (l.b<0)), .slice x2.a x2.n x2.c, .bool (decide (l.c<0)), .slice x3.a x3.n x3.c, .int .i64 (tx.num (k+1)), .int .i64 (ty.num (k+1+tx.size))],105,true⟩] _ _
  refine sa J J<|zE<|fj<|?_;refine uM [⟨b6,[.int .i64 n1, .int .i64 d1, .pointer p1, .int .i64 n2, .int .i64 d2, .pointer p2, .int .i64 n3, .int .i64 d3, .pointer p3],213,true⟩,⟨b5,[.bool (decide (l.a<0)), .slice x1.a x1.n x1.c, .bool (decide (l.b<0)), .slice x2.a x2.n x2.c, .bool (decide (l.c<0)), .slice x3.a x3.n x3.c, .int .i64 (tx.num (k+1)), .int .i64 (ty.num (k+1+tx.size))],105,true⟩] (fun _=>false) [(0,true),(1,true),(2,true),(3,true),(4,true),(5,false),(6,false),(7,true)] follows (by kernel_rfl)<|?_;refine dL J J J J<|dM J J J<|dM J J J<|dF J J J<|qA J J J J<|?_;have hrp:=ih2 h2 hk hb2 ho2 (G:=G7) (rb:=rb) (sb:=sb) (lo:=false) (lo2:=false);refine dc J J (wh J J (M:=[_,_]) (rest:=[_,_]) (List.Perm.refl _) hrp J ?_);rintro _ css G8 _ _ ⟨q2,rfl,hp2,rfl⟩;show St C _ _ [⟨rb,[.slice xa ns.length xc, .slice (some ⟨sb,0,none⟩) ns.length ns.length, .int .i64 (k+1+tx.size+ty.size:Nat), .bool false],258,false⟩,⟨sb,sK ns.length (k+1+tx.size+ty.size),4,false⟩,⟨b6,[.int .i64 n1, .int .i64 d1, .pointer p1, .int .i64 n2, .int .i64 d2, .pointer p2, .int .i64 n3, .int .i64 d3, .pointer p3],213,true⟩,⟨b5,[.bool (decide (l.a<0)), .slice x1.a x1.n x1.c, .bool (decide (l.b<0)), .slice x2.a x2.n x2.c, .bool (decide (l.c<0)), .slice x3.a x3.n x3.c, .int .i64 (tx.num (k+1)), .int .i64 (ty.num (k+1+tx.size))],105,true⟩] _ _;refine lA<|?_;refine dc J J (zC J J (PF.fn0 (xp (l:=l) (x:=tx) (y:=ty)) (.cons (hwl.up GL.le) (.cons (hp1.up GL.le) (.cons hp2 .nil)))) J ?_);rintro _ G9 _ hp;obtain⟨p,rfl⟩:=wV hp
  refine lA<|dA J J J<|dn<|lu<|?_;exact tH (css:=[_,_]) (.tmp J .nil) J _ (List.Perm.refl _) (.cons_cons _ (.cons_cons _ (jY _))) ⟨p,J,hp,J⟩
def aIK(hb:t.all LB)(ho:t.all aa.ok)(hs:t.size<=65536):PF GB prog 77 [eA t] (.tp [eU t,vB true]):=by
 intro G vs _ hv;obtain⟨⟨xa,xn,xc⟩,rfl,rfl,hx⟩:=R2 hv;have hn:=t.wr_len 0;show Fn _ _ [.agg ⟨[.int .i64 (t.num 0), .slice xa (t.wr 0).length xc]⟩] _ _;refine Fn.intro func77 J J ntmps77 J ?_;intro C _ _;refine sR<|?_;refine sc (sr J J ?_);intro b1;refine sa J J<|sa J J<|zE<|fj<|sR<|sf J J<|nB J J J<|sO J J<|sy (Ah J J) J<|zE<|?_;refine vv J (fun hc=>absurd hc (by omega)) (fun _=>?_);refine zK<|fj<|dr (fun _=>false) [(0,true),(1,true),(2,true),(3,true),(4,true),(5,false),(6,true),(7,false),(8,true)] follows (by kernel_rfl)<|dF J J J<|?_;refine qA J J J J<|dF J J J<|qA J J J J<|dy J (fun _=>uq J) J J<|?_;refine dc J J (GI J J (by omega) (by omega) (by omega) (by rfl) J ?_);intro b2;rw[cK,LE];refine lA<|dy J (fun _=>wM J) J J<|?_;refine dc J J (sr J J ?_);intro b3;refine lA<|dA J J J<|dn<|sR<|sm J J<|sf J J<|nB J J J<|?_;refine sc (wh J J (M:=[_,_]) (rest:=[_]) (List.Perm.refl _) (aI3 hx (by omega) (qH.of (a:=[]) (b:=[]) (k:=0) (by simp) J) (by omega) hb ho (G:=G) (rb:=b3) (sb:=b2) (lo:=true) (lo2:=true)) J ?_);rintro _ css G4 _ _ ⟨p,rfl,hp,rfl⟩;show St C _ _ [⟨b3,[.slice xa (t.wr 0).length xc, .slice (some ⟨b2,0,none⟩) (t.wr 0).length (t.wr 0).length, .int .i64 (0+t.size:Nat), .bool false],258,true⟩,⟨b2,sK (t.wr 0).length (0+t.size),4,true⟩,⟨b1,[.int .i64 (t.num 0), .slice xa (t.wr 0).length xc],31,true⟩] _ _;refine sa J J<|zE<|fj<|fj<|dr (fun _=>false) [(0,true),(1,true),(2,true),(3,true),(4,true),(5,true),(6,true),(7,true),(8,true),(9,true),(10,true),(11,true),(12,true),(13,true)] follows (by kernel_rfl)<|?_
 refine dM J J J<|dy J (fun _=>nE J) J J<|dF J J J<|qA J J J J<|dM J J J<|?_;refine ve J J J J (fun _=>l6 J) J<|ve J J J J (fun _=>nE J) J<|ve J J J J (fun _=>rm J) J<|ve J J J J (fun _=>nH J J) J<|?_;refine ve J J J J (fun _=>rm J) J<|ve J J J J (fun _=>nH J J) J<|ve J J J J (fun _=>uq J) J<|ve J J J J (fun _=>Od J J) J<|?_;refine dy J (fun _=>qO J J) J J<|dn<|?_;refine vv J (fun hc=>absurd hc (by omega)) (fun _=>?_);refine zK<|sR<|sm J J<|sa J J<|sa J J<|zE<|lu<|?_;refine zD (.tmp J (.tmp J .nil)) ?_;exact l5.2 ⟨_,J, .cons hp (.cons (aH.2 J) .nil)⟩
def Zk{x:SV}(hx:In x ns A)(hn:ns.length<=1000000): ∀{t:Tr} {k:Nat},qH ns k t->k+t.size<=ns.length->t.all LB->t.all aa.ok-> ∀{G:Gh} {sb:Nat} {lo2:Bool},[GL A G]->
  kg prog 100 [.agg ⟨[.int .i64 r0, .slice x.a x.n x.c]⟩, .int .i64 (t.num k), .slice (some ⟨sb,0,none⟩) ns.length ns.length] [⟨sb,sK ns.length k,4,lo2⟩] G
   (fun v css G'=> ∃q,v= .tuple #[.pointer q, .bool true]/\Is G' (eT t) (.pointer q)/\css=[sK ns.length (k+t.size)]):=by
 obtain⟨es,hx,hes⟩:=hx;have hel:=hes.len;rw[aX] at hel;have hlen:=hx.len;rw[hel] at hlen;obtain⟨xa,xn,xc⟩:=x;simp only[] at hlen;subst hlen;intro t
 induction t with
 |leaf bb=>
  intro k _ _ _ _ G sb lo2 _;refine kg.intro func100 J J ntmps100 J ?_;intro C _ _;show St C _ [(0, .agg ⟨[.int .i64 r0, .slice xa ns.length xc]⟩),(1, .int .i64 (N3 bb)),(2, .slice (some ⟨sb,0,none⟩) ns.length ns.length)] [⟨sb,sK ns.length k,_,false⟩] _ _;refine sR<|?_;refine sc (sr J J ?_);intro b1;refine sa J J<|sa J J<|zE<|fj<|sR<|sm J J<|sy (ly J J) J<|sm J J<|?_
  cases bb
  case true=>
   refine ss J J J J<|ss J J J J<|sy (Dq J J) J<|?_;refine zE<|tc J<|sR<|sm J J<|sy (ly J J) J<|sy (wM J) J<|?_;refine sc (sr J J ?_);intro b2;refine sa J J<|sa J J<|zE<|lu<|?_;refine AK b2 (.hd ..) ?_;intro G9 _ hfz;exact tH (css:=[_]) (.tmp J (.tmp J .nil)) J (_::[_]) (jQ (l₁:=[_]) (l₂:=[_])) (.cons_cons _ (jY _)) ⟨_,J,lO.2 ⟨b2,_,J,hfz.h,Sm⟩,J⟩
  refine fB J J (l6 J) J<|fB J J (ly J J) J<|sy (qO J J) J<|?_;refine zE<|tc J<|sR<|sm J J<|sy (ly J J) J<|sy (wM J) J<|?_;refine sc (sr J J ?_);intro b2;refine sa J J<|sa J J<|zE<|lu<|?_;refine AK b2 (.hd ..) ?_;intro G9 _ hfz;exact tH (css:=[_]) (.tmp J (.tmp J .nil)) J (_::[_]) (jQ (l₁:=[_]) (l₂:=[_])) (.cons_cons _ (jY _)) ⟨_,J,lO.2 ⟨b2,_,J,hfz.h,Sm⟩,J⟩
 |node l tx ty ih1 ih2=>
  intro k ⟨h0,h1,h2⟩ hk ⟨hb,hb1,hb2⟩ ⟨ho,ho1,ho2⟩ G sb lo2 _;haveI:=hb;have hsz:k+(Tr.node l tx ty).size=k+1+tx.size+ty.size:=by simp only[Tr.size];omega
  rw[hsz] at hk⊢;have hbn:k<ns.length:=by omega
  obtain⟨z,hzi,hz⟩:=hes.get (i:=k) (by rw[cY,h0];rfl);obtain⟨x1,x2,x3,rfl,hzg⟩:=Pe hz;obtain⟨ab,aoff,acs,ha,hga,hca⟩:=hx.mem.resolve_left (fun e=>by rw[e] at hel;simp at hel;omega);simp only at ha;subst ha;haveI:th A ab acs:=⟨hga⟩;obtain⟨hk0,hk6,hk7⟩:=as5 (by
   have h9:=hca k (by rw[hel];exact hbn);rw[show es[k]'(by rw[hel];exact hbn)=_ from Option.some.inj ((aZ (by rw[hel];exact hbn)).symm.trans hzi)] at h9;exact h9)
  refine kg.intro func100 J J ntmps100 J ?_;intro C _ _;show St C _ [(0, .agg ⟨[.int .i64 r0, .slice (some ⟨ab,aoff,none⟩) ns.length xc]⟩),(1, .int .i64 (k:Int)),(2, .slice (some ⟨sb,0,none⟩) ns.length ns.length)] [⟨sb,sK ns.length k,_,false⟩] _ _;refine sR<|?_;refine sc (sr J J ?_);intro b1;refine sa J J<|sa J J<|zE<|fj<|sR<|sm J J<|sy (ly J J) J<|sm J J<|?_;refine xl 14 J (fun hg=>absurd hg (by omega)) (fun hg=>?_);refine fB J J (l6 J) J<|fB J J (ly J J) J<|sy (qO J J) J<|zE<|?_;refine vv J (fun hc=>absurd hc (by omega)) (fun _=>?_);refine zK<|fj<|sR<|sm J J<|sy (Dw J J) J<|sm J J<|?_;refine xl 24 J (fun hg=>absurd hg (by omega)) (fun hg=>?_);refine fB J J (l6 J) J<|fB J J (rm J) J<|fB J J (nH J J) J<|fB J J (uq J) J<|fB J J (Kd J J) J<|sy (qO J J) J<|sm J J<|?_;refine xl 31 J (fun hg=>absurd hg (by omega)) (fun hg=>?_);refine fB J J (l6 J) J<|fB J J (l6 J) J<|fB J J (ux J J) J<|?_;refine fB J J (nH (v:= .bool false) J (by rw[cK,jJ];exact Mu hbn)) J<|sy (qO J J) J<|zE<|rg J<|?_;refine zK<|sR<|sm J J<|sm J J<|sy (ux J J) J<|?_;refine sc (ut J J (.tl _ _ _ _ _ _ _ _ (.hd ..)) (by rw[Tc,cK,jJ];exact hbn) J J ?_);rw[cK,jJ,KI];refine zE<|sR<|sf J J<|nB J J J<|sm J J<|sy (vU J J) J<|?_;rw[cK];refine sf J J<|slg J hk0 J<|?_;refine sc (zC J J (PF.fn0 (Yl ho) (.cons (hzg.up GL.le) .nil)) J ?_);rintro _ G6 _ hw;obtain⟨y1,y2,y3,rfl,hw'⟩:=Yr hw;refine sm J J<|sx J J J<|sx J J J<|?_;refine sc (uD J ?_);intro b3;refine sc (DI J J J (by repeat (first|exact .hd .. |apply ik.tl)) J (nb J) J J ?_)
  refine sa J J<|zE<|fj<|sR<|sm J J<|sy (t6 J) J<|zE<|?_;refine rg J<|zK<|?_;show St C _ _ [⟨b3,[.bool (decide (l.a<0)), .slice y1.a y1.n y1.c, .bool (decide (l.b<0)), .slice y2.a y2.n y2.c, .bool (decide (l.c<0)), .slice y3.a y3.n y3.c],55,true⟩,⟨b1,[.int .i64 r0, .slice (some ⟨ab,aoff,none⟩) ns.length xc],31,true⟩,⟨sb,sK ns.length (k+1),4,false⟩] _ _;refine fj<|uM [⟨b1,[.int .i64 r0, .slice (some ⟨ab,aoff,none⟩) ns.length xc],31,true⟩] (fun _=>false) [(0,true),(1,true),(2,true),(3,true),(4,true),(5,true),(6,true),(7,true),(8,false),(9,true),(10,true),(11,true),(12,true),(13,true)] follows (by kernel_rfl)<|?_;refine dL J J J J<|dF J J J<|qA J J J J<|dM J J J<|?_;refine dy J (fun _=>vU J J) J J<|dF J J J<|?_;refine dy J (fun _=>si J vz (by rw[cK];exact hk6)) J J<|dM J J J<|?_;have hrp:=ih1 h1 (by omega) hb1 ho1 (G:=G6) (sb:=sb) (lo2:=false);refine dc J J (wh J J (M:=[_]) (rest:=[_,_]) (jQ (l₁:=[_,_]) (l₂:=[_])) hrp J ?_);rintro _ css G7 _ _ ⟨a1,rfl,hq1,rfl⟩;show St C _ _ [⟨sb,sK ns.length (k+1+tx.size),4,false⟩,⟨b3,[.bool (decide (l.a<0)), .slice y1.a y1.n y1.c, .bool (decide (l.b<0)), .slice y2.a y2.n y2.c, .bool (decide (l.c<0)), .slice y3.a y3.n y3.c],55,true⟩,⟨b1,[.int .i64 r0, .slice (some ⟨ab,aoff,none⟩) ns.length xc],31,true⟩] _ _;refine lA<|dM J J J<|dy J (fun _=>vQ J J) J J<|dy J (fun _=>vQ J J) J J<|dA J J J<|?_;refine dA J J J<|dn<|?_;refine fj<|sR<|sm J J<|sy (t6 J) J<|zE<|rg J<|zK<|?_;refine fj<|uM [⟨b1,[.int .i64 r0, .slice (some ⟨ab,aoff,none⟩) ns.length xc],31,true⟩] (fun _=>false) [(0,true),(1,true),(2,true),(3,true),(4,true),(5,true),(6,true),(7,true),(8,false),(9,true),(10,true),(11,true),(12,true),(13,true)] follows (by kernel_rfl)<|?_
  refine dL J J J J<|dF J J J<|qA J J J J<|dM J J J<|?_;refine dy J (fun _=>vU J J) J J<|dF J J J<|?_;refine dy J (fun _=>si J vz (by rw[cK];exact hk7)) J J<|dM J J J<|?_;have hrp:=ih2 h2 hk hb2 ho2 (G:=G7) (sb:=sb) (lo2:=false);refine dc J J (wh J J (M:=[_]) (rest:=[_,_]) (List.Perm.refl _) hrp J ?_);rintro _ css G8 _ _ ⟨a2,rfl,hq2,rfl⟩;show St C _ _ [⟨sb,sK ns.length (k+1+tx.size+ty.size),4,false⟩,⟨b3,[.bool (decide (l.a<0)), .slice y1.a y1.n y1.c, .bool (decide (l.b<0)), .slice y2.a y2.n y2.c, .bool (decide (l.c<0)), .slice y3.a y3.n y3.c],55,true⟩,⟨b1,[.int .i64 r0, .slice (some ⟨ab,aoff,none⟩) ns.length xc],31,true⟩] _ _;refine lA<|dM J J J<|dy J (fun _=>vQ J J) J J<|dy J (fun _=>vQ J J) J J<|dA J J J<|?_;refine dA J J J<|dn<|?_;refine sR<|EB J J J<|sm J J<|sm J J<|sy (wM J) J<|?_;refine sc (sr J J ?_);intro b6;refine sm J J<|sa J J<|sa J J<|zE<|lu<|?_;refine AK b6 (.hd ..) ?_;intro G9 _ hfz;exact tH (css:=[_]) (.tmp J (.tmp J .nil)) J (_::[_,_]) (List.Perm.refl _) (.cons_cons _ (jY _)) ⟨_,J,lO.2 ⟨b6,_,J,hfz.h,WT (hw'.up GL.le) (hq1.up GL.le) (hq2.up GL.le)⟩,J⟩
def Wk(hb:t.all LB)(ho:t.all aa.ok)(hs:t.size<=65536):PF GB prog 45 [eA t] (.tp [eT t,vB true]):=by
 intro G vs _ hv;obtain⟨⟨xa,xn,xc⟩,rfl,rfl,hx⟩:=R2 hv;have hn:=t.wr_len 0;show Fn _ _ [.agg ⟨[.int .i64 (t.num 0), .slice xa (t.wr 0).length xc]⟩] _ _;refine Fn.intro func45 J J ntmps45 J ?_;intro C _ _;refine sR<|?_;refine sc (sr J J ?_);intro b1;refine sa J J<|sa J J<|zE<|fj<|sR<|sf J J<|nB J J J<|sO J J<|sy (Ah J J) J<|zE<|?_;refine vv J (fun hc=>absurd hc (by omega)) (fun _=>?_);refine zK<|sR<|sf J J<|nB J J J<|sO J J<|?_;refine sc (GI J J (by omega) (by omega) (by omega) (by rfl) J ?_);intro b2;rw[cK,LE];refine sa J J<|zE<|sR<|EB J J J<|sf J J<|nB J J J<|sm J J<|?_;refine sc (wh J J (M:=[_]) (rest:=[_]) (List.Perm.refl _) (Zk (r0:=t.num 0) hx (by omega) (qH.of (a:=[]) (b:=[]) (k:=0) (by simp) J) (by omega) hb ho (G:=G) (sb:=b2) (lo2:=true)) J ?_);rintro _ css G3 _ _ ⟨q,rfl,hq,rfl⟩;show St C _ _ [⟨b2,sK (t.wr 0).length (0+t.size),4,true⟩,⟨b1,[.int .i64 (t.num 0), .slice xa (t.wr 0).length xc],31,true⟩] _ _;refine sm J J<|sx J J J<|sx J J J<|sa J J<|sa J J<|zE<|fj<|sR<|sm J J<|sO J J<|sm J J<|zE<|vL<|?_;refine K9 (X:=Nat) (fun i=>[(27, .int .i64 (i:Nat)),(26, .int .i64 (t.wr 0).length),(25, .slice (some ⟨b2,0,none⟩) (t.wr 0).length (t.wr 0).length),(6, .bool true),(5, .pointer q)]) (fun _=>[⟨b2,sK (t.wr 0).length (0+t.size),4,true⟩,⟨b1,[.int .i64 (t.num 0), .slice xa (t.wr 0).length xc],31,true⟩]) (fun i _=>i<=(t.wr 0).length) (fun i=>(t.wr 0).length-i) 0 (aM _) (.cons J (.cons J (.cons J (.cons J (.cons J .nil))))) J ?_;rintro i Gx _ hi;refine sR<|sy (Dw J J) J<|zE<|fj<|?_
 refine O' J (fun hc=>?_) (fun hc=>?_)
 .refine NV<|Dd<|Dd<|KT<|sR<|sm J J<|sm J J<|sa J J<|sa J J<|zE<|lu<|?_
  exact zD (.tmp J (.tmp J .nil)) (l5.2 ⟨_,J, .cons (hq.up GL.le) (.cons (aH.2 J) .nil)⟩)
 have hi':i<(t.wr 0).length:=by omega
 refine zK<|fj<|vL<|sR<|sy (ux J J) J<|?_;refine sy (nH (v:= .bool true) J (by rw[cK,jJ];exact HI hi' (by rw[kM];omega))) J<|sa J J<|zE<|CD<|sm J J<|sm J J<|?_;refine fB J J (l6 J) J<|sy (Dq J J) J<|sa J J<|zE<|CD<|sy (wj J J) J<|sm J J<|zE<|?_;exact H9 (i+1) hi' (by omega) (.cons (by show some (Value.int _ _)=some (.int _ _);congr 2) (.cons J (.cons J (.cons J (.cons J .nil))))) J
def Wa(h:gc k t):PF GB prog 77 [eA t] (.tp [eU t,vB true]):=aIK h.lb h.ok (by have:=h.s;omega)
def Td(l:List Rat):fy l=tF bA l:=by
 unfold fy tF;have key: ∀(l o:List Rat),l.foldl (fun out x=>kt x out) o=l.foldl (fun out x=>e7 bA x out) o:=by
  intro l
  induction l with
  |nil=>intro o;rfl
  |cons a t ih=>intro o;rw[iK,iK,xo,ih]
 exact key l []
def E'(l:List Rat):(fy l).length<=l.length:=by
 have:=Fo bA l [];rw[Td];simpa[tF] using this
theorem I0{l:List Rat}(h: ∀q∈l,BQ q k): ∀g∈cp l,BQ g (2*k+100):=fun g hg=>by
 cases l with
 |nil=>
  rw[cp,aU] at hg;subst hg;exact BQ.mono (k:=1) ⟨by decide,by decide⟩ (by omega)
 |cons a t=>
  rw[cp] at hg;rcases aW.1 hg with rfl|hg
  .haveI:=h a aQ
   exact BQ.mono (inferInstance:BQ (a-1) _) (by omega)
  .rcases bJ.1 hg with hg|hg
   .obtain⟨c,hc,d,hd,rfl⟩:=I3 hg
    haveI:=h c hc;haveI:=h d hd;exact BQ.mono (inferInstance:BQ ((c+d)/2) _) (by omega)
   .rw[aU] at hg
    haveI:=h _ (List.getLast_mem (l:=a::t) (by simp));subst hg;exact BQ.mono (inferInstance:BQ ((a::t).getLast (by simp)+1) _) (by omega)
def vy(a:aa)(t:List aa):List Rat:=t.filterMap fun b=>if crossI a b=0 then none else some (c8 a b).x
def IU(a:aa)(t:List aa):dG (a::t)=(if a.b=0 then [a.base.x] else [])++(vy a t++dG t):=rfl
def aDL(a:aa)(t:List aa):(vy a t).length<=t.length:=lK _ _
def HH: ∀l:List aa,(dG l).length<=l.length*(l.length+1)
 |[]=>bK _
 |a::t=>by
  have h1:=HH t;have h2:=aDL a t;have h3:(if a.b=0 then [a.base.x] else []).length<=1:=by split<;>simp
  rw[IU,aY,aY,bZ];have e:(t.length+1)*(t.length+1+1)=t.length*(t.length+1)+2*t.length+2:=by simp only[dY,fX];omega
  rw[e];omega
theorem AY: ∀{l:List aa},(∀a∈l,LB a)-> ∀x∈dG l,BQ x 900
 |[],_,x,h=>by cases h
 |a::t,hl,x,h=>by
  haveI:=hl a aQ;have ht: ∀b∈t,LB b:=fun b hb=>hl b (aJ _ hb);rw[IU] at h;rcases bJ.1 h with h|h
  .split at h
   .rw[aU] at h;subst h;infer_instance
   .cases h
  .rcases bJ.1 h with h|h
   .obtain⟨b,hb,e⟩:=jL.1 h
    haveI:=ht b hb;split at e
    .cases e
    .cases e;exact BQ.mono (inferInstance:BQ (c8 a b).x 772)
   .exact AY ht x h
def Qw(l:List aa)(x:Rat):(gr l x).length<=l.length:=lK _ _
theorem Rs(hl: ∀a∈l,LB a){x:Rat}(hx:BQ x 1900): ∀y∈gr l x,BQ y 2400:=fun y hy=>by
 obtain⟨a,ha,hb,rfl⟩:=La hy;haveI:=hl a ha;unfold yA;exact BQ.mono (inferInstance:BQ (-(((a.a:Rat)*x+(a.c:Rat))/(a.b:Rat))) _) (by omega)
def Tf{a:aa}{x:Rat}(h:l[k]? =some a):gr (l.drop k) x=(if a.b=0 then [] else [yA a x])++gr (l.drop (k+1)) x:=by
 obtain⟨hk,rfl⟩:=aR.1 h;rw[bX hk];unfold gr;rw[lQ];split<;>(rename_i e;split at e<;>simp_all)
def S2{t:List aa}{a b:aa}(h:t[k]? =some b):vy a (t.drop k)=(if crossI a b=0 then [] else [(c8 a b).x])++vy a (t.drop (k+1)):=by
 obtain⟨hk,rfl⟩:=aR.1 h;rw[bX hk];unfold vy;rw[lQ];split<;>(rename_i e;split at e<;>simp_all)
def Ly{a:aa}(h:l[k]? =some a):dG (l.drop k)=(if a.b=0 then [a.base.x] else [])++(vy a (l.drop (k+1))++dG (l.drop (k+1))):=by
 obtain⟨hk,rfl⟩:=aR.1 h;rw[bX hk,IU]
def xU{a b c:List α}(h:a++b=c):a.length<=c.length:=by rw[<-h,aY];omega
def wi(l:List aa)(x:Rat):List ah:=(cp (fy (gr l x))).map fun y=>⟨x,y⟩
def Vm(l:List aa):pq l=(cp (fy (dG l))).flatMap (wi l):=rfl
def MM(l:List aa)(x:Rat):(wi l x).length<=l.length+1:=by
 unfold wi;rw[aX,y9];have:=E' (gr l x);have:=Qw l x;omega
def M1{α β:Type}(f:α->List β)(m:Nat): ∀l:List α,(∀x,(f x).length<=m)->(l.flatMap f).length<=l.length*m
 |[],_=>by simp
 |a::t,h=>by
  have:=M1 f m t h;have:=h a;rw[lX,aY,bZ,fN];omega
def Sq(h:l.length<=6000):(cp (fy (dG l))).length<=36006001:=by
 have h1:=HH l;have h2:=E' (dG l);have h3:l.length*(l.length+1)<=6000*6001:=fM h (by omega);rw[y9];omega
def Pv(h:l.length<=6000):(pq l).length<=216072012001:=by
 have h1:=M1 (wi l) 6001 (cp (fy (dG l))) (fun x=>by have:=MM l x;omega);have h2:(cp (fy (dG l))).length*6001<=36006001*6001:=bR _ (Sq h);rw[Vm];omega
def X6{f:α->List β}{l:List α}{x:α}(h:l[k]? =some x):(l.drop k).flatMap f=f x++(l.drop (k+1)).flatMap f:=by
 obtain⟨hk,rfl⟩:=aR.1 h;rw[bX hk,lX]
def WO{f:α->β}{l:List α}{x:α}(h:l[k]? =some x):(l.drop k).map f=f x::(l.drop (k+1)).map f:=by
 obtain⟨hk,rfl⟩:=aR.1 h;rw[bX hk,bU]
def BY(l:List α):l.drop l.length=[]:=by simp
def SW(hb: ∀q∈qs,BQ q k)(hk:k<=100000)(hn:qs.length<=40000000:=by omega):PF GB prog 171 [.sl (qs.map eQ)] (.sl ((fy qs).map eQ)):=by
 have hm':=eo eQ qs;refine fn (fu:=⟨15⟩) func171 J J ntmps171 J J (fun C=>?_);refine aj 8 (.d (vI (qs.length:Nat))) J (by rw[hm']<;>rfl)<|gx J<|B9 3 J<|lp (X:=List Rat×Nat) (fun⟨xs,i⟩=>[(9, .d (vI (i:Nat))),(3, .d (.sl (xs.map eQ)))]) (fun⟨xs,i⟩=>[]) (fun⟨xs,i⟩=>xs=rh bA id qs i/\i<=qs.length) (fun⟨xs,i⟩=>qs.length-i) ⟨[],0⟩ J ⟨J,aM _⟩ (fun _=>J) (fun⟨xs,i⟩ hk=>?_)
 try dsimp only at hk⊢
 obtain⟨h1,h2⟩:=hk;refine br J J J (fun hc10=>?_) (fun hc10=>?_)
 .
  obtain⟨q,hz⟩: ∃s,qs[i]? =some s:=⟨_,aZ (by omega)⟩;haveI hqb:=hb q (aK hz);have hxl:=eo eQ xs;have hxn:xs.length<=i:=by rw[h1];exact RF
  have hxb: ∀u∈xs,BQ u k:=fun u hu=>by rw[h1] at hu;obtain⟨z,hz,he⟩:=Pm hu;rw[he];exact hb z hz
  refine ix (fu:=⟨11⟩) _ J (ck hz) J<|mg (fu:=⟨5⟩) (X:=Nat) (fun n=>[(6, .d (vI (n:Nat)))]) (fun n=>[]) (fun n=>lH bA q xs=n) [6] [] rfl ?_ (fun _=>J) (fun n hnx=>?_)
  .
   refine gx J<|lp (fu:=⟨6⟩) (X:=Nat) (fun n=>[(6, .d (vI (n:Nat)))]) (fun n=>[]) (fun n=>n<=xs.length/\ ∀j (h:j<xs.length),j<n->bA xs[j] q<0) (fun n=>xs.length-n) 0 J ⟨aM _,fun j _ hj=>absurd hj (by omega)⟩ (fun _=>J) (fun n hk=>?_);obtain⟨n1,n2⟩:=hk;refine kj (v2:=fun hg16=>by simp only[ak];kernel_rfl) J J J J (fun hg16=>?_) (fun hg16=>?_)
   .
    refine ix _ J (ti) J<|cl J (ku (a:=xs[n]'(by omega)) (b:=q) (ha:=hxb _ (dX (by omega))) (hb:=hqb) (by omega) (by omega)) J<|br J J J (fun hc25=>?_) (fun hc25=>?_)
    .
     exact at_ (n+1) ⟨⟨by omega,fun j h hj=>by by_cases q:j=n;(subst q;exact hc25);exact n2 j h (by omega)⟩,(by omega)⟩
    .
     exact at_ n (vx bA n1 n2 (fun h=>hc25))
   .
    exact at_ n (vx bA n1 n2 (fun h=>absurd h (by omega)))
  .
   have hnl:n<=xs.length:=by rw[<-hnx];exact FC _ _ _
   refine kj (v1:=fun hg31=>by simp only[ak];kernel_rfl) J J J J (fun hg31=>?_) (fun hg31=>?_)
   .
    have hnew: ∀h:n<xs.length,bA xs[n] q≠0:=fun h=>absurd h (by omega);obtain⟨ys,hys⟩: ∃ys,ys=xs.take n++q::xs.drop n:=⟨_,rfl⟩;have hin:e7 bA q xs=ys:=by rw[hys];exact tj bA hnx hnew
    have hyl:ys.length<=xs.length+1:=by rw[hys];simp;omega
    refine s3 n _ J J J J (eE _) (by rw[hxl];exact hnl) J<|ro J J<|kD n xs.length _ J J (by rw[hxl]) J (eE _) hnl (by omega) J<|ap _ J J (tO eE _ _ _) J<|jC (hv:=by simp only[ak];exact⟨by kernel_rfl,by omega⟩) (ho:=fun _=>⟨vj eE _ _,by simp⟩) (ys.map eQ) J (by rw[hys,aS,bU,iR,jZ,cZ (l:=xs.map eQ) (i:=xs.length) (by simp)];rfl) (uj eE _ _ _ _) J<|at_ ⟨ys,i+1⟩ (by dsimp only;exact⟨⟨by rw[xN hz,<-h1];exact hin.symm,by omega⟩,(by omega)⟩)
   .
    refine ix _ J (ti) J<|cl J (ku (a:=xs[n]'(by omega)) (b:=q) (ha:=hxb _ (dX (by omega))) (hb:=hqb) (by omega) (by omega)) J<|br J J J (fun hc40=>?_) (fun hc40=>?_)
    .
     have hnew: ∀h:n<xs.length,bA xs[n] q≠0:=fun h=>hc40;obtain⟨ys,hys⟩: ∃ys,ys=xs.take n++q::xs.drop n:=⟨_,rfl⟩;have hin:e7 bA q xs=ys:=by rw[hys];exact tj bA hnx hnew
     have hyl:ys.length<=xs.length+1:=by rw[hys];simp;omega
     refine s3 n _ J J J J (eE _) (by rw[hxl];exact hnl) J<|ro J J<|kD n xs.length _ J J (by rw[hxl]) J (eE _) hnl (by omega) J<|ap _ J J (tO eE _ _ _) J<|jC (hv:=by simp only[ak];exact⟨by kernel_rfl,by omega⟩) (ho:=fun _=>⟨vj eE _ _,by simp⟩) (ys.map eQ) J (by rw[hys,aS,bU,iR,jZ,cZ (l:=xs.map eQ) (i:=xs.length) (by simp)];rfl) (uj eE _ _ _ _) J<|at_ ⟨ys,i+1⟩ (by dsimp only;exact⟨⟨by rw[xN hz,<-h1];exact hin.symm,by omega⟩,(by omega)⟩)
    .
     have hin:e7 bA q xs=xs:=Aa bA hnx (by omega) (Decidable.not_not.1 hc40);exact at_ ⟨xs,i+1⟩ (by dsimp only;exact⟨⟨by rw[xN hz,<-h1];exact hin.symm,by omega⟩,(by omega)⟩)
 .
  have hfin:fy qs=xs:=by rw[Td,h1,Rr,List.map_id]
  exact rz J (by rw[hfin];rfl)
def Or(hb: ∀q∈cuts,BQ q k)(hk':k<=100000)(hn:cuts.length<=40000000):PF GB prog 170 [.sl (cuts.map eQ)] (.sl ((cp cuts).map eQ)):=by
 have hm:=eo eQ cuts;refine fn (fu:=⟨10⟩) func170 J J ntmps170 J J (fun C=>?_);refine aj 6 (.d (vI (cuts.length:Nat))) J (by rw[hm]<;>rfl)<|gx J<|br J J J (fun hc7=>?_) (fun hc7=>?_)
 .
  obtain rfl:cuts=[]:=cV (by omega);refine rf J J<|rz J (by rw[cp];show DV.sl [_]=DV.sl [_];rw[HM])
 .
  obtain⟨a,ct,rfl⟩: ∃a t,cuts=a::t:=by cases cuts with|nil=>exact absurd rfl hc7|cons a t=>exact⟨a,t,rfl⟩
  haveI hab:=hb a aQ;have hcl:ct.length+1<=40000000:=hn;refine ix _ J J J<|cl J (iw (n:=1)) J<|cl (fu:=⟨0⟩) J (rj (a:=a) (b:=((1:Int):Rat)) (by omega) (by omega)) J<|aj 14 (.d (eQ (a-1))) J J<|gx J<|ro J J<|lp (fu:=⟨6⟩) (X:=Nat) (fun i=>[(4, .d (vI ((i+1:Nat):Int))),(3, .rw 15)]) (fun i=>[(15,some (.b 50 3 (((a-1)::iH ((a::ct).take (i+1))).map eQ) true))]) (fun i=>i<=ct.length) (fun i=>ct.length-i) 0 J (aM _) (fun _=>J) (fun i hk=>?_);have hm2:=eo eQ (a::ct);have hml:=BW (a::ct.take i);rw[bZ,bT] at hml;have hml2:=BW (a::ct);rw[bZ] at hml2;refine aj 18 (.d (vI ((ct.length+1:Nat):Int))) J (by rw[hm2]<;>rfl)<|gx J<|br (fu2:=⟨11⟩) J J J (fun hc19=>?_) (fun hc19=>?_)
  .
   obtain⟨u,hu⟩: ∃s,(a::ct)[i]? =some s:=⟨_,aZ (by simp;omega)⟩;obtain⟨w,hw⟩: ∃s,(a::ct)[i+1]? =some s:=⟨_,aZ (by simp;omega)⟩;haveI:=hb u (aK hu);haveI:=hb w (aK hw);refine ix _ J (by rw[show((((i+1:Nat):Int))-1).toNat=i by omega,cY,hu];rfl) J<|ix _ J (by rw[cK,cY,hw];rfl) J<|?_;refine cl J (Cn (a:=u) (b:=w) (by omega) (by omega)) J<|rf J J<|ap (hv:=by simp only[ak];exact⟨by kernel_rfl,by omega⟩) (((a-1)::iH ((a::ct).take (i+1+1))).map eQ) J (by rw[Ge hu hw,<-gW,aS];rfl) (eE [(u+w)/2]) J<|d8 34 15 J<|at_ (i+1) ⟨(by omega),(by omega)⟩
  .
   obtain rfl:i=ct.length:=by omega
   obtain⟨z,hz⟩: ∃s,(a::ct)[ct.length]? =some s:=⟨_,aZ (by simp)⟩;haveI:=hb z (aK hz);rw[show(a::ct).take (ct.length+1)=a::ct from cS (l:=a::ct)];refine aj 38 (.d (vI ((ct.length+1:Nat):Int))) J (by rw[hm2]<;>rfl)<|gx J<|ix _ J (by rw[show((((ct.length+1:Nat):Int))-1).toNat=ct.length by omega,cY,hz];rfl) J<|cl J (iw (n:=1)) J<|?_;refine cl J (mr (a:=z) (b:=((1:Int):Rat)) (by omega) (by omega)) J<|rf J J<|ap ((cp (a::ct)).map eQ) J (by rw[RJ hz,<-gW,aS];rfl) (eE [z+1]) J<|gm 45 J<|rz J J
def aCH(hb: ∀a∈l,LB a)(ho: ∀a∈l,a.Ne)(hn:l.length<=6000):PF GB prog 101 [.sl (l.map eL)] (.sl ((pq l).map eP)):=by
 have hbl:=hb;have hml:=eo eL l;have htot:=Pv hn;have hgl:=Sq hn;have hxl:=HH l;have hxl2:l.length*(l.length+1)<=6000*6001:=fM hn (by omega);refine fn (fu:=⟨15⟩) func101 J J ntmps101 J J (fun C=>?_);refine aj 19 (.d (vI (l.length:Nat))) J (by rw[aX]<;>rfl)<|gx J<|nr 3 3 50 3 J J J<|lp (X:=List Rat×Nat) (fun⟨cur,i⟩=>[(20, .d (vI (i:Nat))),(3, .rw 3)]) (fun⟨cur,i⟩=>[(3,some (.b 50 3 (cur.map eQ) true))]) (fun⟨cur,i⟩=>cur++dG (l.drop i)=dG l/\i<=l.length) (fun⟨cur,i⟩=>l.length-i) ⟨[],0⟩ J ⟨by simp,aM _⟩ (fun _=>J) (fun⟨cur,i⟩ hk=>?_)
 try dsimp only at hk⊢
 obtain⟨h1,h2⟩:=hk;have hcl:=xU h1;have hcm:=eo eQ cur;refine br (fu2:=⟨0⟩) J J J (fun hc21=>?_) (fun hc21=>?_)
 .
  obtain⟨a,ha⟩: ∃s,l[i]? =some s:=⟨_,aZ (by omega)⟩;haveI hab:=hb a (aK ha);have hao:=ho a (aK ha);refine ix (fu:=⟨7⟩) _ J (ck ha) J<|mg (X:=List Rat) (fun cur1=>[(3, .rw 3)]) (fun cur1=>[(3,some (.b 50 3 (cur1.map eQ) true))]) (fun cur1=>cur1++(vy a ((l.drop (i+1)).drop 0)++dG (l.drop (i+1)))=dG l) [3] [3] rfl ?_ (fun _=>J) (fun cur1 hc1=>?_)
  .
   refine gx J<|cl J (x5 (z:=a.b)) J<|br J J J (fun hc28=>?_) (fun hc28=>?_)
   .
    refine cl J (yv (l:=a) hao) J<|rf J J<|ap ((cur++[a.base.x]).map eQ) J (by rw[aS];rfl) (eE [_]) J<|d8 34 3 J<|at_ (cur++[a.base.x]) (by rw[<-h1,Ly ha,if_pos (gM.1 hc28)];simp)
   .
    exact at_ cur (by rw[<-h1,Ly ha,if_neg (fun e=>hc28 (gM.2 e))];simp)
  .
   have hcl1:=xU hc1;have hdl:(l.drop (i+1)).length<=6000:=by rw[gU];omega
   have hcm1:=eo eQ cur1;refine kD (fu:=⟨1⟩) (i+1) l.length ((l.drop (i+1)).map eL) J J (by rw[hml]) (by rw[cZ (by rw[hml];exact bK _),jZ]) (eu l) (by omega) (by rw[hml];exact bK _) J<|aj 39 (.d (vI ((l.drop (i+1)).length:Nat))) J (by rw[aX]<;>rfl)<|gx J<|lp (X:=List Rat×Nat) (fun⟨cur2,j⟩=>[(40, .d (vI (j:Nat))),(3, .rw 3)]) (fun⟨cur2,j⟩=>[(3,some (.b 50 3 (cur2.map eQ) true))]) (fun⟨cur2,j⟩=>cur2++(vy a ((l.drop (i+1)).drop j)++dG (l.drop (i+1)))=dG l/\j<=(l.drop (i+1)).length) (fun⟨cur2,j⟩=>(l.drop (i+1)).length-j) ⟨cur1,0⟩ J ⟨hc1,aM _⟩ (fun _=>J) (fun⟨cur2,j⟩ hk=>?_)
   try dsimp only at hk⊢
   obtain⟨j1,j2⟩:=hk;have hcl2:=xU j1;have hcm2:=eo eQ cur2;refine br J J J (fun hc41=>?_) (fun hc41=>?_)
   .
    obtain⟨b,hb⟩: ∃s,(l.drop (i+1))[j]? =some s:=⟨_,aZ (by omega)⟩;haveI hbb:=hbl b (gR (aK hb));refine ix _ J (ck hb) J<|cl J (DX (l:=a) (m:=b)) J<|bd J J J (fun hc50=>?_) (fun hc50=>?_)
    .
     refine rf J J<|ap ((cur2++[(c8 a b).x]).map eQ) J (by rw[aS];rfl) (eE [_]) J<|d8 55 3 J<|at_ ⟨cur2++[(c8 a b).x],j+1⟩ (by dsimp only;exact⟨⟨by rw[<-j1,S2 hb,if_neg hc50];simp,by omega⟩,(by omega)⟩)
    .
     exact at_ ⟨cur2,j+1⟩ (by dsimp only;exact⟨⟨by rw[<-j1,S2 hb,if_pos (Decidable.not_not.1 hc50)];simp,by omega⟩,(by omega)⟩)
   .
    obtain rfl:j=(l.drop (i+1)).length:=by omega
    exact at_ ⟨cur2,i+1⟩ (by dsimp only;exact⟨⟨by rw[BY] at j1;exact j1,by omega⟩,(by omega)⟩)
 .
  obtain rfl:i=l.length:=by omega
  obtain rfl:cur=dG l:=by rw[BY] at h1;simpa[dG] using h1
  refine oe 3 J<|gx J<|cl J (SW (qs:=dG l) (k:=900) (AY hb) (by decide)) J<|cl (fu:=⟨1⟩) J (Or (cuts:=fy (dG l)) (k:=900) (fun q hq=>AY hb q (o9.1 hq)) (by decide) (by have:=E' (dG l);omega)) J<|aj 61 (.d (vI ((cp (fy (dG l))).length:Nat))) J (by rw[aX]<;>rfl)<|gx J<|nr 10 10 53 6 J J J<|lp (X:=List ah×Nat) (fun⟨pts,g⟩=>[(62, .d (vI (g:Nat))),(10, .rw 10)]) (fun⟨pts,g⟩=>[(10,some (.b 53 6 (pts.map eP) true))]) (fun⟨pts,g⟩=>pts++((cp (fy (dG l))).drop g).flatMap (wi l)=pq l/\g<=(cp (fy (dG l))).length) (fun⟨pts,g⟩=>(cp (fy (dG l))).length-g) ⟨[],0⟩ J ⟨J,aM _⟩ (fun _=>J) (fun⟨pts,g⟩ hk=>?_)
  try dsimp only at hk⊢
  obtain⟨g1,g2⟩:=hk;have hpl:=xU g1;have hpm:=eo eP pts;refine br J J J (fun hc63=>?_) (fun hc63=>?_)
  .
   obtain⟨x,hx⟩: ∃s,(cp (fy (dG l)))[g]? =some s:=⟨_,aZ (by omega)⟩;haveI hxb:BQ x 1900:=I0 (k:=900) (fun q hq=>AY hb q (o9.1 hq)) x (aK hx);refine ix (fu:=⟨15⟩) _ J (ck hx) J<|aj 67 (.d (vI (l.length:Nat))) J (by rw[aX]<;>rfl)<|gx J<|nr 13 13 50 3 J J J<|lp (X:=List Rat×Nat) (fun⟨ys,j⟩=>[(68, .d (vI (j:Nat))),(13, .rw 13)]) (fun⟨ys,j⟩=>[(13,some (.b 50 3 (ys.map eQ) true))]) (fun⟨ys,j⟩=>ys++gr (l.drop j) x=gr l x/\j<=l.length) (fun⟨ys,j⟩=>l.length-j) ⟨[],0⟩ J ⟨J,aM _⟩ (fun _=>J) (fun⟨ys,j⟩ hk=>?_)
   try dsimp only at hk⊢
   obtain⟨y1,y2⟩:=hk;have hyl:=xU y1;have hym:=eo eQ ys;have hyt:=Qw l x;refine br (fu2:=⟨0⟩) J J J (fun hc69=>?_) (fun hc69=>?_)
   .
    obtain⟨a,ha⟩: ∃s,l[j]? =some s:=⟨_,aZ (by omega)⟩;haveI hala:=hb a (aK ha);refine ix _ J (ck ha) J<|cl J (x5 (z:=a.b)) J<|br J J J (fun hc75=>?_) (fun hc75=>?_)
    .
     have hab: ¬a.b=0:=fun e=>hc75 (gM.2 e);have habR:((a.b:Int):Rat)≠0:=fun e=>hab (cR.1 e);refine cl J (iA (z:=a.a)) J<|cl J (gy (a:=(a.a:Rat)) (b:=x)) J<|cl J (iA (z:=a.c)) J<|cl J (mr (a:=(a.a:Rat)*x) (b:=(a.c:Rat))) J<|cl J (iA (z:=a.b)) J<|cl J (wN (a:=(a.a:Rat)*x+(a.c:Rat)) (b:=(a.b:Rat)) habR) J<|cl J (og (q:=((a.a:Rat)*x+(a.c:Rat))/(a.b:Rat))) J<|rf J J<|ap (hv:=by simp only[ak];exact⟨by kernel_rfl,by omega⟩) ((ys++[yA a x]).map eQ) J (by rw[aS];rfl) (eE [_]) J<|d8 92 13 J<|at_ ⟨ys++[yA a x],j+1⟩ (by dsimp only;exact⟨⟨by rw[<-y1,Tf ha,if_neg hab];simp,by omega⟩,(by omega)⟩)
    .
     have hab:a.b=0:=gM.1 (Decidable.not_not.1 hc75);exact at_ ⟨ys,j+1⟩ (by dsimp only;exact⟨⟨by rw[<-y1,Tf ha,if_pos hab];simp,by omega⟩,(by omega)⟩)
   .
    obtain rfl:j=l.length:=by omega
    obtain rfl:ys=gr l x:=by rw[BY] at y1;simpa[gr] using y1
    have hyb:=Rs hb hxb;have hgy:(cp (fy (gr l x))).length<=6001:=by have:=MM l x;unfold wi at this;rw[aX] at this;omega
    refine oe 13 J<|gx J<|cl J (SW (qs:=gr l x) (k:=2400) hyb (by decide)) J<|cl (fu:=⟨1⟩) J (Or (cuts:=fy (gr l x)) (k:=2400) (fun q hq=>hyb q (o9.1 hq)) (by decide) (by have:=E' (gr l x);omega)) J<|aj 97 (.d (vI ((cp (fy (gr l x))).length:Nat))) J (by rw[aX]<;>rfl)<|gx J<|lp (X:=List ah×Nat) (fun⟨pts2,j⟩=>[(98, .d (vI (j:Nat))),(10, .rw 10)]) (fun⟨pts2,j⟩=>[(10,some (.b 53 6 (pts2.map eP) true))]) (fun⟨pts2,j⟩=>pts2++(((cp (fy (gr l x))).drop j).map (fun y=>(⟨x,y⟩:ah))++((cp (fy (dG l))).drop (g+1)).flatMap (wi l))=pq l/\j<=(cp (fy (gr l x))).length) (fun⟨pts2,j⟩=>(cp (fy (gr l x))).length-j) ⟨pts,0⟩ J ⟨by rw[X6 hx] at g1;exact g1,aM _⟩ (fun _=>J) (fun⟨pts2,j⟩ hk=>?_)
    try dsimp only at hk⊢
    obtain⟨w1,w2⟩:=hk;have hpl2:=xU w1;have hpm2:=eo eP pts2;refine br J J J (fun hc99=>?_) (fun hc99=>?_)
    .
     obtain⟨y,hy⟩: ∃s,(cp (fy (gr l x)))[j]? =some s:=⟨_,aZ (by omega)⟩;refine ix _ J (ck hy) J<|rf J J<|ap ((pts2++[(⟨x,y⟩:ah)]).map eP) J (by rw[aS];rfl) (QX [(⟨x,y⟩:ah)]) J<|d8 107 10 J<|at_ ⟨pts2++[⟨x,y⟩],j+1⟩ (by dsimp only;exact⟨⟨by rw[<-w1,WO hy];simp,by omega⟩,(by omega)⟩)
    .
     obtain rfl:j=(cp (fy (gr l x))).length:=by omega
     exact at_ ⟨pts2,g+1⟩ (by dsimp only;exact⟨⟨by rw[BY] at w1;exact w1,by omega⟩,(by omega)⟩)
  .
   obtain rfl:g=(cp (fy (dG l))).length:=by omega
   obtain rfl:pts=pq l:=by rw[BY] at g1;simpa using g1
   refine gm 10 J<|rz J J
def Y2{b:Bool}:PR GB prog 103 [eT (Tr.leaf b)] 6 55 ((Tr.leaf b).lns.map eL):=by
 refine Cc (fu:=⟨11⟩) func103 J J ntmps103 J J (fun C hmb=>?_);refine du J J J<|?_;exact F2 J J J
def UE{l:aa}{x:Tr}(hs:(Tr.node l x y).size<=100000)(ihx:PR GB prog 103 [eT x] 6 55 (x.lns.map eL))(ihy:PR GB prog 103 [eT y] 6 55 (y.lns.map eL)):PR GB prog 103 [eT (Tr.node l x y)] 6 55 ((Tr.node l x y).lns.map eL):=by
 have hsx:=s8 x;have hsy:=s8 y;have hsz:(Tr.node l x y).size=1+x.size+y.size:=J;refine Cc (fu:=⟨11⟩) func103 J J ntmps103 J J (fun C hmb=>?_);refine cB J J J<|ro J J<|cr J ihx J<|ap (hbd:=by simp only[aX,bZ,dS];omega) ((l::x.lns).map eL) J (by rw[bU];rfl) (eu _) J<|cr J ihy J<|ap (hbd:=by simp only[aX,bZ,dS];omega) ((l::(x.lns++y.lns)).map eL) J (by rw[bU,bU,aS];rfl) (eu _) J<|?_;exact C6 J J J J
def CI: ∀{t:Tr},t.size<=100000->PR GB prog 103 [eT t] 6 55 (t.lns.map eL)
 | .leaf _,_=>Y2
 | .node l x y,h=>UE h (CI (by have:(Tr.node l x y).size=1+x.size+y.size:=J;omega)) (CI (by have:(Tr.node l x y).size=1+x.size+y.size:=J;omega))
def wU:Tr->ah->Bool
 | .leaf _,_=>true
 | .node l x y,p=>if(l.value p).num.sign=1 then wU x p else if(l.value p).num.sign= -1 then wU y p else false
def Pg[hp:aC p i](hb:t.all LB)(hi:i<=400000:=by decide):PF GB prog 104 [eT t,eP p] (.tp [vB (jB t p),vB (wU t p)]):=by
 refine fn func104 J J ntmps104 J J (fun C=>?_);refine lp (fu:=⟨3⟩) (X:=Tr) (fun s=>[(0, .d (eT s))]) (fun s=>[]) (fun s=>jB s p=jB t p/\wU s p=wU t p/\s.all LB) (fun s=>s.size) t J ⟨J,J,hb⟩ (fun _=>J) (fun s hk=>?_);obtain⟨h1,h2,hb2⟩:=hk;rcases s with b|⟨l,x,y⟩
 .
  have hA:jB t p=b:=h1.symm;have hO:wU t p=true:=h2.symm;refine gx (fu:=⟨3⟩) J<|du J J J<|rz J (by rw[hA,hO];rfl)
 .
  have hAn:=h1.symm;have hOn:=h2.symm;rw[jB] at hAn;rw[wU] at hOn;haveI:=hb2.1;refine gx (fu:=⟨3⟩) J<|cB J J J<|cl J (Cb (l:=l) (p:=p) (i:=i) hi) J<|br J J J (fun hc17=>?_) (fun hc17=>?_)
  .
   exact at_ x ⟨⟨by rw[hAn,if_pos hc17],by rw[hOn,if_pos hc17],hb2.2.1⟩,(by simp only[Tr.size];omega)⟩
  .
   refine br J J J (fun hc23=>?_) (fun hc23=>?_)
   .
    exact at_ y ⟨⟨by rw[hAn,if_neg hc17,if_pos hc23],by rw[hOn,if_neg hc17,if_pos hc23],hb2.2.2⟩,(by simp only[Tr.size];omega)⟩
   .
    exact rz J (by rw[hAn,hOn,if_neg hc17,if_neg hc23,if_neg hc17,if_neg hc23];rfl)
def Qk(ls:List aa):(mH ls).length<=ls.length:=by
 have:=Fo gP (ls.map aa.canon) [];unfold mH tF;rw[aX,dS] at this;omega
theorem Ty(hl: ∀a∈l,LB a): ∀p∈pq l,aC p 4900:=fun p hp=>by
 obtain⟨h1,h2⟩:=F1.1 hp;have hx:BQ p.x 1900:=I0 (k:=900) (fun q hq=>AY hl q (o9.1 hq)) _ h1;have hy:BQ p.y 4900:=I0 (k:=2400) (fun q hq=>Rs hl hx q (o9.1 hq)) _ h2;exact⟨hx.mono (by decide),hy⟩
theorem P3(h: ∀l∈ls,LB l): ∀l∈mH ls,LB l:=fun l hl=>by
 obtain⟨x,hx,rfl⟩:=Fw hl;haveI:=h x hx
 infer_instance
def aDQ(h: ∀l∈ls,l.ok): ∀l∈mH ls,l.Ne:=fun l hl=>by
 obtain⟨x,hx,rfl⟩:=Fw hl;exact(Ni (h x hx)).ne
structure pD (a b:Tr):Prop where
 ga:a.gd
 gb:b.gd
 sa:a.size<=3000
 sb:b.size<=3000
theorem pD.lb{a b:Tr}(h:pD a b): ∀l∈a.lns++b.lns,LB l:=fun l hl=>(bJ.1 hl).elim (tr.1 h.ga.lb l) (tr.1 h.gb.lb l)
def pD.ok{a b:Tr}(h:pD a b): ∀l∈a.lns++b.lns,l.ok:=fun l hl=>(bJ.1 hl).elim (uu h.ga.ok l) (uu h.gb.ok l)
def pD.len(h:pD a b):(a.lns++b.lns).length<=6000:=by rw[aY,s8,s8];have:=h.sa;have:=h.sb;omega
def pD.fl(h:pD a b):(ou a b).length<=216072012001:=Pv (cM (Qk _) h.len)
theorem pD.fb(h:pD a b): ∀p∈ou a b,aC p 4900:=Ty (P3 h.lb)
def aE3(hz:(ou a b)[k]? =some p)(h:jB a p≠jB b p):sA a b=false:=by
 rw[sA,sQ];exact⟨p,aK hz,by simpa using h⟩
def WY(h: ∀j p,(ou a b)[j]? =some p->j<(ou a b).length->jB a p=jB b p):sA a b=true:=by
 rw[sA,dJ];intro p hp;obtain⟨j,hj,rfl⟩:=List.getElem_of_mem hp;simpa using h j _ (aZ hj) hj
def UN(h:pD a b):PF GB prog 46 [eT a,eT b] (vB (sA a b)):=by
 have hsa:=h.sa;have hsb:=h.sb;have hll:=h.len;have hfl:=h.fl;have hla:=s8 a;have hlb:=s8 b;refine fn func46 J J ntmps46 J J (fun C=>?_);refine cr J (CI (t:=a) (by omega)) J<|cr J (CI (t:=b) (by omega)) J<|ap (hbd:=by simp only[aX];omega) ((a.lns++b.lns).map eL) J (by rw[aS]) (eu _) J<|fz 15 J J<|cl J (PC (ls:=a.lns++b.lns) h.lb (by omega)) J<|cl (fu:=⟨1⟩) J (aCH (l:=mH (a.lns++b.lns)) (P3 h.lb) (aDQ h.ok) (cM (Qk _) hll)) J<|aj 18 (.d (vI ((ou a b).length:Nat))) J (by rw[aX];rfl)<|gx J<|lp (X:=Nat) (fun k=>[(19, .d (vI (k:Nat)))]) (fun k=>[]) (fun k=>k<=(ou a b).length/\ ∀j q,(ou a b)[j]? =some q->j<k->jB a q=jB b q) (fun k=>(ou a b).length-k) 0 J ⟨aM _,fun j q _ hj=>absurd hj (by omega)⟩ (fun _=>J) (fun k hk=>?_);obtain⟨k1,k2⟩:=hk;refine br J J J (fun hc20=>?_) (fun hc20=>?_)
 .
  obtain⟨p,hz⟩: ∃s,(ou a b)[k]? =some s:=⟨_,aZ (by omega)⟩;haveI hpb:=h.fb p (aK hz);refine ix _ J (ck (l:=ou a b) hz) J<|cl J (Pg (t:=a) (p:=p) (i:=4900) h.ga.lb) J<|cl J (Pg (t:=b) (p:=p) (i:=4900) h.gb.lb) J<|bb J J J (fun hc37=>?_) (fun hc37=>?_)
  .
   exact rz J (by rw[aE3 hz (by simpa using hc37)];rfl)
  .
   exact at_ (k+1) ⟨⟨by omega,fun j q hq hj=>by by_cases e:j=k;(subst e;rw[hz] at hq;cases hq;simpa using hc37);exact k2 j q hq (by omega)⟩,(by omega)⟩
 .
  exact rz J (by rw[WY fun j q hq hj=>k2 j q hq (by omega)];rfl)
def Gu{c:List aa}(hok: ∀l∈c,l.ok):lv c=true↔ ∃p,dE c p:=by
 rw[<-yc hok];unfold lv i0
 cases c with
 |nil=>simp
 |cons a b=>
  rw[if_neg (by simp;omega)];simp only[decide_eq_true_eq,aX,List.isEmpty_cons,sS,iJ];constructor
  .intro h
   obtain⟨m,hm⟩:=List.exists_mem_of_length_pos (l:=ce (a::b)) (by omega);exact⟨m,jw.1 hm⟩
  .rintro ⟨m,hm⟩
   have:=sV (jw.2 hm);omega
def gq:Tr->List aa->List (List aa×Bool)
 | .leaf b,c=>if lv c then [(ce c,b)] else []
 | .node l x y,c=>if lv c then gq x (ce c++[l])++gq y (ce c++[l.rev]) else []
def BU: ∀(t:Tr) (c:List aa),(gq t c).length<=t.size+1
 | .leaf _,c=>by rw[gq];split<;>simp[Tr.size]
 | .node l x y,c=>by
  have h1:=BU x (ce c++[l]);have h2:=BU y (ce c++[l.rev]);rw[gq,Tr.size];split
  .rw[aY];omega
  .simp
end Go.Sx
end
