import Derived.Test.YtmhfhhiaecjhiaaGreatDoorBr12
import Derived.WalkKit
import Derived.LaidEql
import Derived.Stop.Asserts
import Derived.RowKitTokens
set_option linter.all false
set_option maxHeartbeats 2000000
set_option maxRecDepth 100000
section
namespace Go.Sx
open Go Go.Proofs Tryz
variable {GB:Gh}
def Nv{s:aH}{l:ab}[hs:LB s.l][hl:LB l]:PF GB prog 139 [bj s,cG l] (vI (fm s.l.dir l.dir)):=by
 refine fn func139 J J ntmps139 J J (fun C=>?_);refine cl J (vu (l:=s.l)) J<|cl J (vu (l:=l)) J<|cl J (ay7 (u:=s.l.dir) (v:=l.dir)) J<|rz J J
def xA(c:aA)(l:ab)(i:Nat):Bool:=match c[i]? with
 |some s=>decide (fm s.l.dir l.dir=0)
 |none=>false
def avQ(i j:Nat):((i:Int)+(j:Int)).fdiv (2^min (1:Int).toNat IntKind.u64.bits)=((i+j)/2:Nat):=by
 rw[show(2:Int)^min (1:Int).toNat IntKind.u64.bits=((2:Nat):Int) from J,jT _ (by decide)];omega
def TX{c:aA}{l:ab}{k:Nat}{s:aH}(h:c[k]? =some s):gI c l k=decide (fm s.l.dir l.dir<0):=by unfold gI;rw[h]
def YT{c:aA}{l:ab}{k:Nat}{s:aH}(h:c[k]? =some s):xA c l k=decide (fm s.l.dir l.dir=0):=by unfold xA;rw[h]
def aGb{c:aA}{l:ab}{k:Nat}(h: ¬k<c.length):xA c l k=false:=by unfold xA;rw[fM (by omega)]
def Um{p:Nat->Bool}{i j:Nat}(h:i<j)(hp:p ((i+j)/2)=true):fy p i j=fy p ((i+j)/2+1) j:=by rw[fy,dif_pos h,if_pos hp]
def R4{p:Nat->Bool}{i j:Nat}(h:i<j)(hp: ¬p ((i+j)/2)=true):fy p i j=fy p i ((i+j)/2):=by rw[fy,dif_pos h,if_neg hp]
def Qk{p:Nat->Bool}{i j:Nat}(h: ¬i<j:=by omega):fy p i j=i:=by rw[fy,dif_neg h]
def aHg{c:aA}{l:ab}[hl:LB l](hc:gn c)(hn:c.length<=1000000):PF GB prog 138 [.sl (c.map bj),cG l, .v (.func (.func 139) #[] #[])] (.tp [vI (fy (gI c l) 0 c.length:Nat),vB (xA c l (fy (gI c l) 0 c.length))]):=by
 have hm:=kb bj c;refine fn (fu:=⟨11⟩) func138 J J ntmps138 J J (fun C=>?_);refine ah 13 (.d (vI (c.length:Nat))) J (by rw[hm]<;>rfl)<|gx J<|lp (X:=Nat×Nat) (fun⟨i,j⟩=>[(9, .d (vI (i:Nat))),(10, .d (vI (j:Nat)))]) (fun⟨i,j⟩=>[]) (fun⟨i,j⟩=>i<=j/\j<=c.length/\fy (gI c l) i j=fy (gI c l) 0 c.length) (fun⟨i,j⟩=>j-i) (0,c.length) J ⟨aN _,bQ _,J⟩ (fun _=>J) (fun⟨i,j⟩ hk=>?_);dsimp only at hk⊢;obtain⟨h1,h2,h3⟩:=hk;refine br (fu1:=⟨10⟩) (fu2:=⟨11⟩) J J J (fun hc17=>?_) (fun hc17=>?_)
 .
  obtain⟨s,hs0⟩: ∃s,c[(i+j)/2]? =some s:=⟨_,aZ (by omega)⟩;haveI:=(hc s (aV hs0)).lb;have hang:=TX (l:=l) hs0;refine ah 22 (.d (.v (.int .u64 ((i+j)/2:Nat)))) J (by rw[avQ])<|gx J<|ix _ J (cO hs0) J<|cl J (Nv (s:=s) (l:=l)) J<|br J J J (fun hc31=>?_) (fun hc31=>?_)
  .
   exact at_ ((i+j)/2+1,j) (by dsimp only;exact⟨⟨by omega,h2,by rw[<-h3,Um (i:=i) (j:=j) (by omega) (by rw[hang];exact decide_eq_true hc31)]⟩,(by omega)⟩)
  .
   exact at_ (i,(i+j)/2) (by dsimp only;exact⟨⟨by omega,by omega,by rw[<-h3,R4 (i:=i) (j:=j) (by omega) (by rw[hang,decide_eq_false hc31];exact Bool.false_ne_true)]⟩,(by omega)⟩)
 .
  refine ru (v2:=fun hg39=>by simp only[aj];kernel_rfl) J J J J (fun hg39=>?_) (fun hg39=>?_)
  .
   have he:=Qk (p:=gI c l) (i:=i) (j:=j);obtain⟨s,hs0⟩: ∃s,c[i]? =some s:=⟨_,aZ (by omega)⟩;haveI:=(hc s (aV hs0)).lb;refine ix _ J (cO hs0) J<|cl J (Nv (s:=s) (l:=l)) J<|rz J (by rw[<-h3,he,YT hs0];rfl)
  .
   have he:=Qk (p:=gI c l) (i:=i) (j:=j);exact rz J (by rw[<-h3,he,aGb (by omega)];rfl)
def JU{l:ab}[LB l](hlo:l.ok): ∀{c:aA} {v w:ao},gn c->rB v->mc l c v=some w->rB w
 |[],v,w,_,hv,h=>by cases h;exact hv
 |s::t,v,w,hc,hv,h=>by
  haveI:=(hc s aQ).lb;simp only[mc] at h;split at h
  .exact JU hlo (fun x hx=>hc x (aJ _ hx)) (hv.cut hlo.1) h
  .cases h
def By{l:ab}[LB l]: ∀{c:aA},gn c->gn (d7 l c)
 |[],_,s,h=>by cases h
 |a::t,hc,s,h=>by
  have ha:=hc a aQ;haveI:=ha.lb;have ht:=By (l:=l) (fun x hx=>hc x (aJ _ hx));unfold d7 at h;split at h
  .rcases aU.1 h with rfl|h
   .exact⟨ha.lb,ha.ok,ha.v.cut ha.ok.1⟩
   .exact ht s h
  .exact ht s h
def zU{l:ab}[hl:LB l](hlo:l.ok){c:aA}(hc:gn c):gn (bO c l):=by
 unfold bO;split
 .rename_i v hv
  intro s hs;unfold kG at hs;rcases bS.1 hs with h|h
  .exact By hc s (fK h)
  .rcases aU.1 h with rfl|h
   .exact⟨hl,hlo,JU hlo hc .all hv⟩
   .exact By hc s (gL h)
 .exact hc
def OU{l:ab}{c:aA}{k:Nat}{s:aH}(h:c[k]? =some s):d7 l (c.drop k)=if s.l.cutB s.v l then⟨s.l,s.l.cutV s.v l⟩::d7 l (c.drop (k+1)) else d7 l (c.drop (k+1)):=by
 rw[yf h];rfl
def Es{c:aA}{l:ab}[hl:LB l](hlo:l.ok)(hc:gn c)(hn:c.length<=100000):PF GB prog 81 [.sl (c.map bj),cG l] (.tp [.sl ((bO c l).map bj),vB (co c l)]):=by
 have hm:=kb bj c;refine fn func81 J J ntmps81 J J (fun C=>?_);refine cl J (Qw (c:=c) (l:=l) hlo hc (by omega)) J<|bb (fu2:=⟨6⟩) J J J (fun hc22=>?_) (fun hc22=>?_)
 .
  have hp:jm c l=none:=by simpa using hc22
  refine cl J (azB (c:=c) (l:=l) hlo hc (by omega)) J<|rz J (by unfold bO co;rw[hp];rfl)
 .
  obtain⟨v,hv⟩: ∃v,jm c l=some v:=nJ.1 (by simpa using hc22);have hvd:Ig (jm c l)=v:=by rw[hv];rfl
  rw[hvd];refine ah 29 (.d (vI (c.length:Nat))) J (by rw[hm]<;>rfl)<|gx J<|mkc (fu:=⟨8⟩) (c.length+1) J J J<|ah 33 (.d (vI (c.length:Nat))) J (by rw[hm]<;>rfl)<|gx J<|lp (X:=aA×Nat) (fun⟨o,k⟩=>[(34, .d (vI (k:Nat))),(8, .rw 31)]) (fun⟨o,k⟩=>[(31,some (.c 139 17 (o.map bj) (c.length+1)))]) (fun⟨o,k⟩=>k<=c.length/\o.length<=k/\o++d7 l (c.drop k)=d7 l c) (fun⟨o,k⟩=>c.length-k) ([],0) J ⟨aN _,bQ _,J⟩ (fun _=>J) (fun⟨o,k⟩ hk=>?_);dsimp only at hk⊢;obtain⟨h1,h2,h3⟩:=hk;have hmo:=kb bj o;refine br J J J (fun hc35=>?_) (fun hc35=>?_)
  .
   obtain⟨s,hs0⟩: ∃s,c[k]? =some s:=⟨_,aZ (by omega)⟩;have hs:=hc s (aV hs0);haveI:=hs.lb;haveI:=hs.v.lo;haveI:=hs.v.hi;refine ix _ J (cO hs0) J<|cl (fu:=⟨0⟩) J (zd (l:=s.l) (m:=l) (v:=s.v)) J<|?_;generalize hw:s.l.cutV s.v l=w;generalize hb:s.l.cutB s.v l=b;refine gx J<|bb J J J (fun hc47=>?_) (fun hc47=>?_)
   .
    refine rf J J<|Zv ((o++[aH.mk s.l w]).map bj) J (by rw[cY];rfl) (NV [aH.mk s.l w]) (by rw[hmo];simp;omega) J<|fD 54 31 J<|at_ (o++[aH.mk s.l w],k+1) (by dsimp only;exact⟨⟨by omega,by simp;omega,by rw[<-h3,OU hs0,hb,if_pos hc47,hw,cN];rfl⟩,(by omega)⟩)
   .
    exact at_ (o,k+1) (by dsimp only;exact⟨⟨by omega,by omega,by rw[<-h3,OU hs0,hb,if_neg (by simp[hc47])]⟩,(by omega)⟩)
  .
   obtain rfl:k=c.length:=by omega
   have ho:o=d7 l c:=by rw[<-h3,lZ];simp[d7]
   subst ho;have hbl:=(B7 (gI (d7 l c) l) (d7 l c).length 0 (d7 l c).length (by omega) (by omega)).2;refine cL J (aHg (c:=d7 l c) (l:=l) (By hc) (by omega)) J J<|ro J J<|ci ((kG (d7 l c) l v).map bj) J (avv (c:=d7 l c) (x:=⟨l,v⟩) (i:=fy (gI (d7 l c) l) 0 (d7 l c).length) (cap:=c.length+1) hbl (by omega) (by omega)) J J<|ke 68 J<|rz J (by unfold bO co;rw[hv];rfl)
def MZ{c:aA}{l:ab}[hl:LB l](hlo:l.ok)(hc:gn c)(hn:c.length<=100000):PF GB prog 122 [.sl (c.map bj),cG l] (.tp [.sl ((bO c l).map bj), .sl ((bO c l.rev).map bj),vB (co c l),vB (co c l.rev)]):=by
 refine fn func122 J J ntmps122 J J (fun C=>?_);refine cl J (Es (c:=c) (l:=l) hlo hc hn) J<|cl J (IB (l:=l)) J<|cl J (Es (c:=c) (l:=l.rev) hlo.rev hc hn) J<|rz J J
def cU:Tr->List DV
 | .leaf b=>[vI 0,vI 0, .v (.pointer none),vI 0,vI 0, .v (.pointer none),vI 0,vI 0, .v (.pointer none), .v (.pointer none), .v (.pointer none), .v (.bool b)]
 | .node l x y=>[vI (cc (l.a:Rat)),vI (cb (l.a:Rat)),dC (l.a:Rat),vI (cc (l.b:Rat)),vI (cb (l.b:Rat)),dC (l.b:Rat),vI (cc (l.c:Rat)),vI (cb (l.c:Rat)),dC (l.c:Rat), .pt (cU x), .pt (cU y), .v (.bool false)]
def eU(t:Tr):DV:= .pt (cU t)
def Et{b:Bool}:PF GB prog 82 [.v (.bool b)] (eU (.leaf b)):=by
 refine fn func82 J J ntmps82 J J (fun C=>?_);refine ke 5 J<|rz J J
def xE{l:ab}{x y:Tr}:PF GB prog 83 [cG l,eU x,eU y] (eU (.node l x y)):=by
 refine fn func83 J J ntmps83 J J (fun C=>?_);refine ke 11 J<|rz J J
def xS{b:Bool}:PF GB prog 75 [eU (.leaf b)] (.v (.bool true)):=by
 refine fn func75 J J ntmps75 J J (fun C=>?_);exact rz J J
def zY{l:ab}{x y:Tr}:PF GB prog 75 [eU (.node l x y)] (.v (.bool false)):=by
 refine fn func75 J J ntmps75 J J (fun C=>?_);exact rz J J
def UR{l l1:ab}{x y u:Tr}:PF GB prog 191 [cG l,eU (.node l1 x y),eU u] (eU (.node l (.node l1 x y) u)):=by
 refine fn func191 J J ntmps191 J J (fun C=>?_);refine cl (fu:=⟨0⟩) J zY J<|b9 J J J<|cl J xE J<|rz J J
def WJ{l l1:ab}{x y:Tr}{p:Bool}:PF GB prog 191 [cG l,eU (.leaf p),eU (.node l1 x y)] (eU (.node l (.leaf p) (.node l1 x y))):=by
 refine fn func191 J J ntmps191 J J (fun C=>?_);refine cl (fu:=⟨0⟩) J xS J<|dh J J J<|cl (fu:=⟨1⟩) J zY J<|b9 J J J<|cl J xE J<|rz J J
def ats{l:ab}{p q:Bool}:PF GB prog 191 [cG l,eU (.leaf p),eU (.leaf q)] (eU (Tr.joinQ l (.leaf p) (.leaf q))):=by
 refine fn func191 J J ntmps191 J J (fun C=>?_);refine cl (fu:=⟨0⟩) J xS J<|dh J J J<|cl (fu:=⟨1⟩) J xS J<|dh J J J<|bb J J J (fun hc23=>?_) (fun hc23=>?_)
 .
  exact rz J (by rw[show Tr.joinQ l (.leaf p) (.leaf q)= .leaf p by simp[Tr.joinQ,Tr.isLeaf,Tr.code,hc23]];rfl)
 .
  refine cl J xE J<|rz J (by rw[show Tr.joinQ l (.leaf p) (.leaf q)= .node l (.leaf p) (.leaf q) by simp[Tr.joinQ,Tr.isLeaf,Tr.code,hc23]];rfl)
def aCZ{l:ab}: ∀{x y:Tr},PF GB prog 191 [cG l,eU x,eU y] (eU (Tr.joinQ l x y))
 | .leaf _, .leaf _=>ats
 | .leaf _, .node .. =>WJ
 | .node ..,_=>UR
def So{b:Bool}{c:aA}:PF GB prog 123 [eU (.leaf b), .sl (c.map bj)] (eU (Tr.restrict (.leaf b) c)):=by
 refine fn func123 J J ntmps123 J J (fun C=>?_);refine cl (fu:=⟨0⟩) J xS J<|fi 10 J<|gx J<|rz J J
def UU{l:ab}{x y:Tr}{c:aA}(hl:LB l)(hlo:l.ok)(hc:gn c)(hn:c.length+(Tr.node l x y).depth<=100000)(ihx: ∀{c:aA},gn c->c.length+x.depth<=100000->PF GB prog 123 [eU x, .sl (c.map bj)] (eU (Tr.restrict x c)))(ihy: ∀{c:aA},gn c->c.length+y.depth<=100000->PF GB prog 123 [eU y, .sl (c.map bj)] (eU (Tr.restrict y c))):PF GB prog 123 [eU (.node l x y), .sl (c.map bj)] (eU (Tr.restrict (.node l x y) c)):=by
 have hdp:(Tr.node l x y).depth=1+max x.depth y.depth:=J;have hdx:=Nat.le_max_left x.depth y.depth;have hdy:=Nat.le_max_right x.depth y.depth;have hca:=yi c l;have hcb:=yi c l.rev;refine fn func123 J J ntmps123 J J (fun C=>?_);refine cl (fu:=⟨0⟩) J zY J<|jH 10 J<|gx J<|cl J (MZ (c:=c) (l:=l) hlo hc (by omega)) J<|bb J J J (fun hc23=>?_) (fun hc23=>?_)
 .
  refine cl J (ihx hc (by omega)) J<|rz J (by rw[Tr.restrict,if_pos hc23];rfl)
 .
  refine bb J J J (fun hc32=>?_) (fun hc32=>?_)
  .
   refine cl J (ihy hc (by omega)) J<|rz J (by rw[Tr.restrict,if_neg (by simp[hc23]),if_pos hc32];rfl)
  .
   refine cl J (ihx (c:=bO c l) (zU hlo hc) (by omega)) J<|cl J (ihy (c:=bO c l.rev) (zU hlo.rev hc) (by omega)) J<|cl J aCZ J<|rz J (by rw[Tr.restrict,if_neg (by simp[hc23]),if_neg (by simp[hc32])];rfl)
def EF: ∀{t:Tr} {c:aA},t.all LB->t.all ab.ok->gn c->c.length+t.depth<=100000->PF GB prog 123 [eU t, .sl (c.map bj)] (eU (Tr.restrict t c))
 | .leaf _,_,_,_,_,_=>So
 | .node l x y,c,hb,ho,hc,hn=>UU hb.1 ho.1 hc hn (fun h1 h2=>EF hb.2.1 ho.2.1 h1 h2) (fun h1 h2=>EF hb.2.2 ho.2.2 h1 h2)
def awo{t:Tr}(hb:t.all LB)(ho:t.all ab.ok)(hd:t.depth<=100000):PF GB prog 72 [eU t] (eU (t.restrict [])):=by
 refine fn func72 J J ntmps72 J J (fun C=>?_);refine cl J (EF (t:=t) (c:=[]) hb ho (fun s h=>by cases h) (by simpa using hd)) J<|rz J J
def Tr.compl:Tr->Tr
 | .leaf b=> .leaf !b
 | .node l x y=> .node l x.compl y.compl
def Tr.chooseQ(op:Int)(b:Bool)(t:Tr)(c:aA):Tr:=
 if op=1\/op=2 then(if b=decide (op=1) then .leaf b else t.restrict c)
 else if op=3/\b=false then .leaf false
 else if b then(t.restrict c).compl else t.restrict c
def Tr.mergeQ(op:Int):Tr->Tr->aA->Tr
 | .leaf b,u,c=>u.chooseQ op b c
 | .node l x y,u,c=>if !co c l.rev then x.mergeQ op u c else if !co c l then y.mergeQ op u c else joinQ l (x.mergeQ op u (bO c l)) (y.mergeQ op u (bO c l.rev))
def NN:DV:= .ag [vI 0,vI 0, .v (.pointer none),vI 0,vI 0, .v (.pointer none),vI 0,vI 0, .v (.pointer none)]
def uE:Option ab->DV
 |some l=> .tp [cG l,vB true]
 |none=> .tp [NN,vB false]
def Q4{l:ab}(h: ¬l.ok)(hz: ¬(l.a=0/\l.b=0)):decide (rgcd (rgcd (l.a:Rat) (l.b:Rat)) (l.c:Rat)=((1:Int):Rat))=false:=by
 rw[tU,tU];refine decide_eq_false fun e=>h ⟨hz,?_⟩;simp only[dR] at e;have:=mL.1 e;omega
def V9{l:ab}[hl:LB l](ha:l.a=0)(hb:l.b=0):PF GB prog 80 [eL l] (uE none):=by
 refine fn func80 J J ntmps80 J J (fun C=>?_);refine cl (fu:=⟨0⟩) J (pq (m:=l.a)) J<|b9 J J J<|cl (fu:=⟨0⟩) J (pq (m:=l.b)) J<|b9 J J J<|cl (fu:=⟨0⟩) J (pq (m:=l.c)) J<|b9 J J J<|cl J (rO (m:=l.a)) J<|cl J (rO (m:=l.b)) J<|cl J (rO (m:=l.c)) J<|cl (fu:=⟨0⟩) J (qv (q:=(l.a:Rat))) J<|dh J (by show some (decide _)=some true;rw[ha];rfl) J<|cl (fu:=⟨0⟩) J (qv (q:=(l.b:Rat))) J<|dh J (by show some (decide _)=some true;rw[hb];rfl) J<|rz J J
def Z4{l:ab}[hl:LB l](hz: ¬(l.a=0/\l.b=0))(ho: ¬l.ok):PF GB prog 80 [eL l] (uE none):=by
 refine fn func80 J J ntmps80 J J (fun C=>?_);refine cl (fu:=⟨0⟩) J (pq (m:=l.a)) J<|b9 J J J<|cl (fu:=⟨0⟩) J (pq (m:=l.b)) J<|b9 J J J<|cl (fu:=⟨0⟩) J (pq (m:=l.c)) J<|b9 J J J<|cl J (rO (m:=l.a)) J<|cl J (rO (m:=l.b)) J<|cl J (rO (m:=l.c)) J<|cl (fu:=⟨0⟩) J (qv (q:=(l.a:Rat))) J<|ru (fu2:=⟨4⟩) J J J J (fun hg35=>?_) (fun hg35=>?_)
 .
  have ha:l.a=0:=dV.1 hg35;refine cl (fu:=⟨1⟩) J (qv (q:=(l.b:Rat))) J<|b9 J (by first|rfl|(show some (decide _)=some false;rw[decide_eq_false (fun e=>hz ⟨ha,dV.1 e⟩)])) J<|cl J (kw (p:=(l.a:Rat)) (q:=(l.b:Rat))) J<|cl J (kw (p:=rgcd l.a l.b) (q:=(l.c:Rat))) J<|cl J (pO (m:=1)) J<|cl (fu:=⟨0⟩) J (wG (p:=rgcd (rgcd l.a l.b) l.c) (q:=((1:Int):Rat))) J<|dh J (by show some (!decide _)=some true;rw[Q4 ho hz];rfl) J<|rz J J
 .
  refine b9 J (by first|rfl|(show some (decide _)=some false;rw[decide_eq_false (fun e=>hz ⟨ha,dV.1 e⟩)])) J<|cl J (kw (p:=(l.a:Rat)) (q:=(l.b:Rat))) J<|cl J (kw (p:=rgcd l.a l.b) (q:=(l.c:Rat))) J<|cl J (pO (m:=1)) J<|cl (fu:=⟨0⟩) J (wG (p:=rgcd (rgcd l.a l.b) l.c) (q:=((1:Int):Rat))) J<|dh J (by show some (!decide _)=some true;rw[Q4 ho hz];rfl) J<|rz J J
def SP{l:ab}[hl:LB l][Decidable l.ok]:PF GB prog 80 [eL l] (uE (if l.ok then some l else none)):=by
 split
 .rename_i h;exact IX h
 .rename_i h
  by_cases hz:l.a=0/\l.b=0
  .exact V9 hz.1 hz.2
  .exact Z4 hz h
def eo(n:Bool)(ds:List Nat):Prop:=dl ds/\(n=true->0<ds.length)
instance (n:Bool) (ds:List Nat):Decidable (eo n ds):=inferInstanceAs (Decidable (_/\_))
def tq{neg:Bool}{ds:List Nat}(h:bt ds/\ds.length<=18):PF GB prog 130 [.ag [.v (.bool neg),bE ds]] (vB (decide (eo neg ds))):=Om h.1 (by have:=h.2;omega)
structure RL where
 na:Bool
 da:List Nat
 nb:Bool
 db:List Nat
 nc:Bool
 dc:List Nat
def RL.d(r:RL):DV:= .ag [.v (.bool r.na),bE r.da, .v (.bool r.nb),bE r.db, .v (.bool r.nc),bE r.dc]
def my(n:Bool)(ds:List Nat):Int:=if n then-(dv ds:Int) else dv ds
def RL.l(r:RL):ab:=⟨my r.na r.da,my r.nb r.db,my r.nc r.dc⟩
def RL.nm(r:RL):Prop:=eo r.na r.da/\eo r.nb r.db/\eo r.nc r.dc
instance (l:ab):Decidable l.ok:=inferInstanceAs (Decidable (_/\_))
instance (r:RL):Decidable r.nm:=inferInstanceAs (Decidable (_/\_/\_))
def RL.ln(r:RL):Option ab:=if r.nm/\r.l.ok then some r.l else none
structure RL.sm (r:RL):Prop where
 a:bt r.da/\r.da.length<=18
 b:bt r.db/\r.db.length<=18
 c:bt r.dc/\r.dc.length<=18
def H2(n:Bool)(ds:List Nat):(my n ds).natAbs=dv ds:=by unfold my;cases n<;>simp
def Dx{n:Bool}{ds:List Nat}(hd:bt ds)(h:eo n ds):decide (my n ds<0)=n:=by
 unfold my
 cases n with
 |false=>simp
 |true=>
  have h0:0<dv ds:=by
   refine eK fun e=>?_;have:=od hd h.1;rw[e,qc] at this;have h2:=h.2 J;rw[<-this] at h2;exact absurd h2 (by decide)
  simp only[if_true,decide_eq_true_eq];omega
def RL.eL{r:RL}(s:r.sm)(h:r.nm):r.d=Go.Sx.eL r.l:=by
 unfold RL.d Go.Sx.eL RL.l;simp only[H2,Dx s.a.1 h.1,Dx s.b.1 h.2.1,Dx s.c.1 h.2.2,dN,od s.a.1 h.1.1,od s.b.1 h.2.1.1,od s.c.1 h.2.2.1];rfl
theorem RL.lb{r:RL}(s:r.sm):LB r.l:=by
 have key: ∀(n:Bool) (ds:List Nat),bt ds/\ds.length<=18->(my n ds).natAbs<2^576:=fun n ds h=>by
  rw[H2];refine bM (ka h.1) ?_;rw[V4];exact Zh (m:=32*ds.length) (k:=576) (by have:=h.2;omega)
 exact⟨key _ _ s.a,key _ _ s.b,key _ _ s.c⟩
def S9{r:RL}(s:r.sm)(h: ¬eo r.na r.da):PF GB prog 80 [r.d] (uE none):=by
 refine fn func80 J J ntmps80 J J (fun C=>?_);refine cl (fu:=⟨0⟩) J (tq (neg:=r.na) (ds:=r.da) s.a) J<|dh J (by show some (!decide _)=some true;rw[decide_eq_false h];rfl) J<|rz J J
def R5{r:RL}(s:r.sm)(h1:eo r.na r.da)(h: ¬eo r.nb r.db):PF GB prog 80 [r.d] (uE none):=by
 refine fn func80 J J ntmps80 J J (fun C=>?_);refine cl (fu:=⟨0⟩) J (tq (neg:=r.na) (ds:=r.da) s.a) J<|b9 J (by show some (!decide _)=some false;rw[decide_eq_true h1];rfl) J<|cl (fu:=⟨0⟩) J (tq (neg:=r.nb) (ds:=r.db) s.b) J<|dh J (by show some (!decide _)=some true;rw[decide_eq_false h];rfl) J<|rz J J
def YC{r:RL}(s:r.sm)(h1:eo r.na r.da)(h2:eo r.nb r.db)(h: ¬eo r.nc r.dc):PF GB prog 80 [r.d] (uE none):=by
 refine fn func80 J J ntmps80 J J (fun C=>?_);refine cl (fu:=⟨0⟩) J (tq (neg:=r.na) (ds:=r.da) s.a) J<|b9 J (by show some (!decide _)=some false;rw[decide_eq_true h1];rfl) J<|cl (fu:=⟨0⟩) J (tq (neg:=r.nb) (ds:=r.db) s.b) J<|b9 J (by show some (!decide _)=some false;rw[decide_eq_true h2];rfl) J<|cl (fu:=⟨0⟩) J (tq (neg:=r.nc) (ds:=r.dc) s.c) J<|dh J (by show some (!decide _)=some true;rw[decide_eq_false h];rfl) J<|rz J J
def Kv{r:RL}(s:r.sm):PF GB prog 80 [r.d] (uE r.ln):=by
 by_cases h1:eo r.na r.da
 .by_cases h2:eo r.nb r.db
  .by_cases h3:eo r.nc r.dc
   .haveI:=RL.lb s
    rw[RL.eL s ⟨h1,h2,h3⟩,show r.ln=if r.l.ok then some r.l else none by unfold RL.ln;simp[show r.nm from⟨h1,h2,h3⟩]];exact SP
   .rw[show r.ln=none from if_neg fun e=>h3 e.1.2.2]
    exact YC s h1 h2 h3
  .rw[show r.ln=none from if_neg fun e=>h2 e.1.2.1]
   exact R5 s h1 h2
 .rw[show r.ln=none from if_neg fun e=>h1 e.1.1]
  exact S9 s h1
def RC(n:Nat)(f:Nat->Bool):List Value:=(List.range n).map fun j=> .bool (f j)
def vk(f:Nat->Bool)(i:Nat):Nat->Bool:=fun j=>f j||Nat.beq j i
structure RN where
 g:RL
 l:Int
 r:Int
def RN.d(n:RN):DV:= .ag [.v (.bool n.g.na),bE n.g.da, .v (.bool n.g.nb),bE n.g.db, .v (.bool n.g.nc),bE n.g.dc, .v (.int .i64 n.l), .v (.int .i64 n.r)]
structure RS where
 f:Nat->Bool
 c:Nat
 b:Bool
inductive RR (ns:List RN):Int->RS->Tr->RS->Prop where
 |leaf (b:Bool) (s:RS):RR ns (AO b) s (.leaf b) s
 |l9 (rt:Int) (s:RS) (h1:rt≠ -1) (h2:rt≠ -2) (h:rt<0\/(ns.length:Int)<=rt\/(∃k:Nat,rt=k/\k<ns.length/\s.f k=true)):RR ns rt s (.leaf false) ⟨s.f,s.c,true⟩
 |line (k:Nat) (n:RN) (s:RS) (h:ns[k]? =some n) (hf:s.f k=false) (hl:n.g.ln=none):RR ns (k:Int) s (.leaf false) ⟨vk s.f k,s.c+1,true⟩
 |node (k:Nat) (n:RN) (l:ab) (s s2 s3:RS) (x y:Tr) (h:ns[k]? =some n) (hf:s.f k=false) (hl:n.g.ln=some l) (h1:RR ns n.l ⟨vk s.f k,s.c+1,s.b⟩ x s2) (h2:RR ns n.r s2 y s3):RR ns (k:Int) s (.node l x y) s3
def Eu{G:Gh}{q:Rat}{v:Value}(h:Is G (dC q) v): ∃p,v= .pointer p:=by
 rcases tA.1 h with⟨_,h⟩|⟨_,h⟩
 .exact⟨_,h⟩
 .obtain⟨b,m,h,_⟩:=l7.1 h;exact⟨_,h⟩
def Il{G:Gh}{t:Tr}{v:Value}(h:Is G (eU t) v): ∃p,v= .pointer p:=by
 obtain⟨b,m,h,_⟩:=l7.1 h;exact⟨_,h⟩
def PF.fn0{P:Program}{f:FuncId}{ds:List DV}{r:DV}(h: ∀{GB:Gh},PF GB P f ds r){G:Gh}{vs:List Value}(hv:IsLs G ds vs):Fn P f vs G (fun v G'=>Is G' r v):=h (GB:=G) G vs (bD.refl G) hv
abbrev aK3 (x:SV) (ns:List RN) (A:Gh):Prop:= ∃es,eB A 8 x es/\IsLs A (ns.map RN.d) es
def Ut:RS:=⟨fun _=>false,0,false⟩
def ofD(ns:List RN)(t:Tr)(s:RS):DV:=if s.b=false/\s.c=ns.length then .tp [eU t,vB true] else .tp [.v (.pointer none),vB false]
def X6(rt:Int)(ns:List RN):DV:= .ag [vI rt, .sl (ns.map RN.d)]
def WH{G:Gh}{l:ab}{x y:Tr}{m:List Value}(h:IsLs G (cU (.node l x y)) m): ∃n1 d1 p1 n2 d2 p2 n3 d3 p3 q r,m=[.int .i64 n1, .int .i64 d1, .pointer p1, .int .i64 n2, .int .i64 d2, .pointer p2, .int .i64 n3, .int .i64 d3, .pointer p3, .pointer q, .pointer r, .bool false]/\
  Is G (cG l) (.agg ⟨[.int .i64 n1, .int .i64 d1, .pointer p1, .int .i64 n2, .int .i64 d2, .pointer p2, .int .i64 n3, .int .i64 d3, .pointer p3]⟩)/\Is G (eU x) (.pointer q)/\Is G (eU y) (.pointer r):=by
 obtain⟨v1,m,rfl,h1,h⟩:=bm.1 h;obtain⟨v2,m,rfl,h2,h⟩:=bm.1 h;obtain⟨v3,m,rfl,h3,h⟩:=bm.1 h;obtain⟨v4,m,rfl,h4,h⟩:=bm.1 h;obtain⟨v5,m,rfl,h5,h⟩:=bm.1 h;obtain⟨v6,m,rfl,h6,h⟩:=bm.1 h;obtain⟨v7,m,rfl,h7,h⟩:=bm.1 h;obtain⟨v8,m,rfl,h8,h⟩:=bm.1 h;obtain⟨v9,m,rfl,h9,h⟩:=bm.1 h;obtain⟨va,m,rfl,ha,h⟩:=bm.1 h;obtain⟨vb,m,rfl,hb,h⟩:=bm.1 h;obtain⟨vc,m,rfl,hc,h⟩:=bm.1 h;rw[ck] at h;subst h;obtain⟨_,rfl⟩:=Eu h3;obtain⟨_,rfl⟩:=Eu h6;obtain⟨_,rfl⟩:=Eu h9;obtain⟨_,rfl⟩:=Il ha;obtain⟨_,rfl⟩:=Il hb
 cases aP.1 h1;cases aP.1 h2;cases aP.1 h4;cases aP.1 h5;cases aP.1 h7;cases aP.1 h8;cases aP.1 hc
 exact⟨_,_,_,_,_,_,_,_,_,_,_,J,dm.2 ⟨_,J, .cons h1 (.cons h2 (.cons h3 (.cons h4 (.cons h5 (.cons h6 (.cons h7 (.cons h8 (.cons h9 .nil))))))))⟩,ha,hb⟩
def R3{G:Gh}{b:Bool}{m:List Value}(h:IsLs G (cU (.leaf b)) m):m=[.int .i64 0, .int .i64 0, .pointer none, .int .i64 0, .int .i64 0, .pointer none, .int .i64 0, .int .i64 0, .pointer none, .pointer none, .pointer none, .bool b]:=by
 obtain⟨v1,m,rfl,h1,h⟩:=bm.1 h;obtain⟨v2,m,rfl,h2,h⟩:=bm.1 h;obtain⟨v3,m,rfl,h3,h⟩:=bm.1 h;obtain⟨v4,m,rfl,h4,h⟩:=bm.1 h;obtain⟨v5,m,rfl,h5,h⟩:=bm.1 h;obtain⟨v6,m,rfl,h6,h⟩:=bm.1 h;obtain⟨v7,m,rfl,h7,h⟩:=bm.1 h;obtain⟨v8,m,rfl,h8,h⟩:=bm.1 h;obtain⟨v9,m,rfl,h9,h⟩:=bm.1 h;obtain⟨va,m,rfl,ha,h⟩:=bm.1 h;obtain⟨vb,m,rfl,hb,h⟩:=bm.1 h;obtain⟨vc,m,rfl,hc,h⟩:=bm.1 h;rw[ck] at h;subst h
 cases aP.1 h1;cases aP.1 h2;cases aP.1 h3;cases aP.1 h4;cases aP.1 h5;cases aP.1 h6;cases aP.1 h7;cases aP.1 h8;cases aP.1 h9;cases aP.1 ha;cases aP.1 hb;cases aP.1 hc
 rfl
def Hb: ∀{t:Tr} {A A2 G:Gh} {p:Option Addr} {ob wb:Nat} {lo lo2:Bool} {x:SV} {zs:List ND} {ns:List NQ} {B:List au},Is A (eU t) (.pointer p)->t.all LB->[GL A G]->[GL A2 G]->gj 8 180 x (zs.map ND.val) B->fB (qm 576 A2) zs ns->zs.length+t.size<=1000000->
  gE prog 74 [.pointer p, .pointer (some ⟨ob,0,none⟩), .pointer (some ⟨wb,0,none⟩)] (⟨ob,[.int .i64 0, .slice x.a x.n x.c],39,lo⟩::⟨wb,[mj ob wb],176,lo2⟩::B) G
   (fun v own' G'=> ∃x' zs' B',v= .int .i64 (t.num zs.length)/\own'=⟨ob,[.int .i64 0, .slice x'.a x'.n x'.c],39,false⟩::⟨wb,[mj ob wb],176,false⟩::B'/\gj 8 180 x' (zs'.map ND.val) B'/\fB (qm 576 G') zs' (ns++t.wr zs.length))
 | .leaf bb,A,A2,G,p,ob,wb,lo,lo2,x,zs,ns,B,h,_,_,_,hB,hz,hle=>by
  obtain⟨n,m,e,hg,hm⟩:=l7.1 (id h)
  cases e
  cases R3 hm
  have hG:vG A n _:=⟨hg⟩;have hz':fB (qm 576 G) zs (ns++[]):=by rw[iN];exact hz.imp fun _ _ h=>h.up
  refine gE.intro func74 J J ntmps74 J ?_;intro C _ _;show St C _ _ (⟨ob,[.int .i64 0, .slice x.a x.n x.c],39,false⟩::⟨wb,[mj ob wb],176,false⟩::asB B) _ _;refine sR<|sa J J<|zE<|lO<|sR<|sm J J<|?_;refine sc (zC J J (PF.fn0 xS (.cons (h.up GL.le) .nil)) J ?_);rintro _ G1 _ hv
  cases aP.1 hv
  refine zE<|Iq J<|?_;refine lO<|sR<|sm J J<|sn J J<|sf J J<|Vg J J J<|zE<|?_
  cases bb
  case true=>
   refine Iq J<|sR<|sa J J<|zE<|sB<|?_;exact xY (.tmp J .nil) _ _ (List.Perm.refl _) (List.Sublist.refl _) ⟨x,zs,_,J,J,hB.asB,hz'.imp fun _ _ h=>h.up⟩
  refine F2 J<|zK<|sR<|sa J J<|zE<|sB<|?_;exact xY (.tmp J .nil) _ _ (List.Perm.refl _) (List.Sublist.refl _) ⟨x,zs,_,J,J,hB.asB,hz'.imp fun _ _ h=>h.up⟩
 | .node l s u,A,A2,G,p,ob,wb,lo,lo2,x,zs,ns,B,h,hall,_,_,hB,hz,hle=>by
  obtain⟨hlb,hall1,hall2⟩:=id hall;haveI:LB l:=hlb;obtain⟨n,m,e,hg,hm⟩:=l7.1 (id h)
  cases e
  obtain⟨n1,d1,p1,n2,d2,p2,n3,d3,p3,q,r,rfl,hzl,hs,hu⟩:=WH hm;have hG:vG A n _:=⟨hg⟩;have hxn:=hB.len;have hzn:=hz.len;simp only[Tr.size] at hle;obtain⟨xa,xn,xc⟩:=x;rw[aX] at hxn;simp only[] at hxn;subst hxn;refine gE.intro func74 J J ntmps74 J ?_;intro C _ _;show St C _ _ (⟨ob,[.int .i64 0, .slice xa zs.length xc],39,false⟩::⟨wb,[mj ob wb],176,false⟩::asB B) _ _;replace hB:=hB.asB;generalize asB B=B at hB;refine sR<|sa J J<|zE<|lO<|sR<|sm J J<|?_;refine sc (zC J J (PF.fn0 zY (.cons (h.up GL.le) .nil)) J ?_);rintro _ G1 _ hv
  cases aP.1 hv
  refine zE<|F2 J<|?_;refine zK<|sR<|sf J J<|Kh J J J<|EJ J J<|sa J J<|zE<|lO<|?_;refine Ab [⟨ob,[.int .i64 0, .slice xa zs.length xc],39,false⟩] (fun i=>Nat.beq i 11) [(0,true),(1,true),(2,true),(3,true),(4,true),(5,true),(6,false),(7,true),(8,false),(9,false),(10,true),(11,false)] follows (by kernel_rfl)<|?_;refine dF J J J<|zI J J J J<|dM J J J<|dy J (fun _=>sk J) J J<|?_;refine dF J J J<|dy J (fun _=>O3 J AM J) J J<|?_;refine dc J J (zC J J (PF.fn0 (VK (l:=l)) (.cons (hzl.up GL.le) .nil)) J ?_);rintro _ G2 _ hv;obtain⟨ia,ib,ic,rfl,hia,hib,hic⟩:=Ub hlb.bl hv;refine sP<|dy J (fun _=>Ke J) J J<|?_;refine dc J J (atp J (by rfl) (by rfl) (by decide) (by decide) J ?_);intro b3;refine sP<|?_;refine dc J J (akP (v:=ND.val ⟨ia,ib,ic,0,0⟩) (vs:=zs.map ND.val) [_,_,_] rfl hB J J (xQ inferInstance J) J (ND.flat [⟨ia,ib,ic,0,0⟩] _ aQ) (by decide) (by rw[aX];omega) J J ?_);intro x1 B1 hB1;rw[show zs.map ND.val++[ND.val ⟨ia,ib,ic,0,0⟩]=(zs++[(⟨ia,ib,ic,0,0⟩:ND)]).map ND.val by simp] at hB1;show St C _ _ (⟨b3,_,_,true⟩::⟨ob,[.int .i64 0, .slice xa zs.length xc],39,false⟩::⟨wb,[mj ob wb],176,false⟩::B1) _ _;refine sP<|dF J J J<|?_;refine dc J J (E4 (cs':=[.int .i64 0, .slice x1.a x1.n x1.c]) J J J (.tl _ _ _ _ _ _ _ _ (.hd ..)) (nb J) J J ?_);refine TH J<|dn<|?_;refine azn _ (rQ _ _) ?_;have hz1:fB (qm 576 G2) (zs++[(⟨ia,ib,ic,0,0⟩:ND)]) (ns++[⟨l,0,0⟩]):=(hz.imp fun _ _ h=>h.up).app (.cons ⟨hia,hib,hic,J,J⟩ .nil);refine lO<|Ab [⟨wb,[mj ob wb],176,false⟩] (fun _=>false) [(0,true),(1,true),(2,true),(3,true),(4,true),(5,false),(6,true)] follows (by kernel_rfl)<|?_
  refine zI J J J J<|dM J J J<|dy J (fun _=>sk J) J J<|dF J J J<|dy J (fun _=>xG J AM J) J J<|?_;refine dc J J (HV (c1:=[]) (M:=_::_::B1) (rest:=[]) J J (by rw[iN]) (Hb (lo:=false) (lo2:=false) hs hall1 hB1 hz1 (by simp;omega)) J ?_);rintro _ _ G3 fl _ hf _ ⟨x2,L',B2,rfl,rfl,hB2,hz2⟩;have e1:fl ob=false:=hf _ aQ J;have e2:fl wb=false:=hf _ (aJ _ aQ) J;replace hB2:=hB2.relo fl;refine H4 (own':=⟨ob,[.int .i64 0, .slice x2.a x2.n x2.c],39,false⟩::⟨wb,[mj ob wb],176,false⟩::B2.map (relo fl)) (by simp only[bJ,relo,e1,e2,iN]) ?_;generalize B2.map (relo fl)=B2 at hB2;have hl2:=hz2.len;simp only[aL,Tr.wr_len,jX] at hl2;refine sP<|dA J J J<|dn<|lO<|Ab [⟨wb,[mj ob wb],176,false⟩] (fun _=>false) [(0,true),(1,true),(2,true),(3,true),(4,true),(5,false),(6,true)] follows (by kernel_rfl)<|?_;refine zI J J J J<|dM J J J<|dy J (fun _=>sk J) J J<|dF J J J<|dy J (fun _=>xG J AM J) J J<|?_;refine dc J J (HV (c1:=[]) (M:=_::_::B2) (rest:=[]) J J (by rw[iN]) (Hb (lo:=false) (lo2:=false) hu hall2 hB2 hz2 (by omega)) J ?_);rintro _ _ G4 fl _ hf _ ⟨x3,wY,B3,rfl,rfl,hB3,hz3⟩;have e3:fl ob=false:=hf _ aQ J;have e4:fl wb=false:=hf _ (aJ _ aQ) J;replace hB3:=hB3.relo fl;refine H4 (own':=⟨ob,[.int .i64 0, .slice x3.a x3.n x3.c],39,false⟩::⟨wb,[mj ob wb],176,false⟩::B3.map (relo fl)) (by simp only[bJ,relo,e3,e4,iN]) ?_;generalize B3.map (relo fl)=B3 at hB3;have hl3:=hz3.len;simp only[aL,Tr.wr_len,jX] at hl3;have hn3:zs.length<wY.length:=by omega
  rcases hB3 with⟨h1,_,_⟩|⟨nb,rest,lo3,hx3,rfl,hf1,hf2,hf3⟩
  .have:=congrArg List.length h1;rw[aX,kS] at this;omega
  obtain⟨x3a,x3n,x3c⟩:=x3;simp only[SV.mk.injEq] at hx3;obtain⟨rfl,rfl,_⟩:=hx3;rw[aX] at hf3;have hzz:ns.length=zs.length:=hzn.symm;obtain⟨zn,hzn1,hzn2⟩:=hz3.get (i:=zs.length) (b:=⟨l,0,0⟩) (by rw[cN,cN,<-hzz,gK (bQ _),nN];rfl);obtain⟨_,hzn3⟩:=aT.1 hzn1;have hL1:(zs++[(⟨ia,ib,ic,0,0⟩:ND)]).length=zs.length+1:=by simp
  have hL2:L'.length=zs.length+1+s.size:=by omega
  rw[hL1] at hz3;rw[hL1,hL2];rw[hL2] at hz3;refine sP<|dA J J J<|dn<|?_;refine lO<|Ab [⟨ob,[.int .i64 0, .slice (some ⟨nb,0,none⟩) (wY.map ND.val).length x3c],39,false⟩] (fun _=>false) [(0,true),(1,true),(2,true),(3,true),(4,true),(5,true),(6,true),(7,true),(8,true),(9,true),(10,false),(11,true),(12,true),(13,false)] follows (by kernel_rfl)<|?_;refine dF J J J<|zI J J J J<|dM J J J<|dF J J J<|?_;refine zI J J J J<|dM J J J<|dM J J J<|dM J J J<|dy J (fun _=>M9 J J (by omega) (by rw[aX];omega)) J J<|?_;refine dF J J J<|?_;refine dc J J (wW J J (.tl _ _ _ _ _ _ _ _ (.tl _ _ _ _ _ _ _ _ (.hd ..))) (by rw[aL,hf1,aX,eY];omega) J J ?_);rw[eY,Mi wY rest zs.length 6 _ {zn with l:=s.num (zs.length+1)} hn3 (by decide) (by rw[hzn3];rfl)];refine sP<|dy J (fun _=>M9 J J (by omega) (by rw[aX];omega)) J J<|dF J J J<|?_;refine dc J J (wW J J (.tl _ _ _ _ _ _ _ _ (.tl _ _ _ _ _ _ _ _ (.hd ..))) (by rw[aL,ez (s:=8) _ (ND.len8 _),aX,aR,eY];omega) J J ?_);rw[eY,Mi (wY.set zs.length _) rest zs.length 7 _ {zn with l:=s.num (zs.length+1),r:=u.num (zs.length+1+s.size)} (by rw[aR];exact hn3) (by decide) (by rw[List.getElem_set_self];rfl)];refine sP<|dn<|sR<|sm J J<|sa J J<|zE<|sB<|?_;have hfin:=hz3.set (a:={zn with l:=s.num (zs.length+1),r:=u.num (zs.length+1+s.size)}) (b:=⟨l,s.num (zs.length+1),u.num (zs.length+1+s.size)⟩) ⟨hzn2.a,hzn2.b,hzn2.c,J,J⟩ zs.length;have hns:(ns++[(⟨l,0,0⟩:NQ)]++s.wr (zs.length+1)++u.wr (zs.length+1+s.size)).set zs.length ⟨l,s.num (zs.length+1),u.num (zs.length+1+s.size)⟩=ns++(Tr.node l s u).wr zs.length:=by
   rw[cN,cN,mT _ _ (by omega),hzz,nN];simp[Tr.wr]
  rw[hns] at hfin;refine xY (.tmp J .nil) _ _ (List.Perm.refl _) (List.Sublist.refl _) ⟨⟨some ⟨nb,0,none⟩,(wY.map ND.val).length,x3c⟩,_,_,J,J,?_,hfin⟩;refine .inr ⟨nb,rest,lo3,by simp,by rw[List.set_set],?_,?_,?_⟩
  .rw[ez (s:=8) _ (ND.len8 _)]
  .rw[ez (s:=8) _ (ND.len8 _),aX,aR];rw[hf1,aX] at hf2;exact hf2
  .rw[aX,aR];exact hf3
def yC{t:Tr}(hb:t.all LB)(hs:t.size<=1000000):PF GB prog 35 [eU t] (eA t):=by
 intro G vs _ hv;obtain⟨v0,m,rfl,h,hm⟩:=bm.1 hv;rw[ck] at hm;subst hm;obtain⟨p,rfl⟩:=Il h;refine Fn.intro func35 J J ntmps35 J ?_;intro C _ hC;refine sR<|?_;refine sc (AJ J ?_);intro b1;refine zE<|sR<|?_;refine sc (AJ J ?_);intro b2;refine zE<|sR<|?_;refine sc (AJ J ?_);intro b3;refine zE<|sR<|sy (yJ J J) J<|?_;refine sc (E4 (cs':=[mj b2 b3]) J J J (.hd ..) (nb J) J J ?_);refine zE<|sR<|Kh J J J<|sm J J<|?_;refine sc (HV (c1:=[]) (M:=[⟨b2,[.int .i64 0, .slice none 0 0],39,true⟩,⟨b3,[mj b2 b3],176,true⟩]) (rest:=[⟨b1,[.int .i64 0, .slice none 0 0],39,true⟩]) J J (List.Perm.swap ..) (Hb (A:=G) (A2:=G) (x:=⟨none,0,0⟩) (zs:=[]) (ns:=[]) (B:=[]) h hb (gj.nil ..) .nil (by simpa using hs)) J ?_);rintro _ _ G4 fl _ _ hf ⟨x,zs,B,rfl,rfl,hB,hz⟩;have e1:=hf (by simp) b2;have e2:=hf (by simp) b3;replace hB:=hB.relo fl;refine H4 (own':=⟨b2,[.int .i64 0, .slice x.a x.n x.c],39,true⟩::⟨b3,[mj b2 b3],176,true⟩::(B.map (relo fl)++[⟨b1,[.int .i64 0, .slice none 0 0],39,true⟩])) (by simp only[bJ,relo,e1,e2,cX]) ?_;generalize B.map (relo fl)=B at hB;refine Cm (⟨b2,[.int .i64 0, .slice x.a x.n x.c],39,true⟩::⟨b3,[mj b2 b3],176,true⟩::⟨b1,[.int .i64 0, .slice none 0 0],39,true⟩::B) ((oR (l₁:=B) (l₂:=[_])).cons _ |>.cons _) ?_;refine sf J J<|?_;refine sc (E4 (cs':=[.int .i64 (t.num 0), .slice x.a x.n x.c]) J J J (.hd ..) (nb J) J J ?_);refine zE<|sR<|T6 J J J<|?_;refine sc (auN (cs':=[.int .i64 (t.num 0), .slice x.a x.n x.c]) J J J (.tl _ _ _ _ _ _ _ _ (.tl _ _ _ _ _ _ _ _ (.hd ..))) J (nb J) J J ?_)
 refine zE<|?_;refine XA (L:=[_,_,_]) hC hB (ND.len8 _) ?_;intro G5 _ hsl;show St C _ _ [⟨b2,_,_,true⟩,⟨b3,_,_,true⟩,⟨b1,[.int .i64 (t.num 0), .slice x.a x.n x.c],39,true⟩] _ _;refine sB<|?_;exact zD (.agg J ii ii J .nil) (Tn (k:=576) ⟨zs,hsl,by rw[cZ] at hz;exact hz.imp fun _ _ h=>h.up⟩)
def Tr.pre:Tr->List Tr
 | .leaf b=>[.leaf b]
 | .node l x y=> .node l x y::(x.pre++y.pre)
structure Vis (f:FuncId) (c2:List Value) (σ:Type) (step:σ->Tr->σ) (ok:σ->Tr->Prop) (Inv:σ->List au->Gh->Prop):Prop where
 up: ∀{s B G G'},bD G G'->Inv s B G->Inv s B G'
 re: ∀{s B G} (fl:Nat->Bool),Inv s B G->Inv s (B.map (relo fl)) G
 go: ∀{s t p B G},ok s t->Inv s B G->Is G (eU t) (.pointer p)->gE prog f (.pointer p::c2) B G (fun _ B' G'=>Inv (step s t) B' G')
section
variable {P:Program} {C:aC} {n:Nat} {fr:Fr} {own:List au} {G:Gh}
end
def JT{σ:Type}(step:σ->Tr->σ)(ok:σ->Tr->Prop):σ->List Tr->Prop
 |_,[]=>True
 |s,t::ts=>ok s t/\JT step ok (step s t) ts
structure EX (σ:Type) where
 ts:List Tr
 vs:List Value
 rest:List Value
 b:Nat
 cap:Nat
 lo:Bool
 s:σ
 B:List au
def T9(t:Tr):Nat:=2*t.size+1
def Mx(ts:List Tr):List Tr:=ts.reverse.flatMap Tr.pre
structure EI (A:Gh) {σ:Type} (step:σ->Tr->σ) (ok:σ->Tr->Prop) (Inv:σ->List au->Gh->Prop) (N:Nat) (fin:σ) (x:EX σ) (G:Gh):Prop where
 rel:fB (fun v t=> ∃p,v= .pointer p/\Is A (eU t) (.pointer p)) x.vs x.ts
 cap:x.vs.length+x.rest.length=x.cap
 inv:Inv x.s x.B G
 mu:(x.ts.map T9).sum<=N
 okf:JT step ok x.s (Mx x.ts)
 fin:(Mx x.ts).foldl step x.s=fin
def szI(nbk:Nat)(s:Nat)(B:List au)(_:Gh):Prop:= ∃lo,B=[⟨nbk,[.int .i64 s],3,lo⟩]
def szS(s:Nat):Tr->Nat
 | .leaf _=>s
 | .node .. =>s+1
def aHG(n:Nat)(f:Nat->Bool):Nat:=((List.range n).filter fun j=>!f j).length
def DK(ns:List RN):Nat->Int->RS->Tr×RS
 |0,_,s=>(.leaf false,s)
 |m+1,rt,s=>
  if rt= -1 then(.leaf false,s) else if rt= -2 then(.leaf true,s) else
  match ns[rt.toNat]? with
  |none=>(.leaf false,⟨s.f,s.c,true⟩)
  |some n=>if rt<0\/s.f rt.toNat=true then(.leaf false,⟨s.f,s.c,true⟩) else
   match n.g.ln with
   |none=>(.leaf false,⟨vk s.f rt.toNat,s.c+1,true⟩)
   |some l=>let a:=DK ns m n.l ⟨vk s.f rt.toNat,s.c+1,s.b⟩;let b:=DK ns m n.r a.2;(.node l a.1 b.1,b.2)
def VV(ns:List RN)(rt:Int):Option Tr:=
 let r:=DK ns (ns.length+1) rt Ut
 if r.2.b=false/\r.2.c=ns.length then some r.1 else none
def ofR:Option Tr->DV
 |some t=> .tp [eU t,vB true]
 |none=> .tp [.v (.pointer none),vB false]
end Go.Sx
end
section
namespace Go.Sx
open Go Go.Proofs Go.RowKit Go.Extern.Stop Go.Stop Go.Extern
def P'(v:Value)(w:World):(Extern.ReflectliteType.typeOf #[.iface 364 v]).run Tryz.prog w= .ok (.iface 186 (.agg #[.pointer (some ⟨Tryz.prog.globals.size,364,none⟩)])) w:=by kernel_rfl
def EP:TypeId->Sem Value:=fun t=>do Go.Extern.Rtype.noPackHeld "Comparable" t;pure (.bool (<-typeInfo t).comparable)
def Mo(w:World):((Extern.ReflectliteType.method EP) #[.agg #[.pointer (some ⟨Tryz.prog.globals.size,364,none⟩)]]).run Tryz.prog w= .ok (.bool true) w:=by kernel_rfl
def Ql:(Tryz.prog.info? 364).map (·.comparable)=some true:=by kernel_rfl
def K5:(Tryz.prog.info? 389).map (·.size)=some 1:=by kernel_rfl
def Q2(n:Nat)(v:Value)(w:World):(Go.method (n+1) 186 v "Comparable").run Tryz.prog w= .ok (311,v) w:=by
 kernel_rfl
def UG(a:Addr)(w:World):Calls Tryz.prog 13 #[.iface 364 (.pointer (some a)), .iface 364 (.pointer (some a))] w fun e w'=>e= .returned (.bool true)/\w'=w:=by
 obtain⟨i,hi,hcmp⟩:=lS.1 Ql;obtain⟨j,hj,hjs⟩:=lS.1 K5;have h8:= @run_callFunc_extern Tryz.prog 40 _ Extern.ReflectliteType.typeOf Tryz.func40 (by kernel_rfl) (by kernel_rfl) (by kernel_rfl) (by kernel_rfl);have h32:= @run_callFunc_extern Tryz.prog 311 _ (Extern.ReflectliteType.method EP) Tryz.func311 (by kernel_rfl) (by kernel_rfl) (by kernel_rfl) (by kernel_rfl);have tT:=P';have cT:=Mo;obtain⟨g,hg⟩: ∃g,g=Tryz.prog.globals.size:=⟨_,rfl⟩;simp only[<-hg] at tT cT;clear hg;have mR:=Q2;have heq:=run_eql_iface_ptr_same (P:=Tryz.prog) w a Tryz.underlying41 Tryz.underlying364 hi hcmp hj
 go_enter Tryz.func13,Tryz.ntmps13
 go_wp2
 refine wp_loop_rounds 1 ?_;rw[rounds_succ]
 go_wp2
 go_ret
 exact⟨J,J⟩
def OE:o5 Tryz.prog 13:=⟨_,Tryz.func13,by kernel_rfl,by kernel_rfl⟩
def lC(a:Addr):DV:= .v (.iface 364 (.pointer (some a)))
def wh{GB:Gh}{a:Addr}:PF GB Tryz.prog 13 [lC a,lC a] (.v (.bool true)):=by
 intro G vs _ hv;obtain⟨v1,m,rfl,h1,hm⟩:=bm.1 hv;obtain⟨v2,m,rfl,h2,hm⟩:=bm.1 hm;rw[ck] at hm;subst hm
 cases aP.1 h1;cases aP.1 h2
 exact(Fn.of_calls OE (UG a)).mono fun v G' _ h=>aP.2 h
end Go.Sx
end
section
namespace Go.Sx
open Go Go.Proofs Tryz
variable {GB:Gh}
structure EG (GB:Gh) (ai al ae:Addr):Prop where
 ErrInvalid:GB 0=some [.iface 364 (.pointer (some ai))]
 ErrLimit:GB 1=some [.iface 364 (.pointer (some al))]
structure Tr.gd (t:Tr):Prop where
 lb:t.all LB
 ok:t.all ab.ok
def Tr.restrict_size: ∀(t:Tr) (c:aA),(t.restrict c).size<=t.size
 | .leaf _,_=>bQ _
 | .node l x y,c=>by
  rw[Tr.restrict];have hx:=fun c=>x.restrict_size c;have hy:=fun c=>y.restrict_size c;split
  .have:=hx c;simp only[Tr.size];omega
  .split
   .have:=hy c;simp only[Tr.size];omega
   .have h1:=hx (bO c l)
    have h2:=hy (bO c l.rev);rcases Tr.joinQ_cases l (x.restrict (bO c l)) (y.restrict (bO c l.rev)) with⟨h,_⟩|⟨h,_⟩<;>rw[h]<;>(try simp only[Tr.size])<;>omega
def Mc(op:Int)(a b:Tr):Option Tr:=if 1024<a.depth+b.depth then none else if 65536<(a.mergeQ op b []).size then none else some (a.mergeQ op b [])
def aLr(al:Addr):Option Tr->DV
 |some t=> .tp [eU t, .v .nilIface]
 |none=> .tp [.v (.pointer none),lC al]
def Dt(op:Int):Tr->List Tr->Option Tr
 |t,[]=>some t
 |t,u::us=>match Mc op t u with
  |none=>none
  |some r=>Dt op r us
def Dz{t:Tr}(h:t.gd)(c:aA):(t.restrict c).gd:=⟨t.restrict_all LB c h.lb,t.restrict_all ab.ok c h.ok⟩
def vm:DV:= .ag [vI 0, .sl []]
def aKh:Tr ⊕ Addr->DV
 | .inl t=> .tp [eA t, .v .nilIface]
 | .inr e=> .tp [vm,lC e]
def aJU(ai:Addr):Option Tr->Tr ⊕ Addr
 |some t=> .inl t.compl
 |none=> .inr ai
def LA(al:Addr):Option Tr->Tr ⊕ Addr
 |some t=> .inl t
 |none=> .inr al
def aIa(ai al:Addr)(op:Int):Option Tr->Option Tr->Tr ⊕ Addr
 |some a,some b=>if 1<=op/\op<=4 then LA al (Mc op a b) else .inr ai
 |_,_=> .inr ai
abbrev qf:=Int×List RN
def qf.d(x:qf):DV:=X6 x.1 x.2
def qf.q(x:qf):Option Tr:=VV x.2 x.1
def Uz:Option Tr->DV
 |some t=>eU t
 |none=> .v (.pointer none)
def XL(op:Int)(ts:List qf):Bool:=decide (1<=op/\op<=4)&&ts.all fun x=>x.q.isSome
def aLs(ai al ae:Addr)(op:Int)(ts:List qf):Tr ⊕ Addr:=
 if XL op ts then(match ts.filterMap qf.q with
  |[]=> .inr ae
  |a::us=>if 1024<a.depth then .inr al else LA al (Dt op (a.restrict []) us)) else .inr ai
def aKw(ts:List qf):List DV:=ts.map fun x=>Uz x.q
structure qf.ok (x:qf):Prop where
 s: ∀n∈x.2,n.g.sm
 n:x.2.length<=65536
def RN.of(n:NQ):RN:=⟨⟨decide (n.l.a<0),dg n.l.a.natAbs,decide (n.l.b<0),dg n.l.b.natAbs,decide (n.l.c<0),dg n.l.c.natAbs⟩,n.a,n.b⟩
def Ir(ns:List NQ):Tr->Int->List Nat->Prop
 | .leaf b,rt,L=>rt=AO b/\L=[]
 | .node l x y,rt,L=> ∃(k:Nat) (a b:Int) (L1 L2:List Nat),rt=(k:Int)/\ns[k]? =some ⟨l,a,b⟩/\Ir ns x a L1/\Ir ns y b L2/\L=k::(L1++L2)
def RD'(ns:List NQ)(t:Tr)(rt:Int):Prop:= ∃L,Ir ns t rt L/\L.Nodup/\L.length=ns.length
def Q8{a i:Nat}[ha:BN a i](hi:i<=400000000:=by decide):PF GB prog 96 [dN a] (dN a):=by
 have hl:=bP (dg a);have hb:=i6 ha.h;refine fn func96 J J ntmps96 J J (fun C=>?_);refine uh J J<|ap ((dg a).map dU) J J (qp _) J<|ke 5 J<|rz J J
def aGt{z:Int}{i:Nat}[hz:BI z i](hi:i<=400000000:=by decide):PF GB prog 95 [eI z] (eI z):=by
 refine fn func95 J J ntmps95 J J (fun C=>?_);refine cl J (Q8 (a:=z.natAbs) (i:=i) (ha:=⟨hz.h⟩) hi) J<|rz J J
def avj{ds:List Nat}{d:Nat}(h:ds[ds.length-1]? =some d):dl ds↔ ¬((d:Int)=0):=by
 unfold dl;rw[kN,h];simp
def Qo{ds:List Nat}(hn:ds.length<=1000000):PF GB prog 142 [bE ds] (vB (decide (dl ds))):=by
 have hm:=bP ds;refine fn (fu:=⟨9⟩) func142 J J ntmps142 J J (fun C=>?_);refine ah 4 (.d (vI (ds.length:Nat))) J (by rw[hm]<;>rfl)<|gx (fu:=⟨0⟩) J<|ru (fu2:=⟨4⟩) J J J J (fun hg5=>?_) (fun hg5=>?_)
 .
  exact rz rfl (by obtain rfl:ds=[]:=bL (by omega);show DV.v (.bool _)= .v (.bool _);congr 2<;>exact(decide_eq_true (by intro h;cases h)).symm)
 .
  obtain⟨d,hd⟩: ∃d,ds[ds.length-1]? =some d:=⟨_,aZ (by omega)⟩;refine ah 9 (.d (vI (ds.length:Nat))) J (by rw[hm]<;>rfl)<|gx J<|ix _ J (by rw[show(((ds.length:Nat):Int)-1).toNat=ds.length-1 by omega,fY,hd];rfl) J<|?_;exact rz J (by show DV.v (.bool _)= .v (.bool _);congr 2;exact decide_eq_decide.2 (avj hd).symm)
def rG{neg:Bool}{ds:List Nat}(hn:ds.length<=1000000):PF GB prog 84 [.ag [.v (.bool neg),bE ds]] (vB (decide (eo neg ds))):=by
 have hm:=bP ds;refine fn func84 J J ntmps84 J J (fun C=>?_);by_cases hN:dl ds
 .
  refine cl (fu:=⟨0⟩) J (Qo hn) J<|ah 5 (.d (vB true)) J (by rw[decide_eq_true hN])<|fi 5 J<|gx J<|mh (fu2:=⟨3⟩) 10 J J J (fun hg10=>?_) (fun hg10=>?_)
  .
   exact rz J (by show DV.v (.bool _)= .v (.bool _);congr 2;unfold eo;simp_all)
  .
   refine ah 13 (.d (vI (ds.length:Nat))) J (by rw[hm]<;>rfl)<|gx J<|rz J (by show DV.v (.bool _)= .v (.bool _);congr 2;unfold eo;simp_all)
 .
  refine cl (fu:=⟨0⟩) J (Qo hn) J<|ah 5 (.d (vB false)) J (by rw[decide_eq_false hN])<|jH 5 J<|gx J<|rz J (by show DV.v (.bool _)= .v (.bool _);congr 2;unfold eo;simp_all)
def Af{ds:List Nat}(hd:bt ds)(hn:ds.length<=10000000):PF GB prog 144 [bE ds] (dN (dv ds)):=by
 have hm:=bP ds;refine fn func144 J J ntmps144 J J (fun C=>?_);refine uh J J<|ap (ds.map dU) J J (qp _) J<|fz 5 J J<|cl J (qi (ds:=ds)) J<|rz J (by unfold dN;rw[AP hd];rfl)
def yF{neg:Bool}{ds:List Nat}(hd:bt ds)(hn:ds.length<=10000000):PF GB prog 85 [.ag [.v (.bool neg),bE ds]] (eI (my neg ds)):=by
 refine fn func85 J J ntmps85 J J (fun C=>?_);refine cl J (Af hd hn) J<|cl J mG J<|rz J J
def mH(r:RL):DV:= .tp [if r.nm then eL r.l else .ag [.v (.bool false), .sl [], .v (.bool false), .sl [], .v (.bool false), .sl []],vB (decide (r.nm/\r.l.ok))]
def ZC{a b:Nat}(h:gD a b=0):a=b:=by
 unfold gD at h;split at h
 .cases h
 .split at h
  .assumption
  .cases h
def Ek{l:ab}:l.ok↔0<Nat.gcd l.a.natAbs l.b.natAbs/\Nat.gcd (Nat.gcd l.a.natAbs l.b.natAbs) l.c.natAbs=1:=by
 unfold ab.ok;refine and_congr ?_ Iff.rfl;rw[Nat.pos_iff_ne_zero,ne_eq,Nat.gcd_eq_zero_iff];simp only[iU]
def RG{r:RL}(s:r.sm)(h: ¬eo r.na r.da):PF GB prog 45 [r.d] (mH r):=by
 refine fn func45 J J ntmps45 J J (fun C=>?_);refine cl (fu:=⟨0⟩) J (rG (neg:=r.na) (ds:=r.da) (by have:=s.a.2;omega)) J<|dh J (by show some (!decide _)=some true;rw[decide_eq_false h];rfl) J<|rz J (by unfold mH;rw[if_neg (fun e=>h e.1),show decide (r.nm/\r.l.ok)=false from decide_eq_false (fun e=>(fun e=>h e.1) e.1)];rfl)
def Yf{r:RL}(s:r.sm)(h1:eo r.na r.da)(h: ¬eo r.nb r.db):PF GB prog 45 [r.d] (mH r):=by
 refine fn func45 J J ntmps45 J J (fun C=>?_);refine cl (fu:=⟨0⟩) J (rG (neg:=r.na) (ds:=r.da) (by have:=s.a.2;omega)) J<|b9 J (by show some (!decide _)=some false;rw[decide_eq_true h1];rfl) J<|cl (fu:=⟨0⟩) J (rG (neg:=r.nb) (ds:=r.db) (by have:=s.b.2;omega)) J<|dh J (by show some (!decide _)=some true;rw[decide_eq_false h];rfl) J<|rz J (by unfold mH;rw[if_neg (fun e=>h e.2.1),show decide (r.nm/\r.l.ok)=false from decide_eq_false (fun e=>(fun e=>h e.2.1) e.1)];rfl)
def RX{r:RL}(s:r.sm)(h1:eo r.na r.da)(h2:eo r.nb r.db)(h: ¬eo r.nc r.dc):PF GB prog 45 [r.d] (mH r):=by
 refine fn func45 J J ntmps45 J J (fun C=>?_);refine cl (fu:=⟨0⟩) J (rG (neg:=r.na) (ds:=r.da) (by have:=s.a.2;omega)) J<|b9 J (by show some (!decide _)=some false;rw[decide_eq_true h1];rfl) J<|cl (fu:=⟨0⟩) J (rG (neg:=r.nb) (ds:=r.db) (by have:=s.b.2;omega)) J<|b9 J (by show some (!decide _)=some false;rw[decide_eq_true h2];rfl) J<|cl (fu:=⟨0⟩) J (rG (neg:=r.nc) (ds:=r.dc) (by have:=s.c.2;omega)) J<|dh J (by show some (!decide _)=some true;rw[decide_eq_false h];rfl) J<|rz J (by unfold mH;rw[if_neg (fun e=>h e.2.2),show decide (r.nm/\r.l.ok)=false from decide_eq_false (fun e=>(fun e=>h e.2.2) e.1)];rfl)
def Sv{r:RL}(s:r.sm)(h:r.nm):PF GB prog 45 [r.d] (mH r):=by
 haveI:=RL.lb s;haveI ba:BN r.l.a.natAbs 96:=⟨(LB.a r.l).h⟩;haveI bb':BN r.l.b.natAbs 96:=⟨(LB.b r.l).h⟩;haveI bc:BN r.l.c.natAbs 96:=⟨(LB.c r.l).h⟩;obtain⟨g,hg⟩: ∃g,g=Nat.gcd r.l.a.natAbs r.l.b.natAbs:=⟨_,rfl⟩;haveI bg:BN g 96:=hg▸⟨Iz ba.h bb'.h⟩;have bgc:=Iz bg.h bc.h;have hgl:=i6 bg.h;refine fn func45 J J ntmps45 J J (fun C=>?_);refine cl (fu:=⟨0⟩) J (rG (neg:=r.na) (ds:=r.da) (by have:=s.a.2;omega)) J<|b9 J (by show some (!decide _)=some false;rw[decide_eq_true h.1];rfl) J<|cl (fu:=⟨0⟩) J (rG (neg:=r.nb) (ds:=r.db) (by have:=s.b.2;omega)) J<|b9 J (by show some (!decide _)=some false;rw[decide_eq_true h.2.1];rfl) J<|cl (fu:=⟨0⟩) J (rG (neg:=r.nc) (ds:=r.dc) (by have:=s.c.2;omega)) J<|b9 J (by show some (!decide _)=some false;rw[decide_eq_true h.2.2];rfl) J<|cl J (yF (neg:=r.na) (ds:=r.da) s.a.1 (by have:=s.a.2;omega)) J<|cl J (yF (neg:=r.nb) (ds:=r.db) s.b.1 (by have:=s.b.2;omega)) J<|cl J (yF (neg:=r.nc) (ds:=r.dc) s.c.1 (by have:=s.c.2;omega)) J<|cl (fu:=⟨0⟩) J (F3 (a:=r.l.a.natAbs) (b:=r.l.b.natAbs)) J<|ah 39 (.d (dN g)) J (by rw[hg])<|gx (fu:=⟨8⟩) J<|ah 42 (.d (vI ((dg g).length:Nat))) J (by rw[bP]<;>rfl)<|gx (fu:=⟨0⟩) J<|ru (v2:=fun hg43=>by simp only[aj];kernel_rfl) J J J J (fun hg43=>?_) (fun hg43=>?_)
 .
  refine cl J (F3 (a:=g) (b:=r.l.c.natAbs)) J<|cl J CT J<|cl J (xd (a:=Nat.gcd g r.l.c.natAbs) (b:=1) (by have:=i6 bgc;omega) (by have:=i6 (show 1<2^32 by decide);omega)) J<|rz J (by unfold mH;rw[if_pos h,show decide (r.nm/\r.l.ok)=decide (gD (Nat.gcd g r.l.c.natAbs) 1=0) from decide_eq_decide.2 ⟨fun e=>Ho (by rw[hg];exact(Ek.1 e.2).2),fun e=>⟨h,Ek.2 ⟨by rw[<-hg];exact tI.1 (by omega),by rw[<-hg];exact ZC e⟩⟩⟩];rfl)
 .
  exact rz J (by unfold mH;rw[if_pos h,show decide (r.nm/\r.l.ok)=false from decide_eq_false fun e=>by(have h1:=(Ek.1 e.2).1;rw[<-hg] at h1;have:=tI.2 h1;omega)];rfl)
def DG{r:RL}(s:r.sm):PF GB prog 45 [r.d] (mH r):=by
 by_cases h1:eo r.na r.da
 .by_cases h2:eo r.nb r.db
  .by_cases h3:eo r.nc r.dc
   .exact Sv s ⟨h1,h2,h3⟩
   .exact RX s h1 h2 h3
  .exact Yf s h1 h2
 .exact RG s h1
def smB(n:Int)(ls:List (List Nat)):Bool:=ls.all fun d=>decide ((d.length:Int)<=n)
def Js{n:Int}{ls:List (List Nat)}{k:Nat}{d:List Nat}(h:ls[k]? =some d):smB n (ls.drop k)=(decide ((d.length:Int)<=n)&&smB n (ls.drop (k+1))):=by
 rw[yf h];rfl
def RL.smB(n:Int)(r:RL):Bool:=Sx.smB n [r.da,r.db,r.dc]
def uR(n:Int)(ls:List RL):Bool:=ls.all fun r=>r.smB n
def P7{n:Int}{ls:List RL}{k:Nat}{r:RL}(h:ls[k]? =some r):uR n (ls.drop k)=(r.smB n&&uR n (ls.drop (k+1))):=by
 rw[yf h];rfl
def azg{n:Int}{ls:List (List Nat)}(hn:ls.length<=1000000):PF GB prog 24 [vI n, .sl (ls.map bE)] (vB (smB n ls)):=by
 have hm:=kb bE ls;refine fn (fu:=⟨10⟩) func24 J J ntmps24 J J (fun C=>?_);refine ah 8 (.d (vI (ls.length:Nat))) J (by rw[hm]<;>rfl)<|gx J<|lp (X:=Nat) (fun k=>[(9, .d (vI (k:Nat)))]) (fun k=>[]) (fun k=>k<=ls.length/\smB n (ls.drop k)=smB n ls) (fun k=>ls.length-k) 0 J ⟨aN _,J⟩ (fun _=>J) (fun k hk=>?_);obtain⟨h1,h2⟩:=hk;refine br J J J (fun hc10=>?_) (fun hc10=>?_)
 .
  obtain⟨d,hd0⟩: ∃s,ls[k]? =some s:=⟨_,aZ (by omega)⟩;refine ix (fu:=⟨8⟩) _ J (cO hd0) J<|ah 14 (.d (vI (d.length:Nat))) J (by rw[bP]<;>rfl)<|gx J<|br J J J (fun hc16=>?_) (fun hc16=>?_)
  .
   exact rz J (by rw[<-h2,Js hd0,decide_eq_false (by omega),Bool.false_and];rfl)
  .
   exact at_ (k+1) ⟨⟨by omega,by rw[<-h2,Js hd0,decide_eq_true (by omega),Bool.true_and]⟩,(by omega)⟩
 .
  exact rz J (by rw[<-h2,gR (by omega)];rfl)
def D3{n:Int}{ls:List RL}(hn:ls.length<=1000000:=by omega):PF GB prog 6 [vI n, .sl (ls.map RL.d)] (vB (uR n ls)):=by
 have hm:=kb RL.d ls;refine fn (fu:=⟨10⟩) func6 J J ntmps6 J J (fun C=>?_);refine ah 8 (.d (vI (ls.length:Nat))) J (by rw[hm]<;>rfl)<|gx J<|lp (X:=Nat) (fun k=>[(9, .d (vI (k:Nat)))]) (fun k=>[]) (fun k=>k<=ls.length/\uR n (ls.drop k)=uR n ls) (fun k=>ls.length-k) 0 J ⟨aN _,J⟩ (fun _=>J) (fun k hk=>?_);obtain⟨h1,h2⟩:=hk;refine br J J J (fun hc10=>?_) (fun hc10=>?_)
 .
  obtain⟨r,hr0⟩: ∃s,ls[k]? =some s:=⟨_,aZ (by omega)⟩;refine ix _ J (cO hr0) J<|rf J J<|cl J (azg (n:=n) (ls:=[r.da,r.db,r.dc]) (by simp)) J<|bb J J J (fun hc25=>?_) (fun hc25=>?_)
  .
   exact rz J (by rw[<-h2,P7 hr0,show r.smB n=false by unfold RL.smB;simpa using hc25,Bool.false_and];rfl)
  .
   exact at_ (k+1) ⟨⟨by omega,by rw[<-h2,P7 hr0,show r.smB n=true by unfold RL.smB;simpa using hc25,Bool.true_and]⟩,(by omega)⟩
 .
  exact rz J (by rw[<-h2,gR (by omega)];rfl)
def XX{r:RL}{l:ab}(s:r.sm)(h:r.ln=some l):PF GB prog 80 [r.d] (.tp [cG l,vB true]):=by
 have:=Kv (GB:=GB) s;rw[h] at this;exact this
def YV{r:RL}(s:r.sm)(h:r.ln=none):PF GB prog 80 [r.d] (.tp [NN,vB false]):=by
 have:=Kv (GB:=GB) s;rw[h] at this;exact this
theorem RL.ln_ok{r:RL}{l:ab}(s:r.sm)(h:r.ln=some l):LB l/\l.ok:=by
 unfold RL.ln at h;split at h
 .rename_i hh;cases h;exact⟨RL.lb s,hh.2⟩
 .cases h
def iG(cs:List RL):Option (List ab):=if cs.all (fun r=>r.ln.isSome) then some (cs.filterMap RL.ln) else none
def aJ4:Option (List ab)->DV
 |some ls=> .tp [.sl (ls.map cG),vB true]
 |none=> .tp [.sl [],vB false]
def QO{cs:List RL}{k:Nat}{r:RL}{l:ab}(h:cs[k]? =some r)(hl:r.ln=some l):((cs.take (k+1)).filterMap RL.ln)=((cs.take k).filterMap RL.ln)++[l]:=by
 rw[fJ,h,List.filterMap_append];simp[hl]
def QY{cs:List RL}{k:Nat}{r:RL}(h:cs[k]? =some r)(ha:(cs.take k).all (fun r=>r.ln.isSome)=true)(hl:r.ln.isSome=true):(cs.take (k+1)).all (fun r=>r.ln.isSome)=true:=by
 rw[fJ,h,List.all_append,ha];simp[hl]
def GP{cs:List RL}{k:Nat}{r:RL}(h:cs[k]? =some r)(hl:r.ln=none):iG cs=none:=by
 unfold iG;rw[if_neg];intro ha;have:=dT.1 ha r (aV h);rw[hl] at this;cases this
def LG{cs:List RL}(h:(cs.take cs.length).all (fun r=>r.ln.isSome)=true):iG cs=some ((cs.take cs.length).filterMap RL.ln):=by
 rw[cJ] at*;unfold iG;rw[if_pos h]
def Uo{cs:List RL}{ls:List ab}(hs: ∀r∈cs,r.sm)(h:iG cs=some ls):(∀l∈ls,LB l)/\(∀l∈ls,l.ok)/\ls.length<=cs.length:=by
 unfold iG at h;split at h
 .cases h
  refine⟨fun l hl=>?_,fun l hl=>?_,qJ _ _⟩
  .obtain⟨r,hr,e⟩:=List.mem_filterMap.1 hl;exact(RL.ln_ok (hs r hr) e).1
  .obtain⟨r,hr,e⟩:=List.mem_filterMap.1 hl;exact(RL.ln_ok (hs r hr) e).2
 .cases h
def Od(ls:List ab):du 9 (ls.map cG):=fun d hd=>by
 obtain⟨u,_,rfl⟩:=bX.1 hd;exact⟨rfl,rfl⟩
def aux{cs:List RL}(hs: ∀r∈cs,r.sm)(hn:cs.length<=1000):PF GB prog 42 [.ag [.sl (cs.map RL.d)]] (aJ4 (iG cs)):=by
 have hm:=kb RL.d cs;refine fn (fu:=⟨13⟩) func42 J J ntmps42 J J (fun C=>?_);refine ah 11 (.d (vI (cs.length:Nat))) J (by rw[hm]<;>rfl)<|gx J<|br (fu2:=⟨13⟩) J J J (fun hc12=>?_) (fun hc12=>?_)
 .
  exact rz J (absurd hc12 (by omega))
 .
  refine ah 15 (.d (vI (cs.length:Nat))) J (by rw[hm]<;>rfl)<|gx J<|nr 4 4 135 9 J J J<|lp (X:=Nat) (fun k=>[(16, .d (vI (k:Nat))),(4, .rw 4)]) (fun k=>[(4,some (.b 135 9 (((cs.take k).filterMap RL.ln).map cG) true))]) (fun k=>k<=cs.length/\(cs.take k).all (fun r=>r.ln.isSome)=true) (fun k=>cs.length-k) 0 J ⟨aN _,J⟩ (fun _=>J) (fun k hk=>?_);obtain⟨h1,h2⟩:=hk;have hfl:=qJ RL.ln (cs.take k);have hml:=kb cG ((cs.take k).filterMap RL.ln);rw[bK] at hfl;refine br J J J (fun hc17=>?_) (fun hc17=>?_)
  .
   obtain⟨r,hx0⟩: ∃s,cs[k]? =some s:=⟨_,aZ (by omega)⟩;have hx:=hs r (aV hx0);refine ix _ J (cO hx0) J<|?_;rcases hr:r.ln with _|l
   .
    refine cl (fu:=⟨3⟩) J (YV hx hr) J<|jH 24 J<|gx J<|rz J (by rw[GP hx0 hr];rfl)
   .
    refine cl (fu:=⟨3⟩) J (XX hx hr) J<|fi 24 J<|gx J<|rf J J<|ap (((cs.take (k+1)).filterMap RL.ln).map cG) J (by rw[QO hx0 hr,cY];rfl) (Od [l]) J<|fD 30 4 J<|at_ (k+1) ⟨⟨by omega,QY hx0 h2 (by rw[hr];rfl)⟩,(by omega)⟩
  .
   obtain rfl:k=cs.length:=by omega
   refine ke 4 J<|rz J (by rw[LG h2];rfl)
def Tp{cs:List RL}(hs: ∀r∈cs,r.sm)(hn:cs.length<=1000)(h:iG cs=none):PF GB prog 42 [.ag [.sl (cs.map RL.d)]] (.tp [.sl [],vB false]):=by
 have:=aux (GB:=GB) hs hn;rw[h] at this;exact this
def T2:Option aA->DV
 |some c=> .tp [.sl (c.map bj),vB true]
 |none=> .tp [.sl [],vB false]
def Ln{ls:List ab}{c:aA}{k:Nat}{l:ab}(h:ls[k]? =some l):fj (ls.drop k) c=if co c l then fj (ls.drop (k+1)) (bO c l) else none:=by
 obtain⟨hk,rfl⟩:=aT.1 h;rw[cW hk,fj]
def gn.nil:gn []:=fun s hs=>by cases hs
def J8{ls:List ab}(hb: ∀l∈ls,LB l)(ho: ∀l∈ls,l.ok)(hn:ls.length<=10000):PF GB prog 43 [.sl (ls.map cG)] (T2 (fj ls [])):=by
 have hm:=kb cG ls;refine fn (fu:=⟨25⟩) func43 J J ntmps43 J J (fun C=>?_);refine ah 9 (.d (vI (ls.length:Nat))) J (by rw[hm]<;>rfl)<|gx J<|Pt 4 J<|Vx 5 (vB true) J J<|lp (X:=aA×Nat) (fun⟨c,k⟩=>[(10, .d (vI (k:Nat))),(4, .d (.sl (c.map bj))),(5, .d (vB true))]) (fun⟨c,k⟩=>[]) (fun⟨c,k⟩=>k<=ls.length/\gn c/\c.length<=k/\fj (ls.drop k) c=fj ls []) (fun⟨c,k⟩=>ls.length-k) ([],0) J ⟨aN _,gn.nil,bQ _,J⟩ (fun _=>J) (fun⟨c,k⟩ hk=>?_);obtain⟨h1,h2,h3,h4⟩:=hk;dsimp only at*;refine br J J J (fun hc11=>?_) (fun hc11=>?_)
 .
  obtain⟨l,hx0⟩: ∃s,ls[k]? =some s:=⟨_,aZ (by omega)⟩;haveI:=hb l (aV hx0);have hlo:=ho l (aV hx0);refine ix _ J (cO hx0) J<|cl J (Es (c:=c) (l:=l) hlo h2 (by omega)) J<|bb J J J (fun hc21=>?_) (fun hc21=>?_)
  .
   refine bb J J J (fun hc24=>?_) (fun hc24=>?_)
   .
    exact rz J (by rw[<-h4,Ln hx0,if_neg (by simpa using hc21)];rfl)
   .
    exact rz J (by simp only[hc21] at hc24;simp at hc24)
  .
   refine ah 5 (.d (vB true)) J (by rw[show co c l=true by simpa using hc21])<|at_ (bO c l,k+1) (by dsimp only;exact⟨⟨by omega,zU (ho l (aV hx0)) h2,by have:=yi c l;omega,by rw[<-h4,Ln hx0,if_pos (by simpa using hc21)]⟩,(by omega)⟩)
 .
  refine bb J J J (fun hc24=>?_) (fun hc24=>?_)
  .
   exact rz J (absurd hc24 (by decide))
  .
   exact rz J (by rw[<-h4,kJ (by omega)];rfl)
def SF{ls:List ab}{c:aA}(hb: ∀l∈ls,LB l)(ho: ∀l∈ls,l.ok)(hn:ls.length<=10000)(h:fj ls []=some c):PF GB prog 43 [.sl (ls.map cG)] (.tp [.sl (c.map bj),vB true]):=by
 have:=J8 (GB:=GB) hb ho hn;rw[h] at this;exact this
def awP{ls:List ab}(hb: ∀l∈ls,LB l)(ho: ∀l∈ls,l.ok)(hn:ls.length<=10000)(h:fj ls []=none):PF GB prog 43 [.sl (ls.map cG)] (.tp [.sl [],vB false]):=by
 have:=J8 (GB:=GB) hb ho hn;rw[h] at this;exact this
def aJH(ai al:Addr)(more:Nat):Option Tr->DV
 |none=> .tp [.v (.pointer none),lC ai]
 |some t=>if 1024<t.depth+more then .tp [.v (.pointer none),lC al] else .tp [eU t, .v .nilIface]
def aKU(ai:Addr)(f:Tr->Tr):Option Tr->Tr ⊕ Addr
 |some t=> .inl (f t)
 |none=> .inr ai
def aJB(ai ae:Addr):Option Tr->Option (List ab)->Tr ⊕ Addr
 |some t,some ls=>(match fj ls [] with
  |some c=> .inl (t.restrict c)
  |none=> .inr ae)
 |_,_=> .inr ai
def aKR(ai:Addr):Option ab->Option Tr->DV
 |some m,some t=> .tp [eA (t.restrict (bO [] m)),eA (t.restrict (bO [] m.rev)), .v .nilIface]
 |_,_=> .tp [vm,vm,lC ai]

def Tr.val:Tr->aa->Bool
 | .leaf b,_=>b
 | .node l x y,p=>if 0<l.value p then x.val p else y.val p
def Tr.lns:Tr->List ab
 | .leaf _=>[]
 | .node l x y=>l::(x.lns++y.lns)
def qy{P:ab->Prop}: ∀{t:Tr},t.all P↔ ∀l∈t.lns,P l
 | .leaf _=>⟨fun _ l hl=>(by cases hl),fun _=>trivial⟩
 | .node l x y=>by
  show(P l/\x.all P/\y.all P)↔ ∀m∈l::(x.lns++y.lns),P m;rw[qy (t:=x),qy (t:=y)];constructor
  .rintro ⟨h0,h1,h2⟩ m hm
   rcases aU.1 hm with rfl|hm
   .exact h0
   .rcases bS.1 hm with hm|hm
    .exact h1 m hm
    .exact h2 m hm
  .intro h
   exact⟨h l aQ,fun m hm=>h m (aJ _ (cV _ hm)),fun m hm=>h m (aJ _ (dX _ hm))⟩
def gF(L:List ab)(p:aa):Prop:= ∀l∈L,l.value p≠0
def gF.sub{L M:List ab}{p:aa}(h:gF L p)(k: ∀l∈M,l∈L):gF M p:=fun l hl=>h l (k l hl)
def gF.l{l:ab}{x y:Tr}{p:aa}(h:gF (Tr.node l x y).lns p):l.value p≠0:=h l aQ
def gF.x{l:ab}{x y:Tr}{p:aa}(h:gF (Tr.node l x y).lns p):gF x.lns p:=h.sub fun m hm=>aJ _ (cV _ hm)
def gF.y{l:ab}{x y:Tr}{p:aa}(h:gF (Tr.node l x y).lns p):gF y.lns p:=h.sub fun m hm=>aJ _ (dX _ hm)
def opB(op:Int)(a b:Bool):Bool:=if op=1 then a||b else if op=2 then a&&b else if op=3 then a&&!b else a !=b
def Tr.val_join(l:ab)(X Y:Tr)(p:aa):(Tr.joinQ l X Y).val p=(Tr.node l X Y).val p:=by
 unfold Tr.joinQ;split
 .rename_i h
  cases X<;>cases Y<;>simp[Tr.isLeaf,Tr.code] at h
  subst h;simp[Tr.val]
 .rfl
def Tr.val_pos{l:ab}{x y:Tr}{p:aa}(h:0<l.value p):(Tr.node l x y).val p=x.val p:=by rw[Tr.val,if_pos h]
def Tr.val_neg{l:ab}{x y:Tr}{p:aa}(h: ¬0<l.value p):(Tr.node l x y).val p=y.val p:=by rw[Tr.val,if_neg h]
def Jb{c:aA}{l:ab}(hc:cx c)(hl:l.ok)(hb:co c l.rev=false){p:aa}(hp:bH c p)(h0:l.value p≠0):0<l.value p:=by
 by_cases h:0<l.value p
 .exact h
 .exfalso
  have:co c l.rev=true:=(qB hc hl.rev).2 ⟨p,hp,by rw[gA];grind⟩;rw[hb] at this;cases this
def M'{c:aA}{l:ab}(hc:cx c)(hl:l.ok)(hb:co c l=false){p:aa}(hp:bH c p): ¬0<l.value p:=fun h=>by
 have:co c l=true:=(qB hc hl).2 ⟨p,hp,h⟩;rw[hb] at this;cases this
def Tr.val_restrict: ∀(t:Tr) (c:aA) (p:aa),t.all ab.ok->cx c->bH c p->gF t.lns p->(t.restrict c).val p=t.val p
 | .leaf _,_,_,_,_,_,_=>rfl
 | .node l x y,c,p,⟨hl,hx,hy⟩,hc,hp,ho=>by
  cases hb:co c l.rev with
  |false=>rw[Tr.restrict_A _ _ hb,x.val_restrict c p hx hc hp ho.x,Tr.val_pos (Jb hc hl hb hp ho.l)]
  |true=>
   cases hb2:co c l with
   |false=>rw[Tr.restrict_B _ _ hb hb2,y.val_restrict c p hy hc hp ho.y,Tr.val_neg (M' hc hl hb2 hp)]
   |true=>
    rw[Tr.restrict_C _ _ hb hb2,Tr.val_join];obtain⟨g1,i1⟩:=iH hc hl hb2;obtain⟨g2,i2⟩:=iH hc hl.rev hb;by_cases h:0<l.value p
    .rw[Tr.val_pos h,Tr.val_pos h,x.val_restrict _ p hx g1 ((i1 p).2 ⟨hp,h⟩) ho.x]
    .rw[Tr.val_neg h,Tr.val_neg h,y.val_restrict _ p hy g2 ((i2 p).2 ⟨hp,by rw[gA];have:=ho.l;grind⟩) ho.y]
def N2: ∀(L:List ab) (u:aa) (p:aa),gF L p-> ∃e:Rat,0<e/\ ∀d,0<=d->d<=e->gF L (dB p u d)
 |[],u,p,_=>⟨1,by decide,fun d _ _ l hl=>by cases hl⟩
 |l::L,u,p,h=>by
  obtain⟨e,he,hm⟩:=N2 L u p (h.sub fun m hm=>aJ _ hm);have h0:=h l aQ;have key: ∃f:Rat,0<f/\ ∀d,0<=d->d<=f->l.value (dB p u d)≠0:=by
   by_cases hk:l.nor.dot u=0
   .exact⟨1,by decide,fun d _ _=>by rw[jF,hk];grind⟩
   .generalize hA:l.value p=A at*
    generalize hB:l.nor.dot u=B at*;rcases mC A with h|h|h
    .exact absurd h h0
    .rcases mC B with k|k|k
     .exact absurd k hk
     .exact⟨1,by decide,fun d hd _=>by rw[jF,hA,hB];have:=eO hd (fQ k);grind⟩
     .refine⟨A/(-B)/2,?_,fun d hd h2=>?_⟩
      .have:0<A/(-B):=by
        have e1:A/(-B)*(-B)=A:=by grind
        exact(jb (k:= -B) (by grind)).1 (by rw[e1];exact h)
       grind
      .rw[jF,hA,hB]
       have e1:A/(-B)*(-B)=A:=by grind
       generalize A/(-B)=q at*;have h4:=eO (a:=q/2-d) (b:= -B) (by grind) (by grind);grind
    .rcases mC B with k|k|k
     .exact absurd k hk
     .refine⟨(-A)/B/2,?_,fun d hd h2=>?_⟩
      .have:0<(-A)/B:=by
        have e1:(-A)/B*B= -A:=by grind
        exact(jb (k:=B) k).1 (by rw[e1];grind)
       grind
      .rw[jF,hA,hB]
       have e1:(-A)/B*B= -A:=by grind
       generalize (-A)/B=q at*;have h4:=eO (a:=q/2-d) (b:=B) (by grind) (by grind);grind
     .exact⟨1,by decide,fun d hd _=>by rw[jF,hA,hB];have:=eO hd (b:= -B) (by grind);grind⟩
  obtain⟨f,hf,hk⟩:=key;refine⟨if e<=f then e else f,by split<;>assumption,fun d hd hde m hm'=>?_⟩;have h1:d<=e/\d<=f:=by split at hde<;>grind
  rcases aU.1 hm' with rfl|hm'
  .exact hk d hd h1.2
  .exact hm d hd h1.1 m hm'
def Lb{c:aA}{p:aa}(hp:bH c p): ∀(L:List ab),(∀l∈L,l.ok)-> ∃q,bH c q/\gF L q
 |[],_=>⟨p,hp,fun l hl=>by cases hl⟩
 |l::L,h=>by
  obtain⟨q,hq,ho⟩:=Lb hp L fun m hm=>h m (aJ _ hm);by_cases h0:l.value q=0
  .have hn:=ow (h l aQ).ne
   obtain⟨e,he,hm⟩:=hq.open l.nor;obtain⟨f,hf,hk⟩:=N2 L l.nor q ho;refine⟨dB q l.nor (if e<=f then e else f),hm _ (by split<;>grind) (by split<;>grind),fun m hm'=>?_⟩;rcases aU.1 hm' with rfl|hm'
   .rw[jF,h0]
    have:=fp (a:=if e<=f then e else f) (b:=m.nor.dot m.nor) (by split<;>assumption) hn;grind
   .exact hk _ (by split<;>grind) (by split<;>grind) m hm'
  .exact⟨q,hq,fun m hm=>by rcases aU.1 hm with rfl|hm;exact h0;exact ho m hm⟩
def aDP{c:aA}(hc:cx c)(L:List ab)(h: ∀l∈L,l.ok): ∃q,bH c q/\gF L q:=by
 obtain⟨p,hp⟩:=hc.ne;exact Lb hp L h
def Tr.Red:Tr->aA->Prop
 | .leaf _,_=>True
 | .node l x y,c=>co c l=true/\co c l.rev=true/\x.Red (bO c l)/\y.Red (bO c l.rev)/\ ¬(x.isLeaf=true/\y.isLeaf=true/\x.code=y.code)
def Tr.red_leaf{t:Tr}(h:t.isLeaf=true)(c:aA):t.Red c:=by
 cases t with
 |leaf b=>trivial
 |node l x y=>cases h
def Tr.join_red{l:ab}{x y:Tr}{c:aA}(h1:co c l=true)(h2:co c l.rev=true)(hx:x.Red (bO c l))(hy:y.Red (bO c l.rev)):(Tr.joinQ l x y).Red c:=by
 rcases Tr.joinQ_cases l x y with⟨e,h⟩|⟨e,h⟩
 .rw[e];exact Tr.red_leaf h c
 .rw[e];exact⟨h1,h2,hx,hy,h⟩
def Tr.restrict_red: ∀(t:Tr) (c:aA),(t.restrict c).Red c
 | .leaf _,_=>trivial
 | .node l x y,c=>by
  cases hb:co c l.rev with
  |false=>rw[Tr.restrict_A _ _ hb];exact x.restrict_red c
  |true=>
   cases hb2:co c l with
   |false=>rw[Tr.restrict_B _ _ hb hb2];exact y.restrict_red c
   |true=>rw[Tr.restrict_C _ _ hb hb2];exact Tr.join_red hb2 hb (x.restrict_red _) (y.restrict_red _)
def azY(p:aa):bH [] p:=fun s hs=>(by cases hs)
def ab.same(l m:ab):Prop:=m=l\/m=l.rev
instance (l m:ab):Decidable (l.same m):=inferInstanceAs (Decidable (_\/_))
def Tr.cnt(l:ab):Tr->Nat
 | .leaf _=>0
 | .node m x y=>(if l.same m then 1 else 0)+(x.cnt l+y.cnt l)
def oH{l m:ab}(h:l.same m){p:aa}(hp:l.value p=0):m.value p=0:=by
 rcases h with rfl|rfl
 .exact hp
 .rw[gA,hp];rfl
def Ct(l:ab)(c:aA):Prop:= ∃p,bH c p/\l.value p=0
def Tr.cnt_zero{l:ab}: ∀{t:Tr} {c:aA},t.Red c->t.all ab.ok->cx c-> ¬Ct l c->t.cnt l=0
 | .leaf _,_,_,_,_,_=>rfl
 | .node m x y,c,⟨h1,h2,h3,h4,_⟩,⟨hm,hx,hy⟩,hc,hn=>by
  obtain⟨g1,i1⟩:=iH hc hm h1;obtain⟨g2,i2⟩:=iH hc hm.rev h2;have e1:=Tr.cnt_zero (l:=l) h3 hx g1 (fun⟨p,hp,h0⟩=>hn ⟨p,((i1 p).1 hp).1,h0⟩);have e2:=Tr.cnt_zero (l:=l) h4 hy g2 (fun⟨p,hp,h0⟩=>hn ⟨p,((i2 p).1 hp).1,h0⟩);rw[Tr.cnt,e1,e2];by_cases hs:l.same m
  .exfalso
   -- m crosses the cell
   obtain⟨p,hp,k1⟩:=(qB hc hm).1 h1;obtain⟨q,hq,k2⟩:=(qB hc hm.rev).1 h2;rw[gA] at k2;generalize hA:m.value p=A at*;generalize hB:m.value q=B at*;have hAB:0<A-B:=by grind
   have e:A/(A-B)*(A-B)=A:=by grind
   generalize A/(A-B)=r at*;have r0:0<=r:=(i5 hAB).1 (by rw[e];exact fQ k1);have r1:r<=1:=by
    have:=(i5 (s:=1-r) hAB).1 (by grind);grind
   have hz:=hp.seg hq r0 r1;have hv:m.value (bG p q r)=0:=by rw[jD,hA,hB];grind
   refine hn ⟨_,hz,?_⟩;rcases hs with rfl|rfl
   .exact hv
   .rw[gA] at hv;grind
  .rw[if_neg hs]
def oP(c:aA)(p:aa):Bool:=c.all fun s=>decide (0<s.l.value p)
def pj{c:aA}{p:aa}:oP c p=true↔bH c p:=by
 unfold oP bH;rw[dT];simp
def QG(P:List aa)(l:ab)(t:Tr):Prop:=t.all fun m=>l.same m\/ ∀p,l.value p=0->m.value p=0->p∈P
def Ds{α:Type}{p q r:α->Bool}: ∀(P:List α),(∀x∈P,q x=true->p x=true)->(∀x∈P,r x=true->p x=true)->(∀x∈P,¬(q x=true/\r x=true))->P.countP q+P.countP r<=P.countP p
 |[],_,_,_=>bQ _
 |x::P,h1,h2,h3=>by
  have ih:=Ds (p:=p) (q:=q) (r:=r) P (fun y hy=>h1 y (aJ _ hy)) (fun y hy=>h2 y (aJ _ hy)) (fun y hy=>h3 y (aJ _ hy));have a:=h1 x aQ;have b:=h2 x aQ;have c:=h3 x aQ;rw[nS,nS,nS]
  cases hq:q x<;>cases hr:r x<;>simp_all<;>omega
def N1{α:Type}{p q r:α->Bool}: ∀(P:List α),(∀x∈P,q x=true->p x=true)->(∀x∈P,r x=true->p x=true)->(∀x∈P,¬(q x=true/\r x=true))->(∃x∈P,p x=true/\q x=false/\r x=false)->P.countP q+P.countP r+1<=P.countP p
 |[],_,_,_,⟨x,hx,_⟩=>by cases hx
 |x::P,h1,h2,h3,h4=>by
  have i2:=Ds (p:=p) (q:=q) (r:=r) P (fun y hy=>h1 y (aJ _ hy)) (fun y hy=>h2 y (aJ _ hy)) (fun y hy=>h3 y (aJ _ hy));have a:=h1 x aQ;have b:=h2 x aQ;have c:=h3 x aQ;rw[nS,nS,nS];obtain⟨z,hz,k1,k2,k3⟩:=h4;rcases aU.1 hz with rfl|hz
  .simp only[k1,k2,k3];simp;omega
  .have ih:=N1 (p:=p) (q:=q) (r:=r) P (fun y hy=>h1 y (aJ _ hy)) (fun y hy=>h2 y (aJ _ hy)) (fun y hy=>h3 y (aJ _ hy)) ⟨z,hz,k1,k2,k3⟩
   cases hq:q x<;>cases hr:r x<;>simp_all<;>omega
def Tr.cnt_le{l:ab}(hl:l.ok){P:List aa}: ∀{t:Tr} {c:aA},t.Red c->t.all ab.ok->cx c->QG P l t->t.cnt l<=1+P.countP (oP c)
 | .leaf _,_,_,_,_,_=>aN _
 | .node m x y,c,⟨h1,h2,h3,h4,_⟩,⟨hm,hx,hy⟩,hc,⟨v0,v1,v2⟩=>by
  obtain⟨g1,i1⟩:=iH hc hm h1;obtain⟨g2,i2⟩:=iH hc hm.rev h2;have q1: ∀p∈P,oP (bO c m) p=true->oP c p=true:=fun p _ h=>pj.2 ((i1 p).1 (pj.1 h)).1;have q2: ∀p∈P,oP (bO c m.rev) p=true->oP c p=true:=fun p _ h=>pj.2 ((i2 p).1 (pj.1 h)).1;have q3: ∀p∈P,¬(oP (bO c m) p=true/\oP (bO c m.rev) p=true):=fun p _ ⟨a,b⟩=>by
   have a:=((i1 p).1 (pj.1 a)).2;have b:=((i2 p).1 (pj.1 b)).2;rw[gA] at b;grind
  have ct:=Ds P q1 q2 q3;rw[Tr.cnt];by_cases hs:l.same m
  .have e1:=Tr.cnt_zero (l:=l) h3 hx g1 (fun⟨p,hp,h0⟩=>by have:=((i1 p).1 hp).2;rw[oH hs h0] at this;grind)
   have e2:=Tr.cnt_zero (l:=l) h4 hy g2 (fun⟨p,hp,h0⟩=>by have:=((i2 p).1 hp).2;rw[gA,oH hs h0] at this;grind);rw[e1,e2,if_pos hs];omega
  .rw[if_neg hs]
   have b1:=Tr.cnt_le hl h3 hx g1 v1;have b2:=Tr.cnt_le hl h4 hy g2 v2;by_cases w1:Ct l (bO c m)
   .by_cases w2:Ct l (bO c m.rev)
    .-- the crossing lies in the cell
     obtain⟨p,hp,k1⟩:=w1;obtain⟨q,hq,k2⟩:=w2;obtain⟨hp,ap⟩:=(i1 p).1 hp;obtain⟨hq,aq⟩:=(i2 q).1 hq;rw[gA] at aq;generalize hA:m.value p=A at*;generalize hB:m.value q=B at*;have hAB:0<A-B:=by grind
     have e:A/(A-B)*(A-B)=A:=by grind
     generalize A/(A-B)=r at*;have r0:0<=r:=(i5 hAB).1 (by rw[e];exact fQ ap);have r1:r<=1:=by
      have:=(i5 (s:=1-r) hAB).1 (by grind);grind
     have hz:=hp.seg hq r0 r1;have hv:m.value (bG p q r)=0:=by rw[jD,hA,hB];grind
     have hv2:l.value (bG p q r)=0:=by rw[jD,k1,k2];grind
     have hmem:bG p q r∈P:=by
      rcases v0 with h|h
      .exact absurd h hs
      .exact h _ hv2 hv
     have c3:=N1 P q1 q2 q3 ⟨_,hmem,pj.2 hz,by
      rw[<-lJ,pj,i1];rintro ⟨_,h⟩;rw[hv] at h;grind,by
      rw[<-lJ,pj,i2];rintro ⟨_,h⟩;rw[gA,hv] at h;grind⟩
     omega
    .rw[Tr.cnt_zero h4 hy g2 w2];omega
   .rw[Tr.cnt_zero h3 hx g1 w1];omega
def Lx(l:ab):l.rev.rev=l:=by cases l;simp[ab.rev]
def ab.same.symm{l m:ab}(h:l.same m):m.same l:=by
 rcases h with rfl|rfl
 .exact .inl J
 .exact .inr (Lx l).symm
def ab.same.trans{l m n:ab}(h:l.same m)(k:m.same n):l.same n:=by
 rcases h with rfl|rfl
 .exact k
 .rcases k with rfl|rfl
  .exact .inr J
  .exact .inl (Lx l)
def kg(K:List ab)(t:Tr):Prop:=t.all fun n=> ∃m∈K,m.same n
def wc(l m:ab):aa:=l.at (-(l.cutC m/l.cutK m))
def Db{l m:ab}(hl:l.ok)(hm:m.ok){p:aa}(h1:l.value p=0)(h2:m.value p=0):l.same m\/p=wc l m:=by
 obtain⟨t,rfl⟩:=Bx hl.ne h1;rw[kE] at h2;by_cases hk:l.cutK m=0
 .left
  have hc:l.cutC m=0:=by rw[hk] at h2;grind
  rcases yn hm hl (fun s=>by rw[kE,hk,hc];grind) with h|h
  .exact .inl h
  .exact .inr h
 .right
  unfold wc;congr 1;grind
def kg.covers{K:List ab}(hK: ∀m∈K,m.ok){l:ab}(hl:l.ok): ∀{t:Tr},kg K t->QG (K.map (wc l)) l t
 | .leaf _,_=>trivial
 | .node n x y,⟨⟨m,hm,hs⟩,h1,h2⟩=>by
  refine⟨?_,kg.covers hK hl h1,kg.covers hK hl h2⟩;by_cases h:l.same n
  .exact .inl h
  .right
   intro p k1 k2;rcases Db hl (hK m hm) k1 (oH hs.symm k2) with h3|h3
   .exact absurd (h3.trans hs) h
   .rw[h3];exact fZ hm
def Kc(t:Tr):List ab->Nat
 |[]=>0
 |l::K=>t.cnt l+Kc t K
def Ks(n:ab):List ab->Nat
 |[]=>0
 |l::K=>(if l.same n then 1 else 0)+Ks n K
def KS{n:ab}{x y:Tr}: ∀K,Kc (.node n x y) K=Ks n K+(Kc x K+Kc y K)
 |[]=>rfl
 |l::K=>by
  have:=KS (n:=n) (x:=x) (y:=y) K;show(Tr.node n x y).cnt l+Kc (.node n x y) K=_;rw[this,Tr.cnt];show _=(if l.same n then 1 else 0)+Ks n K+(x.cnt l+Kc x K+(y.cnt l+Kc y K));omega
def Lt{n m:ab}(hs:m.same n): ∀{K:List ab},m∈K->1<=Ks n K
 |[],h=>by cases h
 |l::K,h=>by
  show 1<=(if l.same n then 1 else 0)+Ks n K;rcases aU.1 h with rfl|h
  .rw[if_pos hs];omega
  .have:=Lt hs h;omega
def Fl{K:List ab}: ∀{t:Tr},kg K t->t.size<=Kc t K
 | .leaf _,_=>aN _
 | .node n x y,⟨⟨m,hm,hs⟩,h1,h2⟩=>by
  have a:=Fl h1;have b:=Fl h2;have c:=Lt hs hm;rw[KS,Tr.size];omega
def P4{t:Tr}{B:Nat}: ∀{K:List ab},(∀l∈K,t.cnt l<=B)->Kc t K<=K.length*B
 |[],_=>aN _
 |l::K,h=>by
  have:=P4 (t:=t) (B:=B) (K:=K) fun m hm=>h m (aJ _ hm);have:=h l aQ;show t.cnt l+Kc t K<=(K.length+1)*B;rw[fL];omega
def Tr.size_le{K:List ab}(hK: ∀m∈K,m.ok){t:Tr}{c:aA}(hr:t.Red c)(ht:t.all ab.ok)(hc:cx c)(h:kg K t):t.size<=K.length*(1+K.length):=by
 refine dJ (Fl h) (P4 fun l hl=>?_);refine dJ (Tr.cnt_le (hK l hl) hr ht hc (h.covers hK (hK l hl))) ?_;have:=List.countP_le_length (p:=oP c) (l:=K.map (wc l));rw[aX] at this;omega
def kg.restrict{K:List ab}{t:Tr}(h:kg K t)(c:aA):kg K (t.restrict c):=t.restrict_all _ c h
def Tr.chooseL(op:Int)(b:Bool)(t:Tr)(c:List ab):Tr:=
 if op=1/\b=true then .leaf true
 else if(op=2\/op=3)/\b=false then .leaf false
 else if(op=3\/op=4)/\b=true then(t.restrictL c).compl else t.restrictL c
def Tr.mergeL(op:Int):Tr->Tr->List ab->Tr
 | .leaf b,u,c=>u.chooseL op b c
 | .node l x y,u,c=>if CI c l=1 then x.mergeL op u c else if CI c l= -1 then y.mergeL op u c else joinQ l (x.mergeL op u (iE (c++[l]))) (y.mergeL op u (iE (c++[l.rev])))
structure Gen (L:List ab) (a b:Tr):Prop where
 oa:a.all ab.ok
 ob:b.all ab.ok
 ok: ∀l∈L,l.ok
 la: ∀l∈a.lns,l∈L
 lb: ∀l∈b.lns,l∈L
def eG(x:Rat):List Rat->List Rat
 |[]=>[x]
 |u::t=>if u<x then u::eG x t else if u=x then u::t else x::u::t
def Hw(l:List Rat):List Rat:=l.foldl (fun out x=>eG x out) []
def gP:List Rat->List Rat
 |a::b::t=>(a+b)/2::gP (b::t)
 |_=>[]
def gg:List Rat->List Rat
 |[]=>[0]
 |a::t=>(a-1)::(gP (a::t)++[(a::t).getLast (by simp)+1])
def uT{x y:Rat}: ∀{l:List Rat},y∈eG x l↔y=x\/y∈l
 |[]=>by simp[eG]
 |u::t=>by
  rw[eG];split
  .rw[aU,uT (l:=t),aU];grind
  .split
   .rename_i h;subst h;simp
   .simp
def yj{x:Rat}: ∀{l:List Rat},l.Pairwise (· < ·)->(eG x l).Pairwise (· < ·)
 |[],_=>by simp[eG]
 |u::t,h=>by
  rw[bZ] at h;rw[eG];split
  .rename_i hu
   rw[bZ];refine⟨fun y hy=>?_,yj h.2⟩;rcases uT.1 hy with rfl|hy
   .exact hu
   .exact h.1 y hy
  .rename_i hu
   split
   .rw[bZ];exact h
   .rename_i hn
    have hx:x<u:=by grind
    rw[bZ,bZ];refine⟨fun y hy=>?_,h⟩;rcases aU.1 hy with rfl|hy
    .exact hx
    .have:=h.1 y hy;grind
def Oe: ∀{l:List Rat} (h:l.Pairwise (· < ·)) (hn:l≠[]),∀y∈l,y<=l.getLast hn
 |[a],_,_,y,hy=>by rw[aY] at hy;subst hy;exact gU
 |a::b::t,h,_,y,hy=>by
  rw[bZ] at h;rw[List.getLast_cons (by simp)];have ih:=Oe h.2 (by simp);rcases aU.1 hy with rfl|hy
  .have:=h.1 b aQ
   have:=ih b aQ;grind
  .exact ih y hy
def M2:List ab->List Rat
 |[]=>[]
 |a::t=>(if a.b=0 then [a.base.x] else [])++(t.filterMap (fun b=>if crossI a b=0 then none else some (gG a b).x)++M2 t)
def yA(a:ab)(x:Rat):Rat:= -(((a.a:Rat)*x+(a.c:Rat))/(a.b:Rat))
def MK(l:List ab)(x:Rat):List Rat:=l.filterMap fun a=>if a.b=0 then none else some (yA a x)
def J2(l:List ab):List aa:=(gg (Hw (M2 l))).flatMap fun x=>(gg (Hw (MK l x))).map fun y=>⟨x,y⟩
def aIp(l:ab)(p:aa):ab:=if 0<l.value p then l else l.rev
end Go.Sx
end
