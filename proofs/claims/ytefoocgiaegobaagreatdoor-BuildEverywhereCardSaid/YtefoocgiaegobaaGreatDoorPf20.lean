import Derived.Test.YtefoocgiaegobaaGreatDoorPf19
import Derived.Shelf.SlSortCmp.NoneTotal
import Derived.Test.YtefoocgiaegobaaGreatDoorProg
import Derived.Shelf.SlicesQ.Reverse
import Derived.Shelf.SlLaysE0
import Derived.Test.YtefoocgiaegobaaGreatDoorCards
import Derived.Test.YtefoocgiaegobaaGreatDoorTie
import Derived.WalkKit
import Derived.ProofKit
import Derived.OpenShut
import Derived.Deep.DeepHandedRow
import Derived.Deep.DeepWitnessRowRef
import Derived.LaidMore
import Derived.Lib.LaidTab
import Derived.SizedLaws
set_option linter.all false
set_option maxHeartbeats 4000000
set_option maxRecDepth 100000
section
namespace Go.Sx
open Go Go.Proofs Tryz
variable {GB:Gh}
def Qb(f:aH)(m:ab):(splitP f m).length<=1:=by unfold splitP;split<;>simp
def mm(l:List aH)(m:ab):List aH:=l.flatMap fun g=>splitP g m
def Bh(l:List aH)(m:ab):(mm l m).length<=l.length:=by
 induction l with
 |nil=>exact aM _
 |cons f t ih=>
  unfold mm at ih⊢;rw[lW,aT,bX];have:(splitP f m).length<=1:=by unfold splitP;split<;>simp
  omega
def KS{l:List aH}{k:Nat}{f:aH}{m:ab}(h:l[k]? =some f):(mm (l.take k) m).map bh++(splitP f m).map bh=(mm (l.take (k+1)) m).map bh:=by
 unfold mm;rw[gU,h,qY,cR];simp
def AY{f:aH}{m:ab}{a b:Bool}(ha:f.l.cutB f.v m=a)(hb:f.l.cutB f.v m.rev=b):(DV.tp [.sl (if a then [bh ⟨f.l,f.l.cutV f.v m⟩] else []), .sl (if b then [bh ⟨f.l,f.l.cutV f.v m.rev⟩] else [])])= .tp [.sl ((splitP f m).map bh), .sl ((splitP f m.rev).map bh)]:=by
 subst ha hb;unfold splitP;split<;>split<;>rfl
def Xs{f:aH}{m:ab}(hf:FS f)(hm:LB m):PF GB prog 256 [bh f,eH m] (.tp [.sl ((splitP f m).map bh), .sl ((splitP f m.rev).map bh)]):=by
 haveI:=hf.fo.lb;haveI:=hf.fo.lo;haveI:=hf.fo.hi;haveI:=hm;refine fn func256 J J ntmps256 J J (fun C=>?_);refine cl J (zo (l:=f.l) (v:=f.v) (m:=m) (i:=1200)) J<|?_;refine bb J J J (fun hc19=>?_) (fun hc19=>?_)
 .
  refine rf J J<|cl J FQ J<|cl J (zo (l:=f.l) (v:=f.v) (m:=m.rev) (i:=1200)) J<|?_;refine bb J J J (fun hc35=>?_) (fun hc35=>?_)
  .
   refine rf J J<|?_;exact rz J (AY hc19 hc35)
  .
   exact rz J (AY hc19 hc35)
 .
  refine cl J FQ J<|cl J (zo (l:=f.l) (v:=f.v) (m:=m.rev) (i:=1200)) J<|?_;refine bb J J J (fun hc35=>?_) (fun hc35=>?_)
  .
   refine rf J J<|?_;exact rz J (AY hc19 hc35)
  .
   exact rz J (AY hc19 hc35)
def aCr:KU prog 167:=by
 intro p q w;refine callsDIn_of_wpSIn func167 J trivial fun c₀ cs hu=>?_;apply wpSIn_seq;apply wpSIn_region;simp[wpOpsSIn,go_sem,recoverD,hu,ntmps167,Exit.thenS,FW,Fence.wide];apply wpSIn_seq;apply wpSIn_region;simp[wpOpsSIn,go_sem,Exit.thenS,FW,Fence.wide];refine wpSIn_cond (t:=false) (by simp[Act.eval,Array.replicate]) ?_;simp only[dJ,if_false];refine wpSIn_of_wpIn J (wpIn_skip ?_)
 cases c₀
 simp_all [bodyPostS,results,Tryz.results167,go_sem]
def ank{b:Nat}{f:FuncId}{c2:List Value}{ds2:List DV}(hc2:IsLs GB ds2 c2){acc:aa->Bool}(hF: ∀q,aI q 20000->PF GB prog f (eZ q::ds2) (vB (acc q))){n:Nat}{c:aF}{d N:Nat}(hc:jj c)(hcl:c.length<=100000):PM GB prog 168 (ja [none,some (.sl (([]:List aH).map bh)),some (.sl (c.map bh)),some (.v (.int .i64 (d:Nat)))] b) b 272 [.v (.int .i64 (N:Nat)),(.v (.func (.func f) ⟨[]⟩ ⟨c2⟩))] (eU (gv acc n [] c)) [.v (.int .i64 (N+(gv acc n [] c).size:Nat)),(.v (.func (.func f) ⟨[]⟩ ⟨c2⟩))]:=by
 have hib:=We hc;refine wq (fu:=⟨10⟩) func168 J J ntmps168 J J (fun C b m lo hmb=>?_);refine ie (fu:=⟨8⟩) J J J<|UY J J J J J J<|cl (fu:=⟨0⟩) J (YR (c:=c) hc hcl) J<|wR (ds1:=[]) (ds2:=ds2) J (cD.2 J) hc2 (hF (p6 c) hib) J<|?_;refine cl J (vL (b:=acc (p6 c))) J<|?_;exact mn hmb J J (by cases n<;>rfl) (by cases n<;>rfl)
def WI{b:Nat}{f:FuncId}{c2:List Value}{g:aH}{t:List aH}{c:aF}{d N:Nat}{x y:Tr}(hl: ∀u∈g::t,FS u)(hlen:(g::t).length<=100000)(hc:jj c)(hcl:c.length<=100000)(hd:d<1000)(hN:N+(1+x.size+y.size)<=65536)(ih1: ∀{b N:Nat},N+x.size<=65536->PM GB prog 168 (ja [none,some (.sl ((mm (g::t) g.l).map bh)),some (.sl ((bF c g.l).map bh)),some (.v (.int .i64 (d+1:Nat)))] b) b 272 [.v (.int .i64 (N:Nat)),(.v (.func (.func f) ⟨[]⟩ ⟨c2⟩))] (eU x) [.v (.int .i64 (N+x.size:Nat)),(.v (.func (.func f) ⟨[]⟩ ⟨c2⟩))])(ih2: ∀{b N:Nat},N+y.size<=65536->PM GB prog 168 (ja [none,some (.sl ((mm (g::t) g.l.rev).map bh)),some (.sl ((bF c g.l.rev).map bh)),some (.v (.int .i64 (d+1:Nat)))] b) b 272 [.v (.int .i64 (N:Nat)),(.v (.func (.func f) ⟨[]⟩ ⟨c2⟩))] (eU y) [.v (.int .i64 (N+y.size:Nat)),(.v (.func (.func f) ⟨[]⟩ ⟨c2⟩))]):PM GB prog 168 (ja [none,some (.sl ((g::t).map bh)),some (.sl (c.map bh)),some (.v (.int .i64 (d:Nat)))] b) b 272 [.v (.int .i64 (N:Nat)),(.v (.func (.func f) ⟨[]⟩ ⟨c2⟩))] (eU (Tr.node g.l x y)) [.v (.int .i64 (N+(Tr.node g.l x y).size:Nat)),(.v (.func (.func f) ⟨[]⟩ ⟨c2⟩))]:=by
 have hg:=hl g aQ;haveI hlb:=hg.fo.lb;have hlt:t.length+1<=100000:=hlen;have hml:((g::t).map bh).length=(g::t).length:=aJ ..;refine wq (fu:=⟨10⟩) func168 J J ntmps168 J J (fun C b m lo hmb=>?_);refine ao 22 (.d (vI ((t.length+1:Nat):Int))) J (by rw[hml]<;>rfl) ?_;refine gx (fu:=⟨0⟩) J<|dt (fu:=⟨13⟩) (hv:=by simp only[ah];exact(by omega)) J (by show some (decide _)=some false;rw[decide_eq_false (by omega)]) J<|?_;refine ao 36 (.d (.v (.int .i64 (N+1:Nat)))) J J ?_;refine gx (fu:=⟨11⟩) J<|dt (fu:=⟨2⟩) J (by show some (decide _)=some false;rw[decide_eq_false (by omega)]) J<|dt J (by show some (decide _)=some false;rw[decide_eq_false (by omega)]) J<|?_;refine ix (fu:=⟨17⟩) _ J J J<|?_;refine ao 55 (.d (vI ((t.length+1:Nat):Int))) J (by rw[hml]<;>rfl) ?_;refine gx J<|?_;refine nr 10 10 222 17 J J J ?_;refine nr 11 11 222 17 J J J ?_;refine lp (X:=Nat) (fun k=>[(56, .d (vI (k:Nat))),(10, .rw 10),(11, .rw 11)]) (fun k=>[(10,some (.b 222 17 ((mm ((g::t).take k) g.l).map bh) true)),(11,some (.b 222 17 ((mm ((g::t).take k) g.l.rev).map bh) true))]) (fun k=>k<=t.length+1) (fun k=>t.length+1-k) 0 J (bK _) (fun _=>J) (fun k hk=>?_);have hm1:=Bh ((g::t).take k) g.l;have hm2:=Bh ((g::t).take k) g.l.rev;have hm3:((g::t).take k).length<=k:=by rw[bM];omega
 have hm4:((mm ((g::t).take k) g.l).map bh).length<=k:=by rw[aJ];omega
 have hm5:((mm ((g::t).take k) g.l.rev).map bh).length<=k:=by rw[aJ];omega
 refine br (fu2:=⟨0⟩) J J J (fun hc57=>?_) (fun hc57=>?_)
 .
  obtain⟨u,hx⟩: ∃u,(g::t)[k]? =some u:=⟨_,aX (by rw[bX];omega)⟩;have hu:=hl u (aS hx);have hs1:=Qb u g.l;have hs2:=Qb u g.l.rev;refine ix _ J (d6 hx) J<|cl J (Xs hu hlb) J<|ap ((mm ((g::t).take (k+1)) g.l).map bh) J (KS hx) (xw (splitP u g.l)) J<|?_;refine ap ((mm ((g::t).take (k+1)) g.l.rev).map bh) J (KS hx) (xw (splitP u g.l.rev)) J<|?_;refine gI 68 10 J ?_;refine gI 71 11 J ?_;exact at_ (k+1) ⟨(by omega),(by omega)⟩
 .
  obtain rfl:k=t.length+1:=by omega
  rw[show(g::t).take (t.length+1)=g::t from dT (l:=g::t)];refine qD 11 J ?_;refine gx J<|cl (fu:=⟨18⟩) J (Lm (l:=g.l) (c:=c) hg.fo.ok hc hcl) J<|?_;refine ao 85 (.d (.v (.int .i64 (d+1:Nat)))) J J ?_;refine gx J<|fz 10 J J<|cm (fu:=⟨12⟩) J (fun b=>(ih1 (N:=N+1) (by omega))) J<|?_;refine ao 93 (.d (.v (.int .i64 (d+1:Nat)))) J J ?_;refine gx J<|cm J (fun b=>(ih2 (N:=N+1+x.size) (by omega))) J<|cl J yU J<|?_;exact mn hmb J J J (by rw[show N+(Tr.node g.l x y).size=N+1+x.size+y.size from by rw[Tr.size];omega])
def Hf{f:FuncId}{c2:List Value}{ds2:List DV}(hc2:IsLs GB ds2 c2){acc:aa->Bool}(hF: ∀q,aI q 20000->PF GB prog f (eZ q::ds2) (vB (acc q))): ∀{n:Nat} {l:List aH} {c:aF} {d N b:Nat},(∀u∈l,FS u)->nj n l->l.length<=100000->jj c->c.length+n<=100000->d+n<=1000->N+(gv acc n l c).size<=65536->PM GB prog 168 (ja [none,some (.sl (l.map bh)),some (.sl (c.map bh)),some (.v (.int .i64 (d:Nat)))] b) b 272 [.v (.int .i64 (N:Nat)),(.v (.func (.func f) ⟨[]⟩ ⟨c2⟩))] (eU (gv acc n l c)) [.v (.int .i64 (N+(gv acc n l c).size:Nat)),(.v (.func (.func f) ⟨[]⟩ ⟨c2⟩))]
 |_,[],c,d,N,b,_,_,_,hc,hcl,_,_=>ank hc2 hF hc (by omega)
 |0,g::t,_,_,_,_,_,hf,_,_,_,_,_=>hf.no.elim
 |n+1,g::t,c,d,N,b,hl,hf,hlen,hc,hcl,hd,hN=>by
  have hg:=hl g aQ;haveI hlb:=hg.fo.lb;obtain⟨f1,f2⟩:=FS.splits hl hlb;obtain⟨w1,w2⟩:=hf.splitP hl;have n1:=Bh (g::t) g.l;have n2:=Bh (g::t) g.l.rev;have k1:=B8 c g.l;have k2:=B8 c g.l.rev;have o1:=Dj hg.fo.ok hc;have o2:=Dj (l:=g.l.rev) (ab.ok.rev hg.fo.ok) hc;refine WI (x:=gv acc n (mm (g::t) g.l) (bF c g.l)) (y:=gv acc n (mm (g::t) g.l.rev) (bF c g.l.rev)) hl hlen hc (by omega) (by omega) hN (fun{b' N'} h2=>?_) (fun{b' N'} h2=>?_)
  ·exact Hf hc2 hF f1 w1 (by omega) o1 (by omega) (by omega) h2
  ·exact Hf hc2 hF f2 w2 (by omega) o2 (by omega) (by omega) h2
def MK{E:List aH}(hE: ∀u∈E,FS u){n:Nat}(hw:nj n E)(hn:n<=1000)(hlen:E.length<=100000){f:FuncId}{c2:List Value}{ds2:List DV}(hc2:IsLs GB ds2 c2){acc:aa->Bool}(hF: ∀q,aI q 20000->PF GB prog f (eZ q::ds2) (vB (acc q)))
  (hs:(gv acc n E []).size<=65536)(hd:(gv acc n E []).depth<=1000)(ho:(gv acc n E []).all ab.ok)(hb:(gv acc n E []).all LB):PF GB prog 75 [.sl (E.map bh), .v (.func (.func f) ⟨[]⟩ ⟨c2⟩)] (.tp [eU ((gv acc n E []).restrict []), .v .nilIface]):=by
 refine Yn func75 J J ntmps75 J J (fun C h0=>?_);refine dfr h0 J J J (by decide) (fun p q=>?_);refine gx J ?_;refine cm J (fun b=>Hf (b:=b) hc2 hF (n:=n) (l:=E) (c:=[]) (d:=0) (N:=0) hE hw hlen (fun s hs=>by cases hs) (by simp;omega) (by omega) (by omega)) J ?_;refine cl J (Xp hb ho (by omega)) J ?_;exact ZO aCr ⟨_,func167,J,J⟩ J J
def Ld{E:List aH}(hE: ∀f∈E,FE f)(hn:E.length<=100000){fill:Int}{q:aa}{i:Nat}[hq:aI q i](hi:i<=80000):PF GB prog 76 [eZ q, .pt [vI fill], .pt [.sl (E.map bh)]] (vB (tH fill (io E q))):=by
 refine fn (fu:=⟨3⟩) func76 J J ntmps76 J J (fun C=>?_);refine Dl 1 J<|Dl 2 J<|gx J<|cl J (No hE (by omega) (p:=q) (i:=i) (by omega)) J<|cl J (F6 (fill:=fill) (n:=io E q)) J<|?_;exact rz J J
def ED{rs:List (List ZP)}(hr: ∀r∈rs,dq r)(fill:Int):(fun q=>tH fill (io (cb rs) q))=jb rs fill:=by
 funext q;rw[QT hr];rfl
def Tr.like_depth: ∀{t u:Tr},t.like u->t.depth=u.depth
 | .leaf _, .leaf _,_=>rfl
 | .node _ _ _, .node _ _ _,h=>by rw[Tr.depth,Tr.depth,Tr.like_depth h.2.1,Tr.like_depth h.2.2]
def UQ{rs:List (List ZP)}{fill:Int}(h: ∀r∈rs,dq r)(hn:rs.length<=3):(kt rs fill).all LB/\(kt rs fill).all ab.ok/\(kt rs fill).depth<=18/\(kt rs fill).size<=171:=by
 obtain⟨h1,h2,h3⟩:=QL (fill:=fill) h;obtain⟨k1,k2⟩:=ng h;have hd:(o4 rs fill).depth<=(cb rs).length:=Dp;have ha: ∀{P:ab->Prop},(∀f∈cb rs,P f.l)->(kt rs fill).all P:=fun hP=>by
  rw[qr,Tr.like_lns h1,<-qr];exact rF hP
 have hA:n9 ((cb rs).map (·.l)) (kt rs fill):=ha fun f hf=>⟨f.l,gS hf, .inl J⟩;have hs:=awP (K:=(cb rs).map (·.l)) (fun m hm=>by obtain⟨f,hf,rfl⟩:=bV.1 hm;exact(k2 f hf).ok) h2 h3 d8.nil hA;rw[aJ] at hs;refine⟨ha fun f hf=>(k2 f hf).lb,h3,by rw[Tr.like_depth h1];omega,?_⟩;have:(cb rs).length*((cb rs).length+1)<=18*19:=jL (by omega) (by omega);omega
def Qo{rs:List (List ZP)}(h: ∀r∈rs,ld r)(hn:rs.length<=3){fill:Int}(hfill:fill=1\/fill=2):PF GB prog 19 [.sl (rs.map lG),vI fill] (.tp [eA (iG rs fill), .v .nilIface]):=by
 have hr: ∀r∈rs,dq r:=fun r hr=>(h r hr).ok;have hel0:=(ng hr).1;have hfe:=NN hr;obtain⟨b1,b2,b3,b4⟩:=UQ (fill:=fill) hr hn;have hbx:=(Ep (fill:=fill) hr hn).x (Fa _ _) (by decide);have hbs:=hbx.s;have hbE:(gv (jb rs fill) (cb rs).length (cb rs) []).restrict []=iG rs fill:=Yp hr;have hbl:=hbx.lb;have hml:(rs.map q6).length=rs.length:=aJ ..;refine fn func19 J J ntmps19 J J (fun C=>?_);refine cl (fu:=⟨13⟩) J (K7 h (by omega)) J<|dt J J J<|?_;refine cs (fu2:=⟨20⟩) 25 J J J (fun hg25=>?_) (fun hg25=>?_)
 .
  refine br (fu2:=⟨13⟩) J J J (fun hc22=>?_) (fun hc22=>?_)
  .
   exact absurd hfill (by omega)
  .
   refine ao 32 (.d (vI (rs.length:Nat))) J (by rw[hml]<;>rfl) ?_;refine gx J<|?_;refine Fk 8 0 80 222 17 J J J J J ?_;refine lp (X:=Nat) (fun k=>[(33, .d (vI (k:Nat))),(8, .ov 8 0)]) (fun k=>[(8,some (.o 130 [.rw 80] true)),(80,some (.b 222 17 ((cb (rs.take k)).map bh) true))]) (fun k=>k<=rs.length) (fun k=>rs.length-k) 0 J (bK _) (fun _=>J) (fun k hk=>?_);have hm5:=vm hr k;have hm3:((cb (rs.take k)).map bh).length<=6*k:=by rw[aJ];exact vm hr k
   refine br (fu2:=⟨0⟩) J J J (fun hc34=>?_) (fun hc34=>?_)
   .
    obtain⟨r,hx⟩: ∃u,rs[k]? =some u:=⟨_,aX (by omega)⟩;have hrr:=h r (aS hx);have hel:=(tq hrr.ok).1;have hn6:=hrr.ok.n6;have hm4:((eG r).map bh).length=(eG r).length:=aJ ..;refine ix _ J (d6 hx) J<|cl J (Gw hrr.ok) J<|ap (hv:=by simp only[ah];exact⟨by kernel_rfl,by omega⟩) ((cb (rs.take (k+1))).map bh) J (EV hx) (xw (eG r)) J<|?_;refine gI 40 80 J ?_;exact at_ (k+1) ⟨(by omega),(by omega)⟩
   .
    obtain rfl:k=rs.length:=by omega
    rw[dT];refine qD 80 J ?_;refine gx (fu:=⟨7⟩) J<|?_;refine gx J<|fz 3 J J<|fz 8 J J ?_;refine xY 3 J (fun GB1 pv1 hg1 hp1=>?_);refine xY 8 J (fun GB2 pv2 hg2 hp2=>?_);refine QV (fu:=⟨0⟩) J J ?_;refine cl J (MK (E:=cb rs) (Aq hr) (DZ rs) (by omega) (by omega) (f:=76) (c2:=[pv1,pv2]) (ds2:=[.pt [vI fill], .pt [.sl ((cb rs).map bh)]]) (.cons (hp1.up hg2) (.cons hp2 (cD.2 J))) (acc:=jb rs fill) (fun q hq=>by rw[<-ED hr];exact Ld hfe (by omega) (q:=q) (i:=20000) (by decide)) (show(kt rs fill).size<=65536 by omega) (show(kt rs fill).depth<=1000 by omega) b2 b1) J ?_;refine cl J (NO (t:=(gv (jb rs fill) (cb rs).length (cb rs) []).restrict []) (by rw[hbE];exact hbl) (by rw[hbE];omega)) J ?_;exact rz J (by rw[hbE]<;>rfl)
 .
  refine ao 32 (.d (vI (rs.length:Nat))) J (by rw[hml]<;>rfl) ?_;refine gx J<|?_;refine Fk 8 0 80 222 17 J J J J J ?_;refine lp (X:=Nat) (fun k=>[(33, .d (vI (k:Nat))),(8, .ov 8 0)]) (fun k=>[(8,some (.o 130 [.rw 80] true)),(80,some (.b 222 17 ((cb (rs.take k)).map bh) true))]) (fun k=>k<=rs.length) (fun k=>rs.length-k) 0 J (bK _) (fun _=>J) (fun k hk=>?_);have hm5:=vm hr k;have hm3:((cb (rs.take k)).map bh).length<=6*k:=by rw[aJ];exact vm hr k
  refine br (fu2:=⟨0⟩) J J J (fun hc34=>?_) (fun hc34=>?_)
  .
   obtain⟨r,hx⟩: ∃u,rs[k]? =some u:=⟨_,aX (by omega)⟩;have hrr:=h r (aS hx);have hel:=(tq hrr.ok).1;have hn6:=hrr.ok.n6;have hm4:((eG r).map bh).length=(eG r).length:=aJ ..;refine ix _ J (d6 hx) J<|cl J (Gw hrr.ok) J<|ap (hv:=by simp only[ah];exact⟨by kernel_rfl,by omega⟩) ((cb (rs.take (k+1))).map bh) J (EV hx) (xw (eG r)) J<|?_;refine gI 40 80 J ?_;exact at_ (k+1) ⟨(by omega),(by omega)⟩
  .
   obtain rfl:k=rs.length:=by omega
   rw[dT];refine qD 80 J ?_;refine gx (fu:=⟨7⟩) J<|?_;refine gx J<|fz 3 J J<|fz 8 J J ?_;refine xY 3 J (fun GB1 pv1 hg1 hp1=>?_);refine xY 8 J (fun GB2 pv2 hg2 hp2=>?_);refine QV (fu:=⟨0⟩) J J ?_;refine cl J (MK (E:=cb rs) (Aq hr) (DZ rs) (by omega) (by omega) (f:=76) (c2:=[pv1,pv2]) (ds2:=[.pt [vI fill], .pt [.sl ((cb rs).map bh)]]) (.cons (hp1.up hg2) (.cons hp2 (cD.2 J))) (acc:=jb rs fill) (fun q hq=>by rw[<-ED hr];exact Ld hfe (by omega) (q:=q) (i:=20000) (by decide)) (show(kt rs fill).size<=65536 by omega) (show(kt rs fill).depth<=1000 by omega) b2 b1) J ?_;refine cl J (NO (t:=(gv (jb rs fill) (cb rs).length (cb rs) []).restrict []) (by rw[hbE];exact hbl) (by rw[hbE];omega)) J ?_;exact rz J (by rw[hbE]<;>rfl)
def JP{u v:aa}{i j:Nat}[hp:aI u i][hq:aI v j](hi:i<=10000000:=by decide)(hj:j<=10000000:=by decide):PF GB prog 318 [eZ u,eZ v] (vB (decide (di u v=0))):=by
 refine fn func318 J J ntmps318 J J (fun C=>?_);refine cl J (IN (u:=u) (v:=v) hi hj) J<|?_;exact rz J J
def kz(x:aa):List aa->List aa
 |[]=>[]
 |y::l=>if di y x=0 then kz y l else y::kz y l
def r9:List aa->List aa
 |[]=>[]
 |x::l=>x::kz x l
def CM{l:List aa}{k:Nat}{x y:aa}(h:l[k]? =some y):kz x (l.drop k)=if di y x=0 then kz y (l.drop (k+1)) else y::kz y (l.drop (k+1)):=by
 obtain⟨h1,h2⟩:=aU.1 h;rw[bY h1,h2,kz]
def auY{l:List aa}{k:Nat}{y:aa}(h:l[k]? =some y):l.take (k+1)=l.take k++[y]:=by
 rw[gU,h];rfl
def vZ:DV:= .ag [vI 0,vI 0, .v (.pointer none),vI 0,vI 0, .v (.pointer none)]
def Yz(l:List aa)(k:Nat)(y:aa):(l.map eZ).set k (eZ y)=(l.set k y).map eZ:=(pT ..).symm
def ao9{l:List aa}(h:l.length<2):r9 l=l:=by
 cases l with
 |nil=>rfl
 |cons x l=>cases l with
  |nil=>rfl
  |cons y l=>simp at h;omega
def aBe{l:List aa}{x:aa}(h:l[0]? =some x):r9 l=l.take 1++kz x (l.drop 1):=by
 cases l with
 |nil=>cases h
 |cons y l=>cases h;rfl
def Nk{r l:List aa}{a b:Nat}(h:a<=b)(e:r.drop a=l.drop a):r[b]? =l[b]? :=by
 have:=congrArg (·[b-a]?) e;simpa[lL,show a+(b-a)=b by omega] using this
def W7{r l:List aa}{a b:Nat}(h:a<=b)(e:r.drop a=l.drop a):r.drop b=l.drop b:=by
 have:=congrArg (List.drop (b-a)) e;simpa[tZ,show a+(b-a)=b by omega] using this
def Tv{r:List aa}{i:Nat}{u:aa}(h:i<r.length):(r.set i u).take (i+1)=r.take i++[u]:=by
 rw[gU,rR h,List.take_set_of_le (aM _)];rfl
def Tw{r:List aa}{i:Nat}(h:i<r.length):(r.map eZ)[(i:Int).toNat]? =some (eZ r[i]):=by simp[h]
def Xu{l:List aa}{i0:Nat}(hb: ∀d∈l,aI d i0)(hn:l.length<=10000000)(hi:i0<=10000000):PB GB prog 317 (gw [none,some (.v (.func (.func 318) #[] #[]))]) 6 141 (l.map eZ) (fun w=> .v (.slice w.a w.n w.c)) ((r9 l).map eZ):=by
 have hml:(l.map eZ).length=l.length:=aJ ..;refine vE (fu:=⟨10⟩) func317 J J ntmps317 J J (fun C=>?_);refine ao 9 (.d (vI (l.length:Nat))) J (by rw[hml]<;>rfl) ?_;refine gx J<|?_;refine br J J J (fun hc10=>?_) (fun hc10=>?_)
 .
  exact sF J J J (by rw[ao9 (by omega)])
 .
  obtain⟨x0,hx0⟩: ∃x,l[0]? =some x:=⟨_,aX (by omega)⟩;refine lp (fu:=⟨6⟩) (X:=Nat×aa) (fun⟨k,x⟩=>[(5, .d (vI (k:Nat)))]) (fun⟨k,x⟩=>[]) (fun⟨k,x⟩=>1<=k/\k<=l.length/\l[k-1]? =some x/\r9 l=l.take k++kz x (l.drop k)) (fun⟨k,x⟩=>l.length-k) ⟨1,x0⟩ J ⟨aM _,by omega,hx0,by rw[aBe hx0]⟩ (fun _=>J) (fun⟨k,x⟩ hk=>?_)
  try dsimp only at hk⊢
  obtain⟨h1,h2,h3,h4⟩:=hk;refine ao 14 (.d (vI (l.length:Nat))) J (by rw[hml]<;>rfl) ?_;refine gx J<|?_;refine br J J J (fun hc15=>?_) (fun hc15=>?_)
  .
   obtain⟨y,hy⟩: ∃y,l[k]? =some y:=⟨_,aX (by omega)⟩;haveI:=hb y (aS hy);haveI:=hb x (aS h3);refine lb (fu:=⟨3⟩) _ J (d6 hy) J<|?_;refine ao 25 (.d (vI ((k-1:Nat):Int))) J (by rw[Int.ofNat_sub h1]<;>rfl) ?_;refine gx J<|lb (fu:=⟨0⟩) _ J (d6 h3) J<|cl J (JP (u:=y) (v:=x) hi hi) J<|?_;refine bd (fu1:=⟨4⟩) J J J (fun hc28=>?_) (fun hc28=>?_)
   .
    have hc28':=hc28;refine Kz k (l.length-k) J J (by omega) (by omega) J<|?_;refine lp (fu:=⟨5⟩) (X:=Nat×Nat×aa×List aa) (fun⟨i,m,z,r⟩=>[(5, .d (vI (i:Nat))),(7, .d (vI (m:Nat)))]) (fun⟨i,m,z,r⟩=>[(1000000,some (.b 141 6 (r.map eZ) false))]) (fun⟨i,m,z,r⟩=>1<=m/\k+m<=l.length/\i+1<=k+m/\r.length=l.length/\r.drop (k+m-1)=l.drop (k+m-1)/\l[k+m-1]? =some z/\r9 l=r.take i++kz z (l.drop (k+m))) (fun⟨i,m,z,r⟩=>l.length-m) ⟨k,1,y,l⟩ J ⟨aM _,by omega,by omega,J,J,by rw[lM];exact hy,by rw[h4,CM hy,if_pos hc28']⟩ (fun _=>J) (fun⟨i,m,z,r⟩ hk=>?_)
    try dsimp only at hk⊢
    obtain⟨g1,g2,g3,g4,g5,g6,g7⟩:=hk;have hrl:(r.map eZ).length=r.length:=aJ ..;refine rsn J J<|?_;refine br (fu1:=⟨9⟩) (fu2:=⟨9⟩) J J J (fun hc35=>?_) (fun hc35=>?_)
    .
     obtain⟨u,hu⟩: ∃u,l[k+m]? =some u:=⟨_,aX (by omega)⟩;haveI:=hb u (aS hu);haveI:=hb z (aS g6);have g8:r[k+m]? =some u:=by rw[<-hu];exact Nk (by omega) g5
     have g10:r[k+m-1]? =some z:=by rw[<-g6];exact Nk (aM _) g5
     have g9:r.drop (k+m)=l.drop (k+m):=W7 (by omega) g5;refine IQ (k+m) J (by omega) (by omega) (by omega) J<|lb (fu:=⟨3⟩) _ J (d6 g8) J<|IQ (k+m-1) J (by omega) (by omega) (by omega) J<|?_;refine lb (fu:=⟨0⟩) _ J (d6 g10) J<|cl J (JP (u:=u) (v:=z) hi hi) J<|?_;refine bb (fu1:=⟨6⟩) J J J (fun hc49=>?_) (fun hc49=>?_)
     .
      have hc49': ¬di u z=0:=by simpa using hc49
      refine IQ (k+m) J (by omega) (by omega) (by omega) J<|lb _ J (d6 g8) J<|sb _ ((r.set i u).map eZ) J (Tw (by omega)) J (by rw[<-Yz]<;>rfl) J<|?_;exact at_ ⟨i+1,m+1,u,r.set i u⟩ (by dsimp only;exact⟨⟨by omega,by omega,by omega,by rw[aL];exact g4,by rw[show k+(m+1)-1=k+m by omega,qX (by omega)];exact g9,by rw[show k+(m+1)-1=k+m by omega];exact hu,by rw[g7,CM hu,if_neg hc49',Tv (by omega),dQ];rfl⟩,(by omega)⟩)
     .
      have hc49':di u z=0:=by simpa using hc49
      exact at_ ⟨i,m+1,u,r⟩ (by dsimp only;exact⟨⟨by omega,by omega,by omega,g4,by rw[show k+(m+1)-1=k+m by omega];exact g9,by rw[show k+(m+1)-1=k+m by omega];exact hu,by rw[g7,CM hu,if_pos hc49'];rfl⟩,(by omega)⟩)
    .
     obtain hm:k+m=l.length:=by omega
     refine Kz i (l.length-i) J J (by omega) (by omega) J<|U9 (fu:=⟨6⟩) _ J (by rw[hrl];omega) (by omega) J J<|Wy ((r.take i).map eZ) i J J (by rw[aT,bM,aW,hrl];omega) (by rw[eY (by rw[bM,hrl];omega),List.take_take,Nat.min_self,kK]) J<|?_;exact sF J J J (by rw[g7,hm,jK,kz,iW])
   .
    have hc28':=hc28;exact at_ ⟨k+1,y⟩ (by dsimp only;exact⟨⟨by omega,by omega,hy,by rw[h4,CM hy,if_neg hc28',auY hy,dQ];rfl⟩,(by omega)⟩)
  .
   exact sF J J J (by rw[h4,show k=l.length by omega,jK,kz,iW,dT])
def asU{v:Value}(h:Go.Sx.flat v=true):v.oneCell'=true:=by cases v<;>first|rfl|cases h
def Qq{α:Type}{k:Nat}: ∀(l:List (List α)) (t:Nat),(∀x∈l,x.length=k)->t<l.length*k->l.flatten[t]? =(l[t/k]?).bind (·[t%k]?)
 |[],t,_,h=>by simp at h
 |x::l,t,h,ht=>by
  have hx:=h x aQ;have hk:0<k:=by
   rcases fK k with e|e
   ·subst e;simp at ht
   ·exact e
  rw[lQ];by_cases q:t<k
  ·rw[cN (by omega),jS q,fU q];rfl
  ·rw[fR (by omega),hx,Qq l (t-k) (fun y hy=>h y (aZ _ hy)) (by rw[bX,cS] at ht;omega)]
   have e1:t/k=(t-k)/k+1:=by rw[Nat.div_eq_sub_div hk (by omega)]
   have e2:t%k=(t-k)%k:=by rw[Nat.mod_eq_sub_mod (by omega)]
   rw[e1,e2];rfl
section
variable {α:Type} [Inhabited α]
def axQ(enc:α->List Value)(k:Nat)(hk: ∀x,(enc x).length=k)(d:Array α):(Go.Sort.flatK enc k d).toList=(d.toList.map enc).flatten:=by
 apply kN;intro t;have hlen:(d.toList.map enc).flatten.length=d.size*k:=by
  have: ∀l:List α,(l.map enc).flatten.length=l.length*k:=fun l=>by
   induction l with
   |nil=>simp
   |cons x l ih=>rw[bW,lQ,aT,ih,hk,bX,cS];omega
  simpa using this d.toList
 by_cases ht:t<d.size*k
 ·have hk0:0<k:=by
   rcases fK k with e|e
   ·subst e;simp at ht
   ·exact e
  have hi:t/k<d.size:=sU (by rwa [cZ]);rw[Qq (k:=k) _ _ (fun x hx=>by obtain⟨y,_,rfl⟩:=bV.1 hx;exact hk y) (by simpa using ht)];simp only[Go.Sort.flatK,oV,Array.toList_range,eX];rw[qQ ht];have hj:t%k<(enc d[t/k]).length:=by rw[hk];exact dZ _ hk0
  simp only[jT];rw[getElem!_pos d (t/k) hi,getElem!_pos (enc d[t/k]) (t%k) hj];simp[hi,hj]
 ·rw[dY (by simp[Go.Sort.flatK];omega),dY (by rw[hlen];omega)]
def MD(enc:α->List Value)(k:Nat)(w:World)(b m:Nat)(dk:Array α)(os:Array Obj){q:Nat}(hq:q<w.heap.size):
  (sortWorldK enc k w b 0 m dk os).heap[q]? =if q=b then(w.heap[q]?).map (Go.Sort.onCells (Go.Sort.putCells id 0 (Go.Sort.flatK enc k dk))) else w.heap[q]? :=by
 show((w.heap.modify b _)++os)[q]? =_;rw[jX (by simpa using hq),Array.getElem?_modify];by_cases e:b=q
 ·subst e;simp
 ·simp[e,Ne.symm e]
def WN{F:Array Value}{xs rest:List Value}(h:xs.length=F.size):Go.Sort.putCells id 0 F ⟨xs++rest⟩=⟨F.toList++rest⟩:=by
 apply Array.ext';apply kN;intro k;simp only[Go.Sort.putCells,Array.toList_mapIdx,List.getElem?_mapIdx];by_cases hk:k<F.size
 ·rw[cN (by omega),cN (by simpa using hk),aX (by omega)]
  simp[hk]
 ·rw[fR (by omega),fR (by simp;omega),h]
  simp only[iT]
  cases rest[k-F.size]? with
  |none=>rfl
  |some v=>simp[hk]
end
def oO{A:Type}(cf:A->A->Int)(ds:List A):List A:=ds.mergeSort fun x y=>!decide (cf y x<0)
def xz{A:Type}(cf:A->A->Int)(ds:List A):(oO cf ds).Perm ds:=List.mergeSort_perm ..
def QM{A:Type}{cf:A->A->Int}(hO:Go.Sort.SWO (Go.Proofs.ltOf cf))(ds:List A):(oO cf ds).Pairwise fun x y=> ¬cf y x<0:=by
 have:=List.pairwise_mergeSort (le:=fun x y=>!decide (cf y x<0)) (fun a b c h1 h2=>by
  have h1':Go.Proofs.ltOf cf b a=false:=by simpa[Go.Proofs.ltOf] using h1
  have h2':Go.Proofs.ltOf cf c b=false:=by simpa[Go.Proofs.ltOf] using h2
  have:=hO.ntrans c b a h2' h1';simpa[Go.Proofs.ltOf] using this) (fun a b=>by
  cases h1:Go.Proofs.ltOf cf b a with
  |false=>have: ¬cf b a<0:=(by simpa[Go.Proofs.ltOf] using h1);simp;omega
  |true=>
   cases h2:Go.Proofs.ltOf cf a b with
   |false=>have: ¬cf a b<0:=(by simpa[Go.Proofs.ltOf] using h2);simp;omega
   |true=>have:=hO.trans _ _ _ h1 h2;rw[hO.irrefl] at this;cases this) ds
 exact this.imp fun h=>by simpa using h
def UF{P:Program}{ρ:Go.Shelf.Ren}{GB:Gh}(L:SlLaysF0.n6 P ρ)(ha:pn P (ρ.f 6)){s:Nat}(hAg: ∀w,(isAgg (ρ.t 24)).run P w= .ok true w)(hZs: ∀w,(sizeOf (ρ.t 24)).run P w= .ok s w)
  {A:Type}(e:A->DV)(V:A->Prop)(hA: ∀x,∃l,e x= .ag l/\(DV.ag l).okc=true/\l.length=s)(cf:A->A->Int)(hO:Go.Sort.SWO (Go.Proofs.ltOf cf)){g:FuncId}(hg:pn P g)
  (hc: ∀x y,V x->V y->PF GB P g [e x,e y] (.v (.int .i64 (cf x y)))){ty:TypeId}{ds:List A}(hV: ∀x∈ds,V x)(hn:ds.length<4611686018427387904)(hu: ∀x∈ds,∀y∈ds,¬cf x y<0-> ¬cf y x<0->x=y):
  PW GB P (ρ.f 6) [none,some (.v (.func (.func g) #[] #[]))] s ty (ds.map e) (.tp []) ((oO cf ds).map e):=by
 intro G z vs B hgb hB hvs;refine⟨ha,fun w hw=>?_⟩;obtain⟨v1,m1,rfl,q1,hvs⟩:=ba.1 hvs;obtain⟨v2,m2,rfl,q2,hvs⟩:=ba.1 hvs
 cases cD.1 hvs
 rw[aG] at q1 q2;subst q1 q2;obtain⟨es,k1,k2,k3,_⟩:=hB;simp only at k1 k2 k3;have hlen:es.length=ds.length:=by rw[k2.len,aJ]
 by_cases h0:ds=[]
 ·subst h0
  have hes:es=[]:=bT (by simpa using hlen);have hz:z.n=0:=by rw[k1.len,hes];rfl
  rw[hz];refine(AnyF.slices_SortFunc_none L z.a z.c _ w).mono fun r w' ⟨h1,h2⟩=>?_;subst h2;exact⟨_,asB B,G,h1,hw,js.2 ⟨[],J, .nil⟩,es,k1.asB,by subst hes;show IsLs G ((oO cf []).map e) [];unfold oO;rw[List.mergeSort_nil];exact .nil,k3,fun h=>by cases h⟩
 ·have hpos:0<es.length:=by rw[hlen];exact qJ.2 h0
  rcases k1 with⟨e1,_,_⟩|⟨b,rest,lo,e1,e2,e3,e4,e5⟩
  ·rw[e1] at hpos;simp at hpos
  subst e2
  -- elements with their cells
  have lift: ∀{ds:List A} {es:List Value},IsLs G (ds.map e) es->(∀x∈ds,V x)-> ∃qs:List {q:A×List Value//V q.1/\Is G (e q.1) (.agg ⟨q.2⟩)},qs.map (·.1.1)=ds/\qs.map (fun q=>Value.agg ⟨q.1.2⟩)=es:=by
   intro ds
   induction ds with
   |nil=>intro es h _;cases cD.1 h;exact⟨[],rfl,rfl⟩
   |cons x ds ih=>
    intro es h hV;obtain⟨y,n,rfl,g1,g2⟩:=ba.1 h;obtain⟨qs,g3,g4⟩:=ih g2 fun x hx=>hV x (aZ _ hx);obtain⟨l,hl,_⟩:=hA x;have g1':=g1;rw[hl] at g1';obtain⟨m,rfl,_⟩:=cO.1 g1';exact⟨⟨(x,m),hV x aQ,g1⟩::qs,by simp[g3],by simp[g4]⟩
  obtain⟨qs,hq1,hq2⟩:=lift k2 hV;have:Inhabited {q:A×List Value//V q.1/\Is G (e q.1) (.agg ⟨q.2⟩)}:=⟨qs.head (fun e=>by rw[e] at hq1;exact h0 hq1.symm)⟩
  let enc:{q:A×List Value//V q.1/\Is G (e q.1) (.agg ⟨q.2⟩)}->List Value:=fun q=>q.1.2
  have henc: ∀q,(enc q).length=s/\ ∀v∈enc q,Go.Sx.flat v=true:=fun q=>by
   obtain⟨l,hl,h1,h2⟩:=hA q.1.1;have h3:=q.2.2;rw[hl] at h3;obtain⟨m,hm,h4⟩:=cO.1 h3
   cases hm
   exact⟨by show q.1.2.length=s;rw[h4.len,h2],fun v hv=>h4.flat h1 v hv⟩
  have hk: ∀q,(enc q).length=s:=fun q=>(henc q).1;have hqs:qs.toArray.size=es.length:=by rw[nR,<-hq2,aJ]
  have hfl: ∀d:Array {q:A×List Value//V q.1/\Is G (e q.1) (.agg ⟨q.2⟩)},(Go.Sort.flatK enc s d).toList=aC (d.toList.map fun q=>Value.agg ⟨q.1.2⟩):=fun d=>by
   rw[axQ enc s hk];unfold aC;rw[List.map_map];rfl
  have hfe:(Go.Sort.flatK enc s qs.toArray).toList=aC es:=by rw[hfl,<-hq2]
  have hown:=hw.hown ⟨b,aC es++rest,ty,false⟩ aQ;obtain⟨hb,hGb,_,_⟩:=hown;simp only at hb hGb;have hblt:=gG hb;have hH:Go.Sort.HoldsK enc s w b 0 qs.toArray:=by
   intro j hj;refine⟨?_,by simp[World.frozen?,hb]⟩;rw[zi hb,dS];have hj':j<(aC es).length:=by rw[<-hfe];simpa using hj
   rw[cN hj',<-hfe];show _=some ((Go.Sort.flatK enc s qs.toArray)[j]!);rw[getElem!_pos _ j hj];simp
  have hsz: ∀dk:Array {q:A×List Value//V q.1/\Is G (e q.1) (.agg ⟨q.2⟩)},dk.size=qs.toArray.size->(aC es).length=(Go.Sort.flatK enc s dk).size:=fun dk hd=>by rw[<-hfe];simp[hd]
  have hblk: ∀(m:Nat) (os:Array Obj) (dk:Array _),dk.size=qs.toArray.size->(sortWorldK enc s w b 0 m dk os).heap[b]? =some (.cells ⟨(Go.Sort.flatK enc s dk).toList++rest⟩ ty (0,0)):=fun m os dk hd=>by
   rw[MD enc s w b m dk os hblt,if_pos J,hb];show some (Obj.cells (Go.Sort.putCells id 0 (Go.Sort.flatK enc s dk) ⟨aC es++rest⟩) ty (0,0))=_;rw[WN (hsz dk hd)]
  have hoth: ∀(m:Nat) (os:Array Obj) (dk:Array _) (q:Nat),q<w.heap.size->q≠b->(sortWorldK enc s w b 0 m dk os).heap[q]? =w.heap[q]? :=fun m os dk q hq hne=>by rw[MD enc s w b m dk os hq,if_neg hne]
  have hsub: ∀(m:Nat) (os:Array Obj) (dk:Array _) (c:Nat) (cs:List Value),G c=some cs-> ∃ty fz,(sortWorldK enc s w b 0 m dk os).heap[c]? =some (.cells ⟨cs⟩ ty fz):=fun m os dk c cs hcs=>by
   obtain⟨ty',fz,h⟩:=hw.sub c cs hcs;exact⟨ty',fz,by rw[hoth m os dk c (gG h) (fun e=>by subst e;rw[hGb] at hcs;cases hcs)];exact h⟩
  have hsize: ∀(m:Nat) (os:Array Obj) (dk:Array _),w.heap.size<=(sortWorldK enc s w b 0 m dk os).heap.size:=fun m os dk=>by
   show _<=((w.heap.modify b _)++os).size;simp
  have hcmp:Go.Proofs.CmpLays P g #[] enc s (fun q r=>cf q.1.1 r.1.1) b 0 qs.toArray.size w:=by
   intro m os dk _ x y;have hF:=hc x.1.1 y.1.1 x.2.1 y.2.1 G [.agg ⟨x.1.2⟩, .agg ⟨y.1.2⟩] hgb (.cons x.2.2 (.cons y.2.2 .nil));refine(hF.run _ (hsub m os dk)).mono fun r W ⟨v,G',h1,h2,h3⟩=>?_;rw[aG] at h3;subst h3;refine⟨h1,W.drawn-(sortWorldK enc s w b 0 m dk os).drawn,W.heap.extract (sortWorldK enc s w b 0 m dk os).heap.size W.heap.size,?_⟩;have hdr:=h2.dr;have hos:=h2.os;have htp:=h2.tape;have hou:=h2.output;have hkp:=h2.keep;have hss:=h2.size;simp only at hdr hos htp hou hkp hss;generalize sortWorldK enc s w b 0 m dk os=W0 at*
   cases W with
   |mk heap tape drawn os' output=>
    simp only at*;unfold Go.Sort.grow World.drewN;simp only[World.mk.injEq];refine⟨?_,htp,by omega,hos,hou⟩;apply Array.ext_getElem?;intro k;rw[Array.getElem?_append];split
    ·rename_i hk';exact hkp k hk' (by simp)
    ·rename_i hk'
     rw[Array.getElem?_extract];split
     ·congr 1;omega
     ·rw[mY (by omega)]
  have hO':Go.Sort.SWO (Go.Proofs.ltOf fun(q r:{q:A×List Value//V q.1/\Is G (e q.1) (.agg ⟨q.2⟩)})=>cf q.1.1 r.1.1):=⟨fun x=>hO.irrefl x.1.1,fun x y z=>hO.trans x.1.1 y.1.1 z.1.1,fun x y z=>hO.ntrans x.1.1 y.1.1 z.1.1⟩;have hrun:=AnyQ.slices_SortFunc L s hAg hZs enc hk (fun q v hv=>asU ((henc q).2 v hv)) (fun q r=>cf q.1.1 r.1.1) hO' g #[] b 0 z.c qs.toArray w (fun args w=>Ar hg args w) hcmp hH hblt (by rw[hqs,hlen];exact hn);have ez:z=⟨some ⟨b,0,none⟩,qs.toArray.size,z.c⟩:=by rw[hqs];exact e1
  have ea:(⟨[Value.slice z.a z.n z.c, .func (.func g) #[] #[]]⟩:Array Value)= #[.slice (some ⟨b,0,none⟩) qs.toArray.size z.c, .func (.func g) #[] #[]]:=by rw[ez]
  rw[ea];refine hrun.mono fun r w' ⟨h1,d',n,os,hp,hs,h2⟩=>?_;subst h2;have hdz:d'.size=qs.toArray.size:=hp.1;have hperm:d'.toList.Perm qs:=by
   have:=hp.2.2;have e1:d'.toList.take qs.length=d'.toList:=bQ (by rw[iT,hdz];simp);simpa[e1] using this
  have hasc:d'.toList.Pairwise fun x y=> ¬cf y.1.1 x.1.1<0:=by
   rw[pN];intro i j hi hj hij;have:=hs i j (bK _) hij (by rw[<-hdz];simpa using hj);rw[getElem!_pos d' j (by simpa using hj),getElem!_pos d' i (by simpa using hi)] at this;simpa[Go.Proofs.ltOf] using this
  have hds:d'.toList.map (·.1.1)=oO cf ds:=by
   refine List.Perm.eq_of_pairwise (le:=fun x y=> ¬cf y x<0) (fun x y hx hy k1 k2=>?_) ?_ (QM hO ds) ?_
   ·have m1:x∈ds:=by
     obtain⟨q,hq,rfl⟩:=bV.1 hx;rw[<-hq1];exact bV.2 ⟨q,hperm.mem_iff.1 hq,J⟩
    exact hu x m1 y ((xz cf ds).mem_iff.1 hy) k2 k1
   ·rw[rW];exact hasc
   ·refine(hperm.map _).trans ?_
    rw[hq1];exact(xz cf ds).symm
  have hlen':(d'.toList.map fun q=>Value.agg ⟨q.1.2⟩).length=es.length:=by rw[aJ,iT,hdz,hqs]
  have hIs: ∀l:List {q:A×List Value//V q.1/\Is G (e q.1) (.agg ⟨q.2⟩)},IsLs G ((l.map (·.1.1)).map e) (l.map fun q=>Value.agg ⟨q.1.2⟩):=fun l=>by
   induction l with
   |nil=>exact .nil
   |cons q l ih=>exact .cons q.2.2 ih
  have hcell: ∀v∈d'.toList.map (fun q=>Value.agg ⟨q.1.2⟩),(aE v).length=s:=fun v hv=>by
   obtain⟨q,_,rfl⟩:=bV.1 hv;exact hk q
  refine⟨_,[⟨b,aC (d'.toList.map fun q=>Value.agg ⟨q.1.2⟩)++rest,ty,false⟩],G,h1,?_,js.2 ⟨[],J, .nil⟩,d'.toList.map (fun q=>Value.agg ⟨q.1.2⟩), .inr ⟨b,rest,false,by rw[hlen'];exact e1,J,ek _ hcell,?_,by rw[hlen'];exact e5⟩,by rw[<-hds];exact hIs _,hcell,fun h=>by cases h⟩
  ·refine⟨J,J,J,hsize n os d',fun q hq hqm=>hoth n os d' q hq fun e=>hqm (by rw[e];exact aQ),hsub n os d',bw.refl _,fun _ _=>J,fun o ho=>?_,List.pairwise_singleton _ _,?_,fun p hp=>(by cases hp)⟩
   ·rw[aY.1 ho]
    exact⟨by rw[<-hfl];exact hblk n os d' hdz,hGb,(fun h=>by cases h),fun _=>aQ⟩
   ·show w.drawn<=w.drawn+n
    omega
  ·rw[<-e4,ek _ hcell,e3,hlen']
def WE{a b c:aa}(h:c7 c a):c7 c b\/c7 b a:=by
 by_cases h1:c.half<b.half
 ·exact .inl (.inl h1)
 ·by_cases h2:b.half<a.half
  ·exact .inr (.inl h2)
  ·rcases h with h|⟨h,k⟩
   ·omega
   ·have e1:c.half=b.half:=by omega
    have e2:b.half=a.half:=by omega
    by_cases q1:0<c.cross b
    ·exact .inl (.inr ⟨e1,q1⟩)
    ·by_cases q2:0<b.cross a
     ·exact .inr (.inr ⟨e2,q2⟩)
     ·exfalso
      have i1:b.y*c.cross a=a.y*c.cross b+c.y*b.cross a:=by unfold aa.cross;grind
      have i2:b.x*c.cross a=a.x*c.cross b+c.x*b.cross a:=by unfold aa.cross;grind
      have q1':c.cross b<=0:=by grind
      have q2':b.cross a<=0:=by grind
      rcases lA b with⟨eb,kb⟩|⟨eb,kb⟩|⟨eb,kb⟩<;>rcases lA a with⟨ea,ka⟩|⟨ea,ka⟩|⟨ea,ka⟩<;>rcases lA c with⟨ec,kc⟩|⟨ec,kc⟩|⟨ec,kc⟩<;>first|omega|skip
      ·have ha:0<=a.y:=by grind
       have hc:0<=c.y:=by grind
       rcases kb with kb|⟨kb,kb'⟩
       ·have g1:=oU ha (show 0<= -c.cross b by grind)
        have g2:=oU hc (show 0<= -b.cross a by grind);have g3:=ce kb k;grind
       ·have hx:b.cross a=b.x*a.y:=by unfold aa.cross;rw[kb];grind
        have ha0:a.y=0:=by
         rcases ka with ka|ka
         ·have:=ce kb' ka;grind
         ·exact ka.1
        have hax:0<a.x:=by grind
        have hy:c.cross a= -(c.y*a.x):=by unfold aa.cross;rw[ha0];grind
        have:=oU hc (show 0<=a.x by grind);grind
      ·have ha:0<= -a.y:=by grind
       have hc:0<= -c.y:=by grind
       rcases kb with kb|⟨kb,kb'⟩
       ·have g1:=oU ha (show 0<= -c.cross b by grind)
        have g2:=oU hc (show 0<= -b.cross a by grind);have g3:=ce (show 0< -b.y by grind) k;grind
       ·have hx:b.cross a=b.x*a.y:=by unfold aa.cross;rw[kb];grind
        have ha0:a.y=0:=by
         rcases ka with ka|ka
         ·have:=ce (show 0< -b.x by grind) (show 0< -a.y by grind);grind
         ·exact ka.1
        have hax:0< -a.x:=by grind
        have hy:c.cross a= -(c.y*a.x):=by unfold aa.cross;rw[ha0];grind
        have:=oU hc (show 0<= -a.x by grind);grind
      ·have hy:c.cross a=0:=by unfold aa.cross;rw[ka.1,ka.2];grind
       rw[hy] at k;exact absurd k (by decide)
def ME:Go.Sort.SWO (Go.Proofs.ltOf di):=by
 have e: ∀x y,Go.Proofs.ltOf di x y=true↔c7 x y:=fun x y=>by rw[<-rp];simp[Go.Proofs.ltOf]
 have e2: ∀x y,Go.Proofs.ltOf di x y=false↔ ¬c7 x y:=fun x y=>by rw[<-e];simp
 refine⟨fun x=>(e2 x x).2 (AR x),fun x y z h k=>(e x z).2 (De ((e x y).1 h) ((e y z).1 k)),fun x y z h k=>(e2 x z).2 fun q=>?_⟩;rcases WE (b:=y) q with q|q
 ·exact(e2 x y).1 h q
 ·exact(e2 y z).1 k q
def P4: ∀{l m:List aa},l.Pairwise c7->m.Pairwise c7->(∀x,x∈l↔x∈m)->l=m
 |[],[],_,_,_=>rfl
 |[],b::m,_,_,h=>absurd ((h b).2 aQ) (by simp)
 |a::l,[],_,_,h=>absurd ((h a).1 aQ) (by simp)
 |a::l,b::m,h1,h2,h=>by
  obtain⟨p1,p2⟩:=bJ.1 h1;obtain⟨q1,q2⟩:=bJ.1 h2;have e:a=b:=by
   rcases aV.1 ((h a).1 aQ) with e|e
   ·exact e
   ·rcases aV.1 ((h b).2 aQ) with f|f
    ·exact f.symm
    ·exact(VY (q1 a e) (p1 b f)).elim
  subst e;congr 1;refine P4 p2 q2 fun x=>⟨fun hx=>?_,fun hx=>?_⟩
  ·rcases aV.1 ((h x).1 (aZ _ hx)) with e|e
   ·subst e;exact(AR _ (p1 _ hx)).elim
   ·exact e
  ·rcases aV.1 ((h x).2 (aZ _ hx)) with e|e
   ·subst e;exact(AR _ (q1 _ hx)).elim
   ·exact e
def wB(l:List aa):Prop:= ∀x∈l,∀y∈l,di x y=0->x=y
def Ny: ∀{l:List aa} {x:aa},(x::l).Pairwise (fun a b=> ¬c7 b a)->wB (x::l)->(kz x l).Pairwise c7/\(∀y∈kz x l,c7 x y)/\ ∀y,y∈x::kz x l↔y∈x::l
 |[],_,_,_=>⟨.nil,(fun y hy=>by cases hy),fun _=>Iff.rfl⟩
 |z::l,x,h,ht=>by
  obtain⟨p1,p2⟩:=bJ.1 h;obtain⟨i1,i2,i3⟩:=Ny p2 fun a ha b hb=>ht a (aZ _ ha) b (aZ _ hb);rw[kz];by_cases e:di z x=0
  ·rw[if_pos e]
   obtain rfl:=ht z (by simp) x (by simp) e;exact⟨i1,i2,fun y=>by rw[i3];simp⟩
  ·rw[if_neg e]
   have hb:c7 x z:=by
    by_cases q:c7 x z
    ·exact q
    ·exact absurd (QN (p1 z aQ) q) e
   refine⟨bJ.2 ⟨i2,i1⟩,fun y hy=>?_,fun y=>?_⟩
   ·rcases aV.1 hy with rfl|hy
    ·exact hb
    ·exact De hb (i2 y hy)
   ·rw[aV,i3,aV (b:=x) (l:=z::l)]
def NC: ∀(l:List aa) (x:aa),(kz x l).length<=l.length
 |[],_=>aM _
 |y::l,x=>by
  have:=NC l y;rw[kz];split<;>simp only[bX]<;>omega
def asA(l:List aa):(r9 l).length<=l.length:=by
 cases l with
 |nil=>exact aM _
 |cons x l=>have:=NC l x;simp only[r9,bX];omega
def Wk{l:List aa}(h:l.Pairwise fun a b=> ¬c7 b a)(ht:wB l):(r9 l).Pairwise c7/\ ∀y,y∈r9 l↔y∈l:=by
 cases l with
 |nil=>exact⟨.nil,fun _=>Iff.rfl⟩
 |cons x l=>
  obtain⟨i1,i2,i3⟩:=Ny h ht;exact⟨bJ.2 ⟨i2,i1⟩,i3⟩
def JL{l:List aa}(ht:wB l)(y:aa):y∈gz l↔y∈l:=by
 have h2: ∀y,y∈gz l->y∈l:=fun y hy=>by
  rcases Am di hy with h|h
  ·exact h
  ·cases h
 refine⟨h2 y,fun hy=>?_⟩;obtain⟨e,e1,e2⟩:=DX di (o:=[]) hy;rcases e2 with rfl|e2
 ·exact e1
 ·rw[<-ht e (h2 e e1) y hy e2];exact e1
def Oj{l:List aa}(ht:wB l):r9 (oO di l)=gz l:=by
 have hm: ∀y,y∈oO di l↔y∈l:=fun y=>(xz di l).mem_iff;have h1:(oO di l).Pairwise fun a b=> ¬c7 b a:=(QM ME l).imp fun h=>by rw[<-rp];exact h
 obtain⟨k1,k2⟩:=Wk h1 fun a ha b hb=>ht a ((hm a).1 ha) b ((hm b).1 hb);exact P4 k1 (JH l) fun x=>by rw[k2,hm,JL ht]
def Zq{t:Tr}(ht:t.all ab.ok)(p:aa):wB (dP t p):=fun x hx y hy h=>by
 obtain⟨l,k1,k2⟩:=oC.1 hx;obtain⟨m,k3,k4⟩:=oC.1 hy;obtain⟨a1,a2⟩:=o7 k1;obtain⟨b1,b2⟩:=o7 k3;exact M7 (uL ht _ a1) (uL ht _ b1) a2 b2 k2 k4 h
end Go.Sx
end
section
namespace Go.Proofs
open Go.Shelf
def Tryz.sortPt_ren:Go.Shelf.Ren:=⟨fun|6=>316|15=>231|14=>370|28=>332|29=>333|20=>391|21=>392|22=>393|23=>394|24=>395|25=>396|26=>397|27=>398|46=>405|47=>372|48=>373|49=>406|50=>407|57=>410|n=>n,fun|22=>131|24=>141|25=>393|3=>3|39=>355|0=>0|53=>366|55=>251|4=>4|46=>429|45=>428|50=>391|5=>5|9=>9|66=>467|70=>471|76=>486|77=>487|n=>n,fun|n=>n⟩
def Tryz.sortPt:Go.Proofs.SlLaysF0.n6 Tryz.prog Tryz.sortPt_ren:={
 mixed:=by kernel_rfl
 f6:=⟨Tryz.f316.name,by decide,Tryz.func316.trans (congrArg some (by kernel_rfl))⟩
 f14:=⟨Tryz.f370.name,by decide,Tryz.func370.trans (congrArg some (by kernel_rfl))⟩
 f15:=Tryz.func231.trans (congrArg some (by kernel_rfl))
 f20:=⟨Tryz.f391.name,by decide,Tryz.func391.trans (congrArg some (by kernel_rfl))⟩
 f21:=⟨Tryz.f392.name,by decide,Tryz.func392.trans (congrArg some (by kernel_rfl))⟩
 f22:=⟨Tryz.f393.name,by decide,Tryz.func393.trans (congrArg some (by kernel_rfl))⟩
 f23:=⟨Tryz.f394.name,by decide,Tryz.func394.trans (congrArg some (by kernel_rfl))⟩
 f24:=⟨Tryz.f395.name,by decide,Tryz.func395.trans (congrArg some (by kernel_rfl))⟩
 f25:=⟨Tryz.f396.name,by decide,Tryz.func396.trans (congrArg some (by kernel_rfl))⟩
 f26:=⟨Tryz.f397.name,by decide,Tryz.func397.trans (congrArg some (by kernel_rfl))⟩
 f27:=⟨Tryz.f398.name,by decide,Tryz.func398.trans (congrArg some (by kernel_rfl))⟩
 f28:=Tryz.func332.trans (congrArg some (by kernel_rfl))
 f29:=Tryz.func333.trans (congrArg some (by kernel_rfl))
 f46:=⟨Tryz.f405.name,by decide,Tryz.func405.trans (congrArg some (by kernel_rfl))⟩
 f47:=Tryz.func372.trans (congrArg some (by kernel_rfl))
 f48:=Tryz.func373.trans (congrArg some (by kernel_rfl))
 f49:=⟨Tryz.f406.name,by decide,Tryz.func406.trans (congrArg some (by kernel_rfl))⟩
 f50:=⟨Tryz.f407.name,by decide,Tryz.func407.trans (congrArg some (by kernel_rfl))⟩
 f57:=⟨Tryz.f410.name,by decide,Tryz.func410.trans (congrArg some (by kernel_rfl))⟩
 t0:=Tryz.underlying0
 a0:=Tryz.isAgg0
 z0:=Tryz.sizeOf0
 v0:=Tryz.zeroValue0
 t3:=Tryz.underlying3
 a3:=Tryz.isAgg3
 z3:=Tryz.sizeOf3
 v3:=Tryz.zeroValue3
 t4:=Tryz.underlying4
 a4:=Tryz.isAgg4
 z4:=Tryz.sizeOf4
 v4:=Tryz.zeroValue4
 t5:=Tryz.underlying5
 a5:=Tryz.isAgg5
 z5:=Tryz.sizeOf5
 v5:=Tryz.zeroValue5
 t9:=Tryz.underlying9
 a9:=Tryz.isAgg9
 z9:=Tryz.sizeOf9
 v9:=Tryz.zeroValue9
 t22:=Tryz.underlying131
 a22:=Tryz.isAgg131
 z22:=Tryz.sizeOf131
 v22:=Tryz.zeroValue131
 t25:=Tryz.underlying393
 a25:=Tryz.isAgg393
 z25:=Tryz.sizeOf393
 v25:=Tryz.zeroValue393
 t39:=Tryz.underlying355
 a39:=Tryz.isAgg355
 z39:=Tryz.sizeOf355
 v39:=Tryz.zeroValue355
 t45:=Tryz.underlying428
 a45:=Tryz.isAgg428
 z45:=Tryz.sizeOf428
 v45:=Tryz.zeroValue428
 t46:=Tryz.underlying429
 a46:=Tryz.isAgg429
 z46:=Tryz.sizeOf429
 v46:=Tryz.zeroValue429
 t50:=Tryz.underlying391
 a50:=Tryz.isAgg391
 z50:=Tryz.sizeOf391
 v50:=Tryz.zeroValue391
 t53:=Tryz.underlying366
 a53:=Tryz.isAgg366
 z53:=Tryz.sizeOf366
 v53:=Tryz.zeroValue366
 t55:=Tryz.underlying251
 a55:=Tryz.isAgg251
 z55:=Tryz.sizeOf251
 v55:=Tryz.zeroValue251
 t66:=Tryz.underlying467
 a66:=Tryz.isAgg467
 z66:=Tryz.sizeOf467
 v66:=Tryz.zeroValue467
 t70:=Tryz.underlying471
 a70:=Tryz.isAgg471
 z70:=Tryz.sizeOf471
 v70:=Tryz.zeroValue471
 t76:=Tryz.underlying486
 a76:=Tryz.isAgg486
 z76:=Tryz.sizeOf486
 v76:=Tryz.zeroValue486
 t77:=Tryz.underlying487
 a77:=Tryz.isAgg487
 z77:=Tryz.sizeOf487
 v77:=Tryz.zeroValue487}
end Go.Proofs
end
section
namespace Go.Sx
open Go Go.Proofs Tryz
variable {GB:Gh}
def YI{ds:List aa}{i:Nat}(hb: ∀d∈ds,aI d i)(hi:i<=10000000)(hn:ds.length<=10000000)(ht:wB ds):PW GB prog 316 [none,some (.v (.func (.func 279) #[] #[]))] 6 141 (ds.map eZ) (.tp []) ((oO di ds).map eZ):=
 UF (GB:=GB) Tryz.sortPt ⟨_,func316,J,J⟩ isAgg141 sizeOf141 eZ (fun d=>aI d i) (fun x=>⟨_,J,J,J⟩) di ME ⟨_,func279,J,J⟩ (fun x y hx hy=>IN (i:=i) (j:=i) hi hi) hb (by omega)
  (fun x hx y hy h k=>ht x hx y hy (QN (by rw[<-rp];exact h) (by rw[<-rp];exact k)))
def ZZ{ds:List aa}{i:Nat}(hb: ∀d∈ds,aI d i)(hi:i<=10000000)(hn:ds.length<=10000000)(ht:wB ds):PB GB prog 221 (gw [none]) 6 141 (ds.map eZ) (fun w=> .v (.slice w.a w.n w.c)) ((gz ds).map eZ):=by
 have hsm: ∀d∈oO di ds,aI d i:=fun d hd=>hb d ((xz di ds).mem_iff.1 hd);have hsl:(oO di ds).length=ds.length:=(xz di ds).length_eq;refine vE func221 J J ntmps221 J J (fun C=>?_);refine cw _ J (YI hb hi hn ht) J J<|cq ((gz ds).map eZ) J (Xu (i0:=i) hsm (by omega) hi) (by rw[Oj ht]) J<|?_;exact sF J J J J
theorem az6{t:Tr}(hb:t.all LB)(p:aa): ∀d∈dP t p,aI d 500:=fun d hd=>by
 obtain⟨l,h1,h2⟩:=oC.1 hd;haveI:=qr.1 hb l (o7 h1).1;rcases h2 with rfl|rfl<;>infer_instance
theorem aEf{ds:List aa}{i:Nat}(h: ∀d∈ds,aI d i)(h2:2<=i): ∀v∈i9 ds,aI v (i+i+1):=fun v hv=>by
 have up: ∀{q:aa},aI q i->aI q (i+i+1):=fun hq=>⟨hq.x.mono (by omega),hq.y.mono (by omega)⟩;unfold i9 at hv;split at hv
 ·rw[aY] at hv
  subst hv;exact⟨BQ.mono (k:=2) ⟨by decide,by decide⟩ (by omega),BQ.mono (k:=2) ⟨by decide,by decide⟩ (by omega)⟩
 ·obtain⟨k,hk,rfl⟩:=bV.1 hv
  have hk':=nQ.1 hk;have g: ∀{j:Nat},j<ds.length->aI (ds.getD j ⟨0,0⟩) i:=fun{j} hj=>by
   rw[aK,aX hj];exact h _ (fJ hj)
  haveI:=g hk';haveI:=g (dZ (k+1) (show 0<ds.length by omega));unfold ol;split
  ·exact inferInstance
  ·exact up inferInstance
def YX(ds:List aa):(i9 ds).length<=ds.length+1:=by
 unfold i9;split
 ·simp
 ·rw[aJ,nN];omega
def OZ{vs:List aa}{f:aa->Bool}{k:Nat}{v:aa}(h:vs[k]? =some v):(vs.drop k).any f=(f v||(vs.drop (k+1)).any f):=by
 obtain⟨h1,h2⟩:=aU.1 h;rw[bY h1,h2,List.any_cons]
def LO{vs:List aa}{f:aa->Bool}{k:Nat}{v:aa}(h:vs[k]? =some v):(vs.drop k).all f=(f v&&(vs.drop (k+1)).all f):=by
 obtain⟨h1,h2⟩:=aU.1 h;rw[bY h1,h2,sV]
def avb{b c:Bool}:PF GB prog 197 [vB b,vB c] (vI (if b&&c then 2 else if b then 1 else 0)):=by
 refine fn func197 J J ntmps197 J J (fun C=>?_);refine nv 7 J J J (fun hg7=>?_) (fun hg7=>?_)
 ·refine bb J J J (fun hc5=>?_) (fun hc5=>?_)
  ·exact rz J (by subst hg7 hc5;rfl)
  ·refine bb J J J (fun hc10=>?_) (fun hc10=>?_)
   ·exact rz J (by subst hg7 hc5;rfl)
   ·subst hg7;cases hc10
 ·refine bb J J J (fun hc10=>?_) (fun hc10=>?_)
  ·subst hg7;cases hc10
  ·exact rz J (by subst hg7;rfl)
def awC{t:Tr}{p:aa}{i:Nat}[hp:aI p i](hb:t.all LB)(ho:t.all ab.ok)(hs:t.size<=400000)(hi:i<=10000000:=by decide):PF GB prog 130 [eU t,eZ p] (vI (r5 t p)):=by
 have hrl:=Bz t p;have hrb:=az6 hb p;have hrt:=Zq ho p;have hdb: ∀d∈gz (dP t p),aI d 500:=fun d hd=>hrb d ((JL hrt d).1 hd);have hdl:(gz (dP t p)).length<=(dP t p).length:=by rw[<-Oj hrt];exact dR (asA _) (Nat.le_of_eq (xz di _).length_eq)
 have hsb:=aEf hdb (by decide);obtain⟨vs,hvs⟩: ∃vs,vs=i9 (gz (dP t p)):=⟨_,rfl⟩;have hvl:vs.length<=(gz (dP t p)).length+1:=by rw[hvs];exact YX _
 rw[<-hvs] at hsb;have hml:(vs.map eZ).length=vs.length:=aJ ..;refine fn func130 J J ntmps130 J J (fun C=>?_);refine YS ((dP t p).map eZ) J (Ax (p:=p) (o:=[]) hi hb (by rw[iK];omega)) J J<|cq ((gz (dP t p)).map eZ) J (ZZ hrb (by decide) (by omega) hrt) J J<|?_;refine fz 14 J J<|cl (fu:=⟨0⟩) J (V5 (ds:=gz (dP t p)) (i:=500) hdb (by omega)) J<|?_;refine ao 15 (.d (.sl (vs.map eZ))) J (by rw[hvs]) ?_;refine gx (fu:=⟨1⟩) J<|?_;refine ao 16 (.d (vI (vs.length:Nat))) J (by rw[hml]<;>rfl) ?_;refine gx J<|?_;refine MS 5 _ J J ?_;refine MS 6 _ J J ?_;refine lp (X:=Bool×Bool×Nat) (fun⟨a,c,k⟩=>[(17, .d (vI (k:Nat))),(5, .d (vB a)),(6, .d (vB c))]) (fun⟨a,c,k⟩=>[]) (fun⟨a,c,k⟩=>(a||(vs.drop k).any (fun v=>(fB t p v).1))=tf t p/\(c&&(vs.drop k).all (fun v=>(fB t p v).1))=yB t p/\k<=vs.length) (fun⟨a,c,k⟩=>vs.length-k) ⟨false,true,0⟩ J ⟨by rw[hvs];simp[tf],by rw[hvs];simp[yB],bK _⟩ (fun _=>J) (fun⟨a,c,k⟩ hk=>?_)
 try dsimp only at hk⊢
 obtain⟨h1,h2,h3⟩:=hk;refine br J J J (fun hc18=>?_) (fun hc18=>?_)
 .
  obtain⟨v,hx⟩: ∃v,vs[k]? =some v:=⟨_,aX (by omega)⟩;haveI:=hsb v (aS hx);refine ix _ J (d6 hx) J<|cl J (XR (t:=t) (p:=p) (v:=v) (i:=i) (j:=500+500+1) hb hi (by decide)) J<|?_;refine bb J J J (fun hc28=>?_) (fun hc28=>?_)
  .
   refine Ra 5 _ J J ?_;exact at_ ⟨true,c,k+1⟩ (by dsimp only;exact⟨⟨by rw[<-h1,OZ hx,hc28];simp,by rw[<-h2,LO hx,hc28];simp,by omega⟩,(by omega)⟩)
  .
   refine Ra 6 _ J J ?_;exact at_ ⟨a,false,k+1⟩ (by dsimp only;exact⟨⟨by rw[<-h1,OZ hx,hc28];simp,by rw[<-h2,LO hx,hc28];simp,by omega⟩,(by omega)⟩)
 .
  obtain rfl:k=vs.length:=by omega
  rw[jK] at h1 h2;have e1:a=tf t p:=by simpa using h1
  have e2:c=yB t p:=by simpa using h2
  refine cl J (avb (b:=a) (c:=c)) J<|?_;exact rz J (by rw[e1,e2];rfl)
def Qt{k i:Nat}{t:Tr}{p:aa}[hp:aI p i](h:si k t)(hi:i<=10000000:=by decide):PF GB prog 48 [eA t,l6 p] (.tp [vI (r5 t p), .v .nilIface]):=by
 have hts:=h.s;refine fn func48 J J ntmps48 J J (fun C=>?_);refine cl (fu:=⟨11⟩) J (R7 h) J<|?_;refine mf 13 J ?_;refine gx J<|cl J (IU (p:=p) (i:=i) (by omega)) J<|cl J (awC (t:=t) (p:=p) (i:=i) h.lb h.ok (by omega) hi) J<|?_;exact rz J J

def aKb(x:Rat×Bool)(s:Rat):Rat×Bool:=if 0<Int.sign s.num/\(x.2=false\/bO s x.1<0) then(s,true) else x

def aJ8:List ZP:=rI 0 0 2 2
structure CvR (r:List ZP):Prop where
 ok:dq r
 cen: ∃c:aa,∀f∈tB r,0<dw f.1 f.2 c
 one: ∀p,(∀f∈tB r,0<dw f.1 f.2 p)->py r p=1
 zer: ∀p,(∃f∈tB r,dw f.1 f.2 p<0)->py r p=0
 cvx: ∀f∈tB r,∀g∈tB r,0<=dw f.1 f.2 g.1/\0<=dw f.1 f.2 g.2
 onE: ∀p,(∀f∈tB r,0<=dw f.1 f.2 p)-> ∀f∈tB r,dw f.1 f.2 p=0->OL f.1 f.2 p
section
variable {r:List ZP} {p:aa}
end
def wS(x y O:Rat):Int:=(if x<=0/\ ¬y<=0/\0<O then 1 else 0)-(if¬x<=0/\y<=0/\O<0 then 1 else 0)
def inC(r:List ZP)(p:aa):Nat->Bool
 |0=>true
 |k+1=>inC r p k&&decide (0<=tV (r.getD k (0,0)).q (e7 r k).q p)
def soC(r:List ZP)(p:aa):Nat->Bool
 |0=>false
 |k+1=>soC r p k||decide (tV (r.getD k (0,0)).q (e7 r k).q p=0)
def UM{a:aa}{t:List aa}:mh (a::t) a=((0:Nat):Int):=Dd (k:=0) (q:=a) J J ⟨J,J⟩
def YJ{a b c:aa}{t:List aa}(h1:a≠b)(h2:a≠c)(h3:b≠c):3<=e8 (a::b::c::t) (a::b::c::t).length:=by
 have ne: ∀{x y:aa},x≠y->(!decide (x.x=y.x/\x.y=y.y))=true:=fun{x y} h=>by
  rw[decide_eq_false (fun k=>h (by cases x;cases y;simp only[aa.mk.injEq] at*;exact k))];rfl
 have e0:=C6 (l:=a::b::c::t) (k:=0) (p:=a) J UM;have e1:=C6 (l:=a::b::c::t) (k:=1) (p:=b) J (Dd (k:=1) (q:=b) J (by simp only[List.take,sV,List.all_nil,Bool.and_true,ne h1]) ⟨J,J⟩);have e2:=C6 (l:=a::b::c::t) (k:=2) (p:=c) J (Dd (k:=2) (q:=c) J (by simp only[List.take,sV,List.all_nil,Bool.and_true,ne h2,ne h3]) ⟨J,J⟩);have mono: ∀n m,n<=m->e8 (a::b::c::t) n<=e8 (a::b::c::t) m:=by
  intro n m h
  induction m with
  |zero=>rw[show n=0 by omega];exact aM _
  |succ m ih=>
   by_cases k:n=m+1
   ·rw[k];exact aM _
   ·exact dR (ih (by omega)) O7
 have:=mono 3 (a::b::c::t).length (by simp);have z:e8 (a::b::c::t) 0=0:=J;rw[dS] at e0;rw[show 1+1=2 from J] at e1;rw[show 2+1=3 from J] at e2;omega
def Gq{a b c:ZP}{t:List ZP}(ho:dq (a::b::c::t))(h1:a≠b)(h2:a≠c)(h3:b≠c):ld (a::b::c::t):=
 ⟨ho,YJ (t:=t.map ZP.q) (fun e=>h1 (zy e)) (fun e=>h2 (zy e)) (fun e=>h3 (zy e))⟩
def Ss{a b c d:Int}(ho:dq (rI a b c d))(h1:a<c)(h2:b<d):ld (rI a b c d):=
 Gq ho (fun e=>by have:=congrArg Prod.fst e;dsimp only at this;omega) (fun e=>by have:=congrArg Prod.fst e;dsimp only at this;omega) (fun e=>by have:=congrArg Prod.snd e;dsimp only at this;omega)
def TA{p u v:ZP}(ho:dq (r4 p u v))(h:rg u v≠0):ld (r4 p u v):=by
 have hu: ∀{a b:ZP},(a=(0,0)\/b=(0,0)\/a=b)->rg a b=0:=fun{a b} k=>by
  unfold rg;rcases k with rfl|rfl|rfl
  ·simp
  ·simp
  ·rw[tQ];omega
 refine Gq ho (fun e=>h (hu (.inl ?_))) (fun e=>h (hu (.inr (.inl ?_)))) (fun e=>h (hu (.inr (.inr ?_))))
 ·have e1:=congrArg Prod.fst e
  have e2:=congrArg Prod.snd e;unfold vg at e1 e2;dsimp only at e1 e2;exact Prod.ext (by dsimp only;omega) (by dsimp only;omega)
 ·have e1:=congrArg Prod.fst e
  have e2:=congrArg Prod.snd e;unfold vg at e1 e2;dsimp only at e1 e2;exact Prod.ext (by dsimp only;omega) (by dsimp only;omega)
 ·have e1:=congrArg Prod.fst e
  have e2:=congrArg Prod.snd e;unfold vg at e1 e2;dsimp only at e1 e2;exact Prod.ext (by omega) (by omega)
def HV(n:Int)(d:Nat):Int:=n*zv false d
def az4(n:Int)(d:Nat):(HV n d).natAbs=n.natAbs*d:=by unfold HV;rw[jV,qi]
instance BN.prx (n:Int) (d i j:Nat) [h:BI n i] [k:BN d j]:BN (HV n d).natAbs (i+j):=⟨by rw[az4,fS];exact mN h.h k.h⟩
def aKa(S:List aa)(x:aa)(R:List aa)(k:Nat):List aa:=S.take k++x::(S.drop k++R)
def aKC(S:List aa)(x:aa)(R:List aa)(m:Nat):List aa:=S.take m++x::x::(S.drop (m+1)++R)
def aIv(t:Tr)(p:aa):Int:=if XT t p then 2 else if YY t p then 1 else 0
def anV(t:Tr)(p:aa)(V:List aa)(k:Nat):Bool:=(V.take k).any fun v=>(fB t p v).1
def alV(t:Tr)(p:aa)(V:List aa)(k:Nat):Bool:=(V.take k).all fun v=>(fB t p v).1
def Id{l:List aa}{x:aa}(h:x∈l): ∃i:Nat,i<l.length/\mh l x=(i:Int)/\l.getD i ⟨0,0⟩=x:=by
 cases e:l.findIdx? (fun q=>decide (q.x=x.x/\q.y=x.y)) with
 |none=>
  rw[List.findIdx?_eq_none_iff] at e;have:=e x h;simp at this
 |some i=>
  have e0:=e;rw[List.findIdx?_eq_some_iff_getElem] at e;obtain⟨h1,h2,_⟩:=e;refine⟨i,h1,by unfold mh;rw[e0],?_⟩;have h3:=of_decide_eq_true h2;rw[aK,aX h1,jZ];generalize l[i]=q at*
  cases q;cases x
  simp only[aa.mk.injEq] at*;exact h3
def QP(l:List aa): ∀n,e8 l n=((List.range n).filter fun k=>decide (mh l (l.getD k ⟨0,0⟩)=((k:Nat):Int))).length
 |0=>rfl
 |n+1=>by
  rw[e8,List.range_succ,List.filter_append,aT,QP l n];congr 1;by_cases h:mh l (l.getD n ⟨0,0⟩)=((n:Nat):Int)
  ·rw[if_pos h];simp only[mM,decide_eq_true h,if_true];rfl
  ·rw[if_neg h];simp only[mM,decide_eq_false h];rfl
def auW{F:List Nat}{i j k:Nat}(hi:i∈F)(hj:j∈F)(hk:k∈F)(h1:i≠j)(h2:i≠k)(h3:j≠k):3<=F.length:=by
 match F with
 |[]=>cases hi
 |[a]=>simp at hi hj;omega
 |[a,b]=>simp at hi hj hk;omega
 |a::b::c::t=>simp
def WV{l:List aa}{a b c:aa}(ha:a∈l)(hb:b∈l)(hc:c∈l)(h1:a≠b)(h2:a≠c)(h3:b≠c):3<=e8 l l.length:=by
 obtain⟨i,i1,i2,i3⟩:=Id ha;obtain⟨j,j1,j2,j3⟩:=Id hb;obtain⟨k,k1,k2,k3⟩:=Id hc;rw[QP];have mk: ∀{x:aa} {m:Nat},m<l.length->mh l x=(m:Int)->l.getD m ⟨0,0⟩=x->m∈(List.range l.length).filter fun k=>decide (mh l (l.getD k ⟨0,0⟩)=((k:Nat):Int)):=fun{x m} q1 q2 q3=>jN.2 ⟨nQ.2 q1,decide_eq_true (by rw[q3];exact q2)⟩;exact auW (mk i1 i2 i3) (mk j1 j2 j3) (mk k1 k2 k3) (fun e=>h1 (by rw[<-i3,<-j3,e])) (fun e=>h2 (by rw[<-i3,<-k3,e])) (fun e=>h3 (by rw[<-j3,<-k3,e]))
def CK{p q:ZP}:lu p q<0↔p.1<q.1\/(p.1=q.1/\p.2<q.2):=by
 unfold lu
 repeat' split
 all_goals (constructor<;>intro h<;>omega)
def avc{p q:ZP}:lu p q=0↔p.1=q.1/\p.2=q.2:=by
 unfold lu
 repeat' split
 all_goals (constructor<;>intro h<;>omega)
def Gu{x y:ZP}: ∀{l:List ZP},y∈kD x l->y=x\/y∈l
 |[],h=>by simp[kD] at h;exact .inl h
 |u::t,h=>by
  rw[kD] at h;split at h
  ·rcases aV.1 h with rfl|h
   ·exact .inr aQ
   ·exact(Gu h).imp id fun k=>aZ _ k
  ·split at h
   ·exact .inr h
   ·rcases aV.1 h with rfl|h
    ·exact .inl J
    ·exact .inr h
def KC{x:ZP}: ∀{l:List ZP},l.Pairwise (fun a b=>lu a b<0)->(kD x l).Pairwise (fun a b=>lu a b<0)
 |[],_=>by simp[kD]
 |u::t,h=>by
  obtain⟨h1,h2⟩:=bJ.1 h;rw[kD];split
  ·rename_i hu
   refine bJ.2 ⟨fun y hy=>?_,KC h2⟩;rcases Gu hy with rfl|hy
   ·exact hu
   ·exact h1 y hy
  ·split
   ·exact h
   ·rename_i k1 k2
    rw[CK] at k1;rw[avc] at k2;refine bJ.2 ⟨fun y hy=>?_,h⟩;rw[CK];rcases aV.1 hy with rfl|hy
    ·omega
    ·have:=CK.1 (h1 y hy);omega
def auv(l:List ZP):(oE l).Pairwise (fun a b=>lu a b<0)/\ ∀y∈oE l,y∈l:=by
 have key: ∀(l o:List ZP),o.Pairwise (fun a b=>lu a b<0)->(l.foldl (fun out x=>kD x out) o).Pairwise (fun a b=>lu a b<0)/\ ∀y∈l.foldl (fun out x=>kD x out) o,y∈l\/y∈o:=by
  intro l
  induction l with
  |nil=>intro o ho;exact⟨ho,fun y hy=> .inr hy⟩
  |cons x t ih=>
   intro o ho;obtain⟨i1,i2⟩:=ih (kD x o) (KC ho);refine⟨i1,fun y hy=>?_⟩;rcases i2 y hy with h|h
   ·exact .inl (aZ _ h)
   ·rcases Gu h with rfl|h
    ·exact .inl aQ
    ·exact .inr h
 obtain⟨k1,k2⟩:=key l [] .nil;exact⟨k1,fun y hy=>(k2 y hy).resolve_right (by simp)⟩
def Si{r:List ZP}(ho:dq r)(h:3<=(oE r).length):ld r:=by
 refine⟨ho,?_⟩;obtain⟨k1,k2⟩:=auv r
 match hs:oE r with
 |[]=>rw[hs] at h;simp at h
 |[a]=>rw[hs] at h;simp at h
 |[a,b]=>rw[hs] at h;simp at h
 |a::b::c::t=>
  rw[hs] at k1 k2;obtain⟨p1,p2⟩:=bJ.1 k1;obtain⟨p3,_⟩:=bJ.1 p2;have ne: ∀{x y:ZP},lu x y<0->x.q≠y.q:=fun{x y} q e=>by
   have:=zy e;subst this;have:=CK.1 q;omega
  exact WV (gS (k2 a (by simp))) (gS (k2 b (by simp))) (gS (k2 c (by simp))) (ne (p1 b (by simp))) (ne (p1 c (by simp))) (ne (p3 c (by simp)))
def OE{es:List Int}{a:Nat}(ha:a<=es.length):ld (pc es a).1:=by
 have hok:=(H8 ha).1;unfold pc at*;dsimp only at*;split
 ·exact Gq Pf (by decide) (by decide) (by decide)
 ·rename_i h
  rw[if_neg h] at hok;exact Si hok (by omega)
def YF{es:List Int}{a:Nat}(ha:a<=es.length):ld (iu es a).1:=by
 have hok:=(D6 ha).1;have h0:=jy (n:=4) ha;unfold iu at*;dsimp only at*;split
 ·rename_i h
  rw[if_pos h] at hok;unfold ze at*;dsimp only at*;exact Ss hok (by omega) (by omega)
 ·rename_i h
  rw[if_neg h] at hok;split
  ·rename_i k
   rw[if_pos k] at hok;obtain⟨p1,p2,p3⟩:=vY h0;obtain⟨u1,u2,u3,u4⟩:=yt p3;obtain⟨v1,v2,v3,v4⟩:=yt u4;split
   ·rename_i hc
    rw[if_pos hc] at hok;exact TA hok hc
   ·exact OE v4
  ·exact OE h0
structure EGW (GB:Gh) (ar:Addr):Prop where
 ErrRange:GB 2=some [.iface 499 (.pointer (some ar))]
def s6(es:List Int):Nat->Nat->List (List ZP)->List (List ZP)×Nat
 |0,a,out=>(out,a)
 |n+1,a,out=>s6 es n (iu es a).2 (out++[(iu es a).1])
def o6(es:List Int)(m a:Nat):List (List ZP)×Nat:=s6 es (aB es (m+1) a).1 (aB es (m+1) a).2 []
def NV{es:List Int}: ∀{n a:Nat} {out:List (List ZP)},a<=es.length->(∀r∈out,ld r)->(∀r∈(s6 es n a out).1,ld r)/\(s6 es n a out).1.length=out.length+n/\(s6 es n a out).2<=es.length
 |0,a,out,ha,h=>⟨h,J,ha⟩
 |n+1,a,out,ha,h=>by
  have h1:=(D6 ha).2;obtain⟨i1,i2,i3⟩:=NV (n:=n) (out:=out++[(iu es a).1]) h1 fun r hr=>by
   rcases bS.1 hr with hr|hr
   ·exact h r hr
   ·rw[aY.1 hr];exact YF ha
  exact⟨i1,by rw[s6,i2,aT];simp;omega,i3⟩
def S5{es:List Int}{m a:Nat}(ha:a<=es.length):(∀r∈(o6 es m a).1,ld r)/\(o6 es m a).1.length<=m/\(o6 es m a).2<=es.length:=by
 have h1:=kP (es:=es) (n:=m+1) (a:=a) (by omega);obtain⟨i1,i2,i3⟩:=NV (es:=es) (n:=(aB es (m+1) a).1) (out:=[]) (jy (n:=m+1) ha) (fun r hr=>by cases hr);exact⟨i1,by unfold o6;rw[i2];simp;omega,i3⟩
def X1{b:Nat}{es:List Int}(hes:es.length<=400){a:Nat}(ha:a<=es.length){md:Nat}(hmd:md<=100):PM GB prog 17 (ja [none,some (.v (.int .i64 (md:Nat)))] b) b 126 [.sl (es.map vI), .v (.int .i64 (a:Nat))] (.sl ((o6 es md a).1.map lH)) [.sl (es.map vI), .v (.int .i64 ((o6 es md a).2:Nat))]:=by
 have hj1:=kP (es:=es) (n:=md+1) (a:=a) (by omega);have hj2:=jy (n:=md+1) ha;refine wq func17 J J ntmps17 J J (fun C b m lo hmb=>?_);refine cm J (fun b=>(rE (n:=(md:Int)+1) hes ha (by omega) (by omega))) J<|?_;refine nr 5 5 62 1 J J J ?_;refine lp (X:=List (List ZP)×Nat×Nat) (fun⟨rs,i,b⟩=>[(6, .d (vI (i:Nat))),(5, .rw 5)]) (fun⟨rs,i,b⟩=>[(1000000,some (.o 126 [.d (.sl (es.map vI)), .d (.v (.int .i64 (b:Nat)))] false)),(5,some (.b 62 1 (rs.map lH) true))]) (fun⟨rs,i,b⟩=>s6 es i b rs=o6 es md a/\b<=es.length/\rs.length+i<=100) (fun⟨rs,i,b⟩=>i) ⟨[],(aB es (md+1) a).1,(aB es (md+1) a).2⟩ J ⟨J,hj2,by simp;omega⟩ (fun _=>J) (fun⟨rs,i,b⟩ hk=>?_)
 try dsimp only at hk⊢
 obtain⟨h1,h2,h3⟩:=hk;have hrl:(rs.map lH).length=rs.length:=by simp
 refine br (fu2:=⟨0⟩) J J J (fun hc12=>?_) (fun hc12=>?_)
 .
  obtain⟨j,rfl⟩: ∃j,i=j+1:=⟨i-1,by omega⟩;have hq:=(D6 h2).2;refine cm J (fun b=>(Sd hes h2)) J<|rf J J<|ap ((rs++[(iu es b).1]).map lH) J (by rw[cR];rfl) (O9 [_]) J<|?_;refine gI 19 5 J ?_;exact at_ ⟨rs++[(iu es b).1],j,(iu es b).2⟩ (by dsimp only;exact⟨⟨by rw[<-h1,s6],hq,by simp;omega⟩,(by omega)⟩)
 .
  obtain rfl:i=0:=by omega
  have hfin:o6 es md a=(rs,b):=by rw[<-h1,s6]
  refine qD 5 J ?_;refine gx J<|?_;exact mn hmb J J (by rw[hfin];rfl) (by rw[hfin])
def VK(a b p:aa):Bool:=decide (tV a b p=0)&&decide ((aa.dot (dC a p (-1)) (dC b p (-1))).num.sign<=0)
def onZ(r:List ZP)(p:aa):Bool:=(List.range r.length).any fun k=>VK (r.getD k (0,0)).q (e7 r k).q p

def aKF(r:List ZP):List ZP:=r.take 1++(r.drop 1).reverse
section
variable {r:List ZP} {p:aa} {L:List ab}
end
end Go.Sx
end
section
namespace Go.Proofs
open Go.Shelf
def Tryz.RevPt_ren:Go.Shelf.Ren:=⟨fun|35=>104|n=>n,fun|22=>132|23=>141|3=>3|4=>4|0=>0|n=>n,fun|n=>n⟩
end Go.Proofs
end
section
namespace Go.Sx
open Go Go.Proofs

def GH(x:ab):List ab->List ab
 |[]=>[]
 |y::l=>if y=x then GH y l else y::GH y l
def aJ1:List ab->List ab
 |[]=>[]
 |x::l=>x::GH x l
end Go.Sx
end
section
namespace Go.Proofs
open Go.Shelf
def Tryz.SortLn_ren:Go.Shelf.Ren:=⟨fun|6=>133|15=>231|14=>230|28=>332|29=>333|20=>324|21=>325|22=>326|23=>327|24=>328|25=>329|26=>330|27=>331|46=>371|47=>372|48=>373|49=>374|50=>375|57=>399|n=>n,fun|22=>171|24=>218|25=>226|3=>3|39=>355|0=>0|53=>366|55=>251|4=>4|46=>429|45=>428|50=>391|5=>5|9=>9|66=>467|70=>471|76=>486|77=>487|n=>n,fun|n=>n⟩
end Go.Proofs
end
section
namespace Go.Sx
open Go Go.Proofs Tryz
variable {GB:Gh}
def aKS(E:List aH):List ab:=E.map (·.l)
theorem Va{l:ab}(h:LB l):LB l.canon:=by unfold ab.canon;split;exact h.rev;exact h
def anR(rs:List (List ZP))(fill:Int)(L:List ab)(p:aa)(vs:List aa):Bool:=vs.any fun v=>jb rs fill (zt L p v)
def alR(rs:List (List ZP))(fill:Int)(L:List ab)(p:aa)(vs:List aa):Bool:=vs.all fun v=>jb rs fill (zt L p v)
section
variable {GB:Gh} {C:aD} {n:Nat} {Q0:Exit->Act->World->Prop} {fr fr' fr1 fr2:aA} {own own' own1 own2:aO} {cf cf' cf1 cf2:Cf} {vc vc1 vc2:List Prop}
def aKI(fr:aA)(cf:Cf):Option Int:=match cd fr cf with
 |some ⟨_, .binOp .and _ x (.const (.int .i64 1)) _,_,_,_,_⟩=>match aP (bz fr cf) x with
  |some (.d (.v (.int .i64 p)))=>some p
  |_=>none
 |_=>none
end
structure EGX (GB:Gh) (ai:Addr):Prop where
 ErrInvalid:GB 0=some [.iface 499 (.pointer (some ai))]
def aKw(rs:List (List ZP))(p:aa):Int:=rs.foldl (fun n r=>n+py r p) 0

def WL:iG [] 1= .leaf false:=by kernel_rfl
def Yw:(iG [wh] 2).size=3:=by kernel_rfl
def R1: ∀r∈[wh],ld r:=fun r hr=>by
 rw[aY.1 hr];exact⟨Zt,by decide+kernel⟩
theorem aCs: ∀p∈[iP 0 0,iP 1 0,iP 0 1],aI p 1200:=fun p hp=>by
 simp only[aV,kX,or_false] at hp;rcases hp with rfl|rfl|rfl<;>exact⟨BQ.int1200 (by decide),BQ.int1200 (by decide)⟩
def I8{rs:List (List ZP)}(h: ∀r∈rs,ld r)(hn:rs.length<=3){fill:Int}(hfill:fill=1\/fill=2){t:Tr}(ht:iG rs fill=t):PF GB prog 19 [.sl (rs.map lG),vI fill] (.tp [eA t, .v .nilIface]):=by
 subst ht;exact Qo h hn hfill
def Ti:PF GB prog 20 [] (.v (.bool true)):=by
 obtain⟨u,hu⟩: ∃u,iG [wh] 2=u:=⟨_,rfl⟩;have hus:u.size=3:=by rw[<-hu];exact Yw
 have hwl:((u.wr 0).map eN).length=3:=by rw[aJ,Tr.wr_len,hus]
 refine fn func20 J J ntmps20 J J (fun C=>?_);refine cl J (I8 (rs:=[]) (by simp) (by decide) (fill:=1) (.inl J) WL) J<|cl J (mA (m:=0) (n:=0) (by decide) (by decide)) J<|?_;refine cl J (mA (m:=1) (n:=0) (by decide) (by decide)) J<|cl J (mA (m:=0) (n:=1) (by decide) (by decide)) J<|rf (fu:=⟨0⟩) J J<|?_;refine ao 13 (.d (.sl ([iP 0 0,iP 1 0,iP 0 1].map eP))) J J ?_;refine gx J<|cl J (Ji (ps:=[iP 0 0,iP 1 0,iP 0 1]) aCs (by decide)) J<|rf (fu:=⟨0⟩) J J<|?_;refine ao 15 (.d (.sl ([wh].map lG))) J J ?_;refine gx J<|cl (fu:=⟨11⟩) J (I8 (rs:=[wh]) R1 (by decide) (fill:=2) (.inr J) hu) J<|ie (fu:=⟨2⟩) J J J<|ie (fu:=⟨4⟩) J J J<|ie (fu:=⟨5⟩) J J J<|?_;refine ao 33 (.d (vI 3)) J (by rw[hwl]<;>rfl) ?_;refine gx (fu:=⟨0⟩) J<|ie J J J<|?_;exact rz J J
def TE(l:ab):l.canon.same l:=by
 unfold ab.canon;split
 ·exact .inr (IP l).symm
 ·exact .inl J
def avK{l m:ab}(h:m.same l){p:aa}(h0:l.value p=0):m.value p=0:=by
 rcases h with rfl|rfl
 ·exact h0
 ·rw[ij] at h0;grind
def Kb{rs:List (List ZP)}{p:aa}(h:f5 (jH (oz rs)) p): ∀f∈cb rs,f.l.value p≠0:=fun f hf e=>h _ (Sm (gS hf)) (avK (TE f.l) e)
def Sz{rs:List (List ZP)}{p:aa}(h:f5 (jH (oz rs)) p):Ig rs p=false:=by
 rw[<-mZ];unfold Ig;intro e;obtain⟨f,hf,hh⟩:=kU.1 e;exact Kb h f hf (Xn.1 hh).1
def Ox{rs:List (List ZP)}{fill:Int}(hr: ∀r∈rs,dq r)(hn:rs.length<=3){p:aa}(h:f5 (jH (oz rs)) p):r5 (iG rs fill) p=if jb rs fill p then 2 else 0:=by
 have hx:=(Ep (fill:=fill) hr hn).x (Fa _ _) (by decide);have h1:(o4 rs fill).all (fun l=>l.value p≠0):=rF fun f hf=>Kb h f hf;have h2:(iG rs fill).all (fun l=>l.value p≠0):=Tr.restrict_all _ _ [] h1;rw[Sp hx.ok (qr.1 h2),Qd hr (qr.1 h1)]
def aCe{b:Nat}{es:List Int}(hes:es.length<=400){md:Nat}(hmd:md<=100){rs:List (List ZP)}{a':Nat}(hr:rs=(o6 es md 0).1)(ha:a'=(o6 es md 0).2):PM GB prog 17 (ja [none,some (.v (.int .i64 (md:Nat)))] b) b 126 [.sl (es.map vI), .v (.int .i64 (0:Nat))] (.sl (rs.map lH)) [.sl (es.map vI), .v (.int .i64 (a':Nat))]:=by
 subst hr ha;exact X1 hes (bK _) hmd
def JE{rs:List (List ZP)}(hr: ∀r∈rs,dq r)(fill:Int)(p:aa):tH fill (io (cb rs) p)=jb rs fill p:=congrFun (ED hr fill) p
theorem RX{rs:List (List ZP)}(hr: ∀r∈rs,dq r): ∀l∈jH (oz rs),LB l/\l.ok:=fun l hl=>by
 obtain⟨m,hm,rfl⟩:=T4 hl;obtain⟨f,hf,rfl⟩:=bV.1 hm;have hfo:=(ng hr).2 f hf;exact⟨Va hfo.lb,ax2 hfo.ok⟩
def M8{rs:List (List ZP)}(hr: ∀r∈rs,dq r)(hn:rs.length<=3):(jH (oz rs)).length<=18:=by
 have h1:=asJ (oz rs);have h2:=(ng hr).1;unfold oz at h1⊢;rw[aJ] at h1;omega
def Vd{es0:List Int}(hb:es0.length<=1125899906842624):PF GB prog 11 [.sl (es0.map vI)] (.v (.bool true)):=by
 obtain⟨es,hee⟩: ∃es,es=es0.take 400:=⟨_,rfl⟩;have hes:es.length<=400:=by rw[hee];simp;omega
 obtain⟨rs,hre⟩: ∃rs,rs=(o6 es 2 0).1:=⟨_,rfl⟩;obtain⟨a1,ha1⟩: ∃a,a=(o6 es 2 0).2:=⟨_,rfl⟩;obtain⟨hrg,hrn,hal⟩:(∀r∈rs,ld r)/\rs.length<=2/\a1<=es.length:=by rw[hre,ha1];exact S5 (bK _)
 have hr1: ∀r∈rs,dq r:=fun r hr=>(hrg r hr).ok;obtain⟨fl,hfe⟩: ∃fl:Int,fl=1+((aB es 2 a1).1:Nat):=⟨_,rfl⟩;have hnl:=kP (es:=es) (n:=2) (a:=a1) (by decide);have hfl:fl=1\/fl=2:=by omega
 obtain⟨b2,hb2e⟩: ∃b,b=(aB es 2 a1).2:=⟨_,rfl⟩;have hb2:b2<=es.length:=by rw[hb2e];exact jy hal
 have hx:=(Ep (fill:=fl) hr1 (by omega)).x (Fa _ _) (by decide);obtain⟨fs,hfs⟩: ∃fs,fs=nC (jH (oz rs)):=⟨_,rfl⟩;have hml:(fs.map eP).length=fs.length:=aJ ..;have hdl:=RX hr1;have hfl8:fs.length<=216072012001:=by rw[hfs];exact Km (by have:=M8 hr1 (by omega);omega)
 have hd18:=M8 hr1 (by omega);refine fn func11 J J ntmps11 J J (fun C=>?_);refine cn J ((Sw hb hee)) (fun _=>J) (fun _=>?_);refine cm J (fun b=>(aCe hes (md:=2) (by decide) hre ha1)) J<|cm (fu:=⟨1⟩) J (fun b=>(rE (n:=2) hes hal (by decide) (by decide))) J<|?_;refine ao 21 (.d (vI fl)) J (by rw[hfe]<;>rfl) ?_;refine gx J<|cl J (Fh (rs:=rs) hr1 (by omega)) J<|cl (fu:=⟨12⟩) J (Qo (rs:=rs) hrg (by omega) (fill:=fl) hfl) J<|dt J J J<|?_;refine cl J (Fh (rs:=rs) hr1 (by omega)) J<|cl J (aCz (rs:=rs) (fill:=fl) hr1 (by omega)) J<|cl (fu:=⟨0⟩) J (RI (l:=jH (oz rs)) (fun a ha=>(hdl a ha).1) (fun a ha=>(hdl a ha).2.ne) (by omega)) J<|?_;refine ao 37 (.d (.sl (fs.map eP))) J (by rw[hfs]) ?_;refine gx (fu:=⟨1⟩) J<|?_;refine ao 38 (.d (vI (fs.length:Nat))) J (by rw[hml]<;>rfl) ?_;refine gx J<|?_;refine lp (X:=Nat) (fun k=>[(39, .d (vI (k:Nat)))]) (fun k=>[]) (fun k=>k<=fs.length) (fun k=>fs.length-k) 0 J (bK _) (fun _=>J) (fun k hk=>?_);refine br J J J (fun hc40=>?_) (fun hc40=>?_)
 .
  obtain⟨q,hqx⟩: ∃u,fs[k]? =some u:=⟨_,aX (by omega)⟩;have hqm:q∈nC (jH (oz rs)):=by rw[<-hfs];exact aS hqx
  have hqo:=UD (fun a ha=>(hdl a ha).2.ne) hqm;haveI:=Sn (fun a ha=>(hdl a ha).1) q hqm;have hoq:=Sz hqo;refine ix _ J (d6 hqx) J<|cl J (Fh (rs:=rs) hr1 (by omega)) J<|cl J (DT (p:=q) (i:=4900)) J<|cl J (SE (rs:=rs) hrg (by omega) (p:=q) (i:=4900) hoq (by decide)) J<|?_;refine cl J (DT (p:=q) (i:=4900)) J<|?_
  cases hin:jb rs fl q
  .
   have hcq:r5 (iG rs fl) q=0:=by rw[Ox hr1 (by omega) hqo,hin];rfl
   have haq:=(JE hr1 fl q).trans hin;refine cl (fu:=⟨0⟩) J (Qt (k:=18) (t:=iG rs fl) (p:=q) (i:=4900) hx) J<|?_;refine ao 55 (.d (.tp [vI 0, .v .nilIface])) J (by rw[hcq]) ?_;refine gx (fu:=⟨10⟩) J<|dt (fu:=⟨2⟩) J J J<|dt J J J<|cl (fu:=⟨0⟩) J (F6 (fill:=fl) (n:=io (cb rs) q)) J<|?_;refine ao 67 (.d (.v (.bool false))) J (by rw[haq]<;>rfl) ?_;refine qn 67 J ?_;refine gx (fu:=⟨1⟩) J<|dt (fu:=⟨1⟩) J J J<|?_;refine ao 70 (.d (.v (.bool false))) J J ?_;refine qn 70 J ?_;refine gx (fu:=⟨3⟩) J<|dt J J J<|?_;exact at_ (k+1) ⟨(by omega),(by omega)⟩
  .
   have hcq:r5 (iG rs fl) q=2:=by rw[Ox hr1 (by omega) hqo,hin];rfl
   have haq:=(JE hr1 fl q).trans hin;refine cl (fu:=⟨0⟩) J (Qt (k:=18) (t:=iG rs fl) (p:=q) (i:=4900) hx) J<|?_;refine ao 55 (.d (.tp [vI 2, .v .nilIface])) J (by rw[hcq]) ?_;refine gx (fu:=⟨10⟩) J<|dt (fu:=⟨2⟩) J J J<|dt J J J<|cl (fu:=⟨0⟩) J (F6 (fill:=fl) (n:=io (cb rs) q)) J<|?_;refine ao 67 (.d (.v (.bool true))) J (by rw[haq]<;>rfl) ?_;refine mf 67 J ?_;refine gx (fu:=⟨1⟩) J<|ie (fu:=⟨1⟩) J J J<|?_;refine ao 70 (.d (.v (.bool false))) J J ?_;refine qn 70 J ?_;refine gx (fu:=⟨3⟩) J<|dt J J J<|?_;exact at_ (k+1) ⟨(by omega),(by omega)⟩
 .
  obtain rfl:k=fs.length:=by omega
  refine cl J Ti J<|?_;exact rz J J
end Go.Sx
end
section
namespace Go.Sx
open Go Go.Proofs Go.ChangeShapes Go.WideShapes Go.ChangeAt Go.RowKit
def GW(w:World):Gh:=fun b=>match w.heap[b]? with|some (.cells cs _ _)=>some cs.toList|_=>none
def GW.sub{w:World}{b:Nat}{cs:List Value}(h:GW w b=some cs): ∃ty fz,w.heap[b]? =some (.cells ⟨cs⟩ ty fz):=by
 unfold GW at h;split at h
 ·rename_i c t f e
  cases h
  exact⟨t,f,by rw[e]⟩
 ·cases h
def GW.of_cell{w:World}{b off:Nat}{v:Value}(h:w.cell? ⟨b,off,none⟩=some v): ∃cs,GW w b=some cs/\cs[off]? =some v:=by
 unfold World.cell? at h;unfold GW;split at h
 ·rename_i c t f e
  simp only at e;refine⟨c.toList,by rw[e],?_⟩;simpa using h
 all_goals first|(rename_i e;cases h)|cases h
def bm.below{w w':World}{G G':Gh}{own:List ak}(h:bm ⟨w,G,[],[],[],none,fun _=>none⟩ own G' w'):Below w.heap.size w w':=
 ⟨h.os,h.tape,h.output,h.size,fun k hk=>h.keep k hk (by simp)⟩
def JI{G:Gh}: ∀es:List Int,IsLs G (es.map vI) (es.map fun n=>Value.int .i64 n)
 |[]=> .nil
 |n::t=> .cons (aG.2 J) (JI t)
def aAn{base:Nat}{H:Type}{enc:TypeId×Value->H}{P:Program}{w:World}{t e:TypeId}{v:Value}{d:DataW H}{ps:List MemPlace}(ht:P.underlying t=some (.slice e))(he:P.underlying e=some (.int .i64))(hc:P.cellsOf e=1)
  (hv:Value.okWide P w .any base t v)(h:DataW.Trod enc P w 0 (fun _=>true) true t v d ps):
  ∃es:List Int,Is (GW w) (.sl (es.map vI)) v/\(d= .nil/\es=[]\/ ∃sp,d= .slice (lits .i64 es) sp)/\(∀n∈es,(Lit.int .i64 n).wf=true):=by
 obtain⟨a0,len,cap,rfl⟩:=okWide_slice ht hv;obtain⟨fuel,hf⟩:=h;rcases open_ints ht he hc hf with⟨hcs,hx⟩|⟨a,len',cap',zs,hcs,_,hl,hm,hz,hx,hcell,hwz⟩
 ·simp[Value.cells] at hcs
  obtain⟨rfl,rfl,rfl⟩:=hcs;simp only[Prod.mk.injEq] at hx;exact⟨[],gO.2 ⟨0,⟨none,0,0⟩,[],J,eB.nil _ 0, .nil⟩, .inl ⟨hx.1,J⟩,by simp⟩
 ·simp[Value.cells] at hcs
  obtain⟨rfl,rfl,rfl⟩:=hcs;simp only[Prod.mk.injEq] at hx;simp only[if_true] at hz;refine⟨zs.take len,gO.2 ⟨1,⟨some a,len,cap⟩,(zs.take len).map fun n=>Value.int .i64 n,J,⟨by simp;omega,hl,?_⟩,JI _⟩, .inr ⟨_,hx.1⟩,fun n hn=>hwz n (fV hn)⟩;by_cases h0:len=0
  ·exact .inl (by simp[h0])
  ·right
   obtain⟨b,off,spot⟩:=a;have hspot:spot=none:=by simpa[Addr.add] using World.cell?_spot (hcell 0 (by omega))
   subst hspot;have c0: ∀i,i<zs.length->w.cell? ⟨b,off+i,none⟩=some (.int .i64 (zs.getD i 0)):=fun i hi=>by
    have:=hcell i hi;rwa [Go.WideShapes.add_plain] at this
   obtain⟨cs,hcs,_⟩:=GW.of_cell (by have h9:=c0 0 (by omega);rw[fQ] at h9;exact h9);refine⟨b,off,cs,J,hcs,fun i hi=>?_⟩;simp only[aJ,bM] at hi;obtain⟨cs',hcs',hi'⟩:=GW.of_cell (c0 i (by omega));rw[hcs] at hcs'
   cases hcs'
   rw[iU,SQ.2 hi'];simp[aE,List.getD,aX (show i<zs.length by omega)]
end Go.Sx
end
