import Derived.Test.YtefoocgiaegobaaGreatDoorPd18
import Derived.Shelf.SlSortCmp.NoneTotal
import Derived.Test.YtefoocgiaegobaaGreatDoorProg
import Derived.Shelf.SlicesQ.Reverse
import Derived.Shelf.SlLaysE0
import Derived.Test.YtefoocgiaegobaaGreatDoorCards
import Derived.Test.YtefoocgiaegobaaGreatDoorTie
import Derived.WalkKit
import Derived.ProofKit
import Derived.OpenShut
import Derived.Deep.DeepHandedRow
import Derived.Deep.DeepWitnessRowRef
import Derived.LaidMore
import Derived.Lib.LaidTab
import Derived.SizedLaws
import Derived.Stop.LaidErr
import Derived.MakeChecks
set_option linter.all false
set_option maxHeartbeats 4000000
set_option maxRecDepth 100000
section
namespace Go.Sx
open Go Go.Proofs Tryz
variable {GB:Gh}
def zH(f:aG)(m:aa):(splitP f m).length<=1:=by unfold splitP;split<;>simp
def zB(l:List aG)(m:aa):List aG:=l.flatMap fun g=>splitP g m
def zF(l:List aG)(m:aa):(zB l m).length<=l.length:=by
 induction l with
 |nil=>exact aL _
 |cons f t ih=>
  unfold zB at ih⊢;rw[mJ,aY,bU];have:(splitP f m).length<=1:=by unfold splitP;split<;>simp
  omega
def zM{l:List aG}{k:Nat}{f:aG}{m:aa}(h:l[k]? =some f):(zB (l.take k) m).map bj++(splitP f m).map bj=(zB (l.take (k+1)) m).map bj:=by
 unfold zB;rw[fW,h,sK,bT];simp
def zN{f:aG}{m:aa}{a b:Bool}(ha:f.l.cutB f.v m=a)(hb:f.l.cutB f.v m.rev=b):(DV.tp [.sl (if a then [bj ⟨f.l,f.l.cutV f.v m⟩] else []), .sl (if b then [bj ⟨f.l,f.l.cutV f.v m.rev⟩] else [])])= .tp [.sl ((splitP f m).map bj), .sl ((splitP f m.rev).map bj)]:=by
 subst ha hb;unfold splitP;split<;>split<;>rfl
def yI{f:aG}{m:aa}(hf:FS f)(hm:LB m):PF GB prog 256 [bj f,eB m] (.tp [.sl ((splitP f m).map bj), .sl ((splitP f m.rev).map bj)]):=by
 haveI:=hf.fo.lb;haveI:=hf.fo.lo;haveI:=hf.fo.hi;haveI:=hm;refine fn func256 J J ntmps256 J J (fun C=>?_);refine cl J (Ak (l:=f.l) (v:=f.v) (m:=m) (i:=1200)) J<|?_;refine bb J J J (fun hc19=>?_) (fun hc19=>?_)
 .
  refine rf J J<|cl J GY J<|cl J (Ak (l:=f.l) (v:=f.v) (m:=m.rev) (i:=1200)) J<|?_;refine bb J J J (fun hc35=>?_) (fun hc35=>?_)
  .
   refine rf J J<|?_;exact rz J (zN hc19 hc35)
  .
   exact rz J (zN hc19 hc35)
 .
  refine cl J GY J<|cl J (Ak (l:=f.l) (v:=f.v) (m:=m.rev) (i:=1200)) J<|?_;refine bb J J J (fun hc35=>?_) (fun hc35=>?_)
  .
   refine rf J J<|?_;exact rz J (zN hc19 hc35)
  .
   exact rz J (zN hc19 hc35)
def yP:Lj prog 167:=by
 intro p q w;refine callsDIn_of_wpSIn func167 J trivial fun c₀ cs hu=>?_;apply wpSIn_seq;apply wpSIn_region;simp[wpOpsSIn,go_sem,recoverD,hu,ntmps167,Exit.thenS,FW,Fence.wide];apply wpSIn_seq;apply wpSIn_region;simp[wpOpsSIn,go_sem,Exit.thenS,FW,Fence.wide];refine wpSIn_cond (t:=false) (by simp[Act.eval,Array.replicate]) ?_;simp only[dZ,if_false];refine wpSIn_of_wpIn J (wpIn_skip ?_)
 cases c₀
 simp_all [bodyPostS,results,Tryz.results167,go_sem]
def zQ{b:Nat}{f:FuncId}{c2:List Value}{ds2:List DV}(hc2:IsLs GB ds2 c2){acc:ab->Bool}(hF: ∀q,aI q 20000->PF GB prog f (eZ q::ds2) (vB (acc q))){n:Nat}{c:aE}{d N:Nat}(hc:i5 c)(hcl:c.length<=100000):PM GB prog 168 (iC [none,some (.sl (([]:List aG).map bj)),some (.sl (c.map bj)),some (.v (.int .i64 (d:Nat)))] b) b 272 [.v (.int .i64 (N:Nat)),(.v (.func (.func f) ⟨[]⟩ ⟨c2⟩))] (eU (gl acc n [] c)) [.v (.int .i64 (N+(gl acc n [] c).size:Nat)),(.v (.func (.func f) ⟨[]⟩ ⟨c2⟩))]:=by
 have hib:=Qx hc;refine tM (fu:=⟨10⟩) func168 J J ntmps168 J J (fun C b m lo hmb=>?_);refine dx (fu:=⟨8⟩) J J J<|Ub J J J J J J<|cl (fu:=⟨0⟩) J (Yc (c:=c) hc hcl) J<|zm (ds1:=[]) (ds2:=ds2) J (dl.2 J) hc2 (hF (pC c) hib) J<|?_;refine cl J (Us (b:=acc (pC c))) J<|?_;exact lG hmb J J (by cases n<;>rfl) (by cases n<;>rfl)
def zP{b:Nat}{f:FuncId}{c2:List Value}{g:aG}{t:List aG}{c:aE}{d N:Nat}{x y:Tr}(hl: ∀u∈g::t,FS u)(hlen:(g::t).length<=100000)(hc:i5 c)(hcl:c.length<=100000)(hd:d<1000)(hN:N+(1+x.size+y.size)<=65536)(ih1: ∀{b N:Nat},N+x.size<=65536->PM GB prog 168 (iC [none,some (.sl ((zB (g::t) g.l).map bj)),some (.sl ((bD c g.l).map bj)),some (.v (.int .i64 (d+1:Nat)))] b) b 272 [.v (.int .i64 (N:Nat)),(.v (.func (.func f) ⟨[]⟩ ⟨c2⟩))] (eU x) [.v (.int .i64 (N+x.size:Nat)),(.v (.func (.func f) ⟨[]⟩ ⟨c2⟩))])(ih2: ∀{b N:Nat},N+y.size<=65536->PM GB prog 168 (iC [none,some (.sl ((zB (g::t) g.l.rev).map bj)),some (.sl ((bD c g.l.rev).map bj)),some (.v (.int .i64 (d+1:Nat)))] b) b 272 [.v (.int .i64 (N:Nat)),(.v (.func (.func f) ⟨[]⟩ ⟨c2⟩))] (eU y) [.v (.int .i64 (N+y.size:Nat)),(.v (.func (.func f) ⟨[]⟩ ⟨c2⟩))]):PM GB prog 168 (iC [none,some (.sl ((g::t).map bj)),some (.sl (c.map bj)),some (.v (.int .i64 (d:Nat)))] b) b 272 [.v (.int .i64 (N:Nat)),(.v (.func (.func f) ⟨[]⟩ ⟨c2⟩))] (eU (Tr.node g.l x y)) [.v (.int .i64 (N+(Tr.node g.l x y).size:Nat)),(.v (.func (.func f) ⟨[]⟩ ⟨c2⟩))]:=by
 have hg:=hl g aQ;haveI hlb:=hg.fo.lb;have hlt:t.length+1<=100000:=hlen;have hml:((g::t).map bj).length=(g::t).length:=aK ..;refine tM (fu:=⟨10⟩) func168 J J ntmps168 J J (fun C b m lo hmb=>?_);refine ak 22 (.d (vI ((t.length+1:Nat):Int))) J (by rw[hml]<;>rfl) ?_;refine gx (fu:=⟨0⟩) J<|d7 (fu:=⟨13⟩) (hv:=by simp only[ah];exact(by omega)) J (by show some (decide _)=some false;rw[decide_eq_false (by omega)]) J<|?_;refine ak 36 (.d (.v (.int .i64 (N+1:Nat)))) J J ?_;refine gx (fu:=⟨11⟩) J<|d7 (fu:=⟨2⟩) J (by show some (decide _)=some false;rw[decide_eq_false (by omega)]) J<|d7 J (by show some (decide _)=some false;rw[decide_eq_false (by omega)]) J<|?_;refine ix (fu:=⟨17⟩) _ J J J<|?_;refine ak 55 (.d (vI ((t.length+1:Nat):Int))) J (by rw[hml]<;>rfl) ?_;refine gx J<|?_;refine nr 10 10 222 17 J J J ?_;refine nr 11 11 222 17 J J J ?_;refine lp (X:=Nat) (fun k=>[(56, .d (vI (k:Nat))),(10, .rw 10),(11, .rw 11)]) (fun k=>[(10,some (.b 222 17 ((zB ((g::t).take k) g.l).map bj) true)),(11,some (.b 222 17 ((zB ((g::t).take k) g.l.rev).map bj) true))]) (fun k=>k<=t.length+1) (fun k=>t.length+1-k) 0 J (bQ _) (fun _=>J) (fun k hk=>?_);have hm1:=zF ((g::t).take k) g.l;have hm2:=zF ((g::t).take k) g.l.rev;have hm3:((g::t).take k).length<=k:=by rw[cJ];omega
 have hm4:((zB ((g::t).take k) g.l).map bj).length<=k:=by rw[aK];omega
 have hm5:((zB ((g::t).take k) g.l.rev).map bj).length<=k:=by rw[aK];omega
 refine br (fu2:=⟨0⟩) J J J (fun hc57=>?_) (fun hc57=>?_)
 .
  obtain⟨u,hx⟩: ∃u,(g::t)[k]? =some u:=⟨_,aZ (by rw[bU];omega)⟩;have hu:=hl u (bZ hx);have hs1:=zH u g.l;have hs2:=zH u g.l.rev;refine ix _ J (d9 hx) J<|cl J (yI hu hlb) J<|ap ((zB ((g::t).take (k+1)) g.l).map bj) J (zM hx) (zr (splitP u g.l)) J<|?_;refine ap ((zB ((g::t).take (k+1)) g.l.rev).map bj) J (zM hx) (zr (splitP u g.l.rev)) J<|?_;refine fA 68 10 J ?_;refine fA 71 11 J ?_;exact at_ (k+1) ⟨(by omega),(by omega)⟩
 .
  obtain rfl:k=t.length+1:=by omega
  rw[show(g::t).take (t.length+1)=g::t from cM (l:=g::t)];refine pp 11 J ?_;refine gx J<|cl (fu:=⟨18⟩) J (IP (l:=g.l) (c:=c) hg.fo.ok hc hcl) J<|?_;refine ak 85 (.d (.v (.int .i64 (d+1:Nat)))) J J ?_;refine gx J<|fz 10 J J<|cm (fu:=⟨12⟩) J (fun b=>(ih1 (N:=N+1) (by omega))) J<|?_;refine ak 93 (.d (.v (.int .i64 (d+1:Nat)))) J J ?_;refine gx J<|cm J (fun b=>(ih2 (N:=N+1+x.size) (by omega))) J<|cl J Cr J<|?_;exact lG hmb J J J (by rw[show N+(Tr.node g.l x y).size=N+1+x.size+y.size from by rw[Tr.size];omega])
def zR{f:FuncId}{c2:List Value}{ds2:List DV}(hc2:IsLs GB ds2 c2){acc:ab->Bool}(hF: ∀q,aI q 20000->PF GB prog f (eZ q::ds2) (vB (acc q))): ∀{n:Nat} {l:List aG} {c:aE} {d N b:Nat},(∀u∈l,FS u)->jc n l->l.length<=100000->i5 c->c.length+n<=100000->d+n<=1000->N+(gl acc n l c).size<=65536->PM GB prog 168 (iC [none,some (.sl (l.map bj)),some (.sl (c.map bj)),some (.v (.int .i64 (d:Nat)))] b) b 272 [.v (.int .i64 (N:Nat)),(.v (.func (.func f) ⟨[]⟩ ⟨c2⟩))] (eU (gl acc n l c)) [.v (.int .i64 (N+(gl acc n l c).size:Nat)),(.v (.func (.func f) ⟨[]⟩ ⟨c2⟩))]
 |_,[],c,d,N,b,_,_,_,hc,hcl,_,_=>zQ hc2 hF hc (by omega)
 |0,g::t,_,_,_,_,_,hf,_,_,_,_,_=>hf.no.elim
 |n+1,g::t,c,d,N,b,hl,hf,hlen,hc,hcl,hd,hN=>by
  have hg:=hl g aQ;haveI hlb:=hg.fo.lb;obtain⟨f1,f2⟩:=FS.splits hl hlb;obtain⟨w1,w2⟩:=hf.splitP hl;have n1:=zF (g::t) g.l;have n2:=zF (g::t) g.l.rev;have k1:=Cj c g.l;have k2:=Cj c g.l.rev;have o1:=A1 hg.fo.ok hc;have o2:=A1 (l:=g.l.rev) (aa.ok.rev hg.fo.ok) hc;refine zP (x:=gl acc n (zB (g::t) g.l) (bD c g.l)) (y:=gl acc n (zB (g::t) g.l.rev) (bD c g.l.rev)) hl hlen hc (by omega) (by omega) hN (fun{b' N'} h2=>?_) (fun{b' N'} h2=>?_)
  ·exact zR hc2 hF f1 w1 (by omega) o1 (by omega) (by omega) h2
  ·exact zR hc2 hF f2 w2 (by omega) o2 (by omega) (by omega) h2
def yW{E:List aG}(hE: ∀u∈E,FS u){n:Nat}(hw:jc n E)(hn:n<=1000)(hlen:E.length<=100000){f:FuncId}{c2:List Value}{ds2:List DV}(hc2:IsLs GB ds2 c2){acc:ab->Bool}(hF: ∀q,aI q 20000->PF GB prog f (eZ q::ds2) (vB (acc q)))
  (hs:(gl acc n E []).size<=65536)(hd:(gl acc n E []).depth<=1000)(ho:(gl acc n E []).all aa.ok)(hb:(gl acc n E []).all LB):PF GB prog 75 [.sl (E.map bj), .v (.func (.func f) ⟨[]⟩ ⟨c2⟩)] (.tp [eU ((gl acc n E []).restrict []), .v .nilIface]):=by
 refine fnD func75 J J ntmps75 J J (fun C h0=>?_);refine W1 h0 J J J (by decide) (fun p q=>?_);refine gx J ?_;refine cm J (fun b=>zR (b:=b) hc2 hF (n:=n) (l:=E) (c:=[]) (d:=0) (N:=0) hE hw hlen (fun s hs=>by cases hs) (by simp;omega) (by omega) (by omega)) J ?_;refine cl J (Uh hb ho (by omega)) J ?_;exact Sq yP ⟨_,func167,J,J⟩ J J
def yQ{E:List aG}(hE: ∀f∈E,FE f)(hn:E.length<=100000){fill:Int}{q:ab}{i:Nat}[hq:aI q i](hi:i<=80000):PF GB prog 76 [eZ q, .pt [vI fill], .pt [.sl (E.map bj)]] (vB (ng fill (i0 E q))):=by
 refine fn (fu:=⟨3⟩) func76 J J ntmps76 J J (fun C=>?_);refine EQ 1 J<|EQ 2 J<|gx J<|cl J (RB hE (by omega) (p:=q) (i:=i) (by omega)) J<|cl J (ZX (fill:=fill) (n:=i0 E q)) J<|?_;exact rz J J
def zW{rs:List (List ZP)}(hr: ∀r∈rs,cF r)(fill:Int):(fun q=>ng fill (i0 (b9 rs) q))=gj rs fill:=by
 funext q;rw[Km hr];rfl
def Tr.like_depth: ∀{t u:Tr},t.like u->t.depth=u.depth
 | .leaf _, .leaf _,_=>rfl
 | .node _ _ _, .node _ _ _,h=>by rw[Tr.depth,Tr.depth,Tr.like_depth h.2.1,Tr.like_depth h.2.2]
def yV{rs:List (List ZP)}{fill:Int}(h: ∀r∈rs,cF r)(hn:rs.length<=3):(jG rs fill).all LB/\(jG rs fill).all aa.ok/\(jG rs fill).depth<=18/\(jG rs fill).size<=171:=by
 obtain⟨h1,h2,h3⟩:=Ov (fill:=fill) h;obtain⟨k1,k2⟩:=nq h;have hd:(ol rs fill).depth<=(b9 rs).length:=C6;have ha: ∀{P:aa->Prop},(∀f∈b9 rs,P f.l)->(jG rs fill).all P:=fun hP=>by
  rw[uj,Tr.like_lns h1,<-uj];exact r5 hP
 have hA:mE ((b9 rs).map (·.l)) (jG rs fill):=ha fun f hf=>⟨f.l,gM hf, .inl J⟩;have hs:=Wr (K:=(b9 rs).map (·.l)) (fun m hm=>by obtain⟨f,hf,rfl⟩:=bM.1 hm;exact(k2 f hf).ok) h2 h3 di.nil hA;rw[aK] at hs;refine⟨ha fun f hf=>(k2 f hf).lb,h3,by rw[Tr.like_depth h1];omega,?_⟩;have:(b9 rs).length*((b9 rs).length+1)<=18*19:=kX (by omega) (by omega);omega
def zX{rs:List (List ZP)}(h: ∀r∈rs,mc r)(hn:rs.length<=3){fill:Int}(hfill:fill=1\/fill=2):PF GB prog 19 [.sl (rs.map mz),vI fill] (.tp [eA (kg rs fill), .v .nilIface]):=by
 have hr: ∀r∈rs,cF r:=fun r hr=>(h r hr).ok;have hel0:=(nq hr).1;have hfe:=arH hr;obtain⟨b1,b2,b3,b4⟩:=yV (fill:=fill) hr hn;have hbx:=(Jq (fill:=fill) hr hn).x (Nx _ _) (by decide);have hbs:=hbx.s;have hbE:(gl (gj rs fill) (b9 rs).length (b9 rs) []).restrict []=kg rs fill:=Z4 hr;have hbl:=hbx.lb;have hml:(rs.map rj).length=rs.length:=aK ..;refine fn func19 J J ntmps19 J J (fun C=>?_);refine cl (fu:=⟨13⟩) J (Vk h (by omega)) J<|d7 J J J<|?_;refine cs (fu2:=⟨20⟩) 25 J J J (fun hg25=>?_) (fun hg25=>?_)
 .
  refine br (fu2:=⟨13⟩) J J J (fun hc22=>?_) (fun hc22=>?_)
  .
   exact absurd hfill (by omega)
  .
   refine ak 32 (.d (vI (rs.length:Nat))) J (by rw[hml]<;>rfl) ?_;refine gx J<|?_;refine yk 8 0 80 222 17 J J J J J ?_;refine lp (X:=Nat) (fun k=>[(33, .d (vI (k:Nat))),(8, .ov 8 0)]) (fun k=>[(8,some (.o 130 [.rw 80] true)),(80,some (.b 222 17 ((b9 (rs.take k)).map bj) true))]) (fun k=>k<=rs.length) (fun k=>rs.length-k) 0 J (bQ _) (fun _=>J) (fun k hk=>?_);have hm5:=vS hr k;have hm3:((b9 (rs.take k)).map bj).length<=6*k:=by rw[aK];exact vS hr k
   refine br (fu2:=⟨0⟩) J J J (fun hc34=>?_) (fun hc34=>?_)
   .
    obtain⟨r,hx⟩: ∃u,rs[k]? =some u:=⟨_,aZ (by omega)⟩;have hrr:=h r (bZ hx);have hel:=(rF hrr.ok).1;have hn6:=hrr.ok.n6;have hm4:((ey r).map bj).length=(ey r).length:=aK ..;refine ix _ J (d9 hx) J<|cl J (Lp hrr.ok) J<|ap (hv:=by simp only[ah];exact⟨by kernel_rfl,by omega⟩) ((b9 (rs.take (k+1))).map bj) J (I8 hx) (zr (ey r)) J<|?_;refine fA 40 80 J ?_;exact at_ (k+1) ⟨(by omega),(by omega)⟩
   .
    obtain rfl:k=rs.length:=by omega
    rw[cM];refine pp 80 J ?_;refine gx (fu:=⟨7⟩) J<|?_;refine gx J<|fz 3 J J<|fz 8 J J ?_;refine y6 3 J (fun GB1 pv1 hg1 hp1=>?_);refine y6 8 J (fun GB2 pv2 hg2 hp2=>?_);refine MO (fu:=⟨0⟩) J J ?_;refine cl J (yW (E:=b9 rs) (yf hr) (Eu rs) (by omega) (by omega) (f:=76) (c2:=[pv1,pv2]) (ds2:=[.pt [vI fill], .pt [.sl ((b9 rs).map bj)]]) (.cons (hp1.up hg2) (.cons hp2 (dl.2 J))) (acc:=gj rs fill) (fun q hq=>by rw[<-zW hr];exact yQ hfe (by omega) (q:=q) (i:=20000) (by decide)) (show(jG rs fill).size<=65536 by omega) (show(jG rs fill).depth<=1000 by omega) b2 b1) J ?_;refine cl J (Po (t:=(gl (gj rs fill) (b9 rs).length (b9 rs) []).restrict []) (by rw[hbE];exact hbl) (by rw[hbE];omega)) J ?_;exact rz J (by rw[hbE]<;>rfl)
 .
  refine ak 32 (.d (vI (rs.length:Nat))) J (by rw[hml]<;>rfl) ?_;refine gx J<|?_;refine yk 8 0 80 222 17 J J J J J ?_;refine lp (X:=Nat) (fun k=>[(33, .d (vI (k:Nat))),(8, .ov 8 0)]) (fun k=>[(8,some (.o 130 [.rw 80] true)),(80,some (.b 222 17 ((b9 (rs.take k)).map bj) true))]) (fun k=>k<=rs.length) (fun k=>rs.length-k) 0 J (bQ _) (fun _=>J) (fun k hk=>?_);have hm5:=vS hr k;have hm3:((b9 (rs.take k)).map bj).length<=6*k:=by rw[aK];exact vS hr k
  refine br (fu2:=⟨0⟩) J J J (fun hc34=>?_) (fun hc34=>?_)
  .
   obtain⟨r,hx⟩: ∃u,rs[k]? =some u:=⟨_,aZ (by omega)⟩;have hrr:=h r (bZ hx);have hel:=(rF hrr.ok).1;have hn6:=hrr.ok.n6;have hm4:((ey r).map bj).length=(ey r).length:=aK ..;refine ix _ J (d9 hx) J<|cl J (Lp hrr.ok) J<|ap (hv:=by simp only[ah];exact⟨by kernel_rfl,by omega⟩) ((b9 (rs.take (k+1))).map bj) J (I8 hx) (zr (ey r)) J<|?_;refine fA 40 80 J ?_;exact at_ (k+1) ⟨(by omega),(by omega)⟩
  .
   obtain rfl:k=rs.length:=by omega
   rw[cM];refine pp 80 J ?_;refine gx (fu:=⟨7⟩) J<|?_;refine gx J<|fz 3 J J<|fz 8 J J ?_;refine y6 3 J (fun GB1 pv1 hg1 hp1=>?_);refine y6 8 J (fun GB2 pv2 hg2 hp2=>?_);refine MO (fu:=⟨0⟩) J J ?_;refine cl J (yW (E:=b9 rs) (yf hr) (Eu rs) (by omega) (by omega) (f:=76) (c2:=[pv1,pv2]) (ds2:=[.pt [vI fill], .pt [.sl ((b9 rs).map bj)]]) (.cons (hp1.up hg2) (.cons hp2 (dl.2 J))) (acc:=gj rs fill) (fun q hq=>by rw[<-zW hr];exact yQ hfe (by omega) (q:=q) (i:=20000) (by decide)) (show(jG rs fill).size<=65536 by omega) (show(jG rs fill).depth<=1000 by omega) b2 b1) J ?_;refine cl J (Po (t:=(gl (gj rs fill) (b9 rs).length (b9 rs) []).restrict []) (by rw[hbE];exact hbl) (by rw[hbE];omega)) J ?_;exact rz J (by rw[hbE]<;>rfl)
def yT(x:ab):List ab->List ab
 |[]=>[]
 |y::l=>if ir y x=0 then yT y l else y::yT y l
def xG:List ab->List ab
 |[]=>[]
 |x::l=>x::yT x l
def vZ:DV:= .ag [vI 0,vI 0, .v (.pointer none),vI 0,vI 0, .v (.pointer none)]
section
variable {α:Type} [Inhabited α]
end
def xJ{A:Type}(cf:A->A->Int)(ds:List A):List A:=ds.mergeSort fun x y=>!decide (cf y x<0)
def xH(l:List ab):Prop:= ∀x∈l,∀y∈l,ir x y=0->x=y
end Go.Sx
end
section
namespace Go.Proofs
open Go.Shelf
def Tryz.sortPt_ren:Go.Shelf.Ren:=⟨fun|6=>316|15=>231|14=>370|28=>332|29=>333|20=>391|21=>392|22=>393|23=>394|24=>395|25=>396|26=>397|27=>398|46=>405|47=>372|48=>373|49=>406|50=>407|57=>410|n=>n,fun|22=>131|24=>141|25=>393|3=>3|39=>355|0=>0|53=>366|55=>251|4=>4|46=>429|45=>428|50=>391|5=>5|9=>9|66=>467|70=>471|76=>486|77=>487|n=>n,fun|n=>n⟩
end Go.Proofs
end
section
namespace Go.Sx
open Go Go.Proofs Tryz


def xR(x:Rat×Bool)(s:Rat):Rat×Bool:=if 0<Int.sign s.num/\(x.2=false\/bg s x.1<0) then(s,true) else x

def xK:List ZP:=qy 0 0 2 2
structure CvR (r:List ZP):Prop where
 ok:cF r
 cen: ∃c:ab,∀f∈sG r,0<cO f.1 f.2 c
 one: ∀p,(∀f∈sG r,0<cO f.1 f.2 p)->ja r p=1
 zer: ∀p,(∃f∈sG r,cO f.1 f.2 p<0)->ja r p=0
 cvx: ∀f∈sG r,∀g∈sG r,0<=cO f.1 f.2 g.1/\0<=cO f.1 f.2 g.2
 onE: ∀p,(∀f∈sG r,0<=cO f.1 f.2 p)-> ∀f∈sG r,cO f.1 f.2 p=0->In f.1 f.2 p
section
variable {r:List ZP} {p:ab}
end
def wS(x y O:Rat):Int:=(if x<=0/\ ¬y<=0/\0<O then 1 else 0)-(if¬x<=0/\y<=0/\O<0 then 1 else 0)
def xQ(r:List ZP)(p:ab):Nat->Bool
 |0=>true
 |k+1=>xQ r p k&&decide (0<=rm (r.getD k (0,0)).q (d8 r k).q p)
def xL(r:List ZP)(p:ab):Nat->Bool
 |0=>false
 |k+1=>xL r p k||decide (rm (r.getD k (0,0)).q (d8 r k).q p=0)
def yX{a:ab}{t:List ab}:lH (a::t) a=((0:Nat):Int):=Cl (k:=0) (q:=a) J J ⟨J,J⟩
def yD{a b c:ab}{t:List ab}(h1:a≠b)(h2:a≠c)(h3:b≠c):3<=eo (a::b::c::t) (a::b::c::t).length:=by
 have ne: ∀{x y:ab},x≠y->(!decide (x.x=y.x/\x.y=y.y))=true:=fun{x y} h=>by
  rw[decide_eq_false (fun k=>h (by cases x;cases y;simp only[ab.mk.injEq] at*;exact k))];rfl
 have e0:=CS (l:=a::b::c::t) (k:=0) (p:=a) J yX;have e1:=CS (l:=a::b::c::t) (k:=1) (p:=b) J (Cl (k:=1) (q:=b) J (by simp only[List.take,List.all_cons,List.all_nil,Bool.and_true,ne h1]) ⟨J,J⟩);have e2:=CS (l:=a::b::c::t) (k:=2) (p:=c) J (Cl (k:=2) (q:=c) J (by simp only[List.take,List.all_cons,List.all_nil,Bool.and_true,ne h2,ne h3]) ⟨J,J⟩);have mono: ∀n m,n<=m->eo (a::b::c::t) n<=eo (a::b::c::t) m:=by
  intro n m h
  induction m with
  |zero=>rw[show n=0 by omega];exact aL _
  |succ m ih=>
   by_cases k:n=m+1
   ·rw[k];exact aL _
   ·exact cR (ih (by omega)) LL
 have:=mono 3 (a::b::c::t).length (by simp);have z:eo (a::b::c::t) 0=0:=J;rw[dS] at e0;rw[show 1+1=2 from J] at e1;rw[show 2+1=3 from J] at e2;omega
def zI{a b c:ZP}{t:List ZP}(ho:cF (a::b::c::t))(h1:a≠b)(h2:a≠c)(h3:b≠c):mc (a::b::c::t):=
 ⟨ho,yD (t:=t.map ZP.q) (fun e=>h1 (xb e)) (fun e=>h2 (xb e)) (fun e=>h3 (xb e))⟩
def yU{a b c d:Int}(ho:cF (qy a b c d))(h1:a<c)(h2:b<d):mc (qy a b c d):=
 zI ho (fun e=>by have:=congrArg Prod.fst e;dsimp only at this;omega) (fun e=>by have:=congrArg Prod.fst e;dsimp only at this;omega) (fun e=>by have:=congrArg Prod.snd e;dsimp only at this;omega)
def yR{p u v:ZP}(ho:cF (qh p u v))(h:qG u v≠0):mc (qh p u v):=by
 have hu: ∀{a b:ZP},(a=(0,0)\/b=(0,0)\/a=b)->qG a b=0:=fun{a b} k=>by
  unfold qG;rcases k with rfl|rfl|rfl
  ·simp
  ·simp
  ·rw[sV];omega
 refine zI ho (fun e=>h (hu (.inl ?_))) (fun e=>h (hu (.inr (.inl ?_)))) (fun e=>h (hu (.inr (.inr ?_))))
 ·have e1:=congrArg Prod.fst e
  have e2:=congrArg Prod.snd e;unfold tP at e1 e2;dsimp only at e1 e2;exact Prod.ext (by dsimp only;omega) (by dsimp only;omega)
 ·have e1:=congrArg Prod.fst e
  have e2:=congrArg Prod.snd e;unfold tP at e1 e2;dsimp only at e1 e2;exact Prod.ext (by dsimp only;omega) (by dsimp only;omega)
 ·have e1:=congrArg Prod.fst e
  have e2:=congrArg Prod.snd e;unfold tP at e1 e2;dsimp only at e1 e2;exact Prod.ext (by omega) (by omega)
def xA(n:Int)(d:Nat):Int:=n*zv false d
def yO(n:Int)(d:Nat):(xA n d).natAbs=n.natAbs*d:=by unfold xA;rw[jQ,pA]
instance BN.prx (n:Int) (d i j:Nat) [h:BI n i] [k:BN d j]:BN (xA n d).natAbs (i+j):=⟨by rw[yO,fX];exact mT h.h k.h⟩
def xN(S:List ab)(x:ab)(R:List ab)(k:Nat):List ab:=S.take k++x::(S.drop k++R)
def xM(S:List ab)(x:ab)(R:List ab)(m:Nat):List ab:=S.take m++x::x::(S.drop (m+1)++R)
def xC(t:Tr)(p:ab):Int:=if Vj t p then 2 else if aG2 t p then 1 else 0
def xU(t:Tr)(p:ab)(V:List ab)(k:Nat):Bool:=(V.take k).any fun v=>(sd t p v).1
def xW(t:Tr)(p:ab)(V:List ab)(k:Nat):Bool:=(V.take k).all fun v=>(sd t p v).1
def zS{l:List ab}{x:ab}(h:x∈l): ∃i:Nat,i<l.length/\lH l x=(i:Int)/\l.getD i ⟨0,0⟩=x:=by
 cases e:l.findIdx? (fun q=>decide (q.x=x.x/\q.y=x.y)) with
 |none=>
  rw[List.findIdx?_eq_none_iff] at e;have:=e x h;simp at this
 |some i=>
  have e0:=e;rw[List.findIdx?_eq_some_iff_getElem] at e;obtain⟨h1,h2,_⟩:=e;refine⟨i,h1,by unfold lH;rw[e0],?_⟩;have h3:=of_decide_eq_true h2;rw[aX,aZ h1,jK];generalize l[i]=q at*
  cases q;cases x
  simp only[ab.mk.injEq] at*;exact h3
def zL(l:List ab): ∀n,eo l n=((List.range n).filter fun k=>decide (lH l (l.getD k ⟨0,0⟩)=((k:Nat):Int))).length
 |0=>rfl
 |n+1=>by
  rw[eo,List.range_succ,List.filter_append,aY,zL l n];congr 1;by_cases h:lH l (l.getD n ⟨0,0⟩)=((n:Nat):Int)
  ·rw[if_pos h];simp only[pK,decide_eq_true h,if_true];rfl
  ·rw[if_neg h];simp only[pK,decide_eq_false h];rfl
def yC{F:List Nat}{i j k:Nat}(hi:i∈F)(hj:j∈F)(hk:k∈F)(h1:i≠j)(h2:i≠k)(h3:j≠k):3<=F.length:=by
 match F with
 |[]=>cases hi
 |[a]=>simp at hi hj;omega
 |[a,b]=>simp at hi hj hk;omega
 |a::b::c::t=>simp
def yJ{l:List ab}{a b c:ab}(ha:a∈l)(hb:b∈l)(hc:c∈l)(h1:a≠b)(h2:a≠c)(h3:b≠c):3<=eo l l.length:=by
 obtain⟨i,i1,i2,i3⟩:=zS ha;obtain⟨j,j1,j2,j3⟩:=zS hb;obtain⟨k,k1,k2,k3⟩:=zS hc;rw[zL];have mk: ∀{x:ab} {m:Nat},m<l.length->lH l x=(m:Int)->l.getD m ⟨0,0⟩=x->m∈(List.range l.length).filter fun k=>decide (lH l (l.getD k ⟨0,0⟩)=((k:Nat):Int)):=fun{x m} q1 q2 q3=>rN.2 ⟨sY.2 q1,decide_eq_true (by rw[q3];exact q2)⟩;exact yC (mk i1 i2 i3) (mk j1 j2 j3) (mk k1 k2 k3) (fun e=>h1 (by rw[<-i3,<-j3,e])) (fun e=>h2 (by rw[<-i3,<-k3,e])) (fun e=>h3 (by rw[<-j3,<-k3,e]))
def cmpZ_lt{p q:ZP}:kv p q<0↔p.1<q.1\/(p.1=q.1/\p.2<q.2):=by
 unfold kv
 repeat' split
 all_goals (constructor<;>intro h<;>omega)
def yE{p q:ZP}:kv p q=0↔p.1=q.1/\p.2=q.2:=by
 unfold kv
 repeat' split
 all_goals (constructor<;>intro h<;>omega)
def zJ{x y:ZP}: ∀{l:List ZP},y∈ke x l->y=x\/y∈l
 |[],h=>by simp[ke] at h;exact .inl h
 |u::t,h=>by
  rw[ke] at h;split at h
  ·rcases aT.1 h with rfl|h
   ·exact .inr aQ
   ·exact(zJ h).imp id fun k=>aJ _ k
  ·split at h
   ·exact .inr h
   ·rcases aT.1 h with rfl|h
    ·exact .inl J
    ·exact .inr h
def zV{x:ZP}: ∀{l:List ZP},l.Pairwise (fun a b=>kv a b<0)->(ke x l).Pairwise (fun a b=>kv a b<0)
 |[],_=>by simp[ke]
 |u::t,h=>by
  obtain⟨h1,h2⟩:=cZ.1 h;rw[ke];split
  ·rename_i hu
   refine cZ.2 ⟨fun y hy=>?_,zV h2⟩;rcases zJ hy with rfl|hy
   ·exact hu
   ·exact h1 y hy
  ·split
   ·exact h
   ·rename_i k1 k2
    rw[cmpZ_lt] at k1;rw[yE] at k2;refine cZ.2 ⟨fun y hy=>?_,h⟩;rw[cmpZ_lt];rcases aT.1 hy with rfl|hy
    ·omega
    ·have:=cmpZ_lt.1 (h1 y hy);omega
def zY(l:List ZP):(ow l).Pairwise (fun a b=>kv a b<0)/\ ∀y∈ow l,y∈l:=by
 have key: ∀(l o:List ZP),o.Pairwise (fun a b=>kv a b<0)->(l.foldl (fun out x=>ke x out) o).Pairwise (fun a b=>kv a b<0)/\ ∀y∈l.foldl (fun out x=>ke x out) o,y∈l\/y∈o:=by
  intro l
  induction l with
  |nil=>intro o ho;exact⟨ho,fun y hy=> .inr hy⟩
  |cons x t ih=>
   intro o ho;obtain⟨i1,i2⟩:=ih (ke x o) (zV ho);refine⟨i1,fun y hy=>?_⟩;rcases i2 y hy with h|h
   ·exact .inl (aJ _ h)
   ·rcases zJ h with rfl|h
    ·exact .inl aQ
    ·exact .inr h
 obtain⟨k1,k2⟩:=key l [] .nil;exact⟨k1,fun y hy=>(k2 y hy).resolve_right (by simp)⟩
def yM{r:List ZP}(ho:cF r)(h:3<=(ow r).length):mc r:=by
 refine⟨ho,?_⟩;obtain⟨k1,k2⟩:=zY r
 match hs:ow r with
 |[]=>rw[hs] at h;simp at h
 |[a]=>rw[hs] at h;simp at h
 |[a,b]=>rw[hs] at h;simp at h
 |a::b::c::t=>
  rw[hs] at k1 k2;obtain⟨p1,p2⟩:=cZ.1 k1;obtain⟨p3,_⟩:=cZ.1 p2;have ne: ∀{x y:ZP},kv x y<0->x.q≠y.q:=fun{x y} q e=>by
   have:=xb e;subst this;have:=cmpZ_lt.1 q;omega
  exact yJ (gM (k2 a (by simp))) (gM (k2 b (by simp))) (gM (k2 c (by simp))) (ne (p1 b (by simp))) (ne (p1 c (by simp))) (ne (p3 c (by simp)))
def yF{es:List Int}{a:Nat}(ha:a<=es.length):mc (og es a).1:=by
 have hok:=(Eg ha).1;unfold og at*;dsimp only at*;split
 ·exact zI Mb (by decide) (by decide) (by decide)
 ·rename_i h
  rw[if_neg h] at hok;exact yM hok (by omega)
def yN{es:List Int}{a:Nat}(ha:a<=es.length):mc (gF es a).1:=by
 have hok:=(F6 ha).1;have h0:=jz (n:=4) ha;unfold gF at*;dsimp only at*;split
 ·rename_i h
  rw[if_pos h] at hok;unfold zh at*;dsimp only at*;exact yU hok (by omega) (by omega)
 ·rename_i h
  rw[if_neg h] at hok;split
  ·rename_i k
   rw[if_pos k] at hok;obtain⟨p1,p2,p3⟩:=tY h0;obtain⟨u1,u2,u3,u4⟩:=vQ p3;obtain⟨v1,v2,v3,v4⟩:=vQ u4;split
   ·rename_i hc
    rw[if_pos hc] at hok;exact yR hok hc
   ·exact yF v4
  ·exact yF h0
structure EGW (GB:Gh) (ar:Addr):Prop where
 ErrRange:GB 2=some [.iface 499 (.pointer (some ar))]
def zG(es:List Int):Nat->Nat->List (List ZP)->List (List ZP)×Nat
 |0,a,out=>(out,a)
 |n+1,a,out=>zG es n (gF es a).2 (out++[(gF es a).1])
def zA(es:List Int)(m a:Nat):List (List ZP)×Nat:=zG es (aB es (m+1) a).1 (aB es (m+1) a).2 []
def zT{es:List Int}: ∀{n a:Nat} {out:List (List ZP)},a<=es.length->(∀r∈out,mc r)->(∀r∈(zG es n a out).1,mc r)/\(zG es n a out).1.length=out.length+n/\(zG es n a out).2<=es.length
 |0,a,out,ha,h=>⟨h,J,ha⟩
 |n+1,a,out,ha,h=>by
  have h1:=(F6 ha).2;obtain⟨i1,i2,i3⟩:=zT (n:=n) (out:=out++[(gF es a).1]) h1 fun r hr=>by
   rcases cX.1 hr with hr|hr
   ·exact h r hr
   ·rw[aV.1 hr];exact yN ha
  exact⟨i1,by rw[zG,i2,aY];simp;omega,i3⟩
def zZ{es:List Int}{m a:Nat}(ha:a<=es.length):(∀r∈(zA es m a).1,mc r)/\(zA es m a).1.length<=m/\(zA es m a).2<=es.length:=by
 have h1:=ku (es:=es) (n:=m+1) (a:=a) (by omega);obtain⟨i1,i2,i3⟩:=zT (es:=es) (n:=(aB es (m+1) a).1) (out:=[]) (jz (n:=m+1) ha) (fun r hr=>by cases hr);exact⟨i1,by unfold zA;rw[i2];simp;omega,i3⟩
def yG{GB:Gh}{b:Nat}{es:List Int}(hes:es.length<=400){a:Nat}(ha:a<=es.length){md:Nat}(hmd:md<=100):PM GB prog 17 (iC [none,some (.v (.int .i64 (md:Nat)))] b) b 126 [.sl (es.map vI), .v (.int .i64 (a:Nat))] (.sl ((zA es md a).1.map jH)) [.sl (es.map vI), .v (.int .i64 ((zA es md a).2:Nat))]:=by
 have hj1:=ku (es:=es) (n:=md+1) (a:=a) (by omega);have hj2:=jz (n:=md+1) ha;refine tM func17 J J ntmps17 J J (fun C b m lo hmb=>?_);refine cm J (fun b=>(qc (n:=(md:Int)+1) hes ha (by omega) (by omega))) J<|?_;refine nr 5 5 62 1 J J J ?_;refine lp (X:=List (List ZP)×Nat×Nat) (fun⟨rs,i,b⟩=>[(6, .d (vI (i:Nat))),(5, .rw 5)]) (fun⟨rs,i,b⟩=>[(1000000,some (.o 126 [.d (.sl (es.map vI)), .d (.v (.int .i64 (b:Nat)))] false)),(5,some (.b 62 1 (rs.map jH) true))]) (fun⟨rs,i,b⟩=>zG es i b rs=zA es md a/\b<=es.length/\rs.length+i<=100) (fun⟨rs,i,b⟩=>i) ⟨[],(aB es (md+1) a).1,(aB es (md+1) a).2⟩ J ⟨J,hj2,by simp;omega⟩ (fun _=>J) (fun⟨rs,i,b⟩ hk=>?_)
 try dsimp only at hk⊢
 obtain⟨h1,h2,h3⟩:=hk;have hrl:(rs.map jH).length=rs.length:=by simp
 refine br (fu2:=⟨0⟩) J J J (fun hc12=>?_) (fun hc12=>?_)
 .
  obtain⟨j,rfl⟩: ∃j,i=j+1:=⟨i-1,by omega⟩;have hq:=(F6 h2).2;refine cm J (fun b=>(TW hes h2)) J<|rf J J<|ap ((rs++[(gF es b).1]).map jH) J (by rw[bT];rfl) (IJ [_]) J<|?_;refine fA 19 5 J ?_;exact at_ ⟨rs++[(gF es b).1],j,(gF es b).2⟩ (by dsimp only;exact⟨⟨by rw[<-h1,zG],hq,by simp;omega⟩,(by omega)⟩)
 .
  obtain rfl:i=0:=by omega
  have hfin:zA es md a=(rs,b):=by rw[<-h1,zG]
  refine pp 5 J ?_;refine gx J<|?_;exact lG hmb J J (by rw[hfin];rfl) (by rw[hfin])
def xD(a b p:ab):Bool:=decide (rm a b p=0)&&decide ((ab.dot (cv a p (-1)) (cv b p (-1))).num.sign<=0)
def xT(r:List ZP)(p:ab):Bool:=(List.range r.length).any fun k=>xD (r.getD k (0,0)).q (d8 r k).q p

def xO(r:List ZP):List ZP:=r.take 1++(r.drop 1).reverse
section
variable {r:List ZP} {p:ab} {L:List aa}
end
end Go.Sx
end
section
namespace Go.Proofs
open Go.Shelf
def Tryz.RevPt_ren:Go.Shelf.Ren:=⟨fun|35=>104|n=>n,fun|22=>132|23=>141|3=>3|4=>4|0=>0|n=>n,fun|n=>n⟩
end Go.Proofs
end
section
namespace Go.Sx
open Go Go.Proofs

def yS(x:aa):List aa->List aa
 |[]=>[]
 |y::l=>if y=x then yS y l else y::yS y l
def xE:List aa->List aa
 |[]=>[]
 |x::l=>x::yS x l
end Go.Sx
end
section
namespace Go.Proofs
open Go.Shelf
def Tryz.SortLn_ren:Go.Shelf.Ren:=⟨fun|6=>133|15=>231|14=>230|28=>332|29=>333|20=>324|21=>325|22=>326|23=>327|24=>328|25=>329|26=>330|27=>331|46=>371|47=>372|48=>373|49=>374|50=>375|57=>399|n=>n,fun|22=>171|24=>218|25=>226|3=>3|39=>355|0=>0|53=>366|55=>251|4=>4|46=>429|45=>428|50=>391|5=>5|9=>9|66=>467|70=>471|76=>486|77=>487|n=>n,fun|n=>n⟩
end Go.Proofs
end
section
namespace Go.Sx
open Go Go.Proofs Tryz
variable {GB:Gh}
def xP(E:List aG):List aa:=E.map (·.l)
def xV(rs:List (List ZP))(fill:Int)(L:List aa)(p:ab)(vs:List ab):Bool:=vs.any fun v=>gj rs fill (s9 L p v)
def xX(rs:List (List ZP))(fill:Int)(L:List aa)(p:ab)(vs:List ab):Bool:=vs.all fun v=>gj rs fill (s9 L p v)
section
variable {GB:Gh} {C:aC} {n:Nat} {Q0:Exit->Act->World->Prop} {fr fr' fr1 fr2:aA} {own own' own1 own2:aH} {cf cf' cf1 cf2:Cf} {vc vc1 vc2:List Prop}
def xS(fr:aA)(cf:Cf):Option Int:=match b6 fr cf with
 |some ⟨_, .binOp .and _ x (.const (.int .i64 1)) _,_,_,_,_⟩=>match aO (bu fr cf) x with
  |some (.d (.v (.int .i64 p)))=>some p
  |_=>none
 |_=>none
end
structure EGX (GB:Gh) (ai:Addr):Prop where
 ErrInvalid:GB 0=some [.iface 499 (.pointer (some ai))]
def yH{b:Nat}{es:List Int}(hes:es.length<=400){rs:List (List ZP)}{a':Nat}(hr:rs=(zA es 3 0).1)(ha:a'=(zA es 3 0).2):PM GB prog 17 (iC [none,some (vI 3)] b) b 126 [.sl (es.map vI), .v (.int .i64 (0:Nat))] (.sl (rs.map jH)) [.sl (es.map vI), .v (.int .i64 (a':Nat))]:=by
 subst hr ha;exact yG hes (bQ _) (md:=3) (by decide)
def xI(rs:List (List ZP))(p:ab):Int:=rs.foldl (fun n r=>n+ja r p) 0

def yZ:kg [] 1= .leaf false:=by kernel_rfl
def yY:(kg [tQ] 2).size=3:=by kernel_rfl
def yK: ∀r∈[tQ],mc r:=fun r hr=>by
 rw[aV.1 hr];exact⟨Wx,by decide+kernel⟩
theorem yL: ∀p∈[iP 0 0,iP 1 0,iP 0 1],aI p 1200:=fun p hp=>by
 simp only[aT,jL,or_false] at hp;rcases hp with rfl|rfl|rfl<;>exact⟨BQ.int1200 (by decide),BQ.int1200 (by decide)⟩
def zU{rs:List (List ZP)}(h: ∀r∈rs,mc r)(hn:rs.length<=3){fill:Int}(hfill:fill=1\/fill=2){t:Tr}(ht:kg rs fill=t):PF GB prog 19 [.sl (rs.map mz),vI fill] (.tp [eA t, .v .nilIface]):=by
 subst ht;exact zX h hn hfill
def yB:PF GB prog 20 [] (.v (.bool true)):=by
 obtain⟨u,hu⟩: ∃u,kg [tQ] 2=u:=⟨_,rfl⟩;have hus:u.size=3:=by rw[<-hu];exact yY
 have hwl:((u.wr 0).map eN).length=3:=by rw[aK,Tr.wr_len,hus]
 refine fn func20 J J ntmps20 J J (fun C=>?_);refine cl J (zU (rs:=[]) (by simp) (by decide) (fill:=1) (.inl J) yZ) J<|cl J (lh (m:=0) (n:=0) (by decide) (by decide)) J<|?_;refine cl J (lh (m:=1) (n:=0) (by decide) (by decide)) J<|cl J (lh (m:=0) (n:=1) (by decide) (by decide)) J<|rf (fu:=⟨0⟩) J J<|?_;refine ak 13 (.d (.sl ([iP 0 0,iP 1 0,iP 0 1].map eP))) J J ?_;refine gx J<|cl J (Ng (ps:=[iP 0 0,iP 1 0,iP 0 1]) yL (by decide)) J<|rf (fu:=⟨0⟩) J J<|?_;refine ak 15 (.d (.sl ([tQ].map mz))) J J ?_;refine gx J<|cl (fu:=⟨11⟩) J (zU (rs:=[tQ]) yK (by decide) (fill:=2) (.inr J) hu) J<|dx (fu:=⟨2⟩) J J J<|dx (fu:=⟨4⟩) J J J<|dx (fu:=⟨5⟩) J J J<|?_;refine ak 33 (.d (vI 3)) J (by rw[hwl]<;>rfl) ?_;refine gx (fu:=⟨0⟩) J<|dx J J J<|?_;exact rz J J
def zO{es0:List Int}(hb:es0.length<=1125899906842624):PF GB prog 3 [.sl (es0.map vI)] (.v (.bool true)):=by
 obtain⟨es,hee⟩: ∃es,es=es0.take 400:=⟨_,rfl⟩;have hes:es.length<=400:=by rw[hee];simp;omega
 obtain⟨rs,hre⟩: ∃rs,rs=(zA es 3 0).1:=⟨_,rfl⟩;obtain⟨a1,ha1⟩: ∃a,a=(zA es 3 0).2:=⟨_,rfl⟩;obtain⟨hrg,hrn,hal⟩:(∀r∈rs,mc r)/\rs.length<=3/\a1<=es.length:=by rw[hre,ha1];exact zZ (bQ _)
 have hr1: ∀r∈rs,cF r:=fun r hr=>(hrg r hr).ok;obtain⟨fl,hfe⟩: ∃fl:Int,fl=1+((aB es 2 a1).1:Nat):=⟨_,rfl⟩;have hnl:=ku (es:=es) (n:=2) (a:=a1) (by decide);have hfl:fl=1\/fl=2:=by omega
 obtain⟨b2,hb2e⟩: ∃b,b=(aB es 2 a1).2:=⟨_,rfl⟩;have hb2:b2<=es.length:=by rw[hb2e];exact jz hal
 have hx:=(Jq (fill:=fl) hr1 hrn).x (Nx _ _) (by decide);refine fn func3 J J ntmps3 J J (fun C=>?_);refine cn J ((aC4 hb hee)) (fun _=>J) (fun _=>?_);refine cm J (fun b=>(yH hes hre ha1)) J<|cl J (Ri (rs:=rs) hr1 (by omega)) J<|cm (fu:=⟨1⟩) J (fun b=>(qc (n:=2) hes hal (by decide) (by decide))) J<|?_;refine ak 15 (.d (vI fl)) J (by rw[hfe]<;>rfl) ?_;refine gx J<|cl (fu:=⟨10⟩) J (zX (rs:=rs) hrg hrn (fill:=fl) hfl) J<|VQ (fu:=⟨2⟩) J yB J<|dx J J J<|cl J (Zk (rs:=rs) (fill:=fl) hr1 (by omega)) J<|?_;refine cl J (Uo (rs:=rs) (fill:=fl) hr1 hrn) J<|cl J (UE hx) J<|cl J (T' hx J) J<|?_;exact rz J J
end Go.Sx
end
section
namespace Go.Sx
open Go Go.Proofs Go.ChangeShapes Go.WideShapes Go.ChangeAt Go.RowKit
def GW(w:World):Gh:=fun b=>match w.heap[b]? with|some (.cells cs _ _)=>some cs.toList|_=>none
def GW.sub{w:World}{b:Nat}{cs:List Value}(h:GW w b=some cs): ∃ty fz,w.heap[b]? =some (.cells ⟨cs⟩ ty fz):=by
 unfold GW at h;split at h
 ·rename_i c t f e
  cases h
  exact⟨t,f,by rw[e]⟩
 ·cases h
def GW.of_cell{w:World}{b off:Nat}{v:Value}(h:w.cell? ⟨b,off,none⟩=some v): ∃cs,GW w b=some cs/\cs[off]? =some v:=by
 unfold World.cell? at h;unfold GW;split at h
 ·rename_i c t f e
  simp only at e;refine⟨c.toList,by rw[e],?_⟩;simpa using h
 all_goals first|(rename_i e;cases h)|cases h
def bm.below{w w':World}{G G':Gh}{own:List ao}(h:bm ⟨w,G,[],[],[],none,fun _=>none⟩ own G' w'):Below w.heap.size w w':=
 ⟨h.os,h.tape,h.output,h.size,fun k hk=>h.keep k hk (by simp)⟩
def isLs_vI{G:Gh}: ∀es:List Int,IsLs G (es.map vI) (es.map fun n=>Value.int .i64 n)
 |[]=> .nil
 |n::t=> .cons (bc.2 J) (isLs_vI t)
def open_vI{base:Nat}{H:Type}{enc:TypeId×Value->H}{P:Program}{w:World}{t e:TypeId}{v:Value}{d:DataW H}{ps:List MemPlace}(ht:P.underlying t=some (.slice e))(he:P.underlying e=some (.int .i64))(hc:P.cellsOf e=1)
  (hv:Value.okWide P w .any base t v)(h:DataW.Trod enc P w 0 (fun _=>true) true t v d ps):
  ∃es:List Int,Is (GW w) (.sl (es.map vI)) v/\(d= .nil/\es=[]\/ ∃sp,d= .slice (lits .i64 es) sp)/\(∀n∈es,(Lit.int .i64 n).wf=true):=by
 obtain⟨a0,len,cap,rfl⟩:=okWide_slice ht hv;obtain⟨fuel,hf⟩:=h;rcases open_ints ht he hc hf with⟨hcs,hx⟩|⟨a,len',cap',zs,hcs,_,hl,hm,hz,hx,hcell,hwz⟩
 ·simp[Value.cells] at hcs
  obtain⟨rfl,rfl,rfl⟩:=hcs;simp only[Prod.mk.injEq] at hx;exact⟨[],jn.2 ⟨0,⟨none,0,0⟩,[],J,ee.nil _ 0, .nil⟩, .inl ⟨hx.1,J⟩,by simp⟩
 ·simp[Value.cells] at hcs
  obtain⟨rfl,rfl,rfl⟩:=hcs;simp only[Prod.mk.injEq] at hx;simp only[if_true] at hz;refine⟨zs.take len,jn.2 ⟨1,⟨some a,len,cap⟩,(zs.take len).map fun n=>Value.int .i64 n,J,⟨by simp;omega,hl,?_⟩,isLs_vI _⟩, .inr ⟨_,hx.1⟩,fun n hn=>hwz n (fY hn)⟩;by_cases h0:len=0
  ·exact .inl (by simp[h0])
  ·right
   obtain⟨b,off,spot⟩:=a;have hspot:spot=none:=by simpa[Addr.add] using World.cell?_spot (hcell 0 (by omega))
   subst hspot;have c0: ∀i,i<zs.length->w.cell? ⟨b,off+i,none⟩=some (.int .i64 (zs.getD i 0)):=fun i hi=>by
    have:=hcell i hi;rwa [Go.WideShapes.add_plain] at this
   obtain⟨cs,hcs,_⟩:=GW.of_cell (by have h9:=c0 0 (by omega);rw[fJ] at h9;exact h9);refine⟨b,off,cs,J,hcs,fun i hi=>?_⟩;simp only[aK,cJ] at hi;obtain⟨cs',hcs',hi'⟩:=GW.of_cell (c0 i (by omega));rw[hcs] at hcs'
   cases hcs'
   rw[kS,R8.2 hi'];simp[aD,List.getD,aZ (show i<zs.length by omega)]
inductive CSh where
 |b
 |i (k:IntKind)
 |sl (ag:Bool) (l:List CSh)
mutual
def Fit:CSh->DV->Prop
 | .b,d=> ∃b,d= .v (.bool b)
 | .i k,d=> ∃n,d= .v (.int k n)/\(Lit.int k n).wf=true
 | .sl ag l,d=> ∃m:List DV,d= .sl m/\m.length<=maxLen/\ ∀x∈m,∃ys,FitL l ys/\((ag=true/\x= .ag ys)\/(ag=false/\ys=[x]))
def FitL:List CSh->List DV->Prop
 |[],ds=>ds=[]
 |s::l,ds=> ∃d t,ds=d::t/\Fit s d/\FitL l t
end
def flatF(r:TypeId->Option (Bool×List CSh))(P:Program):List Field->Nat->Option (List CSh)
 |[],_=>some []
 |f::fs,o=>match r f.type with
  |some (_,l)=>if f.offset=o/\P.cellsOf f.type=l.length then(flatF r P fs (o+l.length)).map (l++ ·) else none
  |none=>none
def flatT(P:Program):Nat->TypeId->Option (Bool×List CSh)
 |0,_=>none
 |n+1,t=>match P.underlying t with
  |some .bool=>some (false,[.b])
  |some (.int k)=>some (false,[.i k])
  |some (.slice e)=>match flatT P n e with
   |some (a,l)=>if P.cellsOf e=l.length/\0<l.length then some (false,[.sl a l]) else none
   |none=>none
  |some (.struct fs)=>match flatF (flatT P n) P fs.toList 0 with
   |some l=>if P.cellsOf t=l.length then some (true,l) else none
   |none=>none
  |_=>none
section
variable {H:Type} {enc:TypeId×Value->H} {P:Program} {w:World}
end
def shI:List CSh:=[.b, .sl false [.i .u32]]
def shL:List CSh:=shI++(shI++shI)
end Go.Sx
end
section
namespace Go.Proofs.YtefoocgiaegobaaGreatDoor
open Go.ChangeShapes Go.WideShapes Go.ChangeAt Go.RowKit Go.Sx
theorem js1:mapsRowed Tryz.pinned.checked.prog=true:=by kernel_rfl
theorem js2:Tryz.pinned.checked.prog.stopsHeard=true:=by kernel_rfl
theorem js3:Tryz.pinned.checked.prog.mayEnter=true:=by kernel_rfl
theorem js4:laidOutB Tryz.prog=true:=by kernel_rfl
end Go.Proofs.YtefoocgiaegobaaGreatDoor
end
section
namespace Go.Proofs.YtefoocgiaegobaaGreatDoor.buildMakes
open Go.ChangeShapes Go.WideShapes Go.ChangeAt Go.RowKit Go.Sx
theorem own:ownKnob Tryz.prog.godebug=none:=by kernel_rfl
theorem laidOut:laidOutB Tryz.prog=true:=js4
theorem cellsI:Tryz.prog.cellsOf 3=1:=by kernel_rfl
theorem bytesI:Tryz.prog.bytesOf 3=8:=by kernel_rfl
theorem door_met(os:Os)(args:Array Value):laidMetH Tryz.prog Rows.buildMakesRow.laid ((World.doorLaid Tryz.prog 138 os).forCall (fun _ _=>0) ⟨#[],args,[]⟩).memory:=
 laidMetH_of_parts3 (fuel:=8) (laidMet_of_run' 8 (by kernel_rfl) (by kernel_rfl)) (by kernel_rfl) (by kernel_rfl)
theorem contract(H:Type)(enc:TypeId×Value->H)(W:World)(base:Nat)(args:Array Value)(ds gs:List (DataW H))(before:List MemPlace)
  (hval: ∀(j:Nat) t v,Tryz.f3.params[j]? =some t->args[j]? =some v->Value.okWide Tryz.prog W .any base t v)
  (hW:DataW.Whole enc Tryz.prog Tryz.f3.params.toList Rows.buildMakesSpec.vars false W args.toList ds gs before)
  (hz:(DataW.weightsEach Tryz.prog (Tryz.f3.params.toList++(OpenSpec.ofChange Rows.buildMakesSpec).bare.plain.varTypes Tryz.prog) (ds++gs)).all (· <=reachBytes)=true)(hlaid:laidMetH Tryz.prog Rows.buildMakesRow.laid W):
  Calls Tryz.prog 3 args W fun e W'=> ∃v,e= .returned v/\Rows.buildMakesSpec.post enc Tryz.prog Tryz.f3 false true false false W args v W':=by
 have hW':=hW;obtain⟨p,q,hA0,hV,rfl,_,_⟩:=hW;have hA:DataW.TrodAll enc Tryz.prog W 0 (fun _=>true) true Tryz.f3.params.toList args.toList ds p:=hA0;rw[Tryz.params3] at hA hval hz;obtain⟨v0,d0,hargs,rfl,h0⟩:=trodAll_one hA;obtain rfl:args= #[v0]:=by cases args;simp_all
 obtain⟨rfl,rfl⟩:=trodVars_none hV;clear hA0;simp only[List.append_nil] at hW';have hlt: ∀x∈p,x.block<W.heap.size:=fun x hx=>by simpa using hW'.lt x hx
 obtain⟨es,hI,hd,_⟩:=open_vI Tryz.underlying22 Tryz.underlying3 cellsI (hval 0 22 v0 rfl rfl) h0;have hb:es.length<=1125899906842624:=by
  rcases hd with⟨rfl,rfl⟩|⟨sp,rfl⟩
  ·exact Nat.zero_le _
  ·have:=sized_slice hz (j:=0) (t:=22) (e:=3) J J Tryz.underlying22
   rw[bytesI] at this;have hr:=reachBytes_lt;have hl:(lits (H:=H) .i64 es).length=es.length:=by simp[lits]
   rw[hl] at this;omega
 have hf:=(zO (es0:=es) hb) (GW W) [v0] (bz.refl _) (.cons hI .nil);refine(hf.run W (fun b cs hg=>GW.sub hg)).mono fun e W' ⟨v,G',he,hr,hv⟩=>?_;rw[bc] at hv;subst hv;subst he;have hn:=hr.below;have t2:=trodAll_mk1 (Below.trod laidOut (by kernel_rfl) (of_decide_eq_true (by kernel_rfl)) h0 hn hlt);exact⟨_,J,⟨_,_,_,[],_,[],hW',trodAll_mk1 (shut_bool Tryz.underlying4 _),t2,J,hn.frame _,fun h=>by cases h⟩⟩
theorem reads(os:Os){H:Type}(enc:TypeId×Value->H): ∃places,DataW.whole enc Tryz.prog ((World.doorLaid Tryz.prog 138 os).forCall (fun _ _=>0) ⟨#[], #[.slice none 0 0],[]⟩).memory Tryz.f3.params.toList Rows.buildMakesSpec.vars false #[Value.slice none 0 0].toList 8=some ([.nil],[],places):=
 ⟨[],by kernel_rfl⟩
theorem lifted(os:Os)(started:os.Started)(H:Type)(enc:TypeId×Value->H)(F:Stop.Interp):
  ReturnsInHanded {} Tryz.checked os 3 .any ((OpenSpec.ofChange Rows.buildMakesSpec).preRow enc Tryz.prog Tryz.f3 Rows.buildMakesRow.domain false Rows.buildMakesRow.laid) (((OpenSpec.ofChange Rows.buildMakesSpec).at F).post enc Tryz.prog Tryz.f3 false true false false):=by
 obtain⟨places,hx⟩:=reads os enc;refine returnsInHanded_of_row (C:=Tryz.checked) (s:=OpenSpec.ofChange Rows.buildMakesSpec) own started (by kernel_rfl) Tryz.func3
  (witness_row_atRef (enc:=enc) (C:=Tryz.checked) false (World.doorLaid Tryz.prog 138 os) #[.slice none 0 0] rfl (by kernel_rfl) (by kernel_rfl) (by kernel_rfl)
   (OpenSpec.preRow_of_cond 8 hx (by kernel_rfl) (fun k hk=>by cases hk) (by kernel_rfl) (door_met os _))) ?_
 intro W base args ds gs before hval hW _ _ hz hlaid _ _;exact contract H enc W base args ds gs before hval hW hz hlaid
theorem j1:(Rows.buildMakesRow.inPlace==Tryz.pinned.checked.prog.inPlace 3)=true:=by kernel_rfl
theorem j2:(Rows.buildMakesRow.unfollowed==Tryz.pinned.checked.prog.unfollowed 3)=true:=by kernel_rfl
theorem j3:(Rows.buildMakesRow.recurses==Tryz.pinned.checked.prog.recurses 3)=true:=by kernel_rfl
theorem j4:(Rows.buildMakesRow.named==Tryz.pinned.checked.prog.varsNamed 3)=true:=by kernel_rfl
theorem j5:laidOutB Tryz.pinned.checked.prog=true:=laidOut
theorem j6:mapsRowed Tryz.pinned.checked.prog=true:=js1
theorem j7:Tryz.pinned.checked.prog.mainIs=some (Rows.buildMakesCard.stood.harness.1,Rows.buildMakesCard.stood.harness.2.toList):=by kernel_rfl
theorem j8:false=Rows.buildMakesRow.goesBy Tryz.pinned.checked.prog:=by kernel_rfl
theorem j9:(Rows.buildMakesRow.plainKeys==Tryz.pinned.checked.prog.plainKeys)=true:=by kernel_rfl
theorem j10:(Rows.buildMakesRow.lifted==Tryz.pinned.checked.prog.liftsFinal)=true:=by kernel_rfl
theorem j11:(Tryz.pinned.checked.prog.make==some Rows.buildMakesRow.make)=true:=by kernel_rfl
theorem closed:joinedFacts Tryz.pinned.checked.prog 3 Tryz.f3 (OpenSpec.ofChange Rows.buildMakesSpec).bare Rows.buildMakesRow=true:=by
 unfold joinedFacts;rw[j1,j2,j3,j4,j5,j6,j9,j10,j11,js2,js3]
 kernel_rfl
theorem said:Rows.BuildMakesSaid:=
 OpenClaim.holds_of_cond 3 Tryz.f3 J J J J J J J ⟨J,J,J,J,J⟩ J J J J J (by kernel_rfl) Tryz.func3 closed
  (of_decide_eq_true (by kernel_rfl)) (by unfold Func.isWrapper;first|(rw[if_pos (by decide+kernel)];kernel_rfl)|(rw[if_neg (by decide+kernel)];exact⟨J,J⟩))
  (fun os started H enc _ F=>by rw[OpenClaim.pre_eq_preRow];exact lifted os started H enc F)
theorem plain(f:FuncId)(fn:Func)(hf:Tryz.pinned.checked.prog.funcNamed "bspregion/bspregionlaw18.BuildMakes" =some f)(hfn:Tryz.pinned.checked.prog.funcs[f]? =some fn):
  true=Tryz.pinned.checked.prog.looks []/\ ∀(j:Nat) t,fn.params[j]? =some t->Tryz.pinned.checked.prog.wantsStandIn t=false:=by
 obtain rfl:f=3:=Option.some.inj ((show Tryz.prog.funcNamed "bspregion/bspregionlaw18.BuildMakes" =some 3 by kernel_rfl).symm.trans hf) |>.symm;obtain rfl:fn=Tryz.f3:=(Option.some.inj (Tryz.func3.symm.trans hfn)).symm;refine⟨by kernel_rfl,fun j t ht=>?_⟩;rw[Tryz.params3] at ht;have hm:=Array.mem_of_getElem? ht;simp only[List.mem_toArray,List.mem_cons,List.not_mem_nil,or_false] at hm;subst hm;exact(show Tryz.prog.wantsStandIn 22=false by kernel_rfl)
theorem card:Rows.BuildMakesCardSaid:=
 Claim7.holds_tied_plain_at .later [] _ _ _ _ said (fun _ h=>by cases h) (by kernel_rfl) (fun _ h=>by cases h) buildMakes_row_tie J ⟨J,J⟩ j7 J plain j8
#print axioms card
end Go.Proofs.YtefoocgiaegobaaGreatDoor.buildMakes
end
