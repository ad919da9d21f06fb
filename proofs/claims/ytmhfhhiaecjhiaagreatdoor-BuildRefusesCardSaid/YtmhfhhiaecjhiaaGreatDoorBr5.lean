import Derived.Test.YtmhfhhiaecjhiaaGreatDoorBr4
set_option linter.all false
set_option maxRecDepth 100000
section
namespace Go.Sx
open Go
def tt:TT:=[
 (2,⟨.int .i64,1,some [.d (.v (.int .i64 0))],false⟩),
 (3,⟨.int .i64,1,some [.d (.v (.int .i64 0))],false⟩),
 (4,⟨.bl,1,some [.ff],false⟩),
 (5,⟨.int .u8,1,some [.d (.v (.int .u8 0))],false⟩),
 (9,⟨.sc,1,some [.d (.v (.string ⟨#[]⟩))],false⟩),
 (20,⟨.fc,1,some [.d (.v (.nilIface))],false⟩),
 (22,⟨.sl 3 1 8,1,some [.nl],false⟩),
 (23,⟨.sl 62 6 112,1,some [.nl],false⟩),
 (24,⟨.sl 62 6 112,1,some [.nl],false⟩),
 (25,⟨.sl 79 6 96,1,some [.nl],false⟩),
 (27,⟨.st [(0,25,1)],1,some [.nl],true⟩),
 (31,⟨.sl 24 1 24,1,some [.nl],false⟩),
 (33,⟨.sl 83 1 24,1,some [.nl],false⟩),
 (34,⟨.pt,1,some [.d (.v (.pointer none))],false⟩),
 (37,⟨.sl 180 8 112,1,some [.nl],false⟩),
 (39,⟨.st [(0,3,1),(1,37,1)],2,some [.d (.v (.int .i64 0)), .nl],true⟩),
 (41,⟨.fc,1,some [.d (.v (.nilIface))],false⟩),
 (48,⟨.sl 123 6 96,1,some [.nl],false⟩),
 (52,⟨.int .u16,1,some [.d (.v (.int .u16 0))],false⟩),
 (55,⟨.sl 261 1 4,1,some [.nl],false⟩),
 (56,⟨.sl 261 1 4,1,some [.nl],false⟩),
 (58,⟨.st [(0,4,1),(1,56,1)],2,some [.ff, .nl],true⟩),
 (60,⟨.st [(0,58,2),(2,56,1)],3,some [.ff, .nl, .nl],true⟩),
 (62,⟨.st [(0,60,3),(3,60,3)],6,some [.ff, .nl, .nl, .ff, .nl, .nl],true⟩),
 (64,⟨.sl 261 1 4,1,some [.nl],false⟩),
 (66,⟨.st [(0,4,1),(1,64,1)],2,some [.ff, .nl],true⟩),
 (68,⟨.st [(0,66,2),(2,64,1)],3,some [.ff, .nl, .nl],true⟩),
 (70,⟨.st [(0,68,3),(3,68,3)],6,some [.ff, .nl, .nl, .ff, .nl, .nl],true⟩),
 (79,⟨.st [(0,58,2),(2,58,2),(4,58,2)],6,some [.ff, .nl, .ff, .nl, .ff, .nl],true⟩),
 (83,⟨.sl 70 6 112,1,some [.nl],false⟩),
 (85,⟨.st [(0,22,1),(1,3,1)],2,some [.nl, .d (.v (.int .i64 0))],true⟩),
 (88,⟨.sl 93 1 24,1,some [.nl],false⟩),
 (91,⟨.sl 139 17 128,1,some [.nl],false⟩),
 (92,⟨.sl 102 6 48,1,some [.nl],false⟩),
 (93,⟨.sl 102 6 48,1,some [.nl],false⟩),
 (95,⟨.pt,1,some [.d (.v (.pointer none))],false⟩),
 (98,⟨.pt,1,some [.d (.v (.pointer none))],false⟩),
 (100,⟨.st [(0,2,1),(1,2,1),(2,98,1)],3,some [.d (.v (.int .i64 0)), .d (.v (.int .i64 0)), .d (.v (.pointer none))],true⟩),
 (102,⟨.st [(0,100,3),(3,100,3)],6,some [.d (.v (.int .i64 0)), .d (.v (.int .i64 0)), .d (.v (.pointer none)), .d (.v (.int .i64 0)), .d (.v (.int .i64 0)), .d (.v (.pointer none))],true⟩),
 (115,⟨.sl 135 9 72,1,some [.nl],false⟩),
 (118,⟨.sl 139 17 128,1,some [.nl],false⟩),
 (123,⟨.st [(0,66,2),(2,66,2),(4,66,2)],6,some [.ff, .nl, .ff, .nl, .ff, .nl],true⟩),
 (135,⟨.st [(0,100,3),(3,100,3),(6,100,3)],9,some [.d (.v (.int .i64 0)), .d (.v (.int .i64 0)), .d (.v (.pointer none)), .d (.v (.int .i64 0)), .d (.v (.int .i64 0)), .d (.v (.pointer none)), .d (.v (.int .i64 0)), .d (.v (.int .i64 0)), .d (.v (.pointer none))],true⟩),
 (137,⟨.st [(0,100,3),(3,100,3),(6,4,1),(7,4,1)],8,some [.d (.v (.int .i64 0)), .d (.v (.int .i64 0)), .d (.v (.pointer none)), .d (.v (.int .i64 0)), .d (.v (.int .i64 0)), .d (.v (.pointer none)), .ff, .ff],true⟩),
 (139,⟨.st [(0,135,9),(9,137,8)],17,some [.d (.v (.int .i64 0)), .d (.v (.int .i64 0)), .d (.v (.pointer none)), .d (.v (.int .i64 0)), .d (.v (.int .i64 0)), .d (.v (.pointer none)), .d (.v (.int .i64 0)), .d (.v (.int .i64 0)), .d (.v (.pointer none)), .d (.v (.int .i64 0)), .d (.v (.int .i64 0)), .d (.v (.pointer none)), .d (.v (.int .i64 0)), .d (.v (.int .i64 0)), .d (.v (.pointer none)), .ff, .ff],true⟩),
 (150,⟨.sl 60 3 56,1,some [.nl],false⟩),
 (151,⟨.sl 56 1 24,1,some [.nl],false⟩),
 (156,⟨.pt,1,some [.d (.v (.pointer none))],false⟩),
 (158,⟨.st [(0,41,1),(1,3,1),(2,3,1),(3,9,1)],4,some [.d (.v (.nilIface)), .d (.v (.int .i64 0)), .d (.v (.int .i64 0)), .d (.v (.string ⟨#[]⟩))],true⟩),
 (164,⟨.o,12,some [.d (.v (.int .i64 0)), .d (.v (.int .i64 0)), .d (.v (.pointer none)), .d (.v (.int .i64 0)), .d (.v (.int .i64 0)), .d (.v (.pointer none)), .d (.v (.int .i64 0)), .d (.v (.int .i64 0)), .d (.v (.pointer none)), .d (.v (.int .i64 0)), .d (.v (.int .i64 0)), .d (.v (.pointer none))],true⟩),
 (168,⟨.st [],0,some [],true⟩),
 (170,⟨.pt,1,some [.d (.v (.pointer none))],false⟩),
 (172,⟨.st [(0,3,1),(1,105,1)],2,some [.d (.v (.int .i64 0)), .d (.v (.nilFunc))],true⟩),
 (178,⟨.st [(0,135,9),(9,95,1),(10,95,1),(11,4,1)],12,some [.d (.v (.int .i64 0)), .d (.v (.int .i64 0)), .d (.v (.pointer none)), .d (.v (.int .i64 0)), .d (.v (.int .i64 0)), .d (.v (.pointer none)), .d (.v (.int .i64 0)), .d (.v (.int .i64 0)), .d (.v (.pointer none)), .d (.v (.pointer none)), .d (.v (.pointer none)), .ff],true⟩),
 (180,⟨.st [(0,79,6),(6,3,1),(7,3,1)],8,some [.ff, .nl, .ff, .nl, .ff, .nl, .d (.v (.int .i64 0)), .d (.v (.int .i64 0))],true⟩),
 (194,⟨.sl 41 1 16,1,some [.nl],false⟩),
 (219,⟨.int .u64,1,some [.d (.v (.int .u64 0))],false⟩),
 (255,⟨.int .u64,1,some [.d (.v (.int .u64 0))],false⟩),
 (261,⟨.int .u32,1,some [.d (.v (.int .u32 0))],false⟩),
 (269,⟨.st [(0,58,2),(2,56,1)],3,some [.ff, .nl, .nl],true⟩),
 (272,⟨.int .i64,1,some [.d (.v (.int .i64 0))],false⟩),
 (311,⟨.int .u64,1,some [.d (.v (.int .u64 0))],false⟩),
 (315,⟨.pt,1,some [.d (.v (.pointer none))],false⟩),
 (317,⟨.sl 237 1 8,1,some [.nl],false⟩),
 (320,⟨.sl 100 3 24,1,some [.nl],false⟩),
 (361,⟨.o,32,some (List.replicate 32 (.d (.v (.int .u8 0)))),true⟩),
 (362,⟨.o,64,some (List.replicate 64 (.d (.v (.int .u8 0)))),true⟩),
 (364,⟨.pt,1,some [.d (.v (.pointer none))],false⟩),
 (389,⟨.st [(0,9,1)],1,some [.d (.v (.string ⟨#[]⟩))],true⟩)]
def e8:kO Go.Proofs.Tryz.prog tt:=kO.of (by kernel_rfl)
end Go.Sx
end
section
namespace Go.Sx
open Go Go.Proofs Tryz
def mP:Nat->List DV->av
 |_,[]=>[]
 |i,v::t=>(i, .d v)::mP (i+1) t
class Fu where n:Nat
instance fu0:Fu:=⟨400⟩
section
variable {GB:Gh} {C:aC} {n:Nat} {Q0:Exit->Act->World->Prop} {fr fr':av} {own own':aF} {cf cf':Cf} {vc vc':List Prop} {ops:Array Oper} {r:List Oper} {o:Oper} {K:List Kt}
def ew{q:Nat}(h:go tt n q [] fr own cf=⟨vc,fr',own',cf'⟩)(hv:aj vc)(k:ak prog GB C n Q0 fr' own' cf'):ak prog GB C n Q0 fr own cf:=by
 have:=(gH (GB:=GB) (C:=C) (Q0:=Q0) e8 follows q [] fr own cf (by rw[h];exact hv)).2;rw[h] at this;exact this k
def gx[fu:Fu](h:go tt n fu.n [] fr own cf=⟨vc,fr',own',cf'⟩)(k:ak prog GB C n Q0 fr' own' cf')(hv:aj vc:=by first|exact trivial|(simp only[aj];kernel_rfl)|(simp only[aj];omega)|(simp only[aj,aX,aR,aW];omega)):ak prog GB C n Q0 fr own cf:=ew h hv k
def KA: ∀{ds:List DV} {vs:List Value} {ρ:NE} {G:Gh} (i:Nat),IsLs G ds vs-> ∀k f,bi (mP i ds) k=some f-> ∃y,(∃j,k=i+j/\vs[j]? =some y)/\b6 ρ G f y
 |[],vs,ρ,G,i,h,k,f,e=>by cases e
 |d::t,vs,ρ,G,i,h,k,f,e=>by
  obtain⟨y,m,rfl,h1,h2⟩:=bm.1 h;simp only[mP] at e;rw[il] at e;split at e
  .cases e;rename_i hk;exact⟨y,⟨0,hk,rfl⟩,h1⟩
  .obtain⟨u,⟨j,hj,hu⟩,h3⟩:=KA (i+1) h2 k f e
   exact⟨u,⟨j+1,by omega,by simpa using hu⟩,h3⟩
def rp{ds:List DV}{vs:List Value}{ρ:NE}{G:Gh}{a:Act}(h:IsLs G ds vs)(hf:kc (lA 0 vs) a)(k:Nat)(f:FX)(e:bi (mP 0 ds) k=some f): ∃y,a.tmps[k]? =some y/\b6 ρ G f y:=by
 obtain⟨y,⟨j,hj,hy⟩,h1⟩:=KA (ρ:=ρ) 0 h k f e;refine⟨y,hf k y ?_,h1⟩;rw[hj];exact wu vs 0 j y hy
def fn[fu:Fu]{f:FuncId}{fb:Func}{c:Code}{m:Nat}{ds:List DV}{rv:DV}(hf:prog.funcs[f]? =some fb)(hb:fb.body=some c)(hn:(fb.name== "runtime.NumGoroutine")=false)(hm:fb.ntmps=m)(hlen:Nat.ble ds.length m=true)
  (hgo:go tt m fu.n [] (mP 0 ds) [] (.code c [])=⟨vc,fr,own,cf⟩)(k: ∀C:aC,ak prog GB C m (eH C prog fb (fP C (fun v G'=>Is G' rv v))) fr own cf)
  (hv:aj vc:=by first|exact trivial|(simp only[aj];kernel_rfl)|(simp only[aj];omega)|(simp only[aj,aX,aR,aW];omega)):PF GB prog f ds rv:=by
 intro G vs hg hvs;refine Fn.introR hf hb hn hm (by rw[hvs.len];exact hlen) fun C _ _ hrd hfx=>?_;intro a w rl;refine tk hrd ?_;have h:=ew (GB:=GB) (C:=C) (Q0:=eH C prog fb (fP C (fun v G'=>Is G' rv v))) hgo hv (k C);exact h.run (fun _=>⟨none,0,0⟩) G [] a w ⟨hg,rl.h,rl.sz,rl.df,(fun k f e=>rp hvs rl.fr k f e),(fun nm B e=>by cases e),(fun nm nm' B B' e=>by cases e),fun nm p _ _ e=>by rw[hfx] at e;cases e⟩
def ak.cond{c:Operand}{x y:Code}{b:Bool}{f:FX}(hc:aI (bi fr) c=some f)(hb:qD f=some b)(h1:b=true->ak prog GB C n Q0 fr own (.code x K))(h2:b=false->ak prog GB C n Q0 fr own (.code y K)):ak prog GB C n Q0 fr own (.code (.cond c x y) K):=SX.cond hc hb h1 h2
variable {fr1 fr2:av} {own1 own2:aF} {cf1 cf2:Cf} {vc1 vc2:List Prop}
def br[fu1:Fu][fu2:Fu]{p:Prop}{hp:Decidable p}{c:Operand}{x y:Code}(hc:aI (bi fr) c=some (.pr p hp))(g1:go tt n fu1.n [] fr own (.code x K)=⟨vc1,fr1,own1,cf1⟩)(g2:go tt n fu2.n [] fr own (.code y K)=⟨vc2,fr2,own2,cf2⟩)
  (k1:p->ak prog GB C n Q0 fr1 own1 cf1)(k2: ¬p->ak prog GB C n Q0 fr2 own2 cf2)
  (v1:p->aj vc1:=by intro;first|exact trivial|(simp only[aj];omega)|(simp only[aj,aX,aR,aW];omega))(v2: ¬p->aj vc2:=by intro;first|exact trivial|(simp only[aj];omega)|(simp only[aj,aX,aR,aW];omega)):ak prog GB C n Q0 fr own (.code (.cond c x y) K):=
 .cond hc J (fun h=>ew g1 (v1 (of_decide_eq_true h)) (k1 (of_decide_eq_true h))) (fun h=>ew g2 (v2 (of_decide_eq_false h)) (k2 (of_decide_eq_false h)))
def bd[fu1:Fu][fu2:Fu]{p:Prop}{hp:Decidable p}{c:Operand}{x y:Code}(hc:aI (bi fr) c=some (.d (.v (.bool (@decide p hp)))))(g1:go tt n fu1.n [] fr own (.code x K)=⟨vc1,fr1,own1,cf1⟩)(g2:go tt n fu2.n [] fr own (.code y K)=⟨vc2,fr2,own2,cf2⟩)
  (k1:p->ak prog GB C n Q0 fr1 own1 cf1)(k2: ¬p->ak prog GB C n Q0 fr2 own2 cf2)
  (v1:p->aj vc1:=by intro;first|exact trivial|(simp only[aj];omega)|(simp only[aj,aX,aR,aW];omega))(v2: ¬p->aj vc2:=by intro;first|exact trivial|(simp only[aj];omega)|(simp only[aj,aX,aR,aW];omega)):ak prog GB C n Q0 fr own (.code (.cond c x y) K):=
 .cond hc J (fun h=>ew g1 (v1 (of_decide_eq_true h)) (k1 (of_decide_eq_true h))) (fun h=>ew g2 (v2 (of_decide_eq_false h)) (k2 (of_decide_eq_false h)))
def bb[fu1:Fu][fu2:Fu]{b:Bool}{c:Operand}{x y:Code}(hc:aI (bi fr) c=some (.d (.v (.bool b))))(g1:go tt n fu1.n [] fr own (.code x K)=⟨vc1,fr1,own1,cf1⟩)(g2:go tt n fu2.n [] fr own (.code y K)=⟨vc2,fr2,own2,cf2⟩)
  (k1:b=true->ak prog GB C n Q0 fr1 own1 cf1)(k2:b=false->ak prog GB C n Q0 fr2 own2 cf2)
  (v1:b=true->aj vc1:=by intro;first|exact trivial|(simp only[aj];omega)|(simp only[aj,aX,aR,aW];omega))(v2:b=false->aj vc2:=by intro;first|exact trivial|(simp only[aj];omega)|(simp only[aj,aX,aR,aW];omega)):ak prog GB C n Q0 fr own (.code (.cond c x y) K):=
 .cond hc J (fun h=>ew g1 (v1 h) (k1 h)) (fun h=>ew g2 (v2 h) (k2 h))
def n5{d:Nat}{f g:FX}(hl:bi fr d=some f)(hi: ∀ρ G y,b6 ρ G f y->b6 ρ G g y){Φ:Act->World->Prop}(h:SX GB C n (bi ((d,g)::fr)) (bu own) Φ):SX GB C n (bi fr) (bu own) Φ:=by
 refine⟨fun ρ G ov a w r=>h.run ρ G ov a w ⟨r.gb,r.h,r.sz,r.df,fun k f' e=>?_,r.bx,r.dj,r.fxd⟩⟩;rw[il] at e;split at e
 .cases e;rename_i hk;subst hk
  obtain⟨y,h1,h2⟩:=r.fx _ _ hl;exact⟨y,h1,hi _ _ _ h2⟩
 .exact r.fx k f' e
def ah(d:Nat){f:FX}(g:FX)(hl:bi fr d=some f)(e:f=g)(h:ak prog GB C n Q0 ((d,g)::fr) own cf):ak prog GB C n Q0 fr own cf:=by
 have hs:bi ((d,g)::fr)=bi fr:=by
  funext k;rw[il];split
  .rename_i hk;rw[hk,hl,e]
  .rfl
 cases cf with
 |dr id ops fr0 own0 us r K=>exact fun D=>h ⟨D.pre,by rw[hs];exact D.st,D.snd⟩
 |_=>unfold ak at h⊢;rw[hs] at h;exact h
def kT(d:Nat){p:Prop}{hp:Decidable p}(hl:bi fr d=some (.pr p hp))(h:p)(k:ak prog GB C n Q0 ((d, .tt)::fr) own (.ops ops r K)):ak prog GB C n Q0 fr own (.ops ops r K):=
 n5 hl (fun _ _ _ e=>by rw[show _=_ from e,decide_eq_true h];exact J) k
def kF(d:Nat){p:Prop}{hp:Decidable p}(hl:bi fr d=some (.pr p hp))(h: ¬p)(k:ak prog GB C n Q0 ((d, .ff)::fr) own (.ops ops r K)):ak prog GB C n Q0 fr own (.ops ops r K):=
 n5 hl (fun _ _ _ e=>by rw[show _=_ from e,decide_eq_false h];exact J) k
def RZ(d:Nat)(hl:bi fr d=some .nl){e:Exit}(h:ak prog GB C n Q0 ((d, .d (.sl []))::fr) own (.ex e K)):ak prog GB C n Q0 fr own (.ex e K):=
 n5 (g:= .d (.sl [])) hl (fun ρ G y hy=>(show Is G (.sl []) y from nH (ρ:=ρ) (f:= .nl) hy J)) h
def PF.to{f:FuncId}{ds:List DV}{r1 r2:DV}{P:Program}(h:PF GB P f ds r1)(e:r1=r2):PF GB P f ds r2:=e▸h
def cs[fu1:Fu][fu2:Fu](d:Nat){p:Prop}{hp:Decidable p}(hl:bi fr d=some (.pr p hp))(g1:go tt n fu1.n [] ((d, .tt)::fr) own (.ops ops r K)=⟨vc1,fr1,own1,cf1⟩)(g2:go tt n fu2.n [] ((d, .ff)::fr) own (.ops ops r K)=⟨vc2,fr2,own2,cf2⟩)
  (k1:p->ak prog GB C n Q0 fr1 own1 cf1)(k2: ¬p->ak prog GB C n Q0 fr2 own2 cf2)
  (v1:p->aj vc1:=by intro;first|exact trivial|(simp only[aj];omega)|(simp only[aj,aX,aR,aW];omega))(v2: ¬p->aj vc2:=by intro;first|exact trivial|(simp only[aj];omega)|(simp only[aj,aX,aR,aW];omega)):ak prog GB C n Q0 fr own (.ops ops r K):=by
 by_cases h:p
 .exact n5 hl (fun _ _ _ e=>by rw[show _=_ from e,decide_eq_true h];exact J) (ew g1 (v1 h) (k1 h))
 .exact n5 hl (fun _ _ _ e=>by rw[show _=_ from e,decide_eq_false h];exact J) (ew g2 (v2 h) (k2 h))
def mh[fu1:Fu][fu2:Fu](d:Nat){b:Bool}(hl:bi fr d=some (.d (.v (.bool b))))(g1:go tt n fu1.n [] ((d, .tt)::fr) own (.ops ops r K)=⟨vc1,fr1,own1,cf1⟩)(g2:go tt n fu2.n [] ((d, .ff)::fr) own (.ops ops r K)=⟨vc2,fr2,own2,cf2⟩)
  (k1:b=true->ak prog GB C n Q0 fr1 own1 cf1)(k2:b=false->ak prog GB C n Q0 fr2 own2 cf2)
  (v1:b=true->aj vc1:=by intro;first|exact trivial|(simp only[aj];omega)|(simp only[aj,aX,aR,aW];omega))(v2:b=false->aj vc2:=by intro;first|exact trivial|(simp only[aj];omega)|(simp only[aj,aX,aR,aW];omega)):ak prog GB C n Q0 fr own (.ops ops r K):=by
 cases h:b with
 |true=>exact n5 hl (fun _ G _ e=>by rw[(aP (G:=G)).1 e,h];exact J) (ew g1 (v1 h) (k1 h))
 |false=>exact n5 hl (fun _ G _ e=>by rw[(aP (G:=G)).1 e,h];exact J) (ew g2 (v2 h) (k2 h))
def GZ:Cf->Option (Array Oper×Oper)
 | .ops ops (o::_) _=>some (ops,o)
 | .dr _ ops _ _ _ (o::_) _=>some (ops,o)
 |_=>none
def bw(fr:av):Cf->LK
 | .dr _ ops _ _ _ (o::_) _=>kh (xJ ops o) (bi fr)
 |_=>bi fr
def fE(fr:av)(own:aF):Cf->BM
 | .dr _ ops _ _ _ (o::_) _=>kh (Cv o fr (xJ ops o)) (bu own)
 |_=>bu own
def l9:vM:=⟨[False],[],[], .ex .normal []⟩
def cv(T:TT)(n q:Nat)(fr:av)(own:aF)(cf:Cf)(f:FX)(bl:List (Nat×Option Bk))(nw:List Nat):vM:=match cf with
 | .ops ops (o::r) K=>bif qA nw o.dst fr own&&cg n o.dst then oO own bl fun own'=>wj fr o.dst f fun fr'=>go T n q [] fr' own' (.ops ops r K) else l9
 | .dr id ops fr0 own0 us (o::r) K=>bif cg n o.dst then jE (xJ ops o) fun rs=>jE (Cv o fr rs) fun rn=>oO own bl fun own'=>jE (us++[⟨rs,o.dst,f,rn,bl,nw⟩]) fun us'=>wj fr o.dst f fun fr'=>go T n q [] fr' own' (.dr id ops fr0 own0 us' r K) else l9
 |_=>l9
def ua(ops:Array Oper)(lk:LK):Option (Nat×Bool)->Bool
 |none=>true
 |some (j,b)=>match ops[j]? with
  |some oj=>match oj.dst with
   |some d=>match lk d with
    |some .tt=>b
    |some .ff=>!b
    |_=>false
   |none=>false
  |none=>false
def An{lk:LK}{bk:BM}{o:Oper}(h:ua ops lk o.guard=true): ∀ρ G ov a w,b5 GB C n lk bk ρ G ov a w->Region.wanted o (yielded ops a.tmps)=true:=fun ρ G ov a w r=>by
 unfold Region.wanted;unfold ua at h;split at h
 .rename_i e;rw[e]
 .rename_i j b e
  rw[e];split at h<;>try (cases h;done)
  rename_i oj hj;split at h<;>try (cases h;done)
  rename_i d hd;split at h<;>try (cases h;done)
  .rename_i hl
   obtain⟨y,h1,h2⟩:=zu r hj hd hl
   cases h1;simp only[h2];subst h;rfl
  .rename_i hl
   obtain⟨y,h1,h2⟩:=zu r hj hd hl
   cases h1;simp only[h2];cases b<;>first|rfl|(simp at h)
def uo{q:Nat}{f:FX}{bl:List (Nat×Option Bk)}{nw:List Nat}(hh:GZ cf=some (ops,o))(hg:ua ops (bw fr cf) o.guard=true)(h:b7 prog GB C n (bw fr cf) (fE fr own cf) o f bl nw)
  (hgo:cv tt n q fr own cf f bl nw=⟨vc,fr',own',cf'⟩)(hv:aj vc)(k:ak prog GB C n Q0 fr' own' cf'):ak prog GB C n Q0 fr own cf:=by
 obtain⟨dst,op,ty,pos,af,gd⟩:=o
 cases cf with
 |ops ops' r K=>
  cases r with
  |nil=>cases hh
  |cons o' r=>
   cases hh
   unfold cv at hgo
   cases hc:(qA nw dst fr own&&cg n dst) with
   |false=>simp only[hc,cond_false,l9] at hgo;cases hgo;exact absurd hv (fun x=>x)
   |true=>
    simp only[hc,cond_true] at hgo;simp only[ur,wz] at hgo;simp only[aM] at hc;exact SX.op (h.toS hc.2 (An hg)) (zQ hc.1) (ew hgo hv k)
 |dr id ops' fr0 own0 us r K=>
  cases r with
  |nil=>cases hh
  |cons o' r=>
   cases hh
   unfold cv at hgo
   cases hc:cg n dst with
   |false=>simp only[hc,cond_false,l9] at hgo;cases hgo;exact absurd hv (fun x=>x)
   |true=>
    simp only[hc,cond_true,rC] at hgo;simp only[ur,wz] at hgo;intro D;exact ew hgo hv k (D.push (h.toS hc (An hg)))
 |_=>cases hh
def qt(lk:LK)(fo:Operand)(args:Array Operand):Option (FuncId×List DV):=match aI lk fo with
 |some (.d (.v (.func (.func f) ⟨[]⟩ ⟨[]⟩)))=>match evDs lk args.toList with
  |some ds=>some (f,ds)
  |none=>none
 |_=>none
def yB{lk:LK}{fo:Operand}{args:Array Operand}{f:FuncId}{ds:List DV}(h:qt lk fo args=some (f,ds)):aI lk fo=some (.d (.v (.func (.func f) #[] #[])))/\evDs lk args.toList=some ds:=by
 unfold qt at h;split at h<;>try (cases h;done)
 rename_i h1;split at h<;>cases h;rename_i h2;exact⟨h1,h2⟩
def Jl{lk:LK}{bk:BM}{fo:Operand}{args:Array Operand}{tys:Array TypeId}{f:FuncId}{ds:List DV}{rv:DV}{dst:Option Nat}{ty:TypeId}{pos:String}{af:Array Edge}{gd:Option (Nat×Bool)}(ha:qt lk fo args=some (f,ds))(hF:PF GB prog f ds rv):
  b7 prog GB C n lk bk ⟨dst, .call ⟨.value fo,args,tys⟩,ty,pos,af,gd⟩ (.d rv) [] []:=by
 intro hd tl tb K' s1 s2 hf hk;refine⟨fun ρ G ov a w r Q=>?_⟩;obtain⟨h1,h2⟩:=yB ha;obtain⟨y,hy,hy'⟩:=(r.mono s1 s2).ev h1;rw[(aP (G:=G)).1 hy'] at hy;obtain⟨vs,h3,h4⟩:=(r.mono s1 s2).evDs h2;refine zC hy h3 (hF G vs r.gb h4) hd (fun v G' hG hK a' w' rl=>?_) a w Q ⟨r.h,r.sz,c6 a,r.df⟩;exact hk.run ρ G' ov a' w' ⟨r.gb.trans hG.le,rl.h,rl.sz,rl.df,(jz rl).fx (fun k g _ e=>by obtain⟨u,h5,h6⟩:=r.fx k g e;exact⟨u,h5,h6.up hG.le⟩) hK,
  fun nm B e=>by obtain⟨os,h5,h6⟩:=r.bx nm B e;exact⟨os,h5.up hG.le,h6⟩,r.dj,r.fxd⟩
def mF(T:TT)(fr:av)(own:aF):List ResultVar->Option (List DV)
 |[]=>some []
 | .tmp t::rs=>match bi fr t with
  |some f=>match j' f with
   |some d=>match mF T fr own rs with
    |some l=>some (d::l)
    |none=>none
   |none=>none
  |none=>none
 | .cell a t::rs=>match bi fr a with
  |some (.ov nm 0)=>match de T t with
   |some i=>match bu own nm with
    |some (.o _ cs _)=>match i.ag with
     |some (some k)=>match takeX cs 0 k with
      |some c=>match ki c with
       |some d=>match mF T fr own rs with
        |some l=>some (.ag d::l)
        |none=>none
       |none=>none
      |none=>none
     |some none=>match cs[0]? with
      |some c=>match j' c with
       |some d=>match mF T fr own rs with
        |some l=>some (d::l)
        |none=>none
       |none=>none
      |none=>none
     |none=>none
    |_=>none
   |none=>none
  |_=>none
def uF{ρ:NE}{G:Gh}{ov:List au}{a:Act}{w:World}(h:b5 GB C n (bi fr) (bu own) ρ G ov a w): ∀{rs:List ResultVar} {ds:List DV},mF tt fr own rs=some ds-> ∃vs,jr prog (cC a) ov rs vs/\IsLs G ds vs:=by
 intro rs
 induction rs with
 |nil=>intro ds e;cases e;exact⟨[], .nil, .nil⟩
 |cons x rs ih=>
  intro ds e
  cases x with
  |tmp t=>
   simp only[mF] at e;split at e<;>try (cases e;done)
   rename_i f hf;split at e<;>try (cases e;done)
   rename_i d hd;split at e<;>cases e;rename_i l hl;obtain⟨vs,h1,h2⟩:=ih hl;obtain⟨y,h3,h4⟩:=h.fx t f hf;exact⟨y::vs, .tmp (wi h3) h1, .cons (nH h4 hd) h2⟩
  |cell t ty=>
   simp only[mF] at e;split at e<;>try (cases e;done)
   rename_i nm hf;split at e<;>try (cases e;done)
   rename_i i hi;split at e<;>try (cases e;done)
   rename_i hb;obtain⟨y,h3,h4⟩:=h.fx t _ hf;obtain⟨b,m,rfl,h5,h6,h7⟩:=h.own h4 hb;have oat:gz ov b m _ _:=⟨h7⟩;split at e<;>try (cases e;done)
   .rename_i k ha
    split at e<;>try (cases e;done)
    rename_i c hc;split at e<;>try (cases e;done)
    rename_i d hd;split at e<;>cases e;rename_i l hl;obtain⟨vs,h1,h2⟩:=ih hl;obtain⟨l',h8,h9⟩:=h6.takeX hc;exact⟨.agg ⟨l'⟩::vs, .agg (wi h3) oat (wT (e8 _ _ hi) ha) h8 h1, .cons (dm.2 ⟨l',J,uK h9 hd⟩) h2⟩
   .rename_i ha
    split at e<;>try (cases e;done)
    rename_i c hc;split at e<;>try (cases e;done)
    rename_i d hd;split at e<;>cases e;rename_i l hl;obtain⟨vs,h1,h2⟩:=ih hl;obtain⟨l',h8,h9⟩:=h6.get hc;exact⟨l'::vs, .sc (wi h3) oat (vd (e8 _ _ hi) ha) h8 h1, .cons (nH h9 hd) h2⟩
def uH:Exit->Bool
 | .ret=>true
 | .normal=>true
 |_=>false
def rz{fb:Func}{e:Exit}{ds:List DV}{rv:DV}(hr:mF tt fr own fb.results.toList=some ds)(hd:gm ds=rv)(he:uH e=true:=by rfl):ak prog GB C n (eH C prog fb (fP C (fun v G'=>Is G' rv v))) fr own (.ex e []):=by
 refine⟨fun ρ G ov a w r=>?_⟩;obtain⟨vs,h1,h2⟩:=uF r hr;have hk:Is G rv (kH vs):=hd▸uY h2
 cases e with
 |ret=>exact zD (C:=C) (n:=n) (fr:=cC a) (own:=ov) (G:=G) (K:=fun v G'=>Is G' rv v) h1 hk a w ⟨r.h,r.sz,c6 a,r.df⟩
 |normal=>exact Gs (C:=C) (n:=n) (fr:=cC a) (own:=ov) (G:=G) (K:=fun v G'=>Is G' rv v) h1 hk a w ⟨r.h,r.sz,c6 a,r.df⟩
 |_=>cases he
end
end Go.Sx
end
section
namespace Go.Sx
open Go
section
variable {P:Program} {GB:Gh} {C:aC} {n:Nat} {E:nP} {fr fr':dP} {own own':List c9} {bs bs' bs1:List dx} {ops:Array Oper} {Q:Exit->Act->World->Prop} {r:List Oper} {Φ:Act->World->Prop}
variable {dst:Option Nat} {t t' ty':TypeId} {pos:String} {af:Array Edge} {gd:Option (Nat×Bool)} {x y z:Operand} {e s by_:Nat}
class aKW (P:Program) (t:TypeId) (d:outParam DV):Prop where
 z: ∃z,gk P t z/\Is (fun _=>none) d z/\d.okc=true
abbrev SV.f (w:SV):FV:= .d (.v (.slice w.a w.n w.c))
def aiL(z:Value)(k:Nat):aG (List.replicate k z)=dG z k:=by unfold aG dG;rw[List.map_replicate]
def Oi{G:Gh}{d:DV}{y:Value}(h:Is G d y): ∀k:Nat,IsLs G (List.replicate k d) (List.replicate k y)
 |0=> .nil
 |k+1=> .cons h (Oi h k)
def Vj(fr:dP):Nat->List (Nat×Operand)->Option (List DV)
 |_,[]=>some []
 |j,(i,x)::r=>match Cj fr x,Vj fr (j+1) r with
  |some d,some l=>bif Nat.beq i j then some (d::l) else none
  |_,_=>none
def KN(pre mid post vs:List Value)(h:vs.length=mid.length):cp (pre++(mid++post)) pre.length vs=pre++(vs++post):=by
 rw[oF _ _ _ (by simp;omega)];simp[h]
def SB(z:Value)(k:Nat):dG z (k+1)=aE z++dG z k:=by simp[dG,sY]
def Aa(s:Nat)(ds:List DV):Bool:=ds.all fun d=>d.okc&&Nat.beq d.cells.length s
def Ar{ds:List DV}(h:Aa s ds=true):du s ds:=fun d hd=>by
 have:=dT.1 h d hd;simp only[aM] at this;exact⟨this.1,aS this.2⟩
def QE{cs:List Value}{off s:Nat}: ∀(es:List Value),(∀i (h:i<es.length),cA cs (off+i*s) s=some (aE es[i]))->off<=cs.length->cA cs off (es.length*s)=some (aG es)
 |[],_,ho=>by
  rw[jC _ _ _ (by simpa using ho)];simp[aG]
 |v::t,h,ho=>by
  have h0:=h 0 (by simp);simp only[jK,gV,oZ] at h0;obtain⟨k1,k2⟩:=xM h0;have ih:=QE (off:=off+s) t (fun i hi=>by
   have:=h (i+1) (by simpa using hi);rw[fL,show off+(i*s+s)=off+s+i*s by omega] at this;simpa using this) (by omega)
  obtain⟨k3,k4⟩:=xM ih;rw[jC _ _ _ (by simp only[bY,fL];omega)];congr 1;have e1:aG (v::t)=aE v++aG t:=by simp[aG]
  rw[e1,k2,k4,bY,fL,kK (t.length*s) s,List.take_add,tX]
def V5{ov:List au}{G:Gh}{w:SV}{es:List Value}(h:eB G s w es):kC P C ov G s w.n (.slice w.a w.n w.c) (aG es):=by
 rcases h.mem with he|⟨b,off,cs,ha,hg,hc⟩
 .subst he
  rw[h.len];exact tO
 .rw[ha]
  by_cases he:es=[]
  .subst he;rw[h.len];exact tO
  .have hp:0<es.length:=List.length_pos_iff.2 he
   have h0:=hc 0 hp;have:=(xM h0).1;rw[h.len];exact Lm hg (QE es hc (by omega))
def aKT(fr:dP)(bs:List dx)(s:Nat)(y:Operand)(ds:List DV):Prop:=
 (∃l,Cj fr y=some (.sl l)/\l=ds/\du s l)\/ ∃w ty lo,GV fr y=some w.f/\(⟨w,s,ty,ds,lo⟩:dx)∈bs/\du s ds
def aiV[hT:cB P t e s by_][hN:jP P t']{w:World}{ad2:Option Addr}{cap2:Nat}:(Builtin.append_ #[t,t'] ty' #[.slice none 0 0, .slice ad2 0 cap2]).run P w= .ok (.slice none 0 0) w:=by
 obtain⟨d,hd1⟩:=hN.un;obtain⟨i,hi,his,hib⟩:=hT.info;have h0:(Builtin.firstCells i.size 0 (.slice ad2 0 cap2)).run P w= .ok #[] w:=by
  cases ad2 with
  |none=>rfl
  |some a=>unfold Builtin.firstCells loadCells;simp[loadCellsFrom,run_pure]
 simp[Builtin.append_,run_underlying hT.un,run_underlying hd1,sizeOf,typeInfo,hi,Builtin.lenOf,h0]
def Vb[hT:cB P t e s by_][hN:jP P t']{fr:Fr}{own:List au}{G:Gh}{ad2:Option Addr}{cap2:Nat}(hx:aD fr x=some (.slice none 0 0))(hy:aD fr y=some (.slice ad2 0 cap2))(hd:cg n dst=true)
  (h:St C n (put fr dst (.slice none 0 0)) own G Φ):Ch P C n fr own G ⟨dst, .call ⟨.builtin .append, #[x,y], #[t,t']⟩,ty',pos,af,gd⟩ Φ:=by
 intro a w Q rl;refine jv (v:= .slice none 0 0) (w':=w) ?_ (h _ _ (rl.put _ hd));simp only[execOp,resolve,iQ,bJ,dS,bz rl.fr hx,bz rl.fr hy];exact cI aiV
def dq.upd{G:Gh}{w:SV}{s:Nat}{ty:TypeId}{ds:List DV}{lo:Bool}{B:List au}(h:dq G ⟨w,s,ty,ds,lo⟩ B){i:Nat}{d:DV}(hi:ds[i]? =some d):
  ∃b vs rest lo',w.a=some ⟨b,0,none⟩/\B=[⟨b,aG vs++rest,ty,lo'⟩]/\IsLs G ds vs/\(∀v∈vs,(aE v).length=s)/\i<vs.length/\
   ∀u d',Is G d' u->(aE u).length=s->dq G ⟨w,s,ty,ds.set i d',lo⟩ [⟨b,aG (vs.set i u)++rest,ty,lo'⟩]:=by
 obtain⟨vs,hB,hv,hs,hlo⟩:=h;obtain⟨v,h1,h2⟩:=hv.get hi;obtain⟨hi',_⟩:=aT.1 h1;rcases hB with⟨e,_,_⟩|⟨b,rest,lo',h3,h4,h5,h6,h7⟩
 .rw[e] at h1;simp at h1
 .refine⟨b,vs,rest,lo',by simp only[] at h3;rw[h3],h4,hv,hs,hi',fun u d' hu hul=>?_⟩
  have hall: ∀x∈vs.set i u,(aE x).length=s:=fun x hx=>by
   rcases List.mem_or_eq_of_mem_set hx with h'|rfl
   .exact hs x h'
   .exact hul
  refine⟨vs.set i u, .inr ⟨b,rest,lo',by simpa using h3,J,ez _ hall,?_,by simpa using h7⟩,hv.set i hu,hall,fun hl o ho=>?_⟩
  .rw[ez _ hall,aR,<-h5];exact h6
  .have:=hlo hl
   rw[h4] at this;rw[aY.1 ho];have h9:=this ⟨b,aG vs++rest,ty,lo'⟩ aQ;exact h9
def Wq{s:Nat}{rest:List Value}{u:Value}(vs:List Value)(i:Nat)(h:i<vs.length)(hs: ∀v∈vs,(aE v).length=s)(hu:(aE u).length=s):cp (aG vs++rest) (i*s) (aE u)=aG (vs.set i u)++rest:=by
 have hl:=ez vs hs;have hle:i*s+s<=vs.length*s:=by rw[<-fL];exact bV _ h
 rw[oF _ _ _ (by rw[hu,aL];omega),hu,fV (by omega),jM (by omega),Gp vs i hs (by omega),<-fL,Cq vs (i+1) hs h,
  List.set_eq_take_append_cons_drop,if_pos h,show vs.take i++u::vs.drop (i+1)=vs.take i++([u]++vs.drop (i+1)) from J,oc,oc,ug]
 simp
def reF(ks:List Nat)(f:FV)(fr:dP):dP:=ks.map (fun k=>(k,f))++fr
end
end Go.Sx
end
section
namespace Go.Sx
open Go Go.Proofs Tryz
section
variable {GB:Gh} {C:aC} {n:Nat} {Q0:Exit->Act->World->Prop} {fr fr':av} {own own':aF} {cf cf':Cf} {vc vc':List Prop} {ops:Array Oper} {r:List Oper} {o:Oper} {K:List Kt}
def ni(row:Bool)(nm:Nat)(l:List DV):FX->FX
 | .rw m=>bif Nat.beq m nm then(bif row then .d (.sl l) else .no) else .rw m
 | .ov m off=>bif Nat.beq m nm then(bif row then .no else(match off with
  |0=> .d (.pt l)
  |_+1=> .no)) else .ov m off
 | .be m s i j=>bif Nat.beq m nm then .no else .be m s i j
 | .rs m s i j=>bif Nat.beq m nm then .no else .rs m s i j
 | .bx tp pre m post=>bif Nat.beq m nm then(bif row then(match tp with
  |true=> .d (.tp (pre++ .sl l::post))
  |false=> .d (.ag (pre++ .sl l::post))) else .no) else .bx tp pre m post
 |f=>f
def xw{α:Type}(f:FX)(k:FX->α):α:=match f with
 | .d x=>k (.d x)
 | .rw m=>k (.rw m)
 | .ov a b=>k (.ov a b)
 | .be a b c d=>k (.be a b c d)
 | .rs a b c d=>k (.rs a b c d)
 |f=>k f
def CP{α:Type}{f:FX}{k:FX->α}:xw f k=k f:=by cases f<;>rfl
def yu{α:Type}(row:Bool)(nm:Nat)(l:List DV):av->(av->α)->α
 |[],k=>k []
 |(j,f)::t,k=>yu row nm l t fun t'=>xw (ni row nm l f) fun f'=>k ((j,f')::t')
def Ad{α:Type}(row:Bool)(nm:Nat)(l:List DV):List FX->(List FX->α)->α
 |[],k=>k []
 |f::t,k=>Ad row nm l t fun t'=>xw (ni row nm l f) fun f'=>k (f'::t')
def xj{α:Type}(row:Bool)(nm:Nat)(l:List DV):aF->(aF->α)->α
 |[],k=>k []
 |(j,B)::t,k=>xj row nm l t fun t'=>bif Nat.beq j nm then k ((j,none)::t') else match B with
  |some (.o ty cs lo)=>Ad row nm l cs fun cs'=>k ((j,some (.o ty cs' lo))::t')
  |B=>k ((j,B)::t')
def tD(row:Bool)(nm:Nat)(l:List DV):Option Bk->Option Bk
 |some (.o ty cs lo)=>some (.o ty (cs.map (ni row nm l)) lo)
 |B=>B
def ME{α:Type}{row:Bool}{nm:Nat}{l:List DV}: ∀{cs:List FX} {k:List FX->α},Ad row nm l cs k=k (cs.map (ni row nm l))
 |[],k=>rfl
 |f::t,k=>by simp only[Ad,CP];rw[ME];rfl
def HI{α:Type}{row:Bool}{nm:Nat}{l:List DV}: ∀{fr:av} {k:av->α},yu row nm l fr k=k (fr.map fun e=>(e.1,ni row nm l e.2))
 |[],k=>rfl
 |(j,f)::t,k=>by simp only[yu,CP];rw[HI];rfl
def D1{α:Type}{row:Bool}{nm:Nat}{l:List DV}: ∀{own:aF} {k:aF->α},xj row nm l own k=k (own.map fun e=>(e.1,bif Nat.beq e.1 nm then none else tD row nm l e.2))
 |[],k=>rfl
 |(j,B)::t,k=>by
  simp only[xj,D1 (own:=t),bJ]
  cases Nat.beq j nm with
  |true=>rfl
  |false=>
   cases B with
   |none=>rfl
   |some B=>cases B<;>simp only[cond_false,ME,tD]
def Bu{g:FX->FX}: ∀{fr:av} {k:Nat},bi (fr.map fun e=>(e.1,g e.2)) k=(bi fr k).map g
 |[],k=>rfl
 |(j,f)::t,k=>by
  simp only[bJ];rw[il,il,Bu (fr:=t)];split<;>rfl
def M4{row:Bool}{nm:Nat}{l:List DV}: ∀{own:aF} {k:Nat},bu (own.map fun e=>(e.1,bif Nat.beq e.1 nm then none else tD row nm l e.2)) k=if k=nm then none else tD row nm l (bu own k)
 |[],k=>by simp[bu,tD]
 |(j,B)::t,k=>by
  simp only[bJ];rw[jg,jg,M4 (own:=t)];by_cases h:k=j
  .subst h
   simp only[if_true];by_cases e:k=nm
   .subst e;simp
   .have:Nat.beq k nm=false:=by
     cases hb:Nat.beq k nm with
     |false=>rfl
     |true=>exact absurd (aS hb) e
    simp[this,e]
  .simp[h]
structure xq where
 fr:av
 own:aF
def yU(fr:av)(own:aF)(nm:Nat):Option xq:=match bu own nm with
 |some (.b _ _ ds true)=>yu true nm ds fr fun fr'=>xj true nm ds own fun own'=>some ⟨fr',own'⟩
 |some (.o _ cs true)=>match ki cs with
  |some l=>yu false nm l fr fun fr'=>xj false nm l own fun own'=>some ⟨fr',own'⟩
  |none=>none
 |_=>none
def i4.of_mem{o:au}: ∀{own:List au},o∈own-> ∃own',i4 own o own'/\ ∀x∈own,x.b≠o.b->x∈own'
 |[],h=>by cases h
 |x::t,h=>by
  rcases aU.1 h with rfl|h
  .exact⟨t, .hd ..,fun y hy hb=>(aU.1 hy).elim (fun e=>absurd (by rw[e]) hb) id⟩
  .obtain⟨own',h1,h2⟩:=i4.of_mem h
   exact⟨x::own', .tl _ _ _ _ h1,fun y hy hb=>(aU.1 hy).elim (fun e=>by rw[e];exact aQ) (fun e=>aJ _ (h2 y e hb))⟩
def Oj{row:Bool}{nm:Nat}{l:List DV}{ρ:NE}{G G':Gh}{f:FX}{y:Value}(hg:bD G G')(h:b6 ρ G f y)(hr:row=true-> ∀y,b6 ρ G (.rw nm) y->Is G' (.sl l) y)(ho:row=false-> ∀y,b6 ρ G (.ov nm 0) y->Is G' (.pt l) y):b6 ρ G' (ni row nm l f) y:=by
 cases f with
 |rw m=>
  simp only[ni]
  cases hb:Nat.beq m nm with
  |false=>exact h.up hg
  |true=>
   cases aS hb
   cases row with
   |true=>exact hr J y h
   |false=>trivial
 |ov m off=>
  simp only[ni]
  cases hb:Nat.beq m nm with
  |false=>exact h.up hg
  |true=>
   cases aS hb
   cases row with
   |true=>trivial
   |false=>cases off with
    |zero=>exact ho J y h
    |succ=>trivial
 |be m s i j=>
  simp only[ni]
  cases hb:Nat.beq m nm with
  |false=>exact h.up hg
  |true=>trivial
 |rs m s i j=>
  simp only[ni]
  cases hb:Nat.beq m nm with
  |false=>exact h.up hg
  |true=>trivial
 |bx tp pre m post=>
  simp only[ni]
  cases hb:Nat.beq m nm with
  |false=>exact h.up hg
  |true=>
   cases aS hb
   cases row with
   |false=>trivial
   |true=>
    obtain⟨m1,m2,e,h1,h2⟩:=h;have hl:=(h1.up hg).app (.cons (hr J _ J) (h2.up hg))
    cases tp with
    |true=>exact rP.2 ⟨_,e,hl⟩
    |false=>exact dm.2 ⟨_,e,hl⟩
 |_=>exact h.up hg
def JW{row:Bool}{nm:Nat}{l:List DV}{ρ:NE}{G G':Gh}(hg:bD G G')(hr:row=true-> ∀y,b6 ρ G (.rw nm) y->Is G' (.sl l) y)(ho:row=false-> ∀y,b6 ρ G (.ov nm 0) y->Is G' (.pt l) y): ∀{cs:List FX} {m:List Value},dt ρ G cs m->dt ρ G' (cs.map (ni row nm l)) m
 |[],m,h=>h
 |f::t,m,⟨y,q,e,h1,h2⟩=>⟨y,q,e,Oj hg h1 hr ho,JW hg hr ho h2⟩
def b5.frz{ρ:NE}{G G':Gh}{ov ov':List au}{a:Act}{w:World}{row:Bool}{nm:Nat}{l:List DV}(h:b5 GB C n (bi fr) (bu own) ρ G ov a w)(hg:bD G G')(hh:bF C ov' G' w)(hv: ∀o∈ov,(ρ nm).a≠some ⟨o.b,0,none⟩->o∈ov'){B0:Bk}(hb:bu own nm=some B0)
  (hr:row=true-> ∀y,b6 ρ G (.rw nm) y->Is G' (.sl l) y)(ho:row=false-> ∀y,b6 ρ G (.ov nm 0) y->Is G' (.pt l) y):
  b5 GB C n (bi (fr.map fun e=>(e.1,ni row nm l e.2))) (bu (own.map fun e=>(e.1,bif Nat.beq e.1 nm then none else tD row nm l e.2))) ρ G' ov' a w:=by
 have inv: ∀m B,bu (own.map fun e=>(e.1,bif Nat.beq e.1 nm then none else tD row nm l e.2)) m=some B->m≠nm/\ ∃B1,bu own m=some B1/\tD row nm l (some B1)=some B:=fun m B e=>by
  rw[M4] at e;split at e
  .cases e
  .rename_i hm
   refine⟨hm,?_⟩
   cases hl:bu own m with
   |none=>rw[hl] at e;cases e
   |some B1=>rw[hl] at e;exact⟨B1,J,e⟩
 refine⟨h.gb.trans hg,hh,h.sz,h.df,fun k f e=>?_,fun m B e=>?_,fun m m' B B' e e'=>?_,h.fxd⟩
 .rw[Bu] at e
  cases hf:bi fr k with
  |none=>rw[hf] at e;cases e
  |some g=>
   rw[hf] at e;cases e;obtain⟨y,h1,h2⟩:=h.fx k g hf;exact⟨y,h1,Oj hg h2 hr ho⟩
 .obtain⟨hm,B1,h1,h2⟩:=inv m B e
  obtain⟨os,h3,h4⟩:=h.bx m B1 h1;refine⟨os,?_,fun o ho'=>hv o (h4 o ho') fun hc=>h.dj m nm B1 B0 h1 hb hm _ (h3.blk ho') hc⟩
  cases B1 with
  |b=>cases h2;exact h3.up hg
  |c=>cases h2;exact h3.up hg
  |p=>cases h2;exact h3.up hg
  |o ty cs lo=>cases h2;obtain⟨b,q,h5,h6,h7⟩:=h3;exact⟨b,q,h5,h6,JW hg hr ho h7⟩
 .obtain⟨_,B1,h1,_⟩:=inv m B e
  obtain⟨_,B2,h2,_⟩:=inv m' B' e';exact h.dj m m' B1 B2 h1 h2
def b5.frzRow{lk:LK}{bk:BM}{ρ:NE}{G:Gh}{ov:List au}{a:Act}{w:World}{nm:Nat}{ty:TypeId}{s:Nat}{ds:List DV}(r:b5 GB C n lk bk ρ G ov a w)(hb:bk nm=some (.b ty s ds true)):
  ∃G' ov',bD G G'/\bF C ov' G' w/\(∀o∈ov,(ρ nm).a≠some ⟨o.b,0,none⟩->o∈ov')/\ ∀y,b6 ρ G (.rw nm) y->Is G' (.sl ds) y:=by
 obtain⟨B,⟨vs,hB,hv,hs,hlo⟩,hBo⟩:=r.row (y:= .nilFunc) hb;rcases hB with⟨e1,e2,e3⟩|⟨b,rest,lo',e2,e3,h5,h6,h7⟩
 .subst e1
  have ed:ds=[]:=bL (by rw[<-hv.len];rfl);subst ed;simp only at e2;refine⟨G,ov,bD.refl _,r.h,fun o ho _=>ho,fun y hy=>?_⟩;rw[show y=_ from hy,e2];exact ie.2 ⟨0,⟨none,0,0⟩,[],J, .nil G 0, .nil⟩
 .subst e3
  have hl:=hlo J _ aQ;simp only at hl;subst hl;obtain⟨ov',o1,o2⟩:=i4.of_mem (hBo _ aQ);obtain⟨f1,f2⟩:=r.h.freeze o1;simp only at e2;refine⟨_,ov',f2,f1,fun o ho hne=>o2 o ho fun e=>hne (by rw[e2,e]),fun y hy=>?_⟩;rw[show y=_ from hy,e2];exact ie.2 ⟨s,⟨some ⟨b,0,none⟩,vs.length,_⟩,vs,J,eB.of_flat hs (if_pos J) h7,hv.up f2⟩
def b5.frzVar{lk:LK}{bk:BM}{ρ:NE}{G:Gh}{ov:List au}{a:Act}{w:World}{nm:Nat}{ty:TypeId}{cs:List FX}{l:List DV}(r:b5 GB C n lk bk ρ G ov a w)(hb:bk nm=some (.o ty cs true))(hl:ki cs=some l):
  ∃G' ov',bD G G'/\bF C ov' G' w/\(∀o∈ov,(ρ nm).a≠some ⟨o.b,0,none⟩->o∈ov')/\ ∀y,b6 ρ G (.ov nm 0) y->Is G' (.pt l) y:=by
 obtain⟨os,⟨b,m,h3,rfl,h4⟩,h5⟩:=r.bx _ _ hb;obtain⟨ov',o1,o2⟩:=i4.of_mem (h5 _ aQ);obtain⟨f1,f2⟩:=r.h.freeze o1;refine⟨_,ov',f2,f1,fun o ho hne=>o2 o ho fun e=>hne (by rw[h3,e]),fun y hy=>?_⟩;obtain⟨b',h6,rfl⟩:=hy;rw[h3] at h6;cases h6;exact l7.2 ⟨b,m,J,if_pos J,(uK h4 hl).up f2⟩
def Ik{nm:Nat}{Φ:Act->World->Prop}{R:xq}(h:yU fr own nm=some R)(hk:SX GB C n (bi R.fr) (bu R.own) Φ):SX GB C n (bi fr) (bu own) Φ:=by
 refine⟨fun ρ G ov a w r=>?_⟩;unfold yU at h;split at h<;>try (cases h;done)
 .rename_i ty s ds hb
  rw[HI,D1] at h;cases h;obtain⟨G',ov',h1,h2,h3,h4⟩:=r.frzRow hb;exact hk.run ρ G' ov' a w (r.frz (row:=true) h1 h2 h3 hb (fun _=>h4) (fun e=>by cases e))
 .rename_i ty cs hb
  split at h<;>try (cases h;done)
  rename_i l hl;rw[HI,D1] at h;cases h;obtain⟨G',ov',h1,h2,h3,h4⟩:=r.frzVar hb hl;exact hk.run ρ G' ov' a w (r.frz (row:=false) h1 h2 h3 hb (fun e=>by cases e) (fun _=>h4))
def fz[fu:Fu](nm:Nat){fr1:av}{own1:aF}(h:yU fr own nm=some ⟨fr1,own1⟩)(hgo:go tt n fu.n [] fr1 own1 (.ops ops r K)=⟨vc,fr',own',cf'⟩)(k:ak prog GB C n Q0 fr' own' cf')(hv:aj vc:=by first|exact trivial|(simp only[aj];kernel_rfl)|(simp only[aj];omega)|(simp only[aj,aX,aR,aW];omega)):ak prog GB C n Q0 fr own (.ops ops r K):=
 Ik h (ew hgo hv k)
def ke(nm:Nat){fr1:av}{own1:aF}{e:Exit}(h:yU fr own nm=some ⟨fr1,own1⟩)(k:ak prog GB C n Q0 fr1 own1 (.ex e K)):ak prog GB C n Q0 fr own (.ex e K):=Ik h k
def mr(nm:Nat){fr1:av}{own1:aF}{c:Code}(h:yU fr own nm=some ⟨fr1,own1⟩)(k:ak prog GB C n Q0 fr1 own1 (.code c K)):ak prog GB C n Q0 fr own (.code c K):=Ik h k
def tF:av->av->Prop
 |[],_=>True
 |(k,v)::t,fr=>bi fr k=some v/\tF t fr
def uV:aF->aF->Prop
 |[],_=>True
 |(k,v)::t,own=>bu own k=v/\uV t own
def uM: ∀{f:av},tF f fr->iO (bi f) (bi fr)
 |[],_,k,x,h=>by cases h
 |(j,v)::t,h,k,x,e=>by
  rw[il] at e;split at e
  .cases e;rename_i hk;rw[hk];exact h.1
  .exact uM h.2 k x e
def ti: ∀{f:aF},uV f own->iO (bu f) (bu own)
 |[],_,k,x,h=>by cases h
 |(j,v)::t,h,k,x,e=>by
  rw[jg] at e;split at e
  .rename_i hk;rw[hk,h.1,e]
  .exact ti h.2 k x e
def nG{k:Nat}{q:IntKind}{a b:Int}(h:bi fr k=some (.d (.v (.int q a))))(e:a=b):bi fr k=some (.d (.v (.int q b))):=e▸h
def Ec(GB:Gh)(C:aC)(n:Nat){X:Type}(F:X->av)(O:X->aF)(I:X->Prop)(a:Act)(w:World):Prop:=
 ∃x ρ G ov,I x/\b5 GB C n (bi (F x)) (bu (O x)) ρ G ov a w
def Ij:List Oper->List Nat->List Nat
 |[],l=>l
 |o::r,l=>match o.dst with
  |some d=>d::Ij r l
  |none=>Ij r l
def tf:Code->List Nat->List Nat
 | .region _ ops _,l=>Ij ops.toList l
 | .seq a b,l=>tf a (tf b l)
 | .cond _ a b,l=>tf a (tf b l)
 | .block _ a,l=>tf a l
 | .loop a,l=>tf a l
 | .scope a,l=>tf a l
 |_,l=>l
def H1{α:Type}:List Nat->av->(av->α)->α
 |_,[],k=>k []
 |l,(j,f)::t,k=>bif se l j then H1 l t k else H1 (j::l) t fun t'=>k ((j,f)::t')
def Az{α:Type}:List Nat->aF->(aF->α)->α
 |_,[],k=>k []
 |l,(j,B)::t,k=>bif se l j then Az l t k else match B with
  |some B=>Az l t fun t'=>k ((j,some B)::t')
  |none=>Az l t k
structure Kp where
 fr:av
 own:aF
def keep(c:Code)(uf uo:List Nat)(fr:av)(own:aF):Kp:=jE (tf c uo) fun m=>jE (uf++m) fun m'=>H1 m' fr fun fr'=>Az m own fun own'=>⟨fr',own'⟩
def lp[fu:Fu]{c:Code}{X:Type}(U:X->av)(V:X->aF)(I:X->Prop)(μ:X->Nat)(x0:X){kf:av}{ko:aF}{cf':X->Cf}{fr':X->av}{own':X->aF}{vc:X->List Prop}(hkp:keep c ((U x0).map (·.1)) ((V x0).map (·.1)) fr own=⟨kf,ko⟩)(hI:I x0)
  (hgo: ∀x,go tt n fu.n [] (U x++kf) (V x++ko) (.code c (.ag (Ec GB C n (fun y=>U y++kf) (fun y=>V y++ko) (fun y=>I y/\μ y<μ x))::K))=⟨vc x,fr' x,own' x,cf' x⟩)
  (round: ∀x,I x->ak prog GB C n Q0 (fr' x) (own' x) (cf' x))(hF:tF (U x0++kf) fr:=by repeat (first|exact trivial|refine And.intro J ?_|refine And.intro (nG J (by first|omega|(dsimp only;omega))) ?_|refine And.intro (nG J (by simp)) ?_))(hO:uV (V x0++ko) own:=by repeat (first|exact trivial|refine And.intro J ?_))
  (hv: ∀x,I x->aj (vc x):=by intros;first|exact trivial|(simp only[aj];kernel_rfl)|(simp only[aj];omega)|(simp only[aj,aX,aR,aW];omega)):ak prog GB C n Q0 fr own (.code (.loop c) K):=by
 refine⟨fun ρ G ov a w r=>?_⟩;have r0:=r.mono (uM hF) (ti hO);intro b k cs hro hb hrm;have key: ∀m a w,(∃x ρ G ov,I x/\μ x=m/\b5 GB C n (bi (U x++kf)) (bu (V x++ko)) ρ G ov a w)->
   ∃e a' w',cQ C.rd prog Q0 K e a' w'/\ArrivesIn (Machine.fenced prog (FW C.rd)) prog (lone (b.atR a (.code c:: .inLoop c::k)) cs w) b k cs e a' w':=by
  intro m
  induction m using Nat.strongRecOn with
  |_ m ih=>
   intro a w ⟨x,ρ,G,ov,hx,hm,hr⟩;have h1:=ew (GB:=GB) (C:=C) (Q0:=Q0) (hgo x) (hv x hx) (round x hx);obtain⟨e,a₁,w₁,hq,harr⟩:=h1.run ρ G ov a w hr b (.inLoop c::k) cs hro hb hrm
   cases e with
   |normal=>
    obtain⟨x',ρ',G',ov',⟨hx',hlt⟩,hr'⟩:=hq;obtain⟨e₂,a₂,w₂,hq₂,harr₂⟩:=ih (μ x') (hm▸hlt) a₁ w₁ ⟨x',ρ',G',ov',hx',rfl,hr'⟩;exact⟨e₂,a₂,w₂,hq₂, .of_steps (StepsIn.trans harr (.one (fenced_calm hb hrm J) stepR_inLoop)) harr₂⟩
   |exit id=>exact⟨_,a₁,w₁,hq, .pass (x:= .inLoop c) J (fun _ _=> .inl (by simp)) harr⟩
   |goto l=>exact⟨_,a₁,w₁,hq, .pass (x:= .inLoop c) J (fun _ _=> .inl (by simp)) harr⟩
   |ret=>exact⟨_,a₁,w₁,hq, .pass (x:= .inLoop c) J (fun _ _=> .inl (by simp)) harr⟩
   |panic ch=>exact⟨_,a₁,w₁,hq, .pass (x:= .inLoop c) J (fun _ _=> .inl (by simp)) harr⟩
   |outgrown=>exact⟨_,a₁,w₁,hq, .pass (x:= .inLoop c) J (fun _ _=> .inl (by simp)) harr⟩
 obtain⟨e,a',w',q,rr⟩:=key (μ x0) a w ⟨x0,ρ,G,ov,hI,rfl,r0⟩;exact⟨e,a',w',q, .of_steps (.one (fenced_calm hb hrm J) stepR_loop) rr⟩
def at_{X:Type}{F:X->av}{O:X->aF}{I:X->Prop}(x:X)(hI:I x)(hF:tF (F x) fr:=by repeat (first|exact trivial|refine And.intro J ?_|refine And.intro (nG J (by first|omega|(dsimp only;omega))) ?_|refine And.intro (nG J (by simp)) ?_))(hO:uV (O x) own:=by repeat (first|exact trivial|refine And.intro J ?_)):ak prog GB C n Q0 fr own (.ex .normal (.ag (Ec GB C n F O I)::K)):=
 ⟨fun ρ G ov a w r=>⟨x,ρ,G,ov,hI,r.mono (uM hF) (ti hO)⟩⟩
def mg[fu:Fu]{c d:Code}{X:Type}(U:X->av)(V:X->aF)(I:X->Prop){kf:av}{ko:aF}{cf':X->Cf}{fr':X->av}{own':X->aF}{vc:X->List Prop}(u0 v0:List Nat)(hkp:keep c u0 v0 fr own=⟨kf,ko⟩)
  (h1:ak prog GB C n Q0 fr own (.code c (.ag (Ec GB C n (fun y=>U y++kf) (fun y=>V y++ko) I)::K)))
  (hgo: ∀x,go tt n fu.n [] (U x++kf) (V x++ko) (.code d K)=⟨vc x,fr' x,own' x,cf' x⟩)(k: ∀x,I x->ak prog GB C n Q0 (fr' x) (own' x) (cf' x))(hv: ∀x,I x->aj (vc x):=by intros;first|exact trivial|(simp only[aj];kernel_rfl)|(simp only[aj];omega)|(simp only[aj,aX,aR,aW];omega)):ak prog GB C n Q0 fr own (.code c (.sq d::K)):=by
 refine SX.imp h1 fun a w h=>RE h ?_;intro e a w h
 cases e with
 |normal=>
  obtain⟨x,ρ,G,ov,hI,hr⟩:=h;have:=ew (GB:=GB) (C:=C) (Q0:=Q0) (hgo x) (hv x hI) (k x hI);exact this.run ρ G ov a w hr
 |_=>exact h
end
end Go.Sx
end
section
namespace Go.Sx
open Go
section
variable {P:Program} {ops:Array Oper} {Q:Exit->Act->World->Prop} {S:World->Prop} {π₂:List (Nat×Bool)}
abbrev aKM:Nat->Bool:=fun _=>false
def ub(S:World->Prop)(K:(World->Prop)->Act->World->Prop)(a:Act)(w:World):Prop:= ∃S':World->Prop,(∀w,S' w->S w)/\S' w/\K S' a w
def w6(P:Program)(ops:Array Oper)(Q:Exit->Act->World->Prop)(K:(World->Prop)->Act->World->Prop):List Nat->List (Nat×Bool)->(World->Prop)->Act->World->Prop
 |[],[],S,a,w=>K S a w
 |k::ks,[],S,a,w=> ∀j,(h:j∈k::ks)->wpOp P ops Q j (ub S (w6 P ops Q K (kj (k::ks) j) [])) a w
 |ks,(i,true)::r,S,a,w=> ∃o v,ops[i]? =some o/\S w/\YieldsIf P ops S o v a/\w6 P ops Q K ks r S (a.put o.dst v) w
 |ks,(i,false)::r,S,a,w=>wpOp P ops Q i (ub S (w6 P ops Q K ks r)) a w/\
   ∀j,(h:j∈ks)->wpOp P ops Q j (ub S (w6 P ops Q K (kj ks j) ((i,false)::r))) a w
termination_by ks π=>ks.length+π.length
decreasing_by
 all_goals (first|(have:=DC h;simp only[bY,kS] at*;omega)|(simp only[bY];omega))
def aLb(Q:Exit->Act->World->Prop):(World->Prop)->Act->World->Prop:=fun _ a w=>Q .normal a w
end
section
variable {P:Program} {GB:Gh} {C:aC} {n:Nat} {fr fr':dP} {own own' own0 own1 own1':List c9} {bs bs0 bs1 bs1':List dx} {ops:Array Oper} {Q:Exit->Act->World->Prop} {fd:List FD} {π π₂:List (Nat×Bool)}
structure SR (GB:Gh) (C:aC) (n:Nat) (fr:dP) (own0:List c9) (bs0:List dx) (own1:List c9) (bs1:List dx) (fd:List FD) (K:List Nat->(World->Prop)->Act->World->Prop):Prop where
 run: ∀G frv o0 o1,bD GB G->CM G fr frv->OB G own0 bs0 o0->OB G own1 bs1 o1-> ∀fs:Fs,St C n (frv++DI fd fs) (o1++(o0++DJ fd fs)) G (K (DX fd fs) (HS C o0 G))
instance {GB:Gh} {C:aC} {n:Nat} {fr:dP} {own0:List c9} {bs0:List dx} {own1:List c9} {bs1:List dx} {fd:List FD} {K:List Nat->(World->Prop)->Act->World->Prop}:CoeFun (SR GB C n fr own0 bs0 own1 bs1 fd K) (fun _=> ∀G frv o0 o1,bD GB G->CM G fr frv->OB G own0 bs0 o0->OB G own1 bs1 o1-> ∀fs:Fs,St C n (frv++DI fd fs) (o1++(o0++DJ fd fs)) G (K (DX fd fs) (HS C o0 G))):=⟨SR.run⟩
abbrev dwK (P:Program) (ops:Array Oper) (Q:Exit->Act->World->Prop) (K:(World->Prop)->Act->World->Prop) (π:List (Nat×Bool)):List Nat->(World->Prop)->Act->World->Prop:=fun ks S=>w6 P ops (gi Q) K ks π S
def frB:List FD->List Nat->dP
 |f::fd,b::bl=>(f.d, .d (.v (.pointer (some ⟨b,0,none⟩))))::frB fd bl
 |_,_=>[]
def owB:List FD->List (List DV)->List Nat->List c9
 |f::fd,c::cl,b::bl=>⟨b,c,f.t,true⟩::owB fd cl bl
 |_,_,_=>[]
def XD:List FD->List (List DV)->Prop
 |f::fd,c::cl=>IsLs (fun _=>none) c (aE f.z)/\XD fd cl
 |[],[]=>True
 |_,_=>False
end
def aJm{α:Type}(idx:List Nat)(l:List α):List α:=idx.filterMap (l[·]?)
section
variable {P:Program} {GB:Gh} {C:aC} {n:Nat} {E:nP} {fr fr':dP} {own own':List c9} {bs bs' bs1:List dx} {ops:Array Oper} {Q:Exit->Act->World->Prop} {r:List Oper} {Φ:Act->World->Prop}
variable {dst:Option Nat} {t t' ty':TypeId} {pos:String} {af:Array Edge} {gd:Option (Nat×Bool)} {x y z:Operand} {e s by_:Nat}
def PB(GB:Gh)(P:Program)(f:FuncId)(mk:SV->List DV)(s:Nat)(ty:TypeId)(dsi:List DV)(mkr:SV->DV)(dso:List DV):Prop:=
 ∀G w vs B,bD GB G->dq G ⟨w,s,ty,dsi,false⟩ B->IsLs G (mk w) vs->gE P f vs B G (fun v own' G'=> ∃w',Is G' (mkr w') v/\dq G' ⟨w',s,ty,dso,false⟩ own')
def Yu(fr:dP):List Operand->Option (List DV)
 |[]=>some []
 |x::t=>match GV fr x,Yu fr t with
  |some (.d d),some l=>some (d::l)
  |_,_=>none
def dq.asB{G:Gh}{w:SV}{ty:TypeId}{ds:List DV}{lo:Bool}{B:List au}(h:dq G ⟨w,s,ty,ds,lo⟩ B):dq G ⟨w,s,ty,ds,false⟩ (Sx.asB B):=by
 obtain⟨vs,h1,h2,h3,h4⟩:=h;exact⟨vs,h1.asB,h2,h3,fun h=>by cases h⟩
def dq.weak{G:Gh}{w:SV}{ty:TypeId}{ds:List DV}{lo:Bool}{B:List au}(h:dq G ⟨w,s,ty,ds,lo⟩ B):dq G ⟨w,s,ty,ds,false⟩ B:=by
 obtain⟨vs,h1,h2,h3,h4⟩:=h;exact⟨vs,h1,h2,h3,fun h=>by cases h⟩
inductive Dq (fr:dP):List ResultVar->List DV->Prop
 |nil:Dq fr [] []
 |tmp {t:Nat} {v:DV} {rs:List ResultVar} {vs:List DV} (h:tL fr t=some (.d v)) (k:Dq fr rs vs):Dq fr (.tmp t::rs) (v::vs)
end
section
variable {P:Program} {GB:Gh} {C:aC} {n:Nat} {E:nP} {fr fr':dP} {own own':List c9} {bs bs' bs1:List dx} {ops:Array Oper} {Q:Exit->Act->World->Prop} {r:List Oper} {Φ:Act->World->Prop}
variable {dst:Option Nat} {t t' ty':TypeId} {pos:String} {af:Array Edge} {gd:Option (Nat×Bool)} {x y z:Operand} {e s by_:Nat}
def PX(GB:Gh)(P:Program)(f:FuncId)(ds:List DV)(ι:Type)(r:ι->DV):Prop:=
 ∀G vs,bD GB G->IsLs G ds vs->Fn P f vs G (fun v G'=> ∃x,Is G' (r x) v)
def PMX(GB:Gh)(P:Program)(f:FuncId)(ds:List DV)(b:Nat)(ty:TypeId)(cs:List DV)(ι:Type)(r:ι->DV)(cs':ι->List DV):Prop:=
 ∀G vs m lo,bD GB G->IsLs G ds vs->IsLs G cs m->lE P f vs [⟨b,m,ty,lo⟩] G (fun v css G'=> ∃x,Is G' (r x) v/\ ∃m',css=[m']/\IsLs G' (cs' x) m')
def PN(GB:Gh)(P:Program)(f:FuncId)(ds:List DV)(ty:TypeId)(ι:Type)(cs:ι->List DV):Prop:=
 ∀G vs,bD GB G->IsLs G ds vs->gE P f vs [] G (fun v own' G'=> ∃x b m,v= .pointer (some ⟨b,0,none⟩)/\own'=[⟨b,m,ty,true⟩]/\IsLs G' (cs x) m)
inductive Ew:List c9->Nat->List DV->TypeId->Bool->List c9->List c9->Prop
 |hd (b:Nat) (cs:List DV) (ty:TypeId) (lo:Bool) (t:List c9):Ew (⟨b,cs,ty,lo⟩::t) b cs ty lo [] t
 |tl (o:c9) (t:List c9) (b:Nat) (cs:List DV) (ty:TypeId) (lo:Bool) (L R:List c9) (h:Ew t b cs ty lo L R):Ew (o::t) b cs ty lo (o::L) R
end
section
variable {P:Program} {GB:Gh} {C:aC} {n:Nat} {fr:dP} {own:List c9} {bs:List dx}
def PMR(GB:Gh)(P:Program)(f:FuncId)(ds:List DV)(b:Nat)(ty:TypeId)(cs:List DV)(s:Nat)(ty2:TypeId)(ι:Type)(rows:ι->List DV)(cs':ι->List DV):Prop:=
 ∀G vs m lo,bD GB G->IsLs G ds vs->IsLs G cs m->gE P f vs [⟨b,m,ty,lo⟩] G (fun v own' G'=> ∃x w m' B,v= .slice w.a w.n w.c/\own'=⟨b,m',ty,false⟩::B/\IsLs G' (cs' x) m'/\dq G' ⟨w,s,ty2,rows x,true⟩ B/\ ∀o∈B,b≠o.b)
variable {dst:Option Nat} {t t' ty':TypeId} {pos:String} {af:Array Edge} {gd:Option (Nat×Bool)} {x y z:Operand}
def ZM{fr:Fr}{own:List au}{G:Gh}{fn:Func}{K:Value->List au->Gh->Prop}{vs:List Value}(hr:jr P fr own fn.results.toList vs)(own2 own3:List au)(hp:own.Perm own2)(hs:own3.Sublist own2)(hk:own3.Pairwise (fun x y=>x.b≠y.b)->K (kH vs) own3 G):St C n fr own G (eH C P fn (qr C K) .ret):=
 fun a w rl hmk=>⟨rl.df.trans hmk,_,qx hr rl.fr rl.h,_,own3,G,J,(rl.h.perm hp).drop hs,hk ((rl.h.perm hp).drop hs).nd⟩
variable {e s by_:Nat}
def Wu{G:Gh}{l:List DV}{w:SV}{es:List Value}{s' nhi mx':Nat}(hsl:eB G s' w es)(hl:IsLs G l es)(ho:du s l)(h2:nhi<=l.length)(hm1:nhi<=mx')(hm2:mx'<=w.c):Is G (.sl (l.take nhi)) (.slice w.a nhi mx'):=by
 have hn:=hsl.len;have hcap:=hsl.cap;have hll:=hl.len;have e9: ∀s,lP w.a w.n w.c 0 nhi mx' s= .slice w.a nhi mx':=by
  intro s;unfold lP
  cases w.a with
  |none=>simp
  |some ad=>simp[Addr.add]
 rcases Bn hsl hl ho with he|he
 .subst he
  have:l=[]:=bL (by rw[<-hll];rfl);subst this;have e1:nhi=0:=by simp at h2;exact h2
  subst e1;refine ie.2 ⟨s,⟨_,0,mx'⟩,[],J,⟨J,aN _, .inl J⟩,by simpa using IsLs.nil⟩
 .subst he
  have k:=hsl.sub 0 nhi mx' (aN _) (by omega) hm1 hm2;have k2:=ie.2 ⟨s',⟨_,_,_⟩,_,J,k,(hl.take nhi).drop 0⟩;rw[gT] at k2;have e:=e9 s';unfold lP at e;revert k2;simp only[] at*;intro k2
  first|exact e▸k2|(simp at e k2⊢;first|exact k2|(cases hw:w.a<;>simp_all [Addr.add]))
end
end Go.Sx
end
section
namespace Go.Sx
open Go Go.Proofs
section
variable {P:Program} {T:TT} {GB:Gh} {C:aC} {n:Nat} {lk:LK} {bk:BM} {ρ:NE} {G:Gh} {ov:List au} {a:Act} {w:World}
variable {dst:Option Nat} {t t' ty':TypeId} {pos:String} {af:Array Edge} {gd:Option (Nat×Bool)} {x y:Operand} {e s by_:Nat}
def TV[hT:cB P t e s by_]{k:IntKind}{l:List DV}{d:DV}{i:Int}(hx:evD lk x=some (.sl l))(hy:aI lk y=some (.d (.v (.int k i))))(h0:0<=i)(he:l[i.toNat]? =some d)(hd:(d.okc&&Nat.beq d.cells.length s)=true):
  b7 P GB C n lk bk ⟨dst, .indexAddr t x y,ty',pos,af,gd⟩ (.ep d.cells) [] []:= .yd fun ρ G ov a w r=>by
 simp only[aM] at hd;obtain⟨hd,hs⟩:=hd;obtain⟨u,h1,h2⟩:=r.evD hx;obtain⟨q,g1,g2⟩:=r.ev hy;rw[c8] at g2;subst g2;obtain⟨s',z,es,rfl,hsl,hl⟩:=ie.1 h2;obtain⟨v,h3,h4⟩:=hl.get he;obtain⟨h5,h6⟩:=aT.1 h3;have hc:=(h4.cells hd).1.len;replace hs:=aS hs;rcases hsl.mem with h|⟨b,off,cs,ha,hg,hcs⟩
 .rw[h] at h5;simp at h5
 .have h7:=hcs i.toNat h5
  rw[h6] at h7;have h8:=A0 h7;have:s'=s:=by omega
  subst this;rw[ha] at h1;have hn:=hsl.len;refine⟨.pointer (some ⟨b,off+i.toNat*s',none⟩),⟨b,_,cs,aE v,J,hg,?_,(h4.cells hd).1⟩,Gk h1 g1 h0 (by omega)⟩;rw[<-hc,h8];exact h7
def zH(ag:Option Nat)(cs:List DV)(j:Nat):Option DV:=match ag with
 |some k=>match takeD cs j k with
  |some l=>some (.ag l)
  |none=>none
 |none=>cs[j]?
def VH{i:TI}{ag:Option Nat}{nm sz k j:Nat}{ty:TypeId}{ds:List DV}{lo:Bool}{d c:DV}(hi:e7 P t=some i)(ha:i.ag=some ag)(hx:aI lk x=some (.be nm sz k j))(hb:bk nm=some (.b ty sz ds lo))(he:ds[k]? =some d)(hd:d.okc=true)(hl:zH ag d.cells j=some c):
  b7 P GB C n lk bk ⟨dst, .load t x,ty',pos,af,gd⟩ (.d c) [] []:= .x1 hx fun ρ G ov a w y _ r h1 h2=>by
 obtain⟨b,hwb,rfl⟩:=h2;obtain⟨B,hB,hmem⟩:=r.row (y:= .nilFunc) hb;obtain⟨b',m,rest,lo',l0,e1,rfl,h3,h4⟩:=hB.elem he hd;simp only[] at e1 h3;rw[hwb] at e1;cases e1;have oat:gz ov b (m++rest) ty lo':=⟨hmem _ aQ⟩
 cases ag with
 |some k'=>
  have:=wT hi ha;simp only[zH] at hl;split at hl<;>cases hl;rename_i hl;obtain⟨l',h5,h6⟩:=h4.takeD hl;exact⟨.agg ⟨l'⟩,dm.2 ⟨l',J,h6⟩,Dv h1 (MM h3 h5)⟩
 |none=>
  have:=vd hi ha;simp only[zH] at hl;obtain⟨l',h5,h6⟩:=h4.get hl;have hj:j<sz:=by
   have:=A0 h3;have h7:=(aT.1 h5).1;omega
  exact⟨l',h6,yK h1 (by rw[JH h3 hj];exact h5)⟩
def dq.toBk{nm:Nat}{s:Nat}{ty:TypeId}{ds:List DV}{lo:Bool}{B:List au}{x:SV}(h:dq G ⟨x,s,ty,ds,lo⟩ B)(e:ρ nm=x):jx ρ G nm (.b ty s ds lo) B:=by
 obtain⟨vs,h1,h2,h3,h4⟩:=h;exact⟨vs,by rw[e];exact h1,h2,h3,h4⟩
def b5.newRow(r:b5 GB C n lk bk ρ G ov a w){d:Nat}{z:SV}{ty:TypeId}{s:Nat}{ds:List DV}{B ov':List au}{K:Act->World->Prop}{a':Act}{w':World}(hf:jO [d] (some d) lk bk)(hB:dq G ⟨z,s,ty,ds,true⟩ B)(hos: ∀o∈B,o∈ov')
  (hov: ∀m B',m≠d->bk m=some B'-> ∀o∈ov,(ρ m).a=some ⟨o.b,0,none⟩->o∈ov'/\z.a≠some ⟨o.b,0,none⟩)
  (hk:SX GB C n (dO lk (some d) (.rw d)) (Sx.upB bk [(d,some (.b ty s ds true))]) K)(rl:gq C n (Sx.put (cC a) (some d) (.slice z.a z.n z.c)) ov' G a' w'):K a' w':=
 hk.run _ _ _ a' w' (r.new' (x:=z) (f:= .rw d) (y:= .slice z.a z.n z.c) hf (bD.refl _) rl.h (hB.toBk (by simp)) hos hov (by show _=_;simp) (jz rl))
def ol(i:TI):Option DV:=match i.z with
 |some z=>match ki z with
  |some zs=>bif i.za then(bif zs.all DV.flat then some (.ag zs) else none) else(match zs with
   |[d]=>bif d.flat then some d else none
   |_=>none)
  |none=>none
 |none=>none
def an2{d:DV}(h:d.flat=true):d.cells=[d]/\d.okc=true:=by
 cases d<;>first|exact⟨J,h⟩|cases h
theorem zR{i:TI}{d:DV}(hi:e7 P e=some i)(h:ol i=some d): ∃v,gk P e v/\(∀G,Is G d v)/\d.okc=true:=by
 obtain⟨j,hj,hij⟩:=oC hi;unfold ol at h;split at h<;>try (cases h;done)
 rename_i z hz;split at h<;>try (cases h;done)
 rename_i zs hzs;obtain⟨v,h1,h2⟩:=Al hi hz;have h3: ∀G,IsLs G zs (aE v):=fun G=>uK (h2 (fun _=>⟨none,0,0⟩) G) hzs;have hzv:j.zero=some v:=by have:=h1.inf;rw[hj] at this;simpa using this
 have hza:i.za=Iu (some v):=by rw[hij,<-hzv]
 cases hb:i.za with
 |true=>
  rw[hb] at h hza
  cases hc:zs.all DV.flat with
  |false=>rw[hc] at h;cases h
  |true=>
   rw[hc] at h;cases h
   cases v<;>first|(cases hza;done)|skip
   rename_i cs;exact⟨_,h1,fun G=>dm.2 ⟨cs.toList,by simp,h3 G⟩,hc⟩
 |false=>
  rw[hb,cond_false] at h;rw[hb] at hza;split at h<;>try (cases h;done)
  rename_i u
  cases hc:u.flat with
  |false=>rw[hc] at h;cases h
  |true=>
   rw[hc] at h;cases h;have hv:aE v=[v]:=by cases v<;>first|rfl|(cases hza;done)
   refine⟨v,h1,fun G=>?_,(an2 hc).2⟩;have:=h3 G;rw[hv] at this;exact this.uncons.1
def Sm{d:Nat}{i:TI}{z:DV}{k k':IntKind}{l:Int}{ds:List DV}[hT:cB P t e s by_](hi:e7 P e=some i)(hz:ol i=some z)(hs:Nat.beq z.cells.length s=true)(hx:aI lk x=some (.d (.v (.int k l))))(hy:aI lk y=some (.d (.v (.int k' l))))(h0:0<=l)(hb:by_*l<=140737488355328)(hl:l<=1152921504606846976)(hds:List.replicate l.toNat z=ds):
  b7 P GB C n lk bk ⟨some d, .makeSlice t x y,ty',pos,af,gd⟩ (.rw d) [(d,some (.b e s ds true))] [d]:=by
 intro hd tl tb K s1 s2 hf hk;refine⟨fun ρ G ov a w r Q=>?_⟩;subst hds;obtain⟨v,hz1,hz2,hz3⟩:=zR hi hz;obtain⟨q1,p1,p2⟩:=(r.mono s1 s2).ev hx;obtain⟨q2,p3,p4⟩:=(r.mono s1 s2).ev hy;rw[c8] at p2 p4;subst p2 p4;have c1:=((hz2 G).cells hz3).1.len;replace hs:=aS hs;have e1: ∀u∈List.replicate l.toNat v,(aE u).length=s:=fun u hu=>by rw[List.eq_of_mem_replicate hu,c1,hs]
 refine Su p1 p3 h0 hb hl (by rw[c1,hs]) hd (fun b a' w' rl=>?_) a w Q ⟨r.h,r.sz,c6 a,r.df⟩;have hnd:=(bZ.1 rl.h.nd).1;refine r.newRow (z:=⟨some ⟨b,0,none⟩,l.toNat,l.toNat⟩) (B:=[⟨b,dG v l.toNat,e,true⟩]) hf ⟨List.replicate l.toNat v, .inr ⟨b,[],true,by simp,by rw[aiL,iN],ez _ e1,by rw[ez _ e1];simp,by simp⟩,Oi (hz2 G) _,e1,fun _ o ho=>by rw[aY.1 ho]⟩
  (fun o ho=>by rw[aY.1 ho];exact aQ) (fun m B' _ _ o ho _=>⟨aJ _ ho,fun e'=>?_⟩) hk rl
 cases e';exact hnd o ho J
def tM(lk:LK):Nat->List (Nat×Operand)->Option (List DV)
 |_,[]=>some []
 |j,(i,x)::r=>match evD lk x,tM lk (j+1) r with
  |some d,some l=>bif Nat.beq i j then some (d::l) else none
  |_,_=>none
def JQ(r:b5 GB C n lk bk ρ G ov a w){zv:Value}(hz:(aE zv).length=s): ∀(ps:List (Nat×Operand)) (j:Nat) (pre:List Value) (ds:List DV),tM lk j ps=some ds->pre.length=j*s->(∀d∈ds,d.okc=true/\d.cells.length=s)->
  ∃vs,sA (cC a) s (pre++dG zv ps.length) ps=some (pre++aG vs)/\IsLs G ds vs/\(∀v∈vs,(aE v).length=s)/\vs.length=ps.length
 |[],j,pre,ds,e,hp,hd=>by
  simp only[tM] at e;cases e;exact⟨[],by simp[sA,dG,aG], .nil,by simp,J⟩
 |(i,x)::ps,j,pre,ds,e,hp,hd=>by
  simp only[tM] at e;split at e
  .rename_i d l hx hl
   cases hb:Nat.beq i j with
   |false=>rw[hb] at e;cases e
   |true=>
    rw[hb] at e
    cases e
    have:=aS hb;subst this;obtain⟨y,hy,hy'⟩:=r.evD hx;obtain⟨k1,k2⟩:=hd d aQ;have c1:=(hy'.cells k1).1.len;have hov:cp (pre++dG zv (ps.length+1)) (i*s) (aE y)=(pre++aE y)++dG zv ps.length:=by
     rw[SB,<-hp,KN _ _ _ _ (by rw[c1,k2,hz]),cN]
    obtain⟨vs,h1,h2,h3,h4⟩:=JQ r hz ps (i+1) (pre++aE y) l hl (by rw[aL,c1,k2,hp,fL]) (fun d hd'=>hd d (aJ _ hd'));refine⟨y::vs,?_, .cons hy' h2,fun v hv=>?_,by simp[h4]⟩
    .simp only[sA,hy,bY]
     rw[if_pos ⟨by rw[c1,k2],by rw[aL,pd,hz,hp,fL];omega⟩,hov,h1];simp[aG]
    .rcases aU.1 hv with rfl|hv
     .rw[c1,k2]
     .exact h3 v hv
  .cases e
def Zl{d:Nat}{i:TI}{z:DV}{len:Nat}{parts:Array (Nat×Operand)}{ds:List DV}[hT:cB P t e s by_](hi:e7 P e=some i)(hz:ol i=some z)(hs:Nat.beq z.cells.length s=true)(hb:tM lk 0 parts.toList=some ds)(hok:Aa s ds=true)(hlen:Nat.beq parts.toList.length len=true)(hsm:Nat.ble (len*s) 1000=true)(hs0:Nat.blt 0 (len*s)=true):
  b7 P GB C n lk bk ⟨some d, .buildSlice t len parts,ty',pos,af,gd⟩ (.rw d) [(d,some (.b e s ds true))] [d]:=by
 intro hd tl tb K s1 s2 hf hk;refine⟨fun ρ G ov a w r Q=>?_⟩;obtain⟨v,hz1,hz2,hz3⟩:=zR hi hz;have c1:=((hz2 G).cells hz3).1.len;replace hs:=aS hs;have hlen':=aS hlen;obtain⟨vs,h1,h2,h3,h4⟩:=JQ (r.mono s1 s2) (s:=s) (zv:=v) (by rw[c1,hs]) parts.toList 0 [] ds hb (by simp) (Ar hok);rw[cZ,cZ] at h1;refine Wx (z:=v) (out:=aG vs) (by rw[c1,hs]) (by rw[<-hlen'];exact h1) hsm hs0 hd (fun b a' w' rl=>?_) a w Q ⟨r.h,r.sz,c6 a,r.df⟩;have hnd:=(bZ.1 rl.h.nd).1;have hvl:vs.length=len:=by rw[h4,hlen']
 refine r.newRow (z:=⟨some ⟨b,0,none⟩,len,len⟩) (B:=[⟨b,aG vs,e,true⟩]) hf ⟨vs, .inr ⟨b,[],true,by rw[hvl],by rw[iN],ez _ h3,by rw[ez _ h3,hvl];simp,by rw[hvl];exact bQ _⟩,h2,h3,fun _ o ho=>by rw[aY.1 ho]⟩
  (fun o ho=>by rw[aY.1 ho];exact aQ) (fun m B' _ _ o ho _=>⟨aJ _ ho,fun e'=>?_⟩) hk rl
 cases e';exact hnd o ho J
def Z3{d:Nat}[hT:cB P t e s by_]:b7 P GB C n lk bk ⟨some d, .buildSlice t 0 #[],ty',pos,af,gd⟩ (.rw d) [(d,some (.b e s [] true))] [d]:=by
 intro hd tl tb K s1 s2 hf hk;refine⟨fun ρ G ov a w r Q=>?_⟩;refine Ou hd (fun b a' w' rl=>?_) a w Q ⟨r.h,r.sz,c6 a,r.df⟩;have hnd:=(bZ.1 rl.h.nd).1;refine r.newRow (z:=⟨some ⟨b,0,none⟩,0,0⟩) (B:=[⟨b,[],e,true⟩]) hf ⟨[], .inr ⟨b,[],true,J,by simp[aG],by simp[aG],by simp[aG],by simp⟩, .nil,by simp,fun _ o ho=>by rw[aY.1 ho]⟩
  (fun o ho=>by rw[aY.1 ho];exact aQ) (fun m B' _ _ o ho _=>⟨aJ _ ho,fun e'=>?_⟩) hk rl
 cases e';exact hnd o ho J
def b7.frz{o:Oper}{d:Nat}{B:Bk}{f:FX}{v:DV}(hd:o.dst=some d)(h:b7 P GB C n lk bk o f [(d,some B)] [d])
  (hz: ∀lk bk ρ G ov a w,b5 GB C n lk bk ρ G ov a w->bk d=some B-> ∃G' ov',bD G G'/\bF C ov' G' w/\(∀o∈ov,(ρ d).a≠some ⟨o.b,0,none⟩->o∈ov')/\ ∀y,b6 ρ G f y->Is G' v y):b7 P GB C n lk bk o (.d v) [(d,none)] [d]:=by
 intro hd' tl tb K s1 s2 hf hk;refine h hd' tl tb K s1 s2 hf ?_;rw[hd] at hk⊢;refine⟨fun ρ G ov a w r=>?_⟩;have hbd:Sx.upB tb [(d,some B)] d=some B:=by simp[Sx.upB]
 obtain⟨G',ov',h1,h2,h3,h4⟩:=hz _ _ ρ G ov a w r hbd;refine hk.run ρ G' ov' a w ⟨r.gb.trans h1,h2,r.sz,r.df,fun k g e=>?_,fun m B' e=>?_,fun m m' B1 B2 e e'=>?_,r.fxd⟩
 .by_cases hk:k=d
  .subst hk
   simp only[dO,if_true] at e;cases e;obtain⟨y,g1,g2⟩:=r.fx k f (by simp[dO]);exact⟨y,g1,h4 y g2⟩
  .simp only[dO,hk,if_false] at e
   obtain⟨y,g1,g2⟩:=r.fx k g (by simp[dO,hk,e]);exact⟨y,g1,g2.up h1⟩
 .simp only[Sx.upB] at e
  split at e
  .cases e
  .rename_i hm
   have e':Sx.upB tb [(d,some B)] m=some B':=by simp[Sx.upB,hm,e]
   obtain⟨os,g1,g2⟩:=r.bx m B' e';exact⟨os,g1.up h1,fun o ho=>h3 o (g2 o ho) fun hc=>r.dj m d B' B e' hbd hm _ (g1.blk ho) hc⟩
 .simp only[Sx.upB] at e e'
  split at e
  .cases e
  .rename_i hm
   split at e'
   .cases e'
   .rename_i hm'
    exact r.dj m m' B1 B2 (by simp[Sx.upB,hm,e]) (by simp[Sx.upB,hm',e'])
def b7.frzRow{o:Oper}{d:Nat}{ty:TypeId}{s:Nat}{ds:List DV}(hd:o.dst=some d)(h:b7 P GB C n lk bk o (.rw d) [(d,some (.b ty s ds true))] [d]):b7 P GB C n lk bk o (.d (.sl ds)) [(d,none)] [d]:=
 h.frz hd fun _ _ _ _ _ _ _ r hb=>r.frzRow hb
def WU{d:Nat}{f:FX}{l:List DV}(e:aI lk x=some f)(hc:f.okc=true)(hn:vP f d=true)(hl:ki f.cells=some l):b7 P GB C n lk bk ⟨some d, .box t x,ty',pos,af,gd⟩ (.d (.pt l)) [(d,none)] [d]:=
 (MD e hc hn).frz J fun _ _ _ _ _ _ _ r hb=>r.frzVar hb hl
def pu(lk:LK)(bk:BM)(s:Nat)(y:Operand):Option (List DV):=match aI lk y with
 |some (.rw nm)=>match bk nm with
  |some (.b _ s' ds _)=>bif Nat.beq s' s then some ds else none
  |_=>none
 |some f=>match j' f with
  |some (.sl l)=>some l
  |_=>none
 |none=>none
def B9{ds:List DV}(r:b5 GB C n lk bk ρ G ov a w)(h:pu lk bk s y=some ds)(hk:du s ds):
  ∃(z:SV) (vs:List Value),aD (cC a) y=some (.slice z.a z.n z.c)/\z.n=vs.length/\IsLs G ds vs/\(∀v∈vs,(aE v).length=s)/\(∀v∈aG vs,Sx.flat v=true)/\kC P C ov G s z.n (.slice z.a z.n z.c) (aG vs):=by
 have hfl: ∀vs:List Value,IsLs G ds vs->(∀v∈vs,(aE v).length=s)/\ ∀v∈aG vs,Sx.flat v=true:=by
  intro vs hl;refine⟨fun v hv=>?_,fun v hv=>?_⟩
  .obtain⟨d,hd,h3⟩:=hl.all v hv
   obtain⟨k1,k2⟩:=hk d hd;rw[(h3.cells k1).1.len,k2]
  .simp only[aG,List.mem_flatten,bX] at hv
   obtain⟨l,⟨u,hu,rfl⟩,hv⟩:=hv;obtain⟨d,hd,h3⟩:=hl.all u hu;exact(h3.cells (hk d hd).1).2 v hv
 unfold pu at h;split at h
 .rename_i nm hy
  split at h<;>try (cases h;done)
  rename_i ty s' ds' lo hb
  cases hs:Nat.beq s' s with
  |false=>rw[hs] at h;cases h
  |true=>
   rw[hs] at h;cases h
   cases aS hs
   obtain⟨u,h1,h2⟩:=r.ev hy
   cases h2
   obtain⟨B,⟨vs,hB,hv,hs,_⟩,hmem⟩:=r.row (y:= .nilFunc) hb;obtain⟨f1,f2⟩:=hfl _ hv;refine⟨ρ nm,vs,h1,hB.len,hv,f1,f2,?_⟩;rcases hB with⟨e1,e2,e3⟩|⟨b,rest,lo',h3,h4,h5,h6,h7⟩
   .simp only[] at e2
    subst e1;rw[e2];exact tO
   .simp only[] at h3 h4 h5 h6 h7
    have oat:gz ov b (aG vs++rest) ty lo':=⟨hmem _ (by rw[h4];exact aQ)⟩;rw[show(ρ nm).a=some ⟨b,0,none⟩ by rw[h3],show(ρ nm).n=vs.length by rw[h3]];refine xQ oat ?_;rw[jC _ _ _ (by rw[aL];omega),gT,fV (by omega),cR (by omega)]
 .rename_i f _ hy
  split at h<;>cases h;rename_i hd;obtain⟨u,h3,h4⟩:=r.ev hy;obtain⟨s',z,es,rfl,hsl,hl⟩:=ie.1 (nH h4 hd);obtain⟨f1,f2⟩:=hfl _ hl;refine⟨z,es,h3,hsl.len,hl,f1,f2,?_⟩;rcases Bn hsl hl hk with he|he
  .subst he
   rw[hsl.len];exact tO
  .subst he;exact V5 hsl
 .cases h
def Wa{d nm:Nat}{i:TI}{z:DV}{ds ds2:List DV}[hT:cB P t e s by_][hN:jP P t'](hi:e7 P e=some i)(hz:ol i=some z)(hs:Nat.beq z.cells.length s=true)(hx:aI lk x=some (.rw nm))(hb:bk nm=some (.b e s ds true))(hy:pu lk bk s y=some ds2)(hk2:du s ds2)
  (hby:Nat.blt 0 by_=true)(hbd:(ds.length+ds2.length)*by_<=140737488355328)(hnd:Nat.beq nm d=false){ds':List DV}(hds:ds++ds2=ds'):
  b7 P GB C n lk bk ⟨some d, .call ⟨.builtin .append, #[x,y], #[t,t']⟩,ty',pos,af,gd⟩ (.rw d) [(nm,none),(d,some (.b e s ds' true))] [d]:=by
 intro hd tl tb K s1 s2 hf hk;refine⟨fun ρ G ov a w r Q=>?_⟩;subst hds;have r1:=r.mono s1 s2;obtain⟨v,hz1,hz2,hz3⟩:=zR hi hz;have cz:=((hz2 G).cells hz3).1.len;replace hs:=aS hs;rw[mX] at hby
 have hne:nm≠d:=fun e=>by subst e;simp at hnd
 obtain⟨u,hx',hx2⟩:=r1.ev hx
 cases hx2
 obtain⟨B,⟨vs,hB,hv,hvs,hlo⟩,hBo⟩:=r1.row (y:= .nilFunc) hb;simp only[] at hB hv hvs;obtain⟨w2,us,hy',h2,h3,h4,h5,h6⟩:=B9 (P:=P) r1 hy hk2;have hus:(aG us).length=us.length*s:=ez us h4;have hbd':(vs.length+us.length)*by_<=140737488355328:=by rw[hv.len,h3.len];exact hbd
 have hall: ∀v∈vs++us,(aE v).length=s:=fun v hv=>by
  rcases bS.1 hv with hv|hv
  .exact hvs v hv
  .exact h4 v hv
 have rd:=r.dropB nm;have hf':jO [d] (some d) tl (Sx.upB tb [(nm,none)]):=fun m hm=>by
  obtain⟨g1,g2⟩:=hf m hm;refine⟨g1,fun k B' hk e=>g2 k B' hk ?_⟩;simp only[Sx.upB] at e;split at e
  .cases e
  .exact e
 have hbk: ∀m B',(Sx.upB tb [(nm,none)]) m=some B'->m≠nm/\tb m=some B':=fun m B' e=>by
  simp only[Sx.upB] at e;split at e
  .cases e
  .exact⟨by assumption,e⟩
 have hfin: ∀(b:Nat) (cap':Nat) (rest':List Value) (ov1:List au) a' w',vs.length+us.length<=cap'->rest'.length+(vs.length+us.length)*s=cap'*s->(∀o∈ov,(ρ nm).a≠some ⟨o.b,0,none⟩->o∈ov1)->
   gq C n (put (cC a) (some d) (.slice (some ⟨b,0,none⟩) (vs.length+us.length) cap')) (⟨b,aG (vs++us)++rest',e,true⟩::ov1) G a' w'->K a' w':=by
  intro b cap' rest' ov1 a' w' hc hr ho1 rl;have hnd':=(bZ.1 rl.h.nd).1;refine rd.newRow (z:=⟨some ⟨b,0,none⟩,vs.length+us.length,cap'⟩) (B:=[⟨b,aG (vs++us)++rest',e,true⟩]) hf' ⟨vs++us, .inr ⟨b,rest',true,by simp,J,ez _ hall,?_,by simpa using hc⟩,hv.app h3,hall,fun _ o ho=>by rw[aY.1 ho]⟩
   (fun o ho=>by rw[aY.1 ho];exact aQ) (fun m B' hm e o ho hmo=>?_) hk rl
  .rw[ez _ hall,aL]
   simp only[];omega
  .obtain⟨h7,h8⟩:=hbk m B' e
   have ho2:=ho1 o ho fun hc=>r.dj m nm B' _ h8 (s2 _ _ hb) h7 _ hmo hc;exact⟨aJ _ ho2,fun e'=>by cases e';exact hnd' o ho2 J⟩
 rcases hB with⟨e1,e2,e3⟩|⟨b,rest,lo',k3,k4,k5,k6,k7⟩
 .subst e1
  rw[e2] at hx';by_cases hne:us=[]
  .subst hne
   have:ds2=[]:=bL (by rw[<-h3.len];rfl);subst this;rw[h2] at hy';refine Vb hx' hy' hd (fun a' w' rl=>?_) a w Q ⟨r.h,r.sz,c6 a,r.df⟩;refine rd.newRow (z:=⟨none,0,0⟩) (B:=[]) hf' ⟨[], .inl ⟨J,J,J⟩,by simpa using hv,by simp,fun _ o ho=>by cases ho⟩ (fun o ho=>by cases ho) (fun m B' hm e o ho hmo=>⟨ho,fun e'=>by cases e'⟩) hk rl
  .have hup:0<us.length:=List.length_pos_iff.2 hne
   rw[h2] at hy' h6;refine HK (z:=v) (xs:=[]) (ys:=aG us) hx' hy' tO h6 (by show(0:Nat)<0+us.length;omega) hby (by simpa using hbd') hd (fun b cap' hc a' w' rl=>?_) a w Q ⟨r.h,r.sz,c6 a,r.df⟩;exact hfin b cap' (dG v (cap'-us.length)) ov a' w' (by simpa using hc) (by rw[pd,cz,hs,<-dZ];simp at hc⊢;congr 1;omega) (fun o ho _=>ho) (by simpa using rl)
 .have hl:=hlo J
  subst k4;have hlo':lo'=true:=hl _ aQ;subst hlo';have ha:(ρ nm).a=some ⟨b,0,none⟩:=by rw[k3]
  have hn:(ρ nm).n=vs.length:=by rw[k3]
  rw[ha,hn] at hx';rw[h2] at hy' h6;obtain⟨ov1,o1,o2⟩:=i4.of_mem (hBo _ aQ);refine P5 (z:=v) (xs:=aG vs) (ys:=aG us) (rest:=rest) (own1:=ov1) hx' hy' o1 k5 k6 k7 h6 hus h5 hby hbd' (by rw[cz,hs]) hd (fun b' cap' rest' hc hr a' w' rl=>?_) a w Q ⟨r.h,r.sz,c6 a,r.df⟩;rw[<-oc] at rl;exact hfin b' cap' rest' ov1 a' w' hc hr (fun o ho hne=>o2 o ho fun e'=>hne (by rw[ha,e'])) rl
end
section
variable {P:Program} {T:TT} {GB:Gh} {C:aC} {n:Nat} {lk:LK} {bk:BM} {ρ:NE} {G:Gh} {ov:List au} {a:Act} {w:World}
variable {dst:Option Nat} {t t' ty':TypeId} {pos:String} {af:Array Edge} {gd:Option (Nat×Bool)} {x y:Operand} {e s by_:Nat}
def EQ{vs:List Value}{rest cs:List Value}{i sz j:Nat}{v':Value}(hil:i<vs.length)(hvs: ∀v∈vs,(aE v).length=sz)(hv':aE v'=cp (aE vs[i]) j cs)(hj:j+cs.length<=sz):cp (aG vs++rest) (i*sz+j) cs=aG (vs.set i v')++rest:=by
 have hm:(aE vs[i]).length=sz:=hvs _ (iZ hil);have hl':(aE v').length=sz:=by rw[hv',xX,hm]
 rw[<-Wq (rest:=rest) (u:=v') vs i hil hvs hl',hv'];have hlv:=ez vs hvs;have hle:i*sz+sz<=vs.length*sz:=by rw[<-fL];exact bV _ hil
 generalize hmm:aE vs[i]=m at*;have hX:aG vs++rest=(aG vs).take (i*sz)++(m++((aG vs).drop (i*sz+sz)++rest)):=by
  have t1:=GF (rest:=rest) hvs hil;rw[hmm] at t1;obtain⟨_,t2⟩:=xM t1;have t3:m=((aG vs).drop (i*sz)).take sz:=by
   have:m=((aG vs++rest).drop (i*sz)).take sz:=t2;rw[this,jM (by omega),fV (by rw[fN];omega)]
  rw[t3]
  conv=>lhs;rw[<-jZ (i*sz) (aG vs),<-jZ sz ((aG vs).drop (i*sz)),tX]
  simp[cN]
 have hP:((aG vs).take (i*sz)).length=i*sz:=by rw[bK];omega
 generalize (aG vs).take (i*sz)=A at hX hP;generalize (aG vs).drop (i*sz+sz)++rest=Z at hX;rw[hX,<-hP,KN A m Z (cp m j cs) (by rw[xX])];rw[oF _ m j (by omega),oF _ _ _ (by simp only[aL];omega)];rw[List.take_append,cR (by omega),Nat.add_sub_cancel_left,fV (by omega)];rw[lN,gR (by omega),cZ,show A.length+j+cs.length-A.length=j+cs.length by omega,jM (by omega)];simp[cN]
def Ag(ag:Option Nat)(d:DV)(j:Nat)(u:DV):Option DV:=match d with
 | .ag l=>match ag with
  |some k=>bif u.okc&&(Nat.beq u.cells.length k&&Nat.ble (j+k) l.length) then some (.ag (zM l j u.cells)) else none
  |none=>bif u.flat&&Nat.blt j l.length then some (.ag (l.set j u)) else none
 |d=>match ag with
  |some _=>none
  |none=>bif d.flat&&(u.flat&&Nat.beq j 0) then some u else none
def b5.wroteRow{nm b:Nat}{ty:TypeId}{sz:Nat}{ds ds':List DV}{lo lo':Bool}{m':List Value}{own':List au}(r:b5 GB C n lk bk ρ G ov a w)(hb:bk nm=some (.b ty sz ds lo))(ha:(ρ nm).a=some ⟨b,0,none⟩)(hB:dq G ⟨ρ nm,sz,ty,ds',lo⟩ [⟨b,m',ty,lo'⟩])
  (h1:⟨b,m',ty,lo'⟩∈own')(h2: ∀o∈ov,o.b≠b->o∈own'){K:Act->World->Prop}(hk:SX GB C n (dO lk dst .un) (Sx.upB bk [(nm,some (.b ty sz ds' lo))]) K){a':Act}{w':World}(rl:gq C n (Sx.put (cC a) dst undef) own' G a' w'):K a' w':=by
 have r2:=r.upB (G':=G) (ov':=own') (w':=w') (B':= .b ty sz ds' lo) (bD.refl _) rl.h (hB.toBk J) (fun o ho=>by rw[aY.1 ho];exact h1) (fun o ho hne=>h2 o ho fun e=>hne (by rw[ha,e])) ⟨_,hb⟩;exact hk.run _ _ _ a' w' (r2.put J (jz rl))
def NY(cs:List Value)(o:Nat)(v:Value):cp cs o [v]=cs.set o v:=rfl
def ZE{i:TI}{ag:Option Nat}{nm sz k j:Nat}{ty:TypeId}{ds ds':List DV}{lo:Bool}{d d' u:DV}(hi:e7 P t=some i)(ha:i.ag=some ag)(hx:aI lk x=some (.be nm sz k j))(hb:bk nm=some (.b ty sz ds lo))(hy:evD lk y=some u)(he:ds[k]? =some d)(hl:Ag ag d j u=some d')(hds:ds.set k d'=ds'):
  b7 P GB C n lk bk ⟨dst, .store t x y,ty',pos,af,gd⟩ .un [(nm,some (.b ty sz ds' lo))] []:=by
 intro hd tl tb K s1 s2 hf hk;refine⟨fun ρ G ov a w r Q=>?_⟩;subst hds;have r1:=r.mono s1 s2;obtain⟨y',h1,h2⟩:=r1.evD hy;obtain⟨x',h3,b,hwb,rfl⟩:=r1.ev hx;obtain⟨B,hB,hBo⟩:=r1.row (y:= .nilFunc) hb;obtain⟨b',vs,rest,lo',e1,rfl,hv,hvs,hil,hup⟩:=hB.upd he;rw[hwb] at e1;cases e1;obtain⟨v,g1,g2⟩:=hv.get he;obtain⟨g3,g4⟩:=aT.1 g1;have hlv:=ez vs hvs;have hle:k*sz+sz<=vs.length*sz:=by rw[<-fL];exact bV _ hil
 have hml:(aE v).length=sz:=hvs _ (aV g1)
 cases ag with
 |some q=>
  have:=wT hi ha;unfold Ag at hl;split at hl
  .rename_i l
   simp only at hl
   cases hc:(u.okc&&(Nat.beq u.cells.length q&&Nat.ble (j+q) l.length)) with
   |false=>rw[hc] at hl;cases hl
   |true=>
    rw[hc] at hl;cases hl;simp only[aM,Nat.ble_eq] at hc;obtain⟨c1,c2,c3⟩:=hc;replace c2:=aS c2;obtain⟨c4,c5⟩:=h2.cells c1;obtain⟨m,rfl,hm⟩:=dm.1 g2;have hcl:(aE y').length=q:=by rw[c4.len,c2]
    have hmd:=hm.len;have hsz:m.length=sz:=hml;have key:=hup (.agg ⟨cp m j (aE y')⟩) (.ag (zM l j u.cells)) (dm.2 ⟨_,J,hm.ov c4⟩) (by show(cp m j (aE y')).length=sz;rw[xX,hsz]);have hov:=EQ (rest:=rest) (v':= .agg ⟨cp m j (aE y')⟩) (cs:=aE y') (j:=j) hil hvs (by rw[g4];rfl) (by omega);obtain⟨own',u1,u2,u3⟩:=iA.of_mem (cs':=cp (aG vs++rest) (k*sz+j) (aE y')) (hBo _ aQ);refine Dk h3 h1 u1 hcl (by rw[aL];omega) (dT.2 c5) hd (fun a' w' rl=>?_) a w Q ⟨r.h,r.sz,c6 a,r.df⟩;rw[hov] at u2;exact r.wroteRow (s2 _ _ hb) hwb key u2 u3 hk rl
  .simp at hl
 |none=>
  have:=vd hi ha;unfold Ag at hl;split at hl
  .rename_i l
   simp only at hl
   cases hc:(u.flat&&Nat.blt j l.length) with
   |false=>rw[hc] at hl;cases hl
   |true=>
    rw[hc] at hl;cases hl;simp only[aM,mX] at hc;obtain⟨c1,c2⟩:=hc;have hfl:=h2.flat c1;have hcl:=ym hfl;obtain⟨m,rfl,hm⟩:=dm.1 g2;have hmd:=hm.len;have hsz:m.length=sz:=hml;have key:=hup (.agg ⟨m.set j y'⟩) (.ag (l.set j u)) (dm.2 ⟨_,J,hm.set j h2⟩) (by show(m.set j y').length=sz;rw[aR,hsz]);have hov:=EQ (rest:=rest) (v':= .agg ⟨m.set j y'⟩) (cs:=[y']) (j:=j) hil hvs (by rw[g4];rfl) (by simp;omega);rw[NY] at hov;obtain⟨own',u1,u2,u3⟩:=iA.of_mem (cs':=(aG vs++rest).set (k*sz+j) y') (hBo _ aQ);refine wW h3 h1 u1 (by rw[aL];omega) hfl hd (fun a' w' rl=>?_) a w Q ⟨r.h,r.sz,c6 a,r.df⟩;rw[hov] at u2;exact r.wroteRow (s2 _ _ hb) hwb key u2 u3 hk rl
  .rename_i hna
   simp only at hl
   cases hc:(d.flat&&(u.flat&&Nat.beq j 0)) with
   |false=>rw[hc] at hl;cases hl
   |true=>
    rw[hc] at hl;cases hl;simp only[aM] at hc;obtain⟨c0,c1,c2⟩:=hc
    cases aS c2
    have hfl:=h2.flat c1;have hcl:=ym hfl;have hvl:=ym (g2.flat c0);have h1z:1=sz:=by rw[<-hml,hvl];rfl
    have key:=hup y' d' h2 (by rw[hcl,<-h1z];rfl);have hov:=EQ (rest:=rest) (v':=y') (cs:=[y']) (j:=0) hil hvs (by rw[g4,hvl,hcl];rfl) (by simp;omega);rw[NY] at hov;obtain⟨own',u1,u2,u3⟩:=iA.of_mem (cs':=(aG vs++rest).set (k*sz+0) y') (hBo _ aQ);refine wW h3 h1 u1 (by rw[aL];omega) hfl hd (fun a' w' rl=>?_) a w Q ⟨r.h,r.sz,c6 a,r.df⟩;rw[hov] at u2;exact r.wroteRow (s2 _ _ hb) hwb key u2 u3 hk rl
def lv(lk:LK)(dflt:Nat):Option Operand->Option Int
 |none=>some (dflt:Nat)
 |some o=>match aI lk o with
  |some (.d (.v (.int .i64 i)))=>some i
  |_=>none
def ZH{l:List DV}{lo hi:Option Operand}{nlo nhi:Nat}[hT:cB P t e s by_](hx:evD lk x=some (.sl l))(ho:du s l)(hlo:lv lk 0 lo=some (nlo:Int))(hhi:lv lk l.length hi=some (nhi:Int))(h1:nlo<=nhi)(h2:nhi<=l.length):
  b7 P GB C n lk bk ⟨dst, .slice t x lo hi none,ty',pos,af,gd⟩ (.d (.sl ((l.take nhi).drop nlo))) [] []:= .yd fun ρ G ov a w r=>by
 obtain⟨u,h3,h4⟩:=r.evD hx;obtain⟨s',z,es,rfl,hsl,hl⟩:=ie.1 h4;have hn:=hsl.len;have hcap:=hsl.cap;have hll:=hl.len;have key: ∀mx',nhi<=mx'->mx'<=z.c->Is G (.sl ((l.take nhi).drop nlo)) (lP z.a z.n z.c nlo nhi mx' s):=by
  intro mx' hm1 hm2;rcases Bn hsl hl ho with he|he
  .subst he
   have:l=[]:=bL (by rw[<-hll];rfl);subst this;have e1:nhi=0:=by simp at h2;exact h2
   have e2:nlo=0:=by omega
   subst e1 e2;refine ie.2 ⟨s,⟨_,0,mx'⟩,[],J,⟨J,aN _, .inl J⟩,by simpa using IsLs.nil⟩
  .subst he
   refine ie.2 ⟨s',⟨_,_,_⟩,_,J,hsl.sub nlo nhi mx' h1 (by omega) hm1 hm2,(hl.take nhi).drop nlo⟩
 have bnd: ∀{o:Operand} {d:Nat} {i:Int},lv lk d (some o)=some i->aD (cC a) o=some (.int .i64 i):=fun{o d i} h=>by
  simp only[lv] at h;split at h<;>cases h;rename_i he;obtain⟨q,g1,g2⟩:=r.ev he;rw[c8] at g2;subst g2;exact g1
 match lo,hi,hlo,hhi with
 |none,none,hlo,hhi=>
  simp only[lv,Option.some.injEq] at hlo hhi;have e1:nlo=0:=by omega
  have e2:nhi=l.length:=by omega
  subst e1 e2;refine⟨_,key z.c (by omega) (bQ _),?_⟩;intro a w0 hf hh;simp only[execOp,bz hf h3,qK];have h9:=y5 (P:=P) (t:=t) (ad:=z.a) (len:=z.n) (cap:=z.c) w0 (lo:=none) (hi:=none) (mx:=none) (l:=0) (h:=l.length) (m:=z.c) (fun w0=>by
   simp[Instr.sliceBounds,Result.andThen,run_pure];omega)
  exact cI h9
 |none,some o2,hlo,hhi=>
  simp only[lv,Option.some.injEq] at hlo;have e1:nlo=0:=by omega
  subst e1;refine⟨_,key z.c (by omega) (bQ _),?_⟩;have h9:=DW (P:=P) (C:=C) (own:=ov) (G:=G) (t:=t) (dst:=dst) (ty':=ty') (pos:=pos) (af:=af) (gd:=gd) h3 (bnd hhi);have e9:lP z.a z.n z.c 0 nhi z.c s= .slice z.a nhi z.c:=by
   unfold lP
   cases z.a with
   |none=>simp
   |some ad=>simp[Addr.add]
  rw[e9];simpa using h9
 |some o1,none,hlo,hhi=>
  simp only[lv,Option.some.injEq] at hhi;have e2:nhi=l.length:=by omega
  subst e2;refine⟨_,key z.c (by omega) (bQ _),?_⟩;have h9:=Dw (P:=P) (C:=C) (own:=ov) (G:=G) (t:=t) (dst:=dst) (ty':=ty') (pos:=pos) (af:=af) (gd:=gd) h3 (bnd hlo);have e9:z.n=l.length:=by omega
  rw[eY,e9] at h9;rw[e9];exact h9
 |some o1,some o2,hlo,hhi=>
  refine⟨_,key z.c (by omega) (bQ _),?_⟩;have h9:=aj8 (P:=P) (C:=C) (own:=ov) (G:=G) (t:=t) (dst:=dst) (ty':=ty') (pos:=pos) (af:=af) (gd:=gd) h3 (bnd hlo) (bnd hhi) (by omega) (by omega) (by omega);simpa using h9
def Ru{l:List DV}{hi mx:Operand}{nhi:Nat}[hT:cB P t e s by_](hx:evD lk x=some (.sl l))(ho:du s l)(hhi:lv lk 0 (some hi)=some (nhi:Int))(hmx:lv lk 0 (some mx)=some (nhi:Int))(h2:nhi<=l.length):
  b7 P GB C n lk bk ⟨dst, .slice t x none (some hi) (some mx),ty',pos,af,gd⟩ (.ct (l.take nhi)) [] []:= .yd fun ρ G ov a w r=>by
 obtain⟨u,h3,h4⟩:=r.evD hx;obtain⟨s',z,es,rfl,hsl,hl⟩:=ie.1 h4;have hn:=hsl.len;have hcap:=hsl.cap;have hll:=hl.len;have bnd: ∀{o:Operand} {d:Nat} {i:Int},lv lk d (some o)=some i->aD (cC a) o=some (.int .i64 i):=fun{o d i} h=>by
  simp only[lv] at h;split at h<;>cases h;rename_i he;obtain⟨q,g1,g2⟩:=r.ev he;rw[c8] at g2;subst g2;exact g1
 refine⟨.slice z.a nhi nhi,⟨⟨_,_,J⟩,Wu hsl hl ho h2 (bQ _) (by omega)⟩,?_⟩;have h9:=UY (P:=P) (C:=C) (own:=ov) (G:=G) (t:=t) (dst:=dst) (ty':=ty') (pos:=pos) (af:=af) (gd:=gd) h3 (bnd hhi) (bnd hmx) (by omega) (Int.le_refl _) (by omega);simpa using h9
def JO{d:Nat}{i:TI}{z:DV}{ds ds2:List DV}[hT:cB P t e s by_][hN:jP P t'](hi:e7 P e=some i)(hz:ol i=some z)(hs:Nat.beq z.cells.length s=true)(hx:aI lk x=some (.ct ds)\/(aI lk x=some .nl/\ds=[]))(ox:du s ds)(hy:pu lk bk s y=some ds2)(hk2:du s ds2)(hne:0<ds2.length)
  (hby:Nat.blt 0 by_=true)(hbd:(ds.length+ds2.length)*by_<=140737488355328){ds':List DV}(hds:ds++ds2=ds'):
  b7 P GB C n lk bk ⟨some d, .call ⟨.builtin .append, #[x,y], #[t,t']⟩,ty',pos,af,gd⟩ (.rw d) [(d,some (.b e s ds' true))] [d]:=by
 intro hd tl tb K s1 s2 hf hk;refine⟨fun ρ G ov a w r Q=>?_⟩;subst hds;have r1:=r.mono s1 s2;obtain⟨v,hz1,hz2,hz3⟩:=zR hi hz;have cz:=((hz2 G).cells hz3).1.len;replace hs:=aS hs;rw[mX] at hby
 obtain⟨w2,us,h1,h2,h3,h4,h5,h6⟩:=B9 (P:=P) r1 hy hk2;have hxs:pu lk bk s x=some ds:=by
  unfold pu;rcases hx with hx|⟨hx,rfl⟩<;>rw[hx]<;>rfl
 obtain⟨w1,vs,g1,g2,g3,g4,g5,g6⟩:=B9 (P:=P) r1 hxs ox;have hc1:w1.c=w1.n:=by
  rcases hx with hx|⟨hx,rfl⟩
  .obtain⟨y1,k1,⟨a1,n1,rfl⟩,_⟩:=r1.ev hx
   rw[k1] at g1;simp only[Option.some.injEq,Value.slice.injEq] at g1;omega
  .obtain⟨y1,k1,k2⟩:=r1.ev hx
   cases k2
   rw[k1] at g1;simp only[Option.some.injEq,Value.slice.injEq] at g1;omega
 have hl3:=h3.len;have hl4:=g3.len;have hall: ∀v∈vs++us,(aE v).length=s:=fun v hv=>by
  rcases bS.1 hv with hv|hv
  .exact g4 v hv
  .exact h4 v hv
 refine HK (z:=v) (xs:=aG vs) (ys:=aG us) (ad:=w1.a) (len:=w1.n) (cap:=w1.c) g1 h1 g6 h6 (by omega) hby (by rw[g2,h2,hl3,hl4];exact hbd) hd (fun b cap' hc a' w' rl=>?_) a w Q ⟨r.h,r.sz,c6 a,r.df⟩;rw[<-oc] at rl;have hnd':=(bZ.1 rl.h.nd).1;refine r.newRow (z:=⟨some ⟨b,0,none⟩,w1.n+w2.n,cap'⟩) (B:=[⟨b,aG (vs++us)++dG v (cap'-(w1.n+w2.n)),e,true⟩]) hf ⟨vs++us, .inr ⟨b,_,true,by simp[g2,h2],J,ez _ hall,?_,by simpa[g2,h2] using hc⟩,g3.app h3,hall,fun _ o ho=>by rw[aY.1 ho]⟩
  (fun o ho=>by rw[aY.1 ho];exact aQ) (fun m B' hm e o ho _=>⟨aJ _ ho,fun e'=>by cases e';exact hnd' o ho J⟩) hk rl
 rw[ez _ hall,aL,pd,cz,hs,<-dZ,g2,h2];congr 1;rw[g2,h2] at hc;dsimp only;omega
end
end Go.Sx
end
