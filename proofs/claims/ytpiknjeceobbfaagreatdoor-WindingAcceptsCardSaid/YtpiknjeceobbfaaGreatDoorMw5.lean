import Derived.Test.YtpiknjeceobbfaaGreatDoorMw4
set_option linter.all false
set_option maxRecDepth 100000
section
namespace Go.Sx
open Go
def tt:TT:=[
 (2,⟨.int .i64,1,some [.d (.v (.int .i64 0))],false⟩),
 (3,⟨.int .i64,1,some [.d (.v (.int .i64 0))],false⟩),
 (4,⟨.bl,1,some [.ff],false⟩),
 (5,⟨.int .u8,1,some [.d (.v (.int .u8 0))],false⟩),
 (9,⟨.sc,1,some [.d (.v (.string ⟨#[]⟩))],false⟩),
 (20,⟨.fc,1,some [.d (.v (.nilIface))],false⟩),
 (24,⟨.sl 3 1 8,1,some [.nl],false⟩),
 (25,⟨.pt,1,some [.d (.v (.pointer none))],false⟩),
 (27,⟨.sl 41 1 24,1,some [.nl],false⟩),
 (29,⟨.sl 206 1 4,1,some [.nl],false⟩),
 (30,⟨.sl 206 1 4,1,some [.nl],false⟩),
 (32,⟨.st [(0,4,1),(1,30,1)],2,some [.ff, .nl],true⟩),
 (34,⟨.st [(0,32,2),(2,30,1)],3,some [.ff, .nl, .nl],true⟩),
 (36,⟨.st [(0,34,3),(3,34,3)],6,some [.ff, .nl, .nl, .ff, .nl, .nl],true⟩),
 (39,⟨.sl 47 14 216,1,some [.nl],false⟩),
 (41,⟨.sl 36 6 112,1,some [.nl],false⟩),
 (43,⟨.st [(0,32,2),(2,32,2),(4,32,2)],6,some [.ff, .nl, .ff, .nl, .ff, .nl],true⟩),
 (45,⟨.st [(0,34,3),(3,34,3),(6,4,1),(7,4,1)],8,some [.ff, .nl, .nl, .ff, .nl, .nl, .ff, .ff],true⟩),
 (47,⟨.st [(0,43,6),(6,45,8)],14,some [.ff, .nl, .ff, .nl, .ff, .nl, .ff, .nl, .nl, .ff, .nl, .nl, .ff, .ff],true⟩),
 (51,⟨.fc,1,some [.d (.v (.nilIface))],false⟩),
 (54,⟨.sl 113 1 24,1,some [.nl],false⟩),
 (56,⟨.sl 206 1 4,1,some [.nl],false⟩),
 (58,⟨.st [(0,4,1),(1,56,1)],2,some [.ff, .nl],true⟩),
 (60,⟨.st [(0,58,2),(2,56,1)],3,some [.ff, .nl, .nl],true⟩),
 (62,⟨.st [(0,60,3),(3,60,3)],6,some [.ff, .nl, .nl, .ff, .nl, .nl],true⟩),
 (65,⟨.sl 43 6 96,1,some [.nl],false⟩),
 (67,⟨.st [(0,27,1),(1,3,1),(2,65,1)],3,some [.nl, .d (.v (.int .i64 0)), .nl],true⟩),
 (77,⟨.sl 140 6 96,1,some [.nl],false⟩),
 (84,⟨.sl 62 6 112,1,some [.nl],false⟩),
 (89,⟨.st [(0,24,1),(1,3,1)],2,some [.nl, .d (.v (.int .i64 0))],true⟩),
 (96,⟨.sl 130 17 128,1,some [.nl],false⟩),
 (99,⟨.pt,1,some [.d (.v (.pointer none))],false⟩),
 (101,⟨.st [(0,2,1),(1,2,1),(2,99,1)],3,some [.d (.v (.int .i64 0)), .d (.v (.int .i64 0)), .d (.v (.pointer none))],true⟩),
 (103,⟨.st [(0,101,3),(3,101,3)],6,some [.d (.v (.int .i64 0)), .d (.v (.int .i64 0)), .d (.v (.pointer none)), .d (.v (.int .i64 0)), .d (.v (.int .i64 0)), .d (.v (.pointer none))],true⟩),
 (113,⟨.sl 62 6 112,1,some [.nl],false⟩),
 (124,⟨.sl 126 9 72,1,some [.nl],false⟩),
 (126,⟨.st [(0,101,3),(3,101,3),(6,101,3)],9,some [.d (.v (.int .i64 0)), .d (.v (.int .i64 0)), .d (.v (.pointer none)), .d (.v (.int .i64 0)), .d (.v (.int .i64 0)), .d (.v (.pointer none)), .d (.v (.int .i64 0)), .d (.v (.int .i64 0)), .d (.v (.pointer none))],true⟩),
 (128,⟨.st [(0,101,3),(3,101,3),(6,4,1),(7,4,1)],8,some [.d (.v (.int .i64 0)), .d (.v (.int .i64 0)), .d (.v (.pointer none)), .d (.v (.int .i64 0)), .d (.v (.int .i64 0)), .d (.v (.pointer none)), .ff, .ff],true⟩),
 (130,⟨.st [(0,126,9),(9,128,8)],17,some [.d (.v (.int .i64 0)), .d (.v (.int .i64 0)), .d (.v (.pointer none)), .d (.v (.int .i64 0)), .d (.v (.int .i64 0)), .d (.v (.pointer none)), .d (.v (.int .i64 0)), .d (.v (.int .i64 0)), .d (.v (.pointer none)), .d (.v (.int .i64 0)), .d (.v (.int .i64 0)), .d (.v (.pointer none)), .d (.v (.int .i64 0)), .d (.v (.int .i64 0)), .d (.v (.pointer none)), .ff, .ff],true⟩),
 (140,⟨.st [(0,58,2),(2,58,2),(4,58,2)],6,some [.ff, .nl, .ff, .nl, .ff, .nl],true⟩),
 (159,⟨.int .u64,1,some [.d (.v (.int .u64 0))],false⟩),
 (160,⟨.sl 164 1 24,1,some [.nl],false⟩),
 (163,⟨.sl 103 6 48,1,some [.nl],false⟩),
 (164,⟨.sl 103 6 48,1,some [.nl],false⟩),
 (182,⟨.sl 51 1 16,1,some [.nl],false⟩),
 (199,⟨.int .u64,1,some [.d (.v (.int .u64 0))],false⟩),
 (206,⟨.int .u32,1,some [.d (.v (.int .u32 0))],false⟩),
 (218,⟨.pt,1,some [.d (.v (.pointer none))],false⟩),
 (220,⟨.st [(0,51,1),(1,3,1),(2,3,1),(3,9,1)],4,some [.d (.v (.nilIface)), .d (.v (.int .i64 0)), .d (.v (.int .i64 0)), .d (.v (.string ⟨#[]⟩))],true⟩),
 (226,⟨.o,12,some [.d (.v (.int .i64 0)), .d (.v (.int .i64 0)), .d (.v (.pointer none)), .d (.v (.int .i64 0)), .d (.v (.int .i64 0)), .d (.v (.pointer none)), .d (.v (.int .i64 0)), .d (.v (.int .i64 0)), .d (.v (.pointer none)), .d (.v (.int .i64 0)), .d (.v (.int .i64 0)), .d (.v (.pointer none))],true⟩),
 (247,⟨.st [(0,58,2),(2,56,1)],3,some [.ff, .nl, .nl],true⟩),
 (249,⟨.int .i64,1,some [.d (.v (.int .i64 0))],false⟩),
 (280,⟨.sl 230 1 8,1,some [.nl],false⟩),
 (283,⟨.int .u64,1,some [.d (.v (.int .u64 0))],false⟩),
 (287,⟨.pt,1,some [.d (.v (.pointer none))],false⟩),
 (311,⟨.sl 101 3 24,1,some [.nl],false⟩),
 (338,⟨.o,32,some [.d (.v (.int .u8 0)), .d (.v (.int .u8 0)), .d (.v (.int .u8 0)), .d (.v (.int .u8 0)), .d (.v (.int .u8 0)), .d (.v (.int .u8 0)), .d (.v (.int .u8 0)), .d (.v (.int .u8 0)), .d (.v (.int .u8 0)), .d (.v (.int .u8 0)), .d (.v (.int .u8 0)), .d (.v (.int .u8 0)), .d (.v (.int .u8 0)), .d (.v (.int .u8 0)), .d (.v (.int .u8 0)), .d (.v (.int .u8 0)), .d (.v (.int .u8 0)), .d (.v (.int .u8 0)), .d (.v (.int .u8 0)), .d (.v (.int .u8 0)), .d (.v (.int .u8 0)), .d (.v (.int .u8 0)), .d (.v (.int .u8 0)), .d (.v (.int .u8 0)), .d (.v (.int .u8 0)), .d (.v (.int .u8 0)), .d (.v (.int .u8 0)), .d (.v (.int .u8 0)), .d (.v (.int .u8 0)), .d (.v (.int .u8 0)), .d (.v (.int .u8 0)), .d (.v (.int .u8 0))],true⟩),
 (339,⟨.o,64,some [.d (.v (.int .u8 0)), .d (.v (.int .u8 0)), .d (.v (.int .u8 0)), .d (.v (.int .u8 0)), .d (.v (.int .u8 0)), .d (.v (.int .u8 0)), .d (.v (.int .u8 0)), .d (.v (.int .u8 0)), .d (.v (.int .u8 0)), .d (.v (.int .u8 0)), .d (.v (.int .u8 0)), .d (.v (.int .u8 0)), .d (.v (.int .u8 0)), .d (.v (.int .u8 0)), .d (.v (.int .u8 0)), .d (.v (.int .u8 0)), .d (.v (.int .u8 0)), .d (.v (.int .u8 0)), .d (.v (.int .u8 0)), .d (.v (.int .u8 0)), .d (.v (.int .u8 0)), .d (.v (.int .u8 0)), .d (.v (.int .u8 0)), .d (.v (.int .u8 0)), .d (.v (.int .u8 0)), .d (.v (.int .u8 0)), .d (.v (.int .u8 0)), .d (.v (.int .u8 0)), .d (.v (.int .u8 0)), .d (.v (.int .u8 0)), .d (.v (.int .u8 0)), .d (.v (.int .u8 0)), .d (.v (.int .u8 0)), .d (.v (.int .u8 0)), .d (.v (.int .u8 0)), .d (.v (.int .u8 0)), .d (.v (.int .u8 0)), .d (.v (.int .u8 0)), .d (.v (.int .u8 0)), .d (.v (.int .u8 0)), .d (.v (.int .u8 0)), .d (.v (.int .u8 0)), .d (.v (.int .u8 0)), .d (.v (.int .u8 0)), .d (.v (.int .u8 0)), .d (.v (.int .u8 0)), .d (.v (.int .u8 0)), .d (.v (.int .u8 0)), .d (.v (.int .u8 0)), .d (.v (.int .u8 0)), .d (.v (.int .u8 0)), .d (.v (.int .u8 0)), .d (.v (.int .u8 0)), .d (.v (.int .u8 0)), .d (.v (.int .u8 0)), .d (.v (.int .u8 0)), .d (.v (.int .u8 0)), .d (.v (.int .u8 0)), .d (.v (.int .u8 0)), .d (.v (.int .u8 0)), .d (.v (.int .u8 0)), .d (.v (.int .u8 0)), .d (.v (.int .u8 0)), .d (.v (.int .u8 0))],true⟩),
 (340,⟨.pt,1,some [.d (.v (.pointer none))],false⟩),
 (365,⟨.st [(0,9,1)],1,some [.d (.v (.string ⟨#[]⟩))],true⟩)]
def c':gE Go.Proofs.Tryz.prog tt:=gE.of (by kernel_rfl)
end Go.Sx
end
section
namespace Go.Sx
open Go Go.Proofs Tryz
def kI:Nat->List DV->ak
 |_,[]=>[]
 |i,v::t=>(i, .d v)::kI (i+1) t
class Fu where n:Nat
instance fu0:Fu:=⟨400⟩
section
variable {GB:Gh} {C:au} {n:Nat} {Q0:Exit->Act->World->Prop} {fr fr':ak} {own own':aw} {cf cf':Cf} {vc vc':List Prop} {ops:Array Oper} {r:List Oper} {o:Oper} {K:List Kt}
def dw{q:Nat}(h:go tt n q [] fr own cf=⟨vc,fr',own',cf'⟩)(hv:ah vc)(k:aj prog GB C n Q0 fr' own' cf'):aj prog GB C n Q0 fr own cf:=by
 have:=(ef (GB:=GB) (C:=C) (Q0:=Q0) c' follows q [] fr own cf (by rw[h];exact hv)).2;rw[h] at this;exact this k
def gx[fu:Fu](h:go tt n fu.n [] fr own cf=⟨vc,fr',own',cf'⟩)(k:aj prog GB C n Q0 fr' own' cf')(hv:ah vc:=by first|exact trivial|(simp only[ah];kernel_rfl)|(simp only[ah];omega)|(simp only[ah,aZ,aY,aJ];omega)):aj prog GB C n Q0 fr own cf:=dw h hv k
def DF: ∀{ds:List DV} {vs:List Value} {ρ:NE} {G:Gh} (i:Nat),IsLs G ds vs-> ∀k f,aA (kI i ds) k=some f-> ∃y,(∃j,k=i+j/\vs[j]? =some y)/\bi ρ G f y
 |[],vs,ρ,G,i,h,k,f,e=>by cases e
 |d::t,vs,ρ,G,i,h,k,f,e=>by
  obtain⟨y,m,rfl,h1,h2⟩:=bz.1 h;simp only[kI] at e;rw[fw] at e;split at e
  ·cases e;rename_i hk;exact⟨y,⟨0,hk,rfl⟩,h1⟩
  ·obtain⟨u,⟨j,hj,hu⟩,h3⟩:=DF (i+1) h2 k f e
   exact⟨u,⟨j+1,by omega,by simpa using hu⟩,h3⟩
def pS{ds:List DV}{vs:List Value}{ρ:NE}{G:Gh}{a:Act}(h:IsLs G ds vs)(hf:fH (jF 0 vs) a)(k:Nat)(f:FX)(e:aA (kI 0 ds) k=some f): ∃y,a.tmps[k]? =some y/\bi ρ G f y:=by
 obtain⟨y,⟨j,hj,hy⟩,h1⟩:=DF (ρ:=ρ) 0 h k f e;refine⟨y,hf k y ?_,h1⟩;rw[hj];exact pG vs 0 j y hy
def fn[fu:Fu]{f:FuncId}{fb:Func}{c:Code}{m:Nat}{ds:List DV}{rv:DV}(hf:prog.funcs[f]? =some fb)(hb:fb.body=some c)(hn:(fb.name== "runtime.NumGoroutine")=false)(hm:fb.ntmps=m)(hlen:Nat.ble ds.length m=true)
  (hgo:go tt m fu.n [] (kI 0 ds) [] (.code c [])=⟨vc,fr,own,cf⟩)(k: ∀C:au,aj prog GB C m (fg C prog fb (fk C (fun v G'=>Is G' rv v))) fr own cf)
  (hv:ah vc:=by first|exact trivial|(simp only[ah];kernel_rfl)|(simp only[ah];omega)|(simp only[ah,aZ,aY,aJ];omega)):PF GB prog f ds rv:=by
 intro G vs hg hvs;refine Fn.introR hf hb hn hm (by rw[hvs.len];exact hlen) fun C _ _ hrd hfx=>?_;intro a w rl;refine qi hrd ?_;have h:=dw (GB:=GB) (C:=C) (Q0:=fg C prog fb (fk C (fun v G'=>Is G' rv v))) hgo hv (k C);exact h.run (fun _=>⟨none,0,0⟩) G [] a w ⟨hg,rl.h,rl.sz,rl.df,(fun k f e=>pS hvs rl.fr k f e),(fun nm B e=>by cases e),(fun nm nm' B B' e=>by cases e),fun nm p _ _ e=>by rw[hfx] at e;cases e⟩
def aj.cond{c:Operand}{x y:Code}{b:Bool}{f:FX}(hc:az (aA fr) c=some f)(hb:k8 f=some b)(h1:b=true->aj prog GB C n Q0 fr own (.code x K))(h2:b=false->aj prog GB C n Q0 fr own (.code y K)):aj prog GB C n Q0 fr own (.code (.cond c x y) K):=SX.cond hc hb h1 h2
variable {fr1 fr2:ak} {own1 own2:aw} {cf1 cf2:Cf} {vc1 vc2:List Prop}
def br[fu1:Fu][fu2:Fu]{p:Prop}{hp:Decidable p}{c:Operand}{x y:Code}(hc:az (aA fr) c=some (.pr p hp))(g1:go tt n fu1.n [] fr own (.code x K)=⟨vc1,fr1,own1,cf1⟩)(g2:go tt n fu2.n [] fr own (.code y K)=⟨vc2,fr2,own2,cf2⟩)
  (k1:p->aj prog GB C n Q0 fr1 own1 cf1)(k2: ¬p->aj prog GB C n Q0 fr2 own2 cf2)
  (v1:p->ah vc1:=by intro;first|exact trivial|(simp only[ah];omega)|(simp only[ah,aZ,aY,aJ];omega))(v2: ¬p->ah vc2:=by intro;first|exact trivial|(simp only[ah];omega)|(simp only[ah,aZ,aY,aJ];omega)):aj prog GB C n Q0 fr own (.code (.cond c x y) K):=
 .cond hc J (fun h=>dw g1 (v1 (of_decide_eq_true h)) (k1 (of_decide_eq_true h))) (fun h=>dw g2 (v2 (of_decide_eq_false h)) (k2 (of_decide_eq_false h)))
def bd[fu1:Fu][fu2:Fu]{p:Prop}{hp:Decidable p}{c:Operand}{x y:Code}(hc:az (aA fr) c=some (.d (.v (.bool (@decide p hp)))))(g1:go tt n fu1.n [] fr own (.code x K)=⟨vc1,fr1,own1,cf1⟩)(g2:go tt n fu2.n [] fr own (.code y K)=⟨vc2,fr2,own2,cf2⟩)
  (k1:p->aj prog GB C n Q0 fr1 own1 cf1)(k2: ¬p->aj prog GB C n Q0 fr2 own2 cf2)
  (v1:p->ah vc1:=by intro;first|exact trivial|(simp only[ah];omega)|(simp only[ah,aZ,aY,aJ];omega))(v2: ¬p->ah vc2:=by intro;first|exact trivial|(simp only[ah];omega)|(simp only[ah,aZ,aY,aJ];omega)):aj prog GB C n Q0 fr own (.code (.cond c x y) K):=
 .cond hc J (fun h=>dw g1 (v1 (of_decide_eq_true h)) (k1 (of_decide_eq_true h))) (fun h=>dw g2 (v2 (of_decide_eq_false h)) (k2 (of_decide_eq_false h)))
def bb[fu1:Fu][fu2:Fu]{b:Bool}{c:Operand}{x y:Code}(hc:az (aA fr) c=some (.d (.v (.bool b))))(g1:go tt n fu1.n [] fr own (.code x K)=⟨vc1,fr1,own1,cf1⟩)(g2:go tt n fu2.n [] fr own (.code y K)=⟨vc2,fr2,own2,cf2⟩)
  (k1:b=true->aj prog GB C n Q0 fr1 own1 cf1)(k2:b=false->aj prog GB C n Q0 fr2 own2 cf2)
  (v1:b=true->ah vc1:=by intro;first|exact trivial|(simp only[ah];omega)|(simp only[ah,aZ,aY,aJ];omega))(v2:b=false->ah vc2:=by intro;first|exact trivial|(simp only[ah];omega)|(simp only[ah,aZ,aY,aJ];omega)):aj prog GB C n Q0 fr own (.code (.cond c x y) K):=
 .cond hc J (fun h=>dw g1 (v1 h) (k1 h)) (fun h=>dw g2 (v2 h) (k2 h))
def ld{d:Nat}{f g:FX}(hl:aA fr d=some f)(hi: ∀ρ G y,bi ρ G f y->bi ρ G g y){Φ:Act->World->Prop}(h:SX GB C n (aA ((d,g)::fr)) (aD own) Φ):SX GB C n (aA fr) (aD own) Φ:=by
 refine⟨fun ρ G ov a w r=>h.run ρ G ov a w ⟨r.gb,r.h,r.sz,r.df,fun k f' e=>?_,r.bx,r.dj,r.fxd⟩⟩;rw[fw] at e;split at e
 ·cases e;rename_i hk;subst hk
  obtain⟨y,h1,h2⟩:=r.fx _ _ hl;exact⟨y,h1,hi _ _ _ h2⟩
 ·exact r.fx k f' e
def aF(d:Nat){f:FX}(g:FX)(hl:aA fr d=some f)(e:f=g)(h:aj prog GB C n Q0 ((d,g)::fr) own cf):aj prog GB C n Q0 fr own cf:=by
 have hs:aA ((d,g)::fr)=aA fr:=by
  funext k;rw[fw];split
  ·rename_i hk;rw[hk,hl,e]
  ·rfl
 cases cf with
 |dr id ops fr0 own0 us r K=>exact fun D=>h ⟨D.pre,by rw[hs];exact D.st,D.snd⟩
 |_=>unfold aj at h⊢;rw[hs] at h;exact h
def PF.to{f:FuncId}{ds:List DV}{r1 r2:DV}{P:Program}(h:PF GB P f ds r1)(e:r1=r2):PF GB P f ds r2:=e▸h
def cs[fu1:Fu][fu2:Fu](d:Nat){p:Prop}{hp:Decidable p}(hl:aA fr d=some (.pr p hp))(g1:go tt n fu1.n [] ((d, .tt)::fr) own (.ops ops r K)=⟨vc1,fr1,own1,cf1⟩)(g2:go tt n fu2.n [] ((d, .ff)::fr) own (.ops ops r K)=⟨vc2,fr2,own2,cf2⟩)
  (k1:p->aj prog GB C n Q0 fr1 own1 cf1)(k2: ¬p->aj prog GB C n Q0 fr2 own2 cf2)
  (v1:p->ah vc1:=by intro;first|exact trivial|(simp only[ah];omega)|(simp only[ah,aZ,aY,aJ];omega))(v2: ¬p->ah vc2:=by intro;first|exact trivial|(simp only[ah];omega)|(simp only[ah,aZ,aY,aJ];omega)):aj prog GB C n Q0 fr own (.ops ops r K):=by
 by_cases h:p
 ·exact ld hl (fun _ _ _ e=>by rw[show _=_ from e,decide_eq_true h];exact J) (dw g1 (v1 h) (k1 h))
 ·exact ld hl (fun _ _ _ e=>by rw[show _=_ from e,decide_eq_false h];exact J) (dw g2 (v2 h) (k2 h))
def gu[fu1:Fu][fu2:Fu](d:Nat){b:Bool}(hl:aA fr d=some (.d (.v (.bool b))))(g1:go tt n fu1.n [] ((d, .tt)::fr) own (.ops ops r K)=⟨vc1,fr1,own1,cf1⟩)(g2:go tt n fu2.n [] ((d, .ff)::fr) own (.ops ops r K)=⟨vc2,fr2,own2,cf2⟩)
  (k1:b=true->aj prog GB C n Q0 fr1 own1 cf1)(k2:b=false->aj prog GB C n Q0 fr2 own2 cf2)
  (v1:b=true->ah vc1:=by intro;first|exact trivial|(simp only[ah];omega)|(simp only[ah,aZ,aY,aJ];omega))(v2:b=false->ah vc2:=by intro;first|exact trivial|(simp only[ah];omega)|(simp only[ah,aZ,aY,aJ];omega)):aj prog GB C n Q0 fr own (.ops ops r K):=by
 cases h:b with
 |true=>exact ld hl (fun _ G _ e=>by rw[(bh (G:=G)).1 e,h];exact J) (dw g1 (v1 h) (k1 h))
 |false=>exact ld hl (fun _ G _ e=>by rw[(bh (G:=G)).1 e,h];exact J) (dw g2 (v2 h) (k2 h))
def rP:Cf->Option (Array Oper×Oper)
 | .ops ops (o::_) _=>some (ops,o)
 | .dr _ ops _ _ _ (o::_) _=>some (ops,o)
 |_=>none
def aH(fr:ak):Cf->LK
 | .dr _ ops _ _ _ (o::_) _=>gj (qb ops o) (aA fr)
 |_=>aA fr
def dG(fr:ak)(own:aw):Cf->BM
 | .dr _ ops _ _ _ (o::_) _=>gj (sQ o fr (qb ops o)) (aD own)
 |_=>aD own
def ij:pf:=⟨[False],[],[], .ex .normal []⟩
def b7(T:TT)(n q:Nat)(fr:ak)(own:aw)(cf:Cf)(f:FX)(bl:List (Nat×Option Bk))(nw:List Nat):pf:=match cf with
 | .ops ops (o::r) K=>bif lj nw o.dst fr own&&bD n o.dst then jt own bl fun own'=>pd fr o.dst f fun fr'=>go T n q [] fr' own' (.ops ops r K) else ij
 | .dr id ops fr0 own0 us (o::r) K=>bif bD n o.dst then fE (qb ops o) fun rs=>fE (sQ o fr rs) fun rn=>jt own bl fun own'=>fE (us++[⟨rs,o.dst,f,rn,bl,nw⟩]) fun us'=>pd fr o.dst f fun fr'=>go T n q [] fr' own' (.dr id ops fr0 own0 us' r K) else ij
 |_=>ij
def mt(ops:Array Oper)(lk:LK):Option (Nat×Bool)->Bool
 |none=>true
 |some (j,b)=>match ops[j]? with
  |some oj=>match oj.dst with
   |some d=>match lk d with
    |some .tt=>b
    |some .ff=>!b
    |_=>false
   |none=>false
  |none=>false
def sB{lk:LK}{bk:BM}{o:Oper}(h:mt ops lk o.guard=true): ∀ρ G ov a w,bg GB C n lk bk ρ G ov a w->Region.wanted o (yielded ops a.tmps)=true:=fun ρ G ov a w r=>by
 unfold Region.wanted;unfold mt at h;split at h
 ·rename_i e;rw[e]
 ·rename_i j b e
  rw[e];split at h<;>try (cases h;done)
  rename_i oj hj;split at h<;>try (cases h;done)
  rename_i d hd;split at h<;>try (cases h;done)
  ·rename_i hl
   obtain⟨y,h1,h2⟩:=pq r hj hd hl
   cases h1;simp only[h2];subst h;rfl
  ·rename_i hl
   obtain⟨y,h1,h2⟩:=pq r hj hd hl
   cases h1;simp only[h2];cases b<;>first|rfl|(simp at h)
def uo{q:Nat}{f:FX}{bl:List (Nat×Option Bk)}{nw:List Nat}(hh:rP cf=some (ops,o))(hg:mt ops (aH fr cf) o.guard=true)(h:bp prog GB C n (aH fr cf) (dG fr own cf) o f bl nw)
  (hgo:b7 tt n q fr own cf f bl nw=⟨vc,fr',own',cf'⟩)(hv:ah vc)(k:aj prog GB C n Q0 fr' own' cf'):aj prog GB C n Q0 fr own cf:=by
 obtain⟨dst,op,ty,pos,af,gd⟩:=o
 cases cf with
 |ops ops' r K=>
  cases r with
  |nil=>cases hh
  |cons o' r=>
   cases hh
   unfold b7 at hgo
   cases hc:(lj nw dst fr own&&bD n dst) with
   |false=>simp only[hc,cond_false,ij] at hgo;cases hgo;exact absurd hv (fun x=>x)
   |true=>
    simp only[hc,cond_true] at hgo;simp only[nB,o7] at hgo;simp only[aR] at hc;exact SX.op (h.toS hc.2 (sB hg)) (pV hc.1) (dw hgo hv k)
 |dr id ops' fr0 own0 us r K=>
  cases r with
  |nil=>cases hh
  |cons o' r=>
   cases hh
   unfold b7 at hgo
   cases hc:bD n dst with
   |false=>simp only[hc,cond_false,ij] at hgo;cases hgo;exact absurd hv (fun x=>x)
   |true=>
    simp only[hc,cond_true,lf] at hgo;simp only[nB,o7] at hgo;intro D;exact dw hgo hv k (D.push (h.toS hc (sB hg)))
 |_=>cases hh
def jB(lk:LK)(fo:Operand)(args:Array Operand):Option (FuncId×List DV):=match az lk fo with
 |some (.d (.v (.func (.func f) ⟨[]⟩ ⟨[]⟩)))=>match evDs lk args.toList with
  |some ds=>some (f,ds)
  |none=>none
 |_=>none
def p6{lk:LK}{fo:Operand}{args:Array Operand}{f:FuncId}{ds:List DV}(h:jB lk fo args=some (f,ds)):az lk fo=some (.d (.v (.func (.func f) #[] #[])))/\evDs lk args.toList=some ds:=by
 unfold jB at h;split at h<;>try (cases h;done)
 rename_i h1;split at h<;>cases h;rename_i h2;exact⟨h1,h2⟩
def zc{lk:LK}{bk:BM}{fo:Operand}{args:Array Operand}{tys:Array TypeId}{f:FuncId}{ds:List DV}{rv:DV}{dst:Option Nat}{ty:TypeId}{pos:String}{af:Array Edge}{gd:Option (Nat×Bool)}(ha:jB lk fo args=some (f,ds))(hF:PF GB prog f ds rv):
  bp prog GB C n lk bk ⟨dst, .call ⟨.value fo,args,tys⟩,ty,pos,af,gd⟩ (.d rv) [] []:=by
 intro hd tl tb K' s1 s2 hf hk;refine⟨fun ρ G ov a w r Q=>?_⟩;obtain⟨h1,h2⟩:=p6 ha;obtain⟨y,hy,hy'⟩:=(r.mono s1 s2).ev h1;rw[(bh (G:=G)).1 hy'] at hy;obtain⟨vs,h3,h4⟩:=(r.mono s1 s2).evDs h2;refine zC hy h3 (hF G vs r.gb h4) hd (fun v G' hG hK a' w' rl=>?_) a w Q ⟨r.h,r.sz,ck a,r.df⟩;exact hk.run ρ G' ov a' w' ⟨r.gb.trans hG.le,rl.h,rl.sz,rl.df,(iC rl).fx (fun k g _ e=>by obtain⟨u,h5,h6⟩:=r.fx k g e;exact⟨u,h5,h6.up hG.le⟩) hK,
  fun nm B e=>by obtain⟨os,h5,h6⟩:=r.bx nm B e;exact⟨os,h5.up hG.le,h6⟩,r.dj,r.fxd⟩
def ca[fu:Fu]{fo:Operand}{args:Array Operand}{tys:Array TypeId}{f:FuncId}{ds:List DV}{rv:DV}{dst:Option Nat}{ty:TypeId}{pos:String}{af:Array Edge}{gd:Option (Nat×Bool)}(hh:rP cf=some (ops,⟨dst, .call ⟨.value fo,args,tys⟩,ty,pos,af,gd⟩))
  (hg:mt ops (aH fr cf) gd=true)(ha:jB (aH fr cf) fo args=some (f,ds))(hF:PF GB prog f ds rv)(hgo:b7 tt n fu.n fr own cf (.d rv) [] []=⟨vc,fr',own',cf'⟩)(k:aj prog GB C n Q0 fr' own' cf')(hv:ah vc:=by first|exact trivial|(simp only[ah];kernel_rfl)|(simp only[ah];omega)|(simp only[ah,aZ,aY,aJ];omega)):aj prog GB C n Q0 fr own cf:=
 uo hh hg (zc ha hF) hgo hv k
def ku(T:TT)(fr:ak)(own:aw):List ResultVar->Option (List DV)
 |[]=>some []
 | .tmp t::rs=>match aA fr t with
  |some f=>match f7 f with
   |some d=>match ku T fr own rs with
    |some l=>some (d::l)
    |none=>none
   |none=>none
  |none=>none
 | .cell a t::rs=>match aA fr a with
  |some (.ov nm 0)=>match b6 T t with
   |some i=>match aD own nm with
    |some (.o _ cs _)=>match i.ag with
     |some (some k)=>match takeX cs 0 k with
      |some c=>match iw c with
       |some d=>match ku T fr own rs with
        |some l=>some (.ag d::l)
        |none=>none
       |none=>none
      |none=>none
     |some none=>match cs[0]? with
      |some c=>match f7 c with
       |some d=>match ku T fr own rs with
        |some l=>some (d::l)
        |none=>none
       |none=>none
      |none=>none
     |none=>none
    |_=>none
   |none=>none
  |_=>none
def qQ{ρ:NE}{G:Gh}{ov:List ao}{a:Act}{w:World}(h:bg GB C n (aA fr) (aD own) ρ G ov a w): ∀{rs:List ResultVar} {ds:List DV},ku tt fr own rs=some ds-> ∃vs,gg prog (cj a) ov rs vs/\IsLs G ds vs:=by
 intro rs
 induction rs with
 |nil=>intro ds e;cases e;exact⟨[], .nil, .nil⟩
 |cons x rs ih=>
  intro ds e
  cases x with
  |tmp t=>
   simp only[ku] at e;split at e<;>try (cases e;done)
   rename_i f hf;split at e<;>try (cases e;done)
   rename_i d hd;split at e<;>cases e;rename_i l hl;obtain⟨vs,h1,h2⟩:=ih hl;obtain⟨y,h3,h4⟩:=h.fx t f hf;exact⟨y::vs, .tmp (qN h3) h1, .cons (mA h4 hd) h2⟩
  |cell t ty=>
   simp only[ku] at e;split at e<;>try (cases e;done)
   rename_i nm hf;split at e<;>try (cases e;done)
   rename_i i hi;split at e<;>try (cases e;done)
   rename_i hb;obtain⟨y,h3,h4⟩:=h.fx t _ hf;obtain⟨b,m,rfl,h5,h6,h7⟩:=h.own h4 hb;have oat:fD ov b m _ _:=⟨h7⟩;split at e<;>try (cases e;done)
   ·rename_i k ha
    split at e<;>try (cases e;done)
    rename_i c hc;split at e<;>try (cases e;done)
    rename_i d hd;split at e<;>cases e;rename_i l hl;obtain⟨vs,h1,h2⟩:=ih hl;obtain⟨l',h8,h9⟩:=h6.takeX hc;exact⟨.agg ⟨l'⟩::vs, .agg (qN h3) oat (oW (c' _ _ hi) ha) h8 h1, .cons (du.2 ⟨l',J,nV h9 hd⟩) h2⟩
   ·rename_i ha
    split at e<;>try (cases e;done)
    rename_i c hc;split at e<;>try (cases e;done)
    rename_i d hd;split at e<;>cases e;rename_i l hl;obtain⟨vs,h1,h2⟩:=ih hl;obtain⟨l',h8,h9⟩:=h6.get hc;exact⟨l'::vs, .sc (qN h3) oat (ou (c' _ _ hi) ha) h8 h1, .cons (mA h9 hd) h2⟩
def p8:Exit->Bool
 | .ret=>true
 | .normal=>true
 |_=>false
def rz{fb:Func}{e:Exit}{ds:List DV}{rv:DV}(hr:ku tt fr own fb.results.toList=some ds)(hd:jj ds=rv)(he:p8 e=true:=by rfl):aj prog GB C n (fg C prog fb (fk C (fun v G'=>Is G' rv v))) fr own (.ex e []):=by
 refine⟨fun ρ G ov a w r=>?_⟩;obtain⟨vs,h1,h2⟩:=qQ r hr;have hk:Is G rv (d5 vs):=hd▸r4 h2
 cases e with
 |ret=>exact zD (C:=C) (n:=n) (fr:=cj a) (own:=ov) (G:=G) (K:=fun v G'=>Is G' rv v) h1 hk a w ⟨r.h,r.sz,ck a,r.df⟩
 |normal=>exact ui (C:=C) (n:=n) (fr:=cj a) (own:=ov) (G:=G) (K:=fun v G'=>Is G' rv v) h1 hk a w ⟨r.h,r.sz,ck a,r.df⟩
 |_=>cases he
end
end Go.Sx
end
section
namespace Go.Sx
open Go
section
variable {P:Program} {GB:Gh} {C:au} {n:Nat} {E:i8} {fr fr':cC} {own own':List bH} {bs bs' bs1:List cg} {ops:Array Oper} {Q:Exit->Act->World->Prop} {r:List Oper} {Φ:Act->World->Prop}
variable {dst:Option Nat} {t t' ty':TypeId} {pos:String} {af:Array Edge} {gd:Option (Nat×Bool)} {x y z:Operand} {e s by_:Nat}
class Nx (P:Program) (t:TypeId) (d:outParam DV):Prop where
 z: ∃z,fp P t z/\Is (fun _=>none) d z/\d.okc=true
abbrev SV.f (w:SV):FV:= .d (.v (.slice w.a w.n w.c))
def H1(z:Value)(k:Nat):aE (List.replicate k z)=cI z k:=by unfold aE cI;rw[List.map_replicate]
def yi{G:Gh}{d:DV}{y:Value}(h:Is G d y): ∀k:Nat,IsLs G (List.replicate k d) (List.replicate k y)
 |0=> .nil
 |k+1=> .cons h (yi h k)
def LG(fr:cC):Nat->List (Nat×Operand)->Option (List DV)
 |_,[]=>some []
 |j,(i,x)::r=>match s7 fr x,LG fr (j+1) r with
  |some d,some l=>bif Nat.beq i j then some (d::l) else none
  |_,_=>none
def Bb(pre mid post vs:List Value)(h:vs.length=mid.length):cp (pre++(mid++post)) pre.length vs=pre++(vs++post):=by
 rw[nf _ _ _ (by simp;omega)];simp[h]
def Fd(z:Value)(k:Nat):cI z (k+1)=aC z++cI z k:=by simp[cI,eJ]
def qJ(s:Nat)(ds:List DV):Bool:=ds.all fun d=>d.okc&&Nat.beq d.cells.length s
def Aj{ds:List DV}(h:qJ s ds=true):eh s ds:=fun d hd=>by
 have:=cW.1 h d hd;simp only[aR] at this;exact⟨this.1,aW this.2⟩
def AB{cs:List Value}{off s:Nat}: ∀(es:List Value),(∀i (h:i<es.length),bF cs (off+i*s) s=some (aC es[i]))->off<=cs.length->bF cs off (es.length*s)=some (aE es)
 |[],_,ho=>by
  rw[i5 _ _ _ (by simpa using ho)];simp[aE]
 |v::t,h,ho=>by
  have h0:=h 0 (by simp);simp only[jX,dQ,List.getElem_cons_zero] at h0;obtain⟨k1,k2⟩:=pI h0;have ih:=AB (off:=off+s) t (fun i hi=>by
   have:=h (i+1) (by simpa using hi);rw[fT,show off+(i*s+s)=off+s+i*s by omega] at this;simpa using this) (by omega)
  obtain⟨k3,k4⟩:=pI ih;rw[i5 _ _ _ (by simp only[bT,fT];omega)];congr 1;have e1:aE (v::t)=aC v++aE t:=by simp[aE]
  rw[e1,k2,k4,bT,fT,mJ (t.length*s) s,List.take_add,List.drop_drop]
def ES{ov:List ao}{G:Gh}{w:SV}{es:List Value}(h:di G s w es):kj P C ov G s w.n (.slice w.a w.n w.c) (aE es):=by
 rcases h.mem with he|⟨b,off,cs,ha,hg,hc⟩
 ·subst he
  rw[h.len];exact oe
 ·rw[ha]
  by_cases he:es=[]
  ·subst he;rw[h.len];exact oe
  ·have hp:0<es.length:=nZ.2 he
   have h0:=hc 0 hp;have:=(pI h0).1;rw[h.len];exact xp hg (AB es hc (by omega))
def Oi(fr:cC)(bs:List cg)(s:Nat)(y:Operand)(ds:List DV):Prop:=
 (∃l,s7 fr y=some (.sl l)/\l=ds/\eh s l)\/ ∃w ty lo,vX fr y=some w.f/\(⟨w,s,ty,ds,lo⟩:cg)∈bs/\eh s ds
def Li[hT:ce P t e s by_][hN:jH P t']{w:World}{ad2:Option Addr}{cap2:Nat}:(Builtin.append_ #[t,t'] ty' #[.slice none 0 0, .slice ad2 0 cap2]).run P w= .ok (.slice none 0 0) w:=by
 obtain⟨d,hd1⟩:=hN.un;obtain⟨i,hi,his,hib⟩:=hT.info;have h0:(Builtin.firstCells i.size 0 (.slice ad2 0 cap2)).run P w= .ok #[] w:=by
  cases ad2 with
  |none=>rfl
  |some a=>unfold Builtin.firstCells loadCells;simp[loadCellsFrom,run_pure]
 simp[Builtin.append_,run_underlying hT.un,run_underlying hd1,sizeOf,typeInfo,hi,Builtin.lenOf,h0]
def KB[hT:ce P t e s by_][hN:jH P t']{fr:Fr}{own:List ao}{G:Gh}{ad2:Option Addr}{cap2:Nat}(hx:aq fr x=some (.slice none 0 0))(hy:aq fr y=some (.slice ad2 0 cap2))(hd:bD n dst=true)
  (h:St C n (put fr dst (.slice none 0 0)) own G Φ):Ch P C n fr own G ⟨dst, .call ⟨.builtin .append, #[x,y], #[t,t']⟩,ty',pos,af,gd⟩ Φ:=by
 intro a w Q rl;refine iO (v:= .slice none 0 0) (w':=w) ?_ (h _ _ (rl.put _ hd));simp only[execOp,resolve,fM,bN,gK,aG rl.fr hx,aG rl.fr hy];exact cd Li
def cA.upd{G:Gh}{w:SV}{s:Nat}{ty:TypeId}{ds:List DV}{lo:Bool}{B:List ao}(h:cA G ⟨w,s,ty,ds,lo⟩ B){i:Nat}{d:DV}(hi:ds[i]? =some d):
  ∃b vs rest lo',w.a=some ⟨b,0,none⟩/\B=[⟨b,aE vs++rest,ty,lo'⟩]/\IsLs G ds vs/\(∀v∈vs,(aC v).length=s)/\i<vs.length/\
   ∀u d',Is G d' u->(aC u).length=s->cA G ⟨w,s,ty,ds.set i d',lo⟩ [⟨b,aE (vs.set i u)++rest,ty,lo'⟩]:=by
 obtain⟨vs,hB,hv,hs,hlo⟩:=h;obtain⟨v,h1,h2⟩:=hv.get hi;obtain⟨hi',_⟩:=aS.1 h1;rcases hB with⟨e,_,_⟩|⟨b,rest,lo',h3,h4,h5,h6,h7⟩
 ·rw[e] at h1;simp at h1
 ·refine⟨b,vs,rest,lo',by simp only[] at h3;rw[h3],h4,hv,hs,hi',fun u d' hu hul=>?_⟩
  have hall: ∀x∈vs.set i u,(aC x).length=s:=fun x hx=>by
   rcases List.mem_or_eq_of_mem_set hx with h'|rfl
   ·exact hs x h'
   ·exact hul
  refine⟨vs.set i u, .inr ⟨b,rest,lo',by simpa using h3,J,eu _ hall,?_,by simpa using h7⟩,hv.set i hu,hall,fun hl o ho=>?_⟩
  ·rw[eu _ hall,aY,<-h5];exact h6
  ·have:=hlo hl
   rw[h4] at this;rw[aL.1 ho];have h9:=this ⟨b,aE vs++rest,ty,lo'⟩ aQ;exact h9
def Lj{s:Nat}{rest:List Value}{u:Value}(vs:List Value)(i:Nat)(h:i<vs.length)(hs: ∀v∈vs,(aC v).length=s)(hu:(aC u).length=s):cp (aE vs++rest) (i*s) (aC u)=aE (vs.set i u)++rest:=by
 have hl:=eu vs hs;have hle:i*s+s<=vs.length*s:=by rw[<-fT];exact aM _ h
 rw[nf _ _ _ (by rw[hu,bX];omega),hu,dW (by omega),gQ (by omega),vD vs i hs (by omega),<-fT,vS vs (i+1) hs h,
  List.set_eq_take_append_cons_drop,if_pos h,show vs.take i++u::vs.drop (i+1)=vs.take i++([u]++vs.drop (i+1)) from J,l9,l9,A0]
 simp
def N5(ks:List Nat)(f:FV)(fr:cC):cC:=ks.map (fun k=>(k,f))++fr
end
end Go.Sx
end
section
namespace Go.Sx
open Go Go.Proofs Tryz
section
variable {GB:Gh} {C:au} {n:Nat} {Q0:Exit->Act->World->Prop} {fr fr':ak} {own own':aw} {cf cf':Cf} {vc vc':List Prop} {ops:Array Oper} {r:List Oper} {o:Oper} {K:List Kt}
def iF(row:Bool)(nm:Nat)(l:List DV):FX->FX
 | .rw m=>bif Nat.beq m nm then(bif row then .d (.sl l) else .no) else .rw m
 | .ov m off=>bif Nat.beq m nm then(bif row then .no else(match off with
  |0=> .d (.pt l)
  |_+1=> .no)) else .ov m off
 | .be m s i j=>bif Nat.beq m nm then .no else .be m s i j
 | .rs m s i j=>bif Nat.beq m nm then .no else .rs m s i j
 | .bx tp pre m post=>bif Nat.beq m nm then(bif row then(match tp with
  |true=> .d (.tp (pre++ .sl l::post))
  |false=> .d (.ag (pre++ .sl l::post))) else .no) else .bx tp pre m post
 |f=>f
def pL{α:Type}(f:FX)(k:FX->α):α:=match f with
 | .d x=>k (.d x)
 | .rw m=>k (.rw m)
 | .ov a b=>k (.ov a b)
 | .be a b c d=>k (.be a b c d)
 | .rs a b c d=>k (.rs a b c d)
 |f=>k f
def rN{α:Type}{f:FX}{k:FX->α}:pL f k=k f:=by cases f<;>rfl
def pw{α:Type}(row:Bool)(nm:Nat)(l:List DV):ak->(ak->α)->α
 |[],k=>k []
 |(j,f)::t,k=>pw row nm l t fun t'=>pL (iF row nm l f) fun f'=>k ((j,f')::t')
def rF{α:Type}(row:Bool)(nm:Nat)(l:List DV):List FX->(List FX->α)->α
 |[],k=>k []
 |f::t,k=>rF row nm l t fun t'=>pL (iF row nm l f) fun f'=>k (f'::t')
def pR{α:Type}(row:Bool)(nm:Nat)(l:List DV):aw->(aw->α)->α
 |[],k=>k []
 |(j,B)::t,k=>pR row nm l t fun t'=>bif Nat.beq j nm then k ((j,none)::t') else match B with
  |some (.o ty cs lo)=>rF row nm l cs fun cs'=>k ((j,some (.o ty cs' lo))::t')
  |B=>k ((j,B)::t')
def lB(row:Bool)(nm:Nat)(l:List DV):Option Bk->Option Bk
 |some (.o ty cs lo)=>some (.o ty (cs.map (iF row nm l)) lo)
 |B=>B
def Cm{α:Type}{row:Bool}{nm:Nat}{l:List DV}: ∀{cs:List FX} {k:List FX->α},rF row nm l cs k=k (cs.map (iF row nm l))
 |[],k=>rfl
 |f::t,k=>by simp only[rF,rN];rw[Cm];rfl
def ug{α:Type}{row:Bool}{nm:Nat}{l:List DV}: ∀{fr:ak} {k:ak->α},pw row nm l fr k=k (fr.map fun e=>(e.1,iF row nm l e.2))
 |[],k=>rfl
 |(j,f)::t,k=>by simp only[pw,rN];rw[ug];rfl
def wz{α:Type}{row:Bool}{nm:Nat}{l:List DV}: ∀{own:aw} {k:aw->α},pR row nm l own k=k (own.map fun e=>(e.1,bif Nat.beq e.1 nm then none else lB row nm l e.2))
 |[],k=>rfl
 |(j,B)::t,k=>by
  simp only[pR,wz (own:=t),bN]
  cases Nat.beq j nm with
  |true=>rfl
  |false=>
   cases B with
   |none=>rfl
   |some B=>cases B<;>simp only[cond_false,Cm,lB]
def r7{g:FX->FX}: ∀{fr:ak} {k:Nat},aA (fr.map fun e=>(e.1,g e.2)) k=(aA fr k).map g
 |[],k=>rfl
 |(j,f)::t,k=>by
  simp only[bN];rw[fw,fw,r7 (fr:=t)];split<;>rfl
def zk{row:Bool}{nm:Nat}{l:List DV}: ∀{own:aw} {k:Nat},aD (own.map fun e=>(e.1,bif Nat.beq e.1 nm then none else lB row nm l e.2)) k=if k=nm then none else lB row nm l (aD own k)
 |[],k=>by simp[aD,lB]
 |(j,B)::t,k=>by
  simp only[bN];rw[gP,gP,zk (own:=t)];by_cases h:k=j
  ·subst h
   simp only[if_true];by_cases e:k=nm
   ·subst e;simp
   ·have:Nat.beq k nm=false:=by
     cases hb:Nat.beq k nm with
     |false=>rfl
     |true=>exact absurd (aW hb) e
    simp[this,e]
  ·simp[h]
structure qm where
 fr:ak
 own:aw
def pu(fr:ak)(own:aw)(nm:Nat):Option qm:=match aD own nm with
 |some (.b _ _ ds true)=>pw true nm ds fr fun fr'=>pR true nm ds own fun own'=>some ⟨fr',own'⟩
 |some (.o _ cs true)=>match iw cs with
  |some l=>pw false nm l fr fun fr'=>pR false nm l own fun own'=>some ⟨fr',own'⟩
  |none=>none
 |_=>none
def gm.of_mem{o:ao}: ∀{own:List ao},o∈own-> ∃own',gm own o own'/\ ∀x∈own,x.b≠o.b->x∈own'
 |[],h=>by cases h
 |x::t,h=>by
  rcases bQ.1 h with rfl|h
  ·exact⟨t, .hd ..,fun y hy hb=>(bQ.1 hy).elim (fun e=>absurd (by rw[e]) hb) id⟩
  ·obtain⟨own',h1,h2⟩:=gm.of_mem h
   exact⟨x::own', .tl _ _ _ _ h1,fun y hy hb=>(bQ.1 hy).elim (fun e=>by rw[e];exact aQ) (fun e=>aK _ (h2 y e hb))⟩
def Bd{row:Bool}{nm:Nat}{l:List DV}{ρ:NE}{G G':Gh}{f:FX}{y:Value}(hg:aO G G')(h:bi ρ G f y)(hr:row=true-> ∀y,bi ρ G (.rw nm) y->Is G' (.sl l) y)(ho:row=false-> ∀y,bi ρ G (.ov nm 0) y->Is G' (.pt l) y):bi ρ G' (iF row nm l f) y:=by
 cases f with
 |rw m=>
  simp only[iF]
  cases hb:Nat.beq m nm with
  |false=>exact h.up hg
  |true=>
   cases aW hb
   cases row with
   |true=>exact hr J y h
   |false=>trivial
 |ov m off=>
  simp only[iF]
  cases hb:Nat.beq m nm with
  |false=>exact h.up hg
  |true=>
   cases aW hb
   cases row with
   |true=>trivial
   |false=>cases off with
    |zero=>exact ho J y h
    |succ=>trivial
 |be m s i j=>
  simp only[iF]
  cases hb:Nat.beq m nm with
  |false=>exact h.up hg
  |true=>trivial
 |rs m s i j=>
  simp only[iF]
  cases hb:Nat.beq m nm with
  |false=>exact h.up hg
  |true=>trivial
 |bx tp pre m post=>
  simp only[iF]
  cases hb:Nat.beq m nm with
  |false=>exact h.up hg
  |true=>
   cases aW hb
   cases row with
   |false=>trivial
   |true=>
    obtain⟨m1,m2,e,h1,h2⟩:=h;have hl:=(h1.up hg).app (.cons (hr J _ J) (h2.up hg))
    cases tp with
    |true=>exact jA.2 ⟨_,e,hl⟩
    |false=>exact du.2 ⟨_,e,hl⟩
 |_=>exact h.up hg
def D1{row:Bool}{nm:Nat}{l:List DV}{ρ:NE}{G G':Gh}(hg:aO G G')(hr:row=true-> ∀y,bi ρ G (.rw nm) y->Is G' (.sl l) y)(ho:row=false-> ∀y,bi ρ G (.ov nm 0) y->Is G' (.pt l) y): ∀{cs:List FX} {m:List Value},cb ρ G cs m->cb ρ G' (cs.map (iF row nm l)) m
 |[],m,h=>h
 |f::t,m,⟨y,q,e,h1,h2⟩=>⟨y,q,e,Bd hg h1 hr ho,D1 hg hr ho h2⟩
def bg.frz{ρ:NE}{G G':Gh}{ov ov':List ao}{a:Act}{w:World}{row:Bool}{nm:Nat}{l:List DV}(h:bg GB C n (aA fr) (aD own) ρ G ov a w)(hg:aO G G')(hh:bc C ov' G' w)(hv: ∀o∈ov,(ρ nm).a≠some ⟨o.b,0,none⟩->o∈ov'){B0:Bk}(hb:aD own nm=some B0)
  (hr:row=true-> ∀y,bi ρ G (.rw nm) y->Is G' (.sl l) y)(ho:row=false-> ∀y,bi ρ G (.ov nm 0) y->Is G' (.pt l) y):
  bg GB C n (aA (fr.map fun e=>(e.1,iF row nm l e.2))) (aD (own.map fun e=>(e.1,bif Nat.beq e.1 nm then none else lB row nm l e.2))) ρ G' ov' a w:=by
 have inv: ∀m B,aD (own.map fun e=>(e.1,bif Nat.beq e.1 nm then none else lB row nm l e.2)) m=some B->m≠nm/\ ∃B1,aD own m=some B1/\lB row nm l (some B1)=some B:=fun m B e=>by
  rw[zk] at e;split at e
  ·cases e
  ·rename_i hm
   refine⟨hm,?_⟩
   cases hl:aD own m with
   |none=>rw[hl] at e;cases e
   |some B1=>rw[hl] at e;exact⟨B1,J,e⟩
 refine⟨h.gb.trans hg,hh,h.sz,h.df,fun k f e=>?_,fun m B e=>?_,fun m m' B B' e e'=>?_,h.fxd⟩
 ·rw[r7] at e
  cases hf:aA fr k with
  |none=>rw[hf] at e;cases e
  |some g=>
   rw[hf] at e;cases e;obtain⟨y,h1,h2⟩:=h.fx k g hf;exact⟨y,h1,Bd hg h2 hr ho⟩
 ·obtain⟨hm,B1,h1,h2⟩:=inv m B e
  obtain⟨os,h3,h4⟩:=h.bx m B1 h1;refine⟨os,?_,fun o ho'=>hv o (h4 o ho') fun hc=>h.dj m nm B1 B0 h1 hb hm _ (h3.blk ho') hc⟩
  cases B1 with
  |b=>cases h2;exact h3.up hg
  |c=>cases h2;exact h3.up hg
  |o ty cs lo=>cases h2;obtain⟨b,q,h5,h6,h7⟩:=h3;exact⟨b,q,h5,h6,D1 hg hr ho h7⟩
 ·obtain⟨_,B1,h1,_⟩:=inv m B e
  obtain⟨_,B2,h2,_⟩:=inv m' B' e';exact h.dj m m' B1 B2 h1 h2
def bg.frzRow{lk:LK}{bk:BM}{ρ:NE}{G:Gh}{ov:List ao}{a:Act}{w:World}{nm:Nat}{ty:TypeId}{s:Nat}{ds:List DV}(r:bg GB C n lk bk ρ G ov a w)(hb:bk nm=some (.b ty s ds true)):
  ∃G' ov',aO G G'/\bc C ov' G' w/\(∀o∈ov,(ρ nm).a≠some ⟨o.b,0,none⟩->o∈ov')/\ ∀y,bi ρ G (.rw nm) y->Is G' (.sl ds) y:=by
 obtain⟨B,⟨vs,hB,hv,hs,hlo⟩,hBo⟩:=r.row (y:= .nilFunc) hb;rcases hB with⟨e1,e2,e3⟩|⟨b,rest,lo',e2,e3,h5,h6,h7⟩
 ·subst e1
  have ed:ds=[]:=bK (by rw[<-hv.len];rfl);subst ed;simp only at e2;refine⟨G,ov,aO.refl _,r.h,fun o ho _=>ho,fun y hy=>?_⟩;rw[show y=_ from hy,e2];exact f8.2 ⟨0,⟨none,0,0⟩,[],J, .nil G 0, .nil⟩
 ·subst e3
  have hl:=hlo J _ aQ;simp only at hl;subst hl;obtain⟨ov',o1,o2⟩:=gm.of_mem (hBo _ aQ);obtain⟨f1,f2⟩:=r.h.freeze o1;simp only at e2;refine⟨_,ov',f2,f1,fun o ho hne=>o2 o ho fun e=>hne (by rw[e2,e]),fun y hy=>?_⟩;rw[show y=_ from hy,e2];exact f8.2 ⟨s,⟨some ⟨b,0,none⟩,vs.length,_⟩,vs,J,di.of_flat hs (if_pos J) h7,hv.up f2⟩
def bg.frzVar{lk:LK}{bk:BM}{ρ:NE}{G:Gh}{ov:List ao}{a:Act}{w:World}{nm:Nat}{ty:TypeId}{cs:List FX}{l:List DV}(r:bg GB C n lk bk ρ G ov a w)(hb:bk nm=some (.o ty cs true))(hl:iw cs=some l):
  ∃G' ov',aO G G'/\bc C ov' G' w/\(∀o∈ov,(ρ nm).a≠some ⟨o.b,0,none⟩->o∈ov')/\ ∀y,bi ρ G (.ov nm 0) y->Is G' (.pt l) y:=by
 obtain⟨os,⟨b,m,h3,rfl,h4⟩,h5⟩:=r.bx _ _ hb;obtain⟨ov',o1,o2⟩:=gm.of_mem (h5 _ aQ);obtain⟨f1,f2⟩:=r.h.freeze o1;refine⟨_,ov',f2,f1,fun o ho hne=>o2 o ho fun e=>hne (by rw[h3,e]),fun y hy=>?_⟩;obtain⟨b',h6,rfl⟩:=hy;rw[h3] at h6;cases h6;exact mp.2 ⟨b,m,J,if_pos J,(nV h4 hl).up f2⟩
def uG{nm:Nat}{Φ:Act->World->Prop}{R:qm}(h:pu fr own nm=some R)(hk:SX GB C n (aA R.fr) (aD R.own) Φ):SX GB C n (aA fr) (aD own) Φ:=by
 refine⟨fun ρ G ov a w r=>?_⟩;unfold pu at h;split at h<;>try (cases h;done)
 ·rename_i ty s ds hb
  rw[ug,wz] at h;cases h;obtain⟨G',ov',h1,h2,h3,h4⟩:=r.frzRow hb;exact hk.run ρ G' ov' a w (r.frz (row:=true) h1 h2 h3 hb (fun _=>h4) (fun e=>by cases e))
 ·rename_i ty cs hb
  split at h<;>try (cases h;done)
  rename_i l hl;rw[ug,wz] at h;cases h;obtain⟨G',ov',h1,h2,h3,h4⟩:=r.frzVar hb hl;exact hk.run ρ G' ov' a w (r.frz (row:=false) h1 h2 h3 hb (fun e=>by cases e) (fun _=>h4))
def fz[fu:Fu](nm:Nat){fr1:ak}{own1:aw}(h:pu fr own nm=some ⟨fr1,own1⟩)(hgo:go tt n fu.n [] fr1 own1 (.ops ops r K)=⟨vc,fr',own',cf'⟩)(k:aj prog GB C n Q0 fr' own' cf')(hv:ah vc:=by first|exact trivial|(simp only[ah];kernel_rfl)|(simp only[ah];omega)|(simp only[ah,aZ,aY,aJ];omega)):aj prog GB C n Q0 fr own (.ops ops r K):=
 uG h (dw hgo hv k)
def me(nm:Nat){fr1:ak}{own1:aw}{e:Exit}(h:pu fr own nm=some ⟨fr1,own1⟩)(k:aj prog GB C n Q0 fr1 own1 (.ex e K)):aj prog GB C n Q0 fr own (.ex e K):=uG h k
def Gf(nm:Nat){fr1:ak}{own1:aw}{c:Code}(h:pu fr own nm=some ⟨fr1,own1⟩)(k:aj prog GB C n Q0 fr1 own1 (.code c K)):aj prog GB C n Q0 fr own (.code c K):=uG h k
def lw:ak->ak->Prop
 |[],_=>True
 |(k,v)::t,fr=>aA fr k=some v/\lw t fr
def oS:aw->aw->Prop
 |[],_=>True
 |(k,v)::t,own=>aD own k=v/\oS t own
def nj: ∀{f:ak},lw f fr->fi (aA f) (aA fr)
 |[],_,k,x,h=>by cases h
 |(j,v)::t,h,k,x,e=>by
  rw[fw] at e;split at e
  ·cases e;rename_i hk;rw[hk];exact h.1
  ·exact nj h.2 k x e
def nk: ∀{f:aw},oS f own->fi (aD f) (aD own)
 |[],_,k,x,h=>by cases h
 |(j,v)::t,h,k,x,e=>by
  rw[gP] at e;split at e
  ·rename_i hk;rw[hk,h.1,e]
  ·exact nk h.2 k x e
def l6{k:Nat}{q:IntKind}{a b:Int}(h:aA fr k=some (.d (.v (.int q a))))(e:a=b):aA fr k=some (.d (.v (.int q b))):=e▸h
def tw(GB:Gh)(C:au)(n:Nat){X:Type}(F:X->ak)(O:X->aw)(I:X->Prop)(a:Act)(w:World):Prop:=
 ∃x ρ G ov,I x/\bg GB C n (aA (F x)) (aD (O x)) ρ G ov a w
def uZ:List Oper->List Nat->List Nat
 |[],l=>l
 |o::r,l=>match o.dst with
  |some d=>d::uZ r l
  |none=>uZ r l
def lD:Code->List Nat->List Nat
 | .region _ ops _,l=>uZ ops.toList l
 | .seq a b,l=>lD a (lD b l)
 | .cond _ a b,l=>lD a (lD b l)
 | .block _ a,l=>lD a l
 | .loop a,l=>lD a l
 | .scope a,l=>lD a l
 |_,l=>l
def vP{α:Type}:List Nat->ak->(ak->α)->α
 |_,[],k=>k []
 |l,(j,f)::t,k=>bif lO l j then vP l t k else vP (j::l) t fun t'=>k ((j,f)::t')
def sK{α:Type}:List Nat->aw->(aw->α)->α
 |_,[],k=>k []
 |l,(j,B)::t,k=>bif lO l j then sK l t k else match B with
  |some B=>sK l t fun t'=>k ((j,some B)::t')
  |none=>sK l t k
structure Kp where
 fr:ak
 own:aw
def keep(c:Code)(uf uo:List Nat)(fr:ak)(own:aw):Kp:=fE (lD c uo) fun m=>fE (uf++m) fun m'=>vP m' fr fun fr'=>sK m own fun own'=>⟨fr',own'⟩
def lp[fu:Fu]{c:Code}{X:Type}(U:X->ak)(V:X->aw)(I:X->Prop)(μ:X->Nat)(x0:X){kf:ak}{ko:aw}{cf':X->Cf}{fr':X->ak}{own':X->aw}{vc:X->List Prop}(hkp:keep c ((U x0).map (·.1)) ((V x0).map (·.1)) fr own=⟨kf,ko⟩)(hI:I x0)
  (hgo: ∀x,go tt n fu.n [] (U x++kf) (V x++ko) (.code c (.ag (tw GB C n (fun y=>U y++kf) (fun y=>V y++ko) (fun y=>I y/\μ y<μ x))::K))=⟨vc x,fr' x,own' x,cf' x⟩)
  (round: ∀x,I x->aj prog GB C n Q0 (fr' x) (own' x) (cf' x))(hF:lw (U x0++kf) fr:=by repeat (first|exact trivial|refine And.intro J ?_|refine And.intro (l6 J (by first|omega|(dsimp only;omega))) ?_|refine And.intro (l6 J (by simp)) ?_))(hO:oS (V x0++ko) own:=by repeat (first|exact trivial|refine And.intro J ?_))
  (hv: ∀x,I x->ah (vc x):=by intros;first|exact trivial|(simp only[ah];kernel_rfl)|(simp only[ah];omega)|(simp only[ah,aZ,aY,aJ];omega)):aj prog GB C n Q0 fr own (.code (.loop c) K):=by
 refine⟨fun ρ G ov a w r=>?_⟩;have r0:=r.mono (nj hF) (nk hO);intro b k cs hro hb hrm;have key: ∀m a w,(∃x ρ G ov,I x/\μ x=m/\bg GB C n (aA (U x++kf)) (aD (V x++ko)) ρ G ov a w)->
   ∃e a' w',cQ C.rd prog Q0 K e a' w'/\ArrivesIn (Machine.fenced prog (FW C.rd)) prog (lone (b.atR a (.code c:: .inLoop c::k)) cs w) b k cs e a' w':=by
  intro m
  induction m using Nat.strongRecOn with
  |_ m ih=>
   intro a w ⟨x,ρ,G,ov,hx,hm,hr⟩;have h1:=dw (GB:=GB) (C:=C) (Q0:=Q0) (hgo x) (hv x hx) (round x hx);obtain⟨e,a₁,w₁,hq,harr⟩:=h1.run ρ G ov a w hr b (.inLoop c::k) cs hro hb hrm
   cases e with
   |normal=>
    obtain⟨x',ρ',G',ov',⟨hx',hlt⟩,hr'⟩:=hq;obtain⟨e₂,a₂,w₂,hq₂,harr₂⟩:=ih (μ x') (hm▸hlt) a₁ w₁ ⟨x',ρ',G',ov',hx',rfl,hr'⟩;exact⟨e₂,a₂,w₂,hq₂, .of_steps (StepsIn.trans harr (.one (fenced_calm hb hrm J) stepR_inLoop)) harr₂⟩
   |exit id=>exact⟨_,a₁,w₁,hq, .pass (x:= .inLoop c) J (fun _ _=> .inl (by simp)) harr⟩
   |goto l=>exact⟨_,a₁,w₁,hq, .pass (x:= .inLoop c) J (fun _ _=> .inl (by simp)) harr⟩
   |ret=>exact⟨_,a₁,w₁,hq, .pass (x:= .inLoop c) J (fun _ _=> .inl (by simp)) harr⟩
   |panic ch=>exact⟨_,a₁,w₁,hq, .pass (x:= .inLoop c) J (fun _ _=> .inl (by simp)) harr⟩
   |outgrown=>exact⟨_,a₁,w₁,hq, .pass (x:= .inLoop c) J (fun _ _=> .inl (by simp)) harr⟩
 obtain⟨e,a',w',q,rr⟩:=key (μ x0) a w ⟨x0,ρ,G,ov,hI,rfl,r0⟩;exact⟨e,a',w',q, .of_steps (.one (fenced_calm hb hrm J) stepR_loop) rr⟩
def at_{X:Type}{F:X->ak}{O:X->aw}{I:X->Prop}(x:X)(hI:I x)(hF:lw (F x) fr:=by repeat (first|exact trivial|refine And.intro J ?_|refine And.intro (l6 J (by first|omega|(dsimp only;omega))) ?_|refine And.intro (l6 J (by simp)) ?_))(hO:oS (O x) own:=by repeat (first|exact trivial|refine And.intro J ?_)):aj prog GB C n Q0 fr own (.ex .normal (.ag (tw GB C n F O I)::K)):=
 ⟨fun ρ G ov a w r=>⟨x,ρ,G,ov,hI,r.mono (nj hF) (nk hO)⟩⟩
def mg[fu:Fu]{c d:Code}{X:Type}(U:X->ak)(V:X->aw)(I:X->Prop){kf:ak}{ko:aw}{cf':X->Cf}{fr':X->ak}{own':X->aw}{vc:X->List Prop}(u0 v0:List Nat)(hkp:keep c u0 v0 fr own=⟨kf,ko⟩)
  (h1:aj prog GB C n Q0 fr own (.code c (.ag (tw GB C n (fun y=>U y++kf) (fun y=>V y++ko) I)::K)))
  (hgo: ∀x,go tt n fu.n [] (U x++kf) (V x++ko) (.code d K)=⟨vc x,fr' x,own' x,cf' x⟩)(k: ∀x,I x->aj prog GB C n Q0 (fr' x) (own' x) (cf' x))(hv: ∀x,I x->ah (vc x):=by intros;first|exact trivial|(simp only[ah];kernel_rfl)|(simp only[ah];omega)|(simp only[ah,aZ,aY,aJ];omega)):aj prog GB C n Q0 fr own (.code c (.sq d::K)):=by
 refine SX.imp h1 fun a w h=>Lf h ?_;intro e a w h
 cases e with
 |normal=>
  obtain⟨x,ρ,G,ov,hI,hr⟩:=h;have:=dw (GB:=GB) (C:=C) (Q0:=Q0) (hgo x) (hv x hI) (k x hI);exact this.run ρ G ov a w hr
 |_=>exact h
end
end Go.Sx
end
section
namespace Go.Sx
open Go
section
variable {P:Program} {ops:Array Oper} {Q:Exit->Act->World->Prop} {S:World->Prop} {π₂:List (Nat×Bool)}
abbrev NS:Nat->Bool:=fun _=>false
def m8(S:World->Prop)(K:(World->Prop)->Act->World->Prop)(a:Act)(w:World):Prop:= ∃S':World->Prop,(∀w,S' w->S w)/\S' w/\K S' a w
def oE(P:Program)(ops:Array Oper)(Q:Exit->Act->World->Prop)(K:(World->Prop)->Act->World->Prop):List Nat->List (Nat×Bool)->(World->Prop)->Act->World->Prop
 |[],[],S,a,w=>K S a w
 |k::ks,[],S,a,w=> ∀j,(h:j∈k::ks)->wpOp P ops Q j (m8 S (oE P ops Q K (gk (k::ks) j) [])) a w
 |ks,(i,true)::r,S,a,w=> ∃o v,ops[i]? =some o/\S w/\YieldsIf P ops S o v a/\oE P ops Q K ks r S (a.put o.dst v) w
 |ks,(i,false)::r,S,a,w=>wpOp P ops Q i (m8 S (oE P ops Q K ks r)) a w/\
   ∀j,(h:j∈ks)->wpOp P ops Q j (m8 S (oE P ops Q K (gk ks j) ((i,false)::r))) a w
termination_by ks π=>ks.length+π.length
decreasing_by
 all_goals (first|(have:=wo h;simp only[bT,gM] at*;omega)|(simp only[bT];omega))
def OY(Q:Exit->Act->World->Prop):(World->Prop)->Act->World->Prop:=fun _ a w=>Q .normal a w
end
section
variable {P:Program} {GB:Gh} {C:au} {n:Nat} {fr fr':cC} {own own' own0 own1 own1':List bH} {bs bs0 bs1 bs1':List cg} {ops:Array Oper} {Q:Exit->Act->World->Prop} {fd:List FD} {π π₂:List (Nat×Bool)}
structure SR (GB:Gh) (C:au) (n:Nat) (fr:cC) (own0:List bH) (bs0:List cg) (own1:List bH) (bs1:List cg) (fd:List FD) (K:List Nat->(World->Prop)->Act->World->Prop):Prop where
 run: ∀G frv o0 o1,aO GB G->rC G fr frv->OB G own0 bs0 o0->OB G own1 bs1 o1-> ∀fs:Fs,St C n (frv++vN fd fs) (o1++(o0++uU fd fs)) G (K (uI fd fs) (HS C o0 G))
instance {GB:Gh} {C:au} {n:Nat} {fr:cC} {own0:List bH} {bs0:List cg} {own1:List bH} {bs1:List cg} {fd:List FD} {K:List Nat->(World->Prop)->Act->World->Prop}:CoeFun (SR GB C n fr own0 bs0 own1 bs1 fd K) (fun _=> ∀G frv o0 o1,aO GB G->rC G fr frv->OB G own0 bs0 o0->OB G own1 bs1 o1-> ∀fs:Fs,St C n (frv++vN fd fs) (o1++(o0++uU fd fs)) G (K (uI fd fs) (HS C o0 G))):=⟨SR.run⟩
abbrev MZ (P:Program) (ops:Array Oper) (Q:Exit->Act->World->Prop) (K:(World->Prop)->Act->World->Prop) (π:List (Nat×Bool)):List Nat->(World->Prop)->Act->World->Prop:=fun ks S=>oE P ops (fP Q) K ks π S
def JX:List FD->List Nat->cC
 |f::fd,b::bl=>(f.d, .d (.v (.pointer (some ⟨b,0,none⟩))))::JX fd bl
 |_,_=>[]
def JR:List FD->List (List DV)->List Nat->List bH
 |f::fd,c::cl,b::bl=>⟨b,c,f.t,true⟩::JR fd cl bl
 |_,_,_=>[]
def L6:List FD->List (List DV)->Prop
 |f::fd,c::cl=>IsLs (fun _=>none) c (aC f.z)/\L6 fd cl
 |[],[]=>True
 |_,_=>False
end
def Qe{α:Type}(idx:List Nat)(l:List α):List α:=idx.filterMap (l[·]?)
section
variable {P:Program} {GB:Gh} {C:au} {n:Nat} {E:i8} {fr fr':cC} {own own':List bH} {bs bs' bs1:List cg} {ops:Array Oper} {Q:Exit->Act->World->Prop} {r:List Oper} {Φ:Act->World->Prop}
variable {dst:Option Nat} {t t' ty':TypeId} {pos:String} {af:Array Edge} {gd:Option (Nat×Bool)} {x y z:Operand} {e s by_:Nat}
def PB(GB:Gh)(P:Program)(f:FuncId)(mk:SV->List DV)(s:Nat)(ty:TypeId)(dsi:List DV)(mkr:SV->DV)(dso:List DV):Prop:=
 ∀G w vs B,aO GB G->cA G ⟨w,s,ty,dsi,false⟩ B->IsLs G (mk w) vs->ja P f vs B G (fun v own' G'=> ∃w',Is G' (mkr w') v/\cA G' ⟨w',s,ty,dso,false⟩ own')
def K1(fr:cC):List Operand->Option (List DV)
 |[]=>some []
 |x::t=>match vX fr x,K1 fr t with
  |some (.d d),some l=>some (d::l)
  |_,_=>none
def cA.asB{G:Gh}{w:SV}{ty:TypeId}{ds:List DV}{lo:Bool}{B:List ao}(h:cA G ⟨w,s,ty,ds,lo⟩ B):cA G ⟨w,s,ty,ds,false⟩ (Sx.asB B):=by
 obtain⟨vs,h1,h2,h3,h4⟩:=h;exact⟨vs,h1.asB,h2,h3,fun h=>by cases h⟩
def cA.weak{G:Gh}{w:SV}{ty:TypeId}{ds:List DV}{lo:Bool}{B:List ao}(h:cA G ⟨w,s,ty,ds,lo⟩ B):cA G ⟨w,s,ty,ds,false⟩ B:=by
 obtain⟨vs,h1,h2,h3,h4⟩:=h;exact⟨vs,h1,h2,h3,fun h=>by cases h⟩
inductive vx (fr:cC):List ResultVar->List DV->Prop
 |nil:vx fr [] []
 |tmp {t:Nat} {v:DV} {rs:List ResultVar} {vs:List DV} (h:nA fr t=some (.d v)) (k:vx fr rs vs):vx fr (.tmp t::rs) (v::vs)
end
section
variable {P:Program} {GB:Gh} {C:au} {n:Nat} {E:i8} {fr fr':cC} {own own':List bH} {bs bs' bs1:List cg} {ops:Array Oper} {Q:Exit->Act->World->Prop} {r:List Oper} {Φ:Act->World->Prop}
variable {dst:Option Nat} {t t' ty':TypeId} {pos:String} {af:Array Edge} {gd:Option (Nat×Bool)} {x y z:Operand} {e s by_:Nat}
def PX(GB:Gh)(P:Program)(f:FuncId)(ds:List DV)(ι:Type)(r:ι->DV):Prop:=
 ∀G vs,aO GB G->IsLs G ds vs->Fn P f vs G (fun v G'=> ∃x,Is G' (r x) v)
def Pb(GB:Gh)(P:Program)(f:FuncId)(ds:List DV)(b:Nat)(ty:TypeId)(cs:List DV)(ι:Type)(r:ι->DV)(cs':ι->List DV):Prop:=
 ∀G vs m lo,aO GB G->IsLs G ds vs->IsLs G cs m->y7 P f vs [⟨b,m,ty,lo⟩] G (fun v css G'=> ∃x,Is G' (r x) v/\ ∃m',css=[m']/\IsLs G' (cs' x) m')
def PN(GB:Gh)(P:Program)(f:FuncId)(ds:List DV)(ty:TypeId)(ι:Type)(cs:ι->List DV):Prop:=
 ∀G vs,aO GB G->IsLs G ds vs->ja P f vs [] G (fun v own' G'=> ∃x b m,v= .pointer (some ⟨b,0,none⟩)/\own'=[⟨b,m,ty,true⟩]/\IsLs G' (cs x) m)
inductive ta:List bH->Nat->List DV->TypeId->Bool->List bH->List bH->Prop
 |hd (b:Nat) (cs:List DV) (ty:TypeId) (lo:Bool) (t:List bH):ta (⟨b,cs,ty,lo⟩::t) b cs ty lo [] t
 |tl (o:bH) (t:List bH) (b:Nat) (cs:List DV) (ty:TypeId) (lo:Bool) (L R:List bH) (h:ta t b cs ty lo L R):ta (o::t) b cs ty lo (o::L) R
end
section
variable {P:Program} {GB:Gh} {C:au} {n:Nat} {fr:cC} {own:List bH} {bs:List cg}
def Ou(GB:Gh)(P:Program)(f:FuncId)(ds:List DV)(b:Nat)(ty:TypeId)(cs:List DV)(s:Nat)(ty2:TypeId)(ι:Type)(rows:ι->List DV)(cs':ι->List DV):Prop:=
 ∀G vs m lo,aO GB G->IsLs G ds vs->IsLs G cs m->ja P f vs [⟨b,m,ty,lo⟩] G (fun v own' G'=> ∃x w m' B,v= .slice w.a w.n w.c/\own'=⟨b,m',ty,false⟩::B/\IsLs G' (cs' x) m'/\cA G' ⟨w,s,ty2,rows x,true⟩ B/\ ∀o∈B,b≠o.b)
variable {dst:Option Nat} {t t' ty':TypeId} {pos:String} {af:Array Edge} {gd:Option (Nat×Bool)} {x y z:Operand}
variable {e s by_:Nat}
def F1{G:Gh}{l:List DV}{w:SV}{es:List Value}{s' nhi mx':Nat}(hsl:di G s' w es)(hl:IsLs G l es)(ho:eh s l)(h2:nhi<=l.length)(hm1:nhi<=mx')(hm2:mx'<=w.c):Is G (.sl (l.take nhi)) (.slice w.a nhi mx'):=by
 have hn:=hsl.len;have hcap:=hsl.cap;have hll:=hl.len;have e9: ∀s,gI w.a w.n w.c 0 nhi mx' s= .slice w.a nhi mx':=by
  intro s;unfold gI
  cases w.a with
  |none=>simp
  |some ad=>simp[Addr.add]
 rcases rg hsl hl ho with he|he
 ·subst he
  have:l=[]:=bK (by rw[<-hll];rfl);subst this;have e1:nhi=0:=by simp at h2;exact h2
  subst e1;refine f8.2 ⟨s,⟨_,0,mx'⟩,[],J,⟨J,bS _, .inl J⟩,by simpa using IsLs.nil⟩
 ·subst he
  have k:=hsl.sub 0 nhi mx' (bS _) (by omega) hm1 hm2;have k2:=f8.2 ⟨s',⟨_,_,_⟩,_,J,k,(hl.take nhi).drop 0⟩;rw[mX] at k2;have e:=e9 s';unfold gI at e;revert k2;simp only[] at*;intro k2
  first|exact e▸k2|(simp at e k2⊢;first|exact k2|(cases hw:w.a<;>simp_all [Addr.add]))
end
end Go.Sx
end
section
namespace Go.Sx
open Go Go.Proofs
section
variable {P:Program} {T:TT} {GB:Gh} {C:au} {n:Nat} {lk:LK} {bk:BM} {ρ:NE} {G:Gh} {ov:List ao} {a:Act} {w:World}
variable {dst:Option Nat} {t t' ty':TypeId} {pos:String} {af:Array Edge} {gd:Option (Nat×Bool)} {x y:Operand} {e s by_:Nat}
def E9[hT:ce P t e s by_]{k:IntKind}{l:List DV}{d:DV}{i:Int}(hx:evD lk x=some (.sl l))(hy:az lk y=some (.d (.v (.int k i))))(h0:0<=i)(he:l[i.toNat]? =some d)(hd:(d.okc&&Nat.beq d.cells.length s)=true):
  bp P GB C n lk bk ⟨dst, .indexAddr t x y,ty',pos,af,gd⟩ (.ep d.cells) [] []:= .yd fun ρ G ov a w r=>by
 simp only[aR] at hd;obtain⟨hd,hs⟩:=hd;obtain⟨u,h1,h2⟩:=r.evD hx;obtain⟨q,g1,g2⟩:=r.ev hy;rw[co] at g2;subst g2;obtain⟨s',z,es,rfl,hsl,hl⟩:=f8.1 h2;obtain⟨v,h3,h4⟩:=hl.get he;obtain⟨h5,h6⟩:=aS.1 h3;have hc:=(h4.cells hd).1.len;replace hs:=aW hs;rcases hsl.mem with h|⟨b,off,cs,ha,hg,hcs⟩
 ·rw[h] at h5;simp at h5
 ·have h7:=hcs i.toNat h5
  rw[h6] at h7;have h8:=sD h7;have:s'=s:=by omega
  subst this;rw[ha] at h1;have hn:=hsl.len;refine⟨.pointer (some ⟨b,off+i.toNat*s',none⟩),⟨b,_,cs,aC v,J,hg,?_,(h4.cells hd).1⟩,pn h1 g1 h0 (by omega)⟩;rw[<-hc,h8];exact h7
def ph(ag:Option Nat)(cs:List DV)(j:Nat):Option DV:=match ag with
 |some k=>match takeD cs j k with
  |some l=>some (.ag l)
  |none=>none
 |none=>cs[j]?
def MG{i:TI}{ag:Option Nat}{nm sz k j:Nat}{ty:TypeId}{ds:List DV}{lo:Bool}{d c:DV}(hi:dh P t=some i)(ha:i.ag=some ag)(hx:az lk x=some (.be nm sz k j))(hb:bk nm=some (.b ty sz ds lo))(he:ds[k]? =some d)(hd:d.okc=true)(hl:ph ag d.cells j=some c):
  bp P GB C n lk bk ⟨dst, .load t x,ty',pos,af,gd⟩ (.d c) [] []:= .x1 hx fun ρ G ov a w y _ r h1 h2=>by
 obtain⟨b,hwb,rfl⟩:=h2;obtain⟨B,hB,hmem⟩:=r.row (y:= .nilFunc) hb;obtain⟨b',m,rest,lo',l0,e1,rfl,h3,h4⟩:=hB.elem he hd;simp only[] at e1 h3;rw[hwb] at e1;cases e1;have oat:fD ov b (m++rest) ty lo':=⟨hmem _ aQ⟩
 cases ag with
 |some k'=>
  have:=oW hi ha;simp only[ph] at hl;split at hl<;>cases hl;rename_i hl;obtain⟨l',h5,h6⟩:=h4.takeD hl;exact⟨.agg ⟨l'⟩,du.2 ⟨l',J,h6⟩,td h1 (EJ h3 h5)⟩
 |none=>
  have:=ou hi ha;simp only[ph] at hl;obtain⟨l',h5,h6⟩:=h4.get hl;have hj:j<sz:=by
   have:=sD h3;have h7:=(aS.1 h5).1;omega
  exact⟨l',h6,tB h1 (by rw[u9 h3 hj];exact h5)⟩
def cA.toBk{nm:Nat}{s:Nat}{ty:TypeId}{ds:List DV}{lo:Bool}{B:List ao}{x:SV}(h:cA G ⟨x,s,ty,ds,lo⟩ B)(e:ρ nm=x):f0 ρ G nm (.b ty s ds lo) B:=by
 obtain⟨vs,h1,h2,h3,h4⟩:=h;exact⟨vs,by rw[e];exact h1,h2,h3,h4⟩
def bg.newRow(r:bg GB C n lk bk ρ G ov a w){d:Nat}{z:SV}{ty:TypeId}{s:Nat}{ds:List DV}{B ov':List ao}{K:Act->World->Prop}{a':Act}{w':World}(hf:gG [d] (some d) lk bk)(hB:cA G ⟨z,s,ty,ds,true⟩ B)(hos: ∀o∈B,o∈ov')
  (hov: ∀m B',m≠d->bk m=some B'-> ∀o∈ov,(ρ m).a=some ⟨o.b,0,none⟩->o∈ov'/\z.a≠some ⟨o.b,0,none⟩)
  (hk:SX GB C n (c9 lk (some d) (.rw d)) (Sx.upB bk [(d,some (.b ty s ds true))]) K)(rl:d4 C n (Sx.put (cj a) (some d) (.slice z.a z.n z.c)) ov' G a' w'):K a' w':=
 hk.run _ _ _ a' w' (r.new' (x:=z) (f:= .rw d) (y:= .slice z.a z.n z.c) hf (aO.refl _) rl.h (hB.toBk (by simp)) hos hov (by show _=_;simp) (iC rl))
def iE(i:TI):Option DV:=match i.z with
 |some z=>match iw z with
  |some zs=>bif i.za then(bif zs.all DV.flat then some (.ag zs) else none) else(match zs with
   |[d]=>bif d.flat then some d else none
   |_=>none)
  |none=>none
 |none=>none
def Hc{d:DV}(h:d.flat=true):d.cells=[d]/\d.okc=true:=by
 cases d<;>first|exact⟨J,h⟩|cases h
theorem qr{i:TI}{d:DV}(hi:dh P e=some i)(h:iE i=some d): ∃v,fp P e v/\(∀G,Is G d v)/\d.okc=true:=by
 obtain⟨j,hj,hij⟩:=js hi;unfold iE at h;split at h<;>try (cases h;done)
 rename_i z hz;split at h<;>try (cases h;done)
 rename_i zs hzs;obtain⟨v,h1,h2⟩:=sk hi hz;have h3: ∀G,IsLs G zs (aC v):=fun G=>nV (h2 (fun _=>⟨none,0,0⟩) G) hzs;have hzv:j.zero=some v:=by have:=h1.inf;rw[hj] at this;simpa using this
 have hza:i.za=v6 (some v):=by rw[hij,<-hzv]
 cases hb:i.za with
 |true=>
  rw[hb] at h hza
  cases hc:zs.all DV.flat with
  |false=>rw[hc] at h;cases h
  |true=>
   rw[hc] at h;cases h
   cases v<;>first|(cases hza;done)|skip
   rename_i cs;exact⟨_,h1,fun G=>du.2 ⟨cs.toList,by simp,h3 G⟩,hc⟩
 |false=>
  rw[hb,cond_false] at h;rw[hb] at hza;split at h<;>try (cases h;done)
  rename_i u
  cases hc:u.flat with
  |false=>rw[hc] at h;cases h
  |true=>
   rw[hc] at h;cases h;have hv:aC v=[v]:=by cases v<;>first|rfl|(cases hza;done)
   refine⟨v,h1,fun G=>?_,(Hc hc).2⟩;have:=h3 G;rw[hv] at this;exact this.uncons.1
def MM{d:Nat}{i:TI}{z:DV}{k k':IntKind}{l:Int}{ds:List DV}[hT:ce P t e s by_](hi:dh P e=some i)(hz:iE i=some z)(hs:Nat.beq z.cells.length s=true)(hx:az lk x=some (.d (.v (.int k l))))(hy:az lk y=some (.d (.v (.int k' l))))(h0:0<=l)(hb:by_*l<=140737488355328)(hl:l<=1152921504606846976)(hds:List.replicate l.toNat z=ds):
  bp P GB C n lk bk ⟨some d, .makeSlice t x y,ty',pos,af,gd⟩ (.rw d) [(d,some (.b e s ds true))] [d]:=by
 intro hd tl tb K s1 s2 hf hk;refine⟨fun ρ G ov a w r Q=>?_⟩;subst hds;obtain⟨v,hz1,hz2,hz3⟩:=qr hi hz;obtain⟨q1,p1,p2⟩:=(r.mono s1 s2).ev hx;obtain⟨q2,p3,p4⟩:=(r.mono s1 s2).ev hy;rw[co] at p2 p4;subst p2 p4;have c1:=((hz2 G).cells hz3).1.len;replace hs:=aW hs;have e1: ∀u∈List.replicate l.toNat v,(aC u).length=s:=fun u hu=>by rw[iJ hu,c1,hs]
 refine ma p1 p3 h0 hb hl (by rw[c1,hs]) hd (fun b a' w' rl=>?_) a w Q ⟨r.h,r.sz,ck a,r.df⟩;have hnd:=(bU.1 rl.h.nd).1;refine r.newRow (z:=⟨some ⟨b,0,none⟩,l.toNat,l.toNat⟩) (B:=[⟨b,cI v l.toNat,e,true⟩]) hf ⟨List.replicate l.toNat v, .inr ⟨b,[],true,by simp,by rw[H1,lR],eu _ e1,by rw[eu _ e1];simp,by simp⟩,yi (hz2 G) _,e1,fun _ o ho=>by rw[aL.1 ho]⟩
  (fun o ho=>by rw[aL.1 ho];exact aQ) (fun m B' _ _ o ho _=>⟨aK _ ho,fun e'=>?_⟩) hk rl
 cases e';exact hnd o ho J
def nF(lk:LK):Nat->List (Nat×Operand)->Option (List DV)
 |_,[]=>some []
 |j,(i,x)::r=>match evD lk x,nF lk (j+1) r with
  |some d,some l=>bif Nat.beq i j then some (d::l) else none
  |_,_=>none
def BB(r:bg GB C n lk bk ρ G ov a w){zv:Value}(hz:(aC zv).length=s): ∀(ps:List (Nat×Operand)) (j:Nat) (pre:List Value) (ds:List DV),nF lk j ps=some ds->pre.length=j*s->(∀d∈ds,d.okc=true/\d.cells.length=s)->
  ∃vs,lI (cj a) s (pre++cI zv ps.length) ps=some (pre++aE vs)/\IsLs G ds vs/\(∀v∈vs,(aC v).length=s)/\vs.length=ps.length
 |[],j,pre,ds,e,hp,hd=>by
  simp only[nF] at e;cases e;exact⟨[],by simp[lI,cI,aE], .nil,by simp,J⟩
 |(i,x)::ps,j,pre,ds,e,hp,hd=>by
  simp only[nF] at e;split at e
  ·rename_i d l hx hl
   cases hb:Nat.beq i j with
   |false=>rw[hb] at e;cases e
   |true=>
    rw[hb] at e
    cases e
    have:=aW hb;subst this;obtain⟨y,hy,hy'⟩:=r.evD hx;obtain⟨k1,k2⟩:=hd d aQ;have c1:=(hy'.cells k1).1.len;have hov:cp (pre++cI zv (ps.length+1)) (i*s) (aC y)=(pre++aC y)++cI zv ps.length:=by
     rw[Fd,<-hp,Bb _ _ _ _ (by rw[c1,k2,hz]),dL]
    obtain⟨vs,h1,h2,h3,h4⟩:=BB r hz ps (i+1) (pre++aC y) l hl (by rw[bX,c1,k2,hp,fT]) (fun d hd'=>hd d (aK _ hd'));refine⟨y::vs,?_, .cons hy' h2,fun v hv=>?_,by simp[h4]⟩
    ·simp only[lI,hy,bT]
     rw[if_pos ⟨by rw[c1,k2],by rw[bX,mG,hz,hp,fT];omega⟩,hov,h1];simp[aE]
    ·rcases bQ.1 hv with rfl|hv
     ·rw[c1,k2]
     ·exact h3 v hv
  ·cases e
def xy{d:Nat}{i:TI}{z:DV}{len:Nat}{parts:Array (Nat×Operand)}{ds:List DV}[hT:ce P t e s by_](hi:dh P e=some i)(hz:iE i=some z)(hs:Nat.beq z.cells.length s=true)(hb:nF lk 0 parts.toList=some ds)(hok:qJ s ds=true)(hlen:Nat.beq parts.toList.length len=true)(hsm:Nat.ble (len*s) 1000=true)(hs0:Nat.blt 0 (len*s)=true):
  bp P GB C n lk bk ⟨some d, .buildSlice t len parts,ty',pos,af,gd⟩ (.rw d) [(d,some (.b e s ds true))] [d]:=by
 intro hd tl tb K s1 s2 hf hk;refine⟨fun ρ G ov a w r Q=>?_⟩;obtain⟨v,hz1,hz2,hz3⟩:=qr hi hz;have c1:=((hz2 G).cells hz3).1.len;replace hs:=aW hs;have hlen':=aW hlen;obtain⟨vs,h1,h2,h3,h4⟩:=BB (r.mono s1 s2) (s:=s) (zv:=v) (by rw[c1,hs]) parts.toList 0 [] ds hb (by simp) (Aj hok);rw[gN,gN] at h1;refine tu (z:=v) (out:=aE vs) (by rw[c1,hs]) (by rw[<-hlen'];exact h1) hsm hs0 hd (fun b a' w' rl=>?_) a w Q ⟨r.h,r.sz,ck a,r.df⟩;have hnd:=(bU.1 rl.h.nd).1;have hvl:vs.length=len:=by rw[h4,hlen']
 refine r.newRow (z:=⟨some ⟨b,0,none⟩,len,len⟩) (B:=[⟨b,aE vs,e,true⟩]) hf ⟨vs, .inr ⟨b,[],true,by rw[hvl],by rw[lR],eu _ h3,by rw[eu _ h3,hvl];simp,by rw[hvl];exact bZ _⟩,h2,h3,fun _ o ho=>by rw[aL.1 ho]⟩
  (fun o ho=>by rw[aL.1 ho];exact aQ) (fun m B' _ _ o ho _=>⟨aK _ ho,fun e'=>?_⟩) hk rl
 cases e';exact hnd o ho J
def HZ{d:Nat}[hT:ce P t e s by_]:bp P GB C n lk bk ⟨some d, .buildSlice t 0 #[],ty',pos,af,gd⟩ (.rw d) [(d,some (.b e s [] true))] [d]:=by
 intro hd tl tb K s1 s2 hf hk;refine⟨fun ρ G ov a w r Q=>?_⟩;refine xq hd (fun b a' w' rl=>?_) a w Q ⟨r.h,r.sz,ck a,r.df⟩;have hnd:=(bU.1 rl.h.nd).1;refine r.newRow (z:=⟨some ⟨b,0,none⟩,0,0⟩) (B:=[⟨b,[],e,true⟩]) hf ⟨[], .inr ⟨b,[],true,J,by simp[aE],by simp[aE],by simp[aE],by simp⟩, .nil,by simp,fun _ o ho=>by rw[aL.1 ho]⟩
  (fun o ho=>by rw[aL.1 ho];exact aQ) (fun m B' _ _ o ho _=>⟨aK _ ho,fun e'=>?_⟩) hk rl
 cases e';exact hnd o ho J
def bp.frz{o:Oper}{d:Nat}{B:Bk}{f:FX}{v:DV}(hd:o.dst=some d)(h:bp P GB C n lk bk o f [(d,some B)] [d])
  (hz: ∀lk bk ρ G ov a w,bg GB C n lk bk ρ G ov a w->bk d=some B-> ∃G' ov',aO G G'/\bc C ov' G' w/\(∀o∈ov,(ρ d).a≠some ⟨o.b,0,none⟩->o∈ov')/\ ∀y,bi ρ G f y->Is G' v y):bp P GB C n lk bk o (.d v) [(d,none)] [d]:=by
 intro hd' tl tb K s1 s2 hf hk;refine h hd' tl tb K s1 s2 hf ?_;rw[hd] at hk⊢;refine⟨fun ρ G ov a w r=>?_⟩;have hbd:Sx.upB tb [(d,some B)] d=some B:=by simp[Sx.upB]
 obtain⟨G',ov',h1,h2,h3,h4⟩:=hz _ _ ρ G ov a w r hbd;refine hk.run ρ G' ov' a w ⟨r.gb.trans h1,h2,r.sz,r.df,fun k g e=>?_,fun m B' e=>?_,fun m m' B1 B2 e e'=>?_,r.fxd⟩
 ·by_cases hk:k=d
  ·subst hk
   simp only[c9,if_true] at e;cases e;obtain⟨y,g1,g2⟩:=r.fx k f (by simp[c9]);exact⟨y,g1,h4 y g2⟩
  ·simp only[c9,hk,if_false] at e
   obtain⟨y,g1,g2⟩:=r.fx k g (by simp[c9,hk,e]);exact⟨y,g1,g2.up h1⟩
 ·simp only[Sx.upB] at e
  split at e
  ·cases e
  ·rename_i hm
   have e':Sx.upB tb [(d,some B)] m=some B':=by simp[Sx.upB,hm,e]
   obtain⟨os,g1,g2⟩:=r.bx m B' e';exact⟨os,g1.up h1,fun o ho=>h3 o (g2 o ho) fun hc=>r.dj m d B' B e' hbd hm _ (g1.blk ho) hc⟩
 ·simp only[Sx.upB] at e e'
  split at e
  ·cases e
  ·rename_i hm
   split at e'
   ·cases e'
   ·rename_i hm'
    exact r.dj m m' B1 B2 (by simp[Sx.upB,hm,e]) (by simp[Sx.upB,hm',e'])
def bp.frzRow{o:Oper}{d:Nat}{ty:TypeId}{s:Nat}{ds:List DV}(hd:o.dst=some d)(h:bp P GB C n lk bk o (.rw d) [(d,some (.b ty s ds true))] [d]):bp P GB C n lk bk o (.d (.sl ds)) [(d,none)] [d]:=
 h.frz hd fun _ _ _ _ _ _ _ r hb=>r.frzRow hb
def Lq{d:Nat}{f:FX}{l:List DV}(e:az lk x=some f)(hc:f.okc=true)(hn:n9 f d=true)(hl:iw f.cells=some l):bp P GB C n lk bk ⟨some d, .box t x,ty',pos,af,gd⟩ (.d (.pt l)) [(d,none)] [d]:=
 (yb e hc hn).frz J fun _ _ _ _ _ _ _ r hb=>r.frzVar hb hl
def lc(lk:LK)(bk:BM)(s:Nat)(y:Operand):Option (List DV):=match az lk y with
 |some (.rw nm)=>match bk nm with
  |some (.b _ s' ds _)=>bif Nat.beq s' s then some ds else none
  |_=>none
 |some f=>match f7 f with
  |some (.sl l)=>some l
  |_=>none
 |none=>none
def tg{ds:List DV}(r:bg GB C n lk bk ρ G ov a w)(h:lc lk bk s y=some ds)(hk:eh s ds):
  ∃(z:SV) (vs:List Value),aq (cj a) y=some (.slice z.a z.n z.c)/\z.n=vs.length/\IsLs G ds vs/\(∀v∈vs,(aC v).length=s)/\(∀v∈aE vs,Sx.flat v=true)/\kj P C ov G s z.n (.slice z.a z.n z.c) (aE vs):=by
 have hfl: ∀vs:List Value,IsLs G ds vs->(∀v∈vs,(aC v).length=s)/\ ∀v∈aE vs,Sx.flat v=true:=by
  intro vs hl;refine⟨fun v hv=>?_,fun v hv=>?_⟩
  ·obtain⟨d,hd,h3⟩:=hl.all v hv
   obtain⟨k1,k2⟩:=hk d hd;rw[(h3.cells k1).1.len,k2]
  ·simp only[aE,List.mem_flatten,cX] at hv
   obtain⟨l,⟨u,hu,rfl⟩,hv⟩:=hv;obtain⟨d,hd,h3⟩:=hl.all u hu;exact(h3.cells (hk d hd).1).2 v hv
 unfold lc at h;split at h
 ·rename_i nm hy
  split at h<;>try (cases h;done)
  rename_i ty s' ds' lo hb
  cases hs:Nat.beq s' s with
  |false=>rw[hs] at h;cases h
  |true=>
   rw[hs] at h;cases h
   cases aW hs
   obtain⟨u,h1,h2⟩:=r.ev hy
   cases h2
   obtain⟨B,⟨vs,hB,hv,hs,_⟩,hmem⟩:=r.row (y:= .nilFunc) hb;obtain⟨f1,f2⟩:=hfl _ hv;refine⟨ρ nm,vs,h1,hB.len,hv,f1,f2,?_⟩;rcases hB with⟨e1,e2,e3⟩|⟨b,rest,lo',h3,h4,h5,h6,h7⟩
   ·simp only[] at e2
    subst e1;rw[e2];exact oe
   ·simp only[] at h3 h4 h5 h6 h7
    have oat:fD ov b (aE vs++rest) ty lo':=⟨hmem _ (by rw[h4];exact aQ)⟩;rw[show(ρ nm).a=some ⟨b,0,none⟩ by rw[h3],show(ρ nm).n=vs.length by rw[h3]];refine Ag oat ?_;rw[i5 _ _ _ (by rw[bX];omega),mX,dW (by omega),aT (by omega)]
 ·rename_i f _ hy
  split at h<;>cases h;rename_i hd;obtain⟨u,h3,h4⟩:=r.ev hy;obtain⟨s',z,es,rfl,hsl,hl⟩:=f8.1 (mA h4 hd);obtain⟨f1,f2⟩:=hfl _ hl;refine⟨z,es,h3,hsl.len,hl,f1,f2,?_⟩;rcases rg hsl hl hk with he|he
  ·subst he
   rw[hsl.len];exact oe
  ·subst he;exact ES hsl
 ·cases h
def Jr{d nm:Nat}{i:TI}{z:DV}{ds ds2:List DV}[hT:ce P t e s by_][hN:jH P t'](hi:dh P e=some i)(hz:iE i=some z)(hs:Nat.beq z.cells.length s=true)(hx:az lk x=some (.rw nm))(hb:bk nm=some (.b e s ds true))(hy:lc lk bk s y=some ds2)(hk2:eh s ds2)
  (hby:Nat.blt 0 by_=true)(hbd:(ds.length+ds2.length)*by_<=140737488355328)(hnd:Nat.beq nm d=false){ds':List DV}(hds:ds++ds2=ds'):
  bp P GB C n lk bk ⟨some d, .call ⟨.builtin .append, #[x,y], #[t,t']⟩,ty',pos,af,gd⟩ (.rw d) [(nm,none),(d,some (.b e s ds' true))] [d]:=by
 intro hd tl tb K s1 s2 hf hk;refine⟨fun ρ G ov a w r Q=>?_⟩;subst hds;have r1:=r.mono s1 s2;obtain⟨v,hz1,hz2,hz3⟩:=qr hi hz;have cz:=((hz2 G).cells hz3).1.len;replace hs:=aW hs;rw[jV] at hby
 have hne:nm≠d:=fun e=>by subst e;simp at hnd
 obtain⟨u,hx',hx2⟩:=r1.ev hx
 cases hx2
 obtain⟨B,⟨vs,hB,hv,hvs,hlo⟩,hBo⟩:=r1.row (y:= .nilFunc) hb;simp only[] at hB hv hvs;obtain⟨w2,us,hy',h2,h3,h4,h5,h6⟩:=tg (P:=P) r1 hy hk2;have hus:(aE us).length=us.length*s:=eu us h4;have hbd':(vs.length+us.length)*by_<=140737488355328:=by rw[hv.len,h3.len];exact hbd
 have hall: ∀v∈vs++us,(aC v).length=s:=fun v hv=>by
  rcases dR.1 hv with hv|hv
  ·exact hvs v hv
  ·exact h4 v hv
 have rd:=r.dropB nm;have hf':gG [d] (some d) tl (Sx.upB tb [(nm,none)]):=fun m hm=>by
  obtain⟨g1,g2⟩:=hf m hm;refine⟨g1,fun k B' hk e=>g2 k B' hk ?_⟩;simp only[Sx.upB] at e;split at e
  ·cases e
  ·exact e
 have hbk: ∀m B',(Sx.upB tb [(nm,none)]) m=some B'->m≠nm/\tb m=some B':=fun m B' e=>by
  simp only[Sx.upB] at e;split at e
  ·cases e
  ·exact⟨by assumption,e⟩
 have hfin: ∀(b:Nat) (cap':Nat) (rest':List Value) (ov1:List ao) a' w',vs.length+us.length<=cap'->rest'.length+(vs.length+us.length)*s=cap'*s->(∀o∈ov,(ρ nm).a≠some ⟨o.b,0,none⟩->o∈ov1)->
   d4 C n (put (cj a) (some d) (.slice (some ⟨b,0,none⟩) (vs.length+us.length) cap')) (⟨b,aE (vs++us)++rest',e,true⟩::ov1) G a' w'->K a' w':=by
  intro b cap' rest' ov1 a' w' hc hr ho1 rl;have hnd':=(bU.1 rl.h.nd).1;refine rd.newRow (z:=⟨some ⟨b,0,none⟩,vs.length+us.length,cap'⟩) (B:=[⟨b,aE (vs++us)++rest',e,true⟩]) hf' ⟨vs++us, .inr ⟨b,rest',true,by simp,J,eu _ hall,?_,by simpa using hc⟩,hv.app h3,hall,fun _ o ho=>by rw[aL.1 ho]⟩
   (fun o ho=>by rw[aL.1 ho];exact aQ) (fun m B' hm e o ho hmo=>?_) hk rl
  ·rw[eu _ hall,bX]
   simp only[];omega
  ·obtain⟨h7,h8⟩:=hbk m B' e
   have ho2:=ho1 o ho fun hc=>r.dj m nm B' _ h8 (s2 _ _ hb) h7 _ hmo hc;exact⟨aK _ ho2,fun e'=>by cases e';exact hnd' o ho2 J⟩
 rcases hB with⟨e1,e2,e3⟩|⟨b,rest,lo',k3,k4,k5,k6,k7⟩
 ·subst e1
  rw[e2] at hx';by_cases hne:us=[]
  ·subst hne
   have:ds2=[]:=bK (by rw[<-h3.len];rfl);subst this;rw[h2] at hy';refine KB hx' hy' hd (fun a' w' rl=>?_) a w Q ⟨r.h,r.sz,ck a,r.df⟩;refine rd.newRow (z:=⟨none,0,0⟩) (B:=[]) hf' ⟨[], .inl ⟨J,J,J⟩,by simpa using hv,by simp,fun _ o ho=>by cases ho⟩ (fun o ho=>by cases ho) (fun m B' hm e o ho hmo=>⟨ho,fun e'=>by cases e'⟩) hk rl
  ·have hup:0<us.length:=nZ.2 hne
   rw[h2] at hy' h6;refine tv (z:=v) (xs:=[]) (ys:=aE us) hx' hy' oe h6 (by show(0:Nat)<0+us.length;omega) hby (by simpa using hbd') hd (fun b cap' hc a' w' rl=>?_) a w Q ⟨r.h,r.sz,ck a,r.df⟩;exact hfin b cap' (cI v (cap'-us.length)) ov a' w' (by simpa using hc) (by rw[mG,cz,hs,<-cJ];simp at hc⊢;congr 1;omega) (fun o ho _=>ho) (by simpa using rl)
 ·have hl:=hlo J
  subst k4;have hlo':lo'=true:=hl _ aQ;subst hlo';have ha:(ρ nm).a=some ⟨b,0,none⟩:=by rw[k3]
  have hn:(ρ nm).n=vs.length:=by rw[k3]
  rw[ha,hn] at hx';rw[h2] at hy' h6;obtain⟨ov1,o1,o2⟩:=gm.of_mem (hBo _ aQ);refine Bc (z:=v) (xs:=aE vs) (ys:=aE us) (rest:=rest) (own1:=ov1) hx' hy' o1 k5 k6 k7 h6 hus h5 hby hbd' (by rw[cz,hs]) hd (fun b' cap' rest' hc hr a' w' rl=>?_) a w Q ⟨r.h,r.sz,ck a,r.df⟩;rw[<-l9] at rl;exact hfin b' cap' rest' ov1 a' w' hc hr (fun o ho hne=>o2 o ho fun e'=>hne (by rw[ha,e'])) rl
end
section
variable {P:Program} {T:TT} {GB:Gh} {C:au} {n:Nat} {lk:LK} {bk:BM} {ρ:NE} {G:Gh} {ov:List ao} {a:Act} {w:World}
variable {dst:Option Nat} {t t' ty':TypeId} {pos:String} {af:Array Edge} {gd:Option (Nat×Bool)} {x y:Operand} {e s by_:Nat}
def uO{vs:List Value}{rest cs:List Value}{i sz j:Nat}{v':Value}(hil:i<vs.length)(hvs: ∀v∈vs,(aC v).length=sz)(hv':aC v'=cp (aC vs[i]) j cs)(hj:j+cs.length<=sz):cp (aE vs++rest) (i*sz+j) cs=aE (vs.set i v')++rest:=by
 have hm:(aC vs[i]).length=sz:=hvs _ (mY hil);have hl':(aC v').length=sz:=by rw[hv',s9,hm]
 rw[<-Lj (rest:=rest) (u:=v') vs i hil hvs hl',hv'];have hlv:=eu vs hvs;have hle:i*sz+sz<=vs.length*sz:=by rw[<-fT];exact aM _ hil
 generalize hmm:aC vs[i]=m at*;have hX:aE vs++rest=(aE vs).take (i*sz)++(m++((aE vs).drop (i*sz+sz)++rest)):=by
  have t1:=uM (rest:=rest) hvs hil;rw[hmm] at t1;obtain⟨_,t2⟩:=pI t1;have t3:m=((aE vs).drop (i*sz)).take sz:=by
   have:m=((aE vs++rest).drop (i*sz)).take sz:=t2;rw[this,gQ (by omega),dW (by rw[kS];omega)]
  rw[t3]
  conv=>lhs;rw[<-kX (i*sz) (aE vs),<-kX sz ((aE vs).drop (i*sz)),List.drop_drop]
  simp[dL]
 have hP:((aE vs).take (i*sz)).length=i*sz:=by rw[bR];omega
 generalize (aE vs).take (i*sz)=A at hX hP;generalize (aE vs).drop (i*sz+sz)++rest=Z at hX;rw[hX,<-hP,Bb A m Z (cp m j cs) (by rw[s9])];rw[nf _ m j (by omega),nf _ _ _ (by simp only[bX];omega)];rw[List.take_append,aT (by omega),Nat.add_sub_cancel_left,dW (by omega)];rw[List.drop_append,fJ (by omega),gN,show A.length+j+cs.length-A.length=j+cs.length by omega,gQ (by omega)];simp[dL]
def ri(ag:Option Nat)(d:DV)(j:Nat)(u:DV):Option DV:=match d with
 | .ag l=>match ag with
  |some k=>bif u.okc&&(Nat.beq u.cells.length k&&Nat.ble (j+k) l.length) then some (.ag (pi l j u.cells)) else none
  |none=>bif u.flat&&Nat.blt j l.length then some (.ag (l.set j u)) else none
 |d=>match ag with
  |some _=>none
  |none=>bif d.flat&&(u.flat&&Nat.beq j 0) then some u else none
def bg.wroteRow{nm b:Nat}{ty:TypeId}{sz:Nat}{ds ds':List DV}{lo lo':Bool}{m':List Value}{own':List ao}(r:bg GB C n lk bk ρ G ov a w)(hb:bk nm=some (.b ty sz ds lo))(ha:(ρ nm).a=some ⟨b,0,none⟩)(hB:cA G ⟨ρ nm,sz,ty,ds',lo⟩ [⟨b,m',ty,lo'⟩])
  (h1:⟨b,m',ty,lo'⟩∈own')(h2: ∀o∈ov,o.b≠b->o∈own'){K:Act->World->Prop}(hk:SX GB C n (c9 lk dst .un) (Sx.upB bk [(nm,some (.b ty sz ds' lo))]) K){a':Act}{w':World}(rl:d4 C n (Sx.put (cj a) dst undef) own' G a' w'):K a' w':=by
 have r2:=r.upB (G':=G) (ov':=own') (w':=w') (B':= .b ty sz ds' lo) (aO.refl _) rl.h (hB.toBk J) (fun o ho=>by rw[aL.1 ho];exact h1) (fun o ho hne=>h2 o ho fun e=>hne (by rw[ha,e])) ⟨_,hb⟩;exact hk.run _ _ _ a' w' (r2.put J (iC rl))
def Eu(cs:List Value)(o:Nat)(v:Value):cp cs o [v]=cs.set o v:=rfl
def Fi{i:TI}{ag:Option Nat}{nm sz k j:Nat}{ty:TypeId}{ds ds':List DV}{lo:Bool}{d d' u:DV}(hi:dh P t=some i)(ha:i.ag=some ag)(hx:az lk x=some (.be nm sz k j))(hb:bk nm=some (.b ty sz ds lo))(hy:evD lk y=some u)(he:ds[k]? =some d)(hl:ri ag d j u=some d')(hds:ds.set k d'=ds'):
  bp P GB C n lk bk ⟨dst, .store t x y,ty',pos,af,gd⟩ .un [(nm,some (.b ty sz ds' lo))] []:=by
 intro hd tl tb K s1 s2 hf hk;refine⟨fun ρ G ov a w r Q=>?_⟩;subst hds;have r1:=r.mono s1 s2;obtain⟨y',h1,h2⟩:=r1.evD hy;obtain⟨x',h3,b,hwb,rfl⟩:=r1.ev hx;obtain⟨B,hB,hBo⟩:=r1.row (y:= .nilFunc) hb;obtain⟨b',vs,rest,lo',e1,rfl,hv,hvs,hil,hup⟩:=hB.upd he;rw[hwb] at e1;cases e1;obtain⟨v,g1,g2⟩:=hv.get he;obtain⟨g3,g4⟩:=aS.1 g1;have hlv:=eu vs hvs;have hle:k*sz+sz<=vs.length*sz:=by rw[<-fT];exact aM _ hil
 have hml:(aC v).length=sz:=hvs _ (aN g1)
 cases ag with
 |some q=>
  have:=oW hi ha;unfold ri at hl;split at hl
  ·rename_i l
   simp only at hl
   cases hc:(u.okc&&(Nat.beq u.cells.length q&&Nat.ble (j+q) l.length)) with
   |false=>rw[hc] at hl;cases hl
   |true=>
    rw[hc] at hl;cases hl;simp only[aR,Nat.ble_eq] at hc;obtain⟨c1,c2,c3⟩:=hc;replace c2:=aW c2;obtain⟨c4,c5⟩:=h2.cells c1;obtain⟨m,rfl,hm⟩:=du.1 g2;have hcl:(aC y').length=q:=by rw[c4.len,c2]
    have hmd:=hm.len;have hsz:m.length=sz:=hml;have key:=hup (.agg ⟨cp m j (aC y')⟩) (.ag (pi l j u.cells)) (du.2 ⟨_,J,hm.ov c4⟩) (by show(cp m j (aC y')).length=sz;rw[s9,hsz]);have hov:=uO (rest:=rest) (v':= .agg ⟨cp m j (aC y')⟩) (cs:=aC y') (j:=j) hil hvs (by rw[g4];rfl) (by omega);obtain⟨own',u1,u2,u3⟩:=e7.of_mem (cs':=cp (aE vs++rest) (k*sz+j) (aC y')) (hBo _ aQ);refine uB h3 h1 u1 hcl (by rw[bX];omega) (cW.2 c5) hd (fun a' w' rl=>?_) a w Q ⟨r.h,r.sz,ck a,r.df⟩;rw[hov] at u2;exact r.wroteRow (s2 _ _ hb) hwb key u2 u3 hk rl
  ·simp at hl
 |none=>
  have:=ou hi ha;unfold ri at hl;split at hl
  ·rename_i l
   simp only at hl
   cases hc:(u.flat&&Nat.blt j l.length) with
   |false=>rw[hc] at hl;cases hl
   |true=>
    rw[hc] at hl;cases hl;simp only[aR,jV] at hc;obtain⟨c1,c2⟩:=hc;have hfl:=h2.flat c1;have hcl:=pm hfl;obtain⟨m,rfl,hm⟩:=du.1 g2;have hmd:=hm.len;have hsz:m.length=sz:=hml;have key:=hup (.agg ⟨m.set j y'⟩) (.ag (l.set j u)) (du.2 ⟨_,J,hm.set j h2⟩) (by show(m.set j y').length=sz;rw[aY,hsz]);have hov:=uO (rest:=rest) (v':= .agg ⟨m.set j y'⟩) (cs:=[y']) (j:=j) hil hvs (by rw[g4];rfl) (by simp;omega);rw[Eu] at hov;obtain⟨own',u1,u2,u3⟩:=e7.of_mem (cs':=(aE vs++rest).set (k*sz+j) y') (hBo _ aQ);refine rI h3 h1 u1 (by rw[bX];omega) hfl hd (fun a' w' rl=>?_) a w Q ⟨r.h,r.sz,ck a,r.df⟩;rw[hov] at u2;exact r.wroteRow (s2 _ _ hb) hwb key u2 u3 hk rl
  ·rename_i hna
   simp only at hl
   cases hc:(d.flat&&(u.flat&&Nat.beq j 0)) with
   |false=>rw[hc] at hl;cases hl
   |true=>
    rw[hc] at hl;cases hl;simp only[aR] at hc;obtain⟨c0,c1,c2⟩:=hc
    cases aW c2
    have hfl:=h2.flat c1;have hcl:=pm hfl;have hvl:=pm (g2.flat c0);have h1z:1=sz:=by rw[<-hml,hvl];rfl
    have key:=hup y' d' h2 (by rw[hcl,<-h1z];rfl);have hov:=uO (rest:=rest) (v':=y') (cs:=[y']) (j:=0) hil hvs (by rw[g4,hvl,hcl];rfl) (by simp;omega);rw[Eu] at hov;obtain⟨own',u1,u2,u3⟩:=e7.of_mem (cs':=(aE vs++rest).set (k*sz+0) y') (hBo _ aQ);refine rI h3 h1 u1 (by rw[bX];omega) hfl hd (fun a' w' rl=>?_) a w Q ⟨r.h,r.sz,ck a,r.df⟩;rw[hov] at u2;exact r.wroteRow (s2 _ _ hb) hwb key u2 u3 hk rl
def gt(lk:LK)(dflt:Nat):Option Operand->Option Int
 |none=>some (dflt:Nat)
 |some o=>match az lk o with
  |some (.d (.v (.int .i64 i)))=>some i
  |_=>none
def IC{l:List DV}{lo hi:Option Operand}{nlo nhi:Nat}[hT:ce P t e s by_](hx:evD lk x=some (.sl l))(ho:eh s l)(hlo:gt lk 0 lo=some (nlo:Int))(hhi:gt lk l.length hi=some (nhi:Int))(h1:nlo<=nhi)(h2:nhi<=l.length):
  bp P GB C n lk bk ⟨dst, .slice t x lo hi none,ty',pos,af,gd⟩ (.d (.sl ((l.take nhi).drop nlo))) [] []:= .yd fun ρ G ov a w r=>by
 obtain⟨u,h3,h4⟩:=r.evD hx;obtain⟨s',z,es,rfl,hsl,hl⟩:=f8.1 h4;have hn:=hsl.len;have hcap:=hsl.cap;have hll:=hl.len;have key: ∀mx',nhi<=mx'->mx'<=z.c->Is G (.sl ((l.take nhi).drop nlo)) (gI z.a z.n z.c nlo nhi mx' s):=by
  intro mx' hm1 hm2;rcases rg hsl hl ho with he|he
  ·subst he
   have:l=[]:=bK (by rw[<-hll];rfl);subst this;have e1:nhi=0:=by simp at h2;exact h2
   have e2:nlo=0:=by omega
   subst e1 e2;refine f8.2 ⟨s,⟨_,0,mx'⟩,[],J,⟨J,bS _, .inl J⟩,by simpa using IsLs.nil⟩
  ·subst he
   refine f8.2 ⟨s',⟨_,_,_⟩,_,J,hsl.sub nlo nhi mx' h1 (by omega) hm1 hm2,(hl.take nhi).drop nlo⟩
 have bnd: ∀{o:Operand} {d:Nat} {i:Int},gt lk d (some o)=some i->aq (cj a) o=some (.int .i64 i):=fun{o d i} h=>by
  simp only[gt] at h;split at h<;>cases h;rename_i he;obtain⟨q,g1,g2⟩:=r.ev he;rw[co] at g2;subst g2;exact g1
 match lo,hi,hlo,hhi with
 |none,none,hlo,hhi=>
  simp only[gt,Option.some.injEq] at hlo hhi;have e1:nlo=0:=by omega
  have e2:nhi=l.length:=by omega
  subst e1 e2;refine⟨_,key z.c (by omega) (bZ _),?_⟩;intro a w0 hf hh;simp only[execOp,aG hf h3,lT];have h9:=pp (P:=P) (t:=t) (ad:=z.a) (len:=z.n) (cap:=z.c) w0 (lo:=none) (hi:=none) (mx:=none) (l:=0) (h:=l.length) (m:=z.c) (fun w0=>by
   simp[Instr.sliceBounds,Result.andThen,run_pure];omega)
  exact cd h9
 |none,some o2,hlo,hhi=>
  simp only[gt,Option.some.injEq] at hlo;have e1:nlo=0:=by omega
  subst e1;refine⟨_,key z.c (by omega) (bZ _),?_⟩;have h9:=pH (P:=P) (C:=C) (own:=ov) (G:=G) (t:=t) (dst:=dst) (ty':=ty') (pos:=pos) (af:=af) (gd:=gd) h3 (bnd hhi) (by omega) (by omega);have e9:gI z.a z.n z.c 0 nhi z.c s= .slice z.a nhi z.c:=by
   unfold gI
   cases z.a with
   |none=>simp
   |some ad=>simp[Addr.add]
  rw[e9];simpa using h9
 |some o1,none,hlo,hhi=>
  simp only[gt,Option.some.injEq] at hhi;have e2:nhi=l.length:=by omega
  subst e2;refine⟨_,key z.c (by omega) (bZ _),?_⟩;have h9:=Bt (P:=P) (C:=C) (own:=ov) (G:=G) (t:=t) (dst:=dst) (ty':=ty') (pos:=pos) (af:=af) (gd:=gd) h3 (bnd hlo) (by omega) (by omega);have e9:z.n=l.length:=by omega
  rw[bJ,e9] at h9;rw[e9];exact h9
 |some o1,some o2,hlo,hhi=>
  refine⟨_,key z.c (by omega) (bZ _),?_⟩;have h9:=Fm (P:=P) (C:=C) (own:=ov) (G:=G) (t:=t) (dst:=dst) (ty':=ty') (pos:=pos) (af:=af) (gd:=gd) h3 (bnd hlo) (bnd hhi) (by omega) (by omega) (by omega);simpa using h9
def MI{l:List DV}{hi mx:Operand}{nhi:Nat}[hT:ce P t e s by_](hx:evD lk x=some (.sl l))(ho:eh s l)(hhi:gt lk 0 (some hi)=some (nhi:Int))(hmx:gt lk 0 (some mx)=some (nhi:Int))(h2:nhi<=l.length):
  bp P GB C n lk bk ⟨dst, .slice t x none (some hi) (some mx),ty',pos,af,gd⟩ (.ct (l.take nhi)) [] []:= .yd fun ρ G ov a w r=>by
 obtain⟨u,h3,h4⟩:=r.evD hx;obtain⟨s',z,es,rfl,hsl,hl⟩:=f8.1 h4;have hn:=hsl.len;have hcap:=hsl.cap;have hll:=hl.len;have bnd: ∀{o:Operand} {d:Nat} {i:Int},gt lk d (some o)=some i->aq (cj a) o=some (.int .i64 i):=fun{o d i} h=>by
  simp only[gt] at h;split at h<;>cases h;rename_i he;obtain⟨q,g1,g2⟩:=r.ev he;rw[co] at g2;subst g2;exact g1
 refine⟨.slice z.a nhi nhi,⟨⟨_,_,J⟩,F1 hsl hl ho h2 (bZ _) (by omega)⟩,?_⟩;have h9:=EY (P:=P) (C:=C) (own:=ov) (G:=G) (t:=t) (dst:=dst) (ty':=ty') (pos:=pos) (af:=af) (gd:=gd) h3 (bnd hhi) (bnd hmx) (by omega) (Int.le_refl _) (by omega);simpa using h9
def Ax{d:Nat}{i:TI}{z:DV}{ds ds2:List DV}[hT:ce P t e s by_][hN:jH P t'](hi:dh P e=some i)(hz:iE i=some z)(hs:Nat.beq z.cells.length s=true)(hx:az lk x=some (.ct ds)\/(az lk x=some .nl/\ds=[]))(ox:eh s ds)(hy:lc lk bk s y=some ds2)(hk2:eh s ds2)(hne:0<ds2.length)
  (hby:Nat.blt 0 by_=true)(hbd:(ds.length+ds2.length)*by_<=140737488355328){ds':List DV}(hds:ds++ds2=ds'):
  bp P GB C n lk bk ⟨some d, .call ⟨.builtin .append, #[x,y], #[t,t']⟩,ty',pos,af,gd⟩ (.rw d) [(d,some (.b e s ds' true))] [d]:=by
 intro hd tl tb K s1 s2 hf hk;refine⟨fun ρ G ov a w r Q=>?_⟩;subst hds;have r1:=r.mono s1 s2;obtain⟨v,hz1,hz2,hz3⟩:=qr hi hz;have cz:=((hz2 G).cells hz3).1.len;replace hs:=aW hs;rw[jV] at hby
 obtain⟨w2,us,h1,h2,h3,h4,h5,h6⟩:=tg (P:=P) r1 hy hk2;have hxs:lc lk bk s x=some ds:=by
  unfold lc;rcases hx with hx|⟨hx,rfl⟩<;>rw[hx]<;>rfl
 obtain⟨w1,vs,g1,g2,g3,g4,g5,g6⟩:=tg (P:=P) r1 hxs ox;have hc1:w1.c=w1.n:=by
  rcases hx with hx|⟨hx,rfl⟩
  ·obtain⟨y1,k1,⟨a1,n1,rfl⟩,_⟩:=r1.ev hx
   rw[k1] at g1;simp only[Option.some.injEq,Value.slice.injEq] at g1;omega
  ·obtain⟨y1,k1,k2⟩:=r1.ev hx
   cases k2
   rw[k1] at g1;simp only[Option.some.injEq,Value.slice.injEq] at g1;omega
 have hl3:=h3.len;have hl4:=g3.len;have hall: ∀v∈vs++us,(aC v).length=s:=fun v hv=>by
  rcases dR.1 hv with hv|hv
  ·exact g4 v hv
  ·exact h4 v hv
 refine tv (z:=v) (xs:=aE vs) (ys:=aE us) (ad:=w1.a) (len:=w1.n) (cap:=w1.c) g1 h1 g6 h6 (by omega) hby (by rw[g2,h2,hl3,hl4];exact hbd) hd (fun b cap' hc a' w' rl=>?_) a w Q ⟨r.h,r.sz,ck a,r.df⟩;rw[<-l9] at rl;have hnd':=(bU.1 rl.h.nd).1;refine r.newRow (z:=⟨some ⟨b,0,none⟩,w1.n+w2.n,cap'⟩) (B:=[⟨b,aE (vs++us)++cI v (cap'-(w1.n+w2.n)),e,true⟩]) hf ⟨vs++us, .inr ⟨b,_,true,by simp[g2,h2],J,eu _ hall,?_,by simpa[g2,h2] using hc⟩,g3.app h3,hall,fun _ o ho=>by rw[aL.1 ho]⟩
  (fun o ho=>by rw[aL.1 ho];exact aQ) (fun m B' hm e o ho _=>⟨aK _ ho,fun e'=>by cases e';exact hnd' o ho J⟩) hk rl
 rw[eu _ hall,bX,mG,cz,hs,<-cJ,g2,h2];congr 1;rw[g2,h2] at hc;dsimp only;omega
end
end Go.Sx
end
