import Derived.Test.YtbllnkhngjedjaaGreatDoorPt4
set_option linter.all false
set_option maxRecDepth 100000
section
namespace Go.Sx
open Go
def tt:TT:=[
 (2,⟨.int .i64,1,some [.d (.v (.int .i64 0))],false⟩),
 (3,⟨.int .i64,1,some [.d (.v (.int .i64 0))],false⟩),
 (4,⟨.bl,1,some [.ff],false⟩),
 (5,⟨.int .u8,1,some [.d (.v (.int .u8 0))],false⟩),
 (9,⟨.sc,1,some [.d (.v (.string ⟨#[]⟩))],false⟩),
 (22,⟨.sl 3 1 8,1,some [.nl],false⟩),
 (23,⟨.pt,1,some [.d (.v (.pointer none))],false⟩),
 (25,⟨.sl 118 8 112,1,some [.nl],false⟩),
 (27,⟨.st [(0,3,1),(1,25,1)],2,some [.d (.v (.int .i64 0)), .nl],true⟩),
 (29,⟨.pt,1,some [.d (.v (.pointer none))],false⟩),
 (31,⟨.sl 182 1 4,1,some [.nl],false⟩),
 (32,⟨.sl 182 1 4,1,some [.nl],false⟩),
 (34,⟨.st [(0,4,1),(1,32,1)],2,some [.ff, .nl],true⟩),
 (36,⟨.st [(0,34,2),(2,32,1)],3,some [.ff, .nl, .nl],true⟩),
 (38,⟨.st [(0,36,3),(3,36,3)],6,some [.ff, .nl, .nl, .ff, .nl, .nl],true⟩),
 (40,⟨.sl 182 1 4,1,some [.nl],false⟩),
 (42,⟨.st [(0,4,1),(1,40,1)],2,some [.ff, .nl],true⟩),
 (44,⟨.st [(0,42,2),(2,40,1)],3,some [.ff, .nl, .nl],true⟩),
 (46,⟨.st [(0,44,3),(3,44,3)],6,some [.ff, .nl, .nl, .ff, .nl, .nl],true⟩),
 (48,⟨.sl 78 1 24,1,some [.nl],false⟩),
 (50,⟨.fc,1,some [.d (.v (.nilIface))],false⟩),
 (64,⟨.st [(0,22,1),(1,3,1)],2,some [.nl, .d (.v (.int .i64 0))],true⟩),
 (72,⟨.sl 76 1 24,1,some [.nl],false⟩),
 (75,⟨.sl 92 6 48,1,some [.nl],false⟩),
 (76,⟨.sl 92 6 48,1,some [.nl],false⟩),
 (77,⟨.sl 38 6 112,1,some [.nl],false⟩),
 (78,⟨.sl 38 6 112,1,some [.nl],false⟩),
 (81,⟨.pt,1,some [.d (.v (.pointer none))],false⟩),
 (83,⟨.st [(0,2,1),(1,2,1),(2,81,1)],3,some [.d (.v (.int .i64 0)), .d (.v (.int .i64 0)), .d (.v (.pointer none))],true⟩),
 (87,⟨.sl 137 1 24,1,some [.nl],false⟩),
 (92,⟨.st [(0,83,3),(3,83,3)],6,some [.d (.v (.int .i64 0)), .d (.v (.int .i64 0)), .d (.v (.pointer none)), .d (.v (.int .i64 0)), .d (.v (.int .i64 0)), .d (.v (.pointer none))],true⟩),
 (95,⟨.pt,1,some [.d (.v (.pointer none))],false⟩),
 (101,⟨.sl 46 6 112,1,some [.nl],false⟩),
 (103,⟨.sl 101 1 24,1,some [.nl],false⟩),
 (104,⟨.sl 111 6 96,1,some [.nl],false⟩),
 (106,⟨.st [(0,103,1),(1,3,1),(2,104,1)],3,some [.nl, .d (.v (.int .i64 0)), .nl],true⟩),
 (111,⟨.st [(0,42,2),(2,42,2),(4,42,2)],6,some [.ff, .nl, .ff, .nl, .ff, .nl],true⟩),
 (113,⟨.st [(0,4,1),(1,4,1),(2,111,6),(8,29,1),(9,29,1)],10,some [.ff, .ff, .ff, .nl, .ff, .nl, .ff, .nl, .d (.v (.pointer none)), .d (.v (.pointer none))],true⟩),
 (115,⟨.st [(0,34,2),(2,34,2),(4,34,2)],6,some [.ff, .nl, .ff, .nl, .ff, .nl],true⟩),
 (118,⟨.st [(0,115,6),(6,3,1),(7,3,1)],8,some [.ff, .nl, .ff, .nl, .ff, .nl, .d (.v (.int .i64 0)), .d (.v (.int .i64 0))],true⟩),
 (136,⟨.sl 210 17 128,1,some [.nl],false⟩),
 (137,⟨.sl 210 17 128,1,some [.nl],false⟩),
 (157,⟨.o,12,some [.d (.v (.int .i64 0)), .d (.v (.int .i64 0)), .d (.v (.pointer none)), .d (.v (.int .i64 0)), .d (.v (.int .i64 0)), .d (.v (.pointer none)), .d (.v (.int .i64 0)), .d (.v (.int .i64 0)), .d (.v (.pointer none)), .d (.v (.int .i64 0)), .d (.v (.int .i64 0)), .d (.v (.pointer none))],true⟩),
 (163,⟨.pt,1,some [.d (.v (.pointer none))],false⟩),
 (164,⟨.sl 4 1 1,1,some [.nl],false⟩),
 (166,⟨.st [(0,25,1),(1,164,1),(2,3,1),(3,4,1)],4,some [.nl, .nl, .d (.v (.int .i64 0)), .ff],true⟩),
 (173,⟨.sl 180 14 216,1,some [.nl],false⟩),
 (178,⟨.st [(0,44,3),(3,44,3),(6,4,1),(7,4,1)],8,some [.ff, .nl, .nl, .ff, .nl, .nl, .ff, .ff],true⟩),
 (180,⟨.st [(0,111,6),(6,178,8)],14,some [.ff, .nl, .ff, .nl, .ff, .nl, .ff, .nl, .nl, .ff, .nl, .nl, .ff, .ff],true⟩),
 (182,⟨.int .u32,1,some [.d (.v (.int .u32 0))],false⟩),
 (197,⟨.int .u64,1,some [.d (.v (.int .u64 0))],false⟩),
 (199,⟨.st [(0,83,3),(3,83,3),(6,83,3)],9,some [.d (.v (.int .i64 0)), .d (.v (.int .i64 0)), .d (.v (.pointer none)), .d (.v (.int .i64 0)), .d (.v (.int .i64 0)), .d (.v (.pointer none)), .d (.v (.int .i64 0)), .d (.v (.int .i64 0)), .d (.v (.pointer none))],true⟩),
 (201,⟨.st [(0,199,9),(9,95,1),(10,95,1),(11,4,1)],12,some [.d (.v (.int .i64 0)), .d (.v (.int .i64 0)), .d (.v (.pointer none)), .d (.v (.int .i64 0)), .d (.v (.int .i64 0)), .d (.v (.pointer none)), .d (.v (.int .i64 0)), .d (.v (.int .i64 0)), .d (.v (.pointer none)), .d (.v (.pointer none)), .d (.v (.pointer none)), .ff],true⟩),
 (203,⟨.sl 206 2 32,1,some [.nl],false⟩),
 (206,⟨.st [(0,137,1),(1,95,1)],2,some [.nl, .d (.v (.pointer none))],true⟩),
 (208,⟨.st [(0,83,3),(3,83,3),(6,4,1),(7,4,1)],8,some [.d (.v (.int .i64 0)), .d (.v (.int .i64 0)), .d (.v (.pointer none)), .d (.v (.int .i64 0)), .d (.v (.int .i64 0)), .d (.v (.pointer none)), .ff, .ff],true⟩),
 (210,⟨.st [(0,199,9),(9,208,8)],17,some [.d (.v (.int .i64 0)), .d (.v (.int .i64 0)), .d (.v (.pointer none)), .d (.v (.int .i64 0)), .d (.v (.int .i64 0)), .d (.v (.pointer none)), .d (.v (.int .i64 0)), .d (.v (.int .i64 0)), .d (.v (.pointer none)), .d (.v (.int .i64 0)), .d (.v (.int .i64 0)), .d (.v (.pointer none)), .d (.v (.int .i64 0)), .d (.v (.int .i64 0)), .d (.v (.pointer none)), .ff, .ff],true⟩),
 (214,⟨.pt,1,some [.d (.v (.pointer none))],false⟩),
 (216,⟨.st [(0,50,1),(1,3,1),(2,3,1),(3,9,1)],4,some [.d (.v (.nilIface)), .d (.v (.int .i64 0)), .d (.v (.int .i64 0)), .d (.v (.string ⟨#[]⟩))],true⟩),
 (231,⟨.st [(0,34,2),(2,32,1)],3,some [.ff, .nl, .nl],true⟩),
 (241,⟨.int .u64,1,some [.d (.v (.int .u64 0))],false⟩),
 (300,⟨.o,2,some [.nl, .nl],true⟩),
 (301,⟨.sl 178 8 120,1,some [.nl],false⟩),
 (324,⟨.int .i64,1,some [.d (.v (.int .i64 0))],false⟩),
 (335,⟨.sl 44 3 56,1,some [.nl],false⟩),
 (355,⟨.int .u64,1,some [.d (.v (.int .u64 0))],false⟩),
 (359,⟨.pt,1,some [.d (.v (.pointer none))],false⟩),
 (376,⟨.o,32,some [.d (.v (.int .u8 0)), .d (.v (.int .u8 0)), .d (.v (.int .u8 0)), .d (.v (.int .u8 0)), .d (.v (.int .u8 0)), .d (.v (.int .u8 0)), .d (.v (.int .u8 0)), .d (.v (.int .u8 0)), .d (.v (.int .u8 0)), .d (.v (.int .u8 0)), .d (.v (.int .u8 0)), .d (.v (.int .u8 0)), .d (.v (.int .u8 0)), .d (.v (.int .u8 0)), .d (.v (.int .u8 0)), .d (.v (.int .u8 0)), .d (.v (.int .u8 0)), .d (.v (.int .u8 0)), .d (.v (.int .u8 0)), .d (.v (.int .u8 0)), .d (.v (.int .u8 0)), .d (.v (.int .u8 0)), .d (.v (.int .u8 0)), .d (.v (.int .u8 0)), .d (.v (.int .u8 0)), .d (.v (.int .u8 0)), .d (.v (.int .u8 0)), .d (.v (.int .u8 0)), .d (.v (.int .u8 0)), .d (.v (.int .u8 0)), .d (.v (.int .u8 0)), .d (.v (.int .u8 0))],true⟩),
 (377,⟨.o,64,some [.d (.v (.int .u8 0)), .d (.v (.int .u8 0)), .d (.v (.int .u8 0)), .d (.v (.int .u8 0)), .d (.v (.int .u8 0)), .d (.v (.int .u8 0)), .d (.v (.int .u8 0)), .d (.v (.int .u8 0)), .d (.v (.int .u8 0)), .d (.v (.int .u8 0)), .d (.v (.int .u8 0)), .d (.v (.int .u8 0)), .d (.v (.int .u8 0)), .d (.v (.int .u8 0)), .d (.v (.int .u8 0)), .d (.v (.int .u8 0)), .d (.v (.int .u8 0)), .d (.v (.int .u8 0)), .d (.v (.int .u8 0)), .d (.v (.int .u8 0)), .d (.v (.int .u8 0)), .d (.v (.int .u8 0)), .d (.v (.int .u8 0)), .d (.v (.int .u8 0)), .d (.v (.int .u8 0)), .d (.v (.int .u8 0)), .d (.v (.int .u8 0)), .d (.v (.int .u8 0)), .d (.v (.int .u8 0)), .d (.v (.int .u8 0)), .d (.v (.int .u8 0)), .d (.v (.int .u8 0)), .d (.v (.int .u8 0)), .d (.v (.int .u8 0)), .d (.v (.int .u8 0)), .d (.v (.int .u8 0)), .d (.v (.int .u8 0)), .d (.v (.int .u8 0)), .d (.v (.int .u8 0)), .d (.v (.int .u8 0)), .d (.v (.int .u8 0)), .d (.v (.int .u8 0)), .d (.v (.int .u8 0)), .d (.v (.int .u8 0)), .d (.v (.int .u8 0)), .d (.v (.int .u8 0)), .d (.v (.int .u8 0)), .d (.v (.int .u8 0)), .d (.v (.int .u8 0)), .d (.v (.int .u8 0)), .d (.v (.int .u8 0)), .d (.v (.int .u8 0)), .d (.v (.int .u8 0)), .d (.v (.int .u8 0)), .d (.v (.int .u8 0)), .d (.v (.int .u8 0)), .d (.v (.int .u8 0)), .d (.v (.int .u8 0)), .d (.v (.int .u8 0)), .d (.v (.int .u8 0)), .d (.v (.int .u8 0)), .d (.v (.int .u8 0)), .d (.v (.int .u8 0)), .d (.v (.int .u8 0))],true⟩),
 (378,⟨.pt,1,some [.d (.v (.pointer none))],false⟩),
 (396,⟨.st [(0,9,1)],1,some [.d (.v (.string ⟨#[]⟩))],true⟩)]
def eh:ny Go.Proofs.Tryz.prog tt:=ny.of (by kernel_rfl)
end Go.Sx
end
section
namespace Go.Sx
open Go Go.Proofs Tryz
def tg:Nat->List DV->aB
 |_,[]=>[]
 |i,v::t=>(i, .d v)::tg (i+1) t
class Fu where n:Nat
instance fu0:Fu:=⟨400⟩
section
variable {GB:Gh} {C:aD} {n:Nat} {Q0:Exit->Act->World->Prop} {fr fr':aB} {own own':aF} {cf cf':Cf} {vc vc':List Prop} {ops:Array Oper} {r:List Oper} {o:Oper} {K:List Kt}
def gj{q:Nat}(h:go tt n q [] fr own cf=⟨vc,fr',own',cf'⟩)(hv:ah vc)(k:ao prog GB C n Q0 fr' own' cf'):ao prog GB C n Q0 fr own cf:=by
 have:=(je (GB:=GB) (C:=C) (Q0:=Q0) eh follows q [] fr own cf (by rw[h];exact hv)).2;rw[h] at this;exact this k
def gx[fu:Fu](h:go tt n fu.n [] fr own cf=⟨vc,fr',own',cf'⟩)(k:ao prog GB C n Q0 fr' own' cf')(hv:ah vc:=by first|exact trivial|(simp only[ah];kernel_rfl)|(simp only[ah];omega)|(simp only[ah,aJ,bZ,aR];omega)):ao prog GB C n Q0 fr own cf:=gj h hv k
def LT: ∀{ds:List DV} {vs:List Value} {ρ:NE} {G:Gh} (i:Nat),IsLs G ds vs-> ∀k f,aO (tg i ds) k=some f-> ∃y,(∃j,k=i+j/\vs[j]? =some y)/\bF ρ G f y
 |[],vs,ρ,G,i,h,k,f,e=>by cases e
 |d::t,vs,ρ,G,i,h,k,f,e=>by
  obtain⟨y,m,rfl,h1,h2⟩:=bu.1 h;simp only[tg] at e;rw[kj] at e;split at e
  .cases e;rename_i hk;exact⟨y,⟨0,hk,rfl⟩,h1⟩
  .obtain⟨u,⟨j,hj,hu⟩,h3⟩:=LT (i+1) h2 k f e
   exact⟨u,⟨j+1,by omega,by simpa using hu⟩,h3⟩
def AJ{ds:List DV}{vs:List Value}{ρ:NE}{G:Gh}{a:Act}(h:IsLs G ds vs)(hf:mj (pe 0 vs) a)(k:Nat)(f:FX)(e:aO (tg 0 ds) k=some f): ∃y,a.tmps[k]? =some y/\bF ρ G f y:=by
 obtain⟨y,⟨j,hj,hy⟩,h1⟩:=LT (ρ:=ρ) 0 h k f e;refine⟨y,hf k y ?_,h1⟩;rw[hj];exact wY vs 0 j y hy
def fn[fu:Fu]{f:FuncId}{fb:Func}{c:Code}{m:Nat}{ds:List DV}{rv:DV}(hf:prog.funcs[f]? =some fb)(hb:fb.body=some c)(hn:(fb.name== "runtime.NumGoroutine")=false)(hm:fb.ntmps=m)(hlen:Nat.ble ds.length m=true)
  (hgo:go tt m fu.n [] (tg 0 ds) [] (.code c [])=⟨vc,fr,own,cf⟩)(k: ∀C:aD,ao prog GB C m (gn C prog fb (mn C (fun v G'=>Is G' rv v))) fr own cf)
  (hv:ah vc:=by first|exact trivial|(simp only[ah];kernel_rfl)|(simp only[ah];omega)|(simp only[ah,aJ,bZ,aR];omega)):PF GB prog f ds rv:=by
 intro G vs hg hvs;refine Fn.introR hf hb hn hm (by rw[hvs.len];exact hlen) fun C _ _ hrd hfx=>?_;intro a w rl;refine xu hrd ?_;have h:=gj (GB:=GB) (C:=C) (Q0:=gn C prog fb (mn C (fun v G'=>Is G' rv v))) hgo hv (k C);exact h.run (fun _=>⟨none,0,0⟩) G [] a w ⟨hg,rl.h,rl.sz,rl.df,(fun k f e=>AJ hvs rl.fr k f e),(fun nm B e=>by cases e),(fun nm nm' B B' e=>by cases e),fun nm p _ _ e=>by rw[hfx] at e;cases e⟩
def ao.cond{c:Operand}{x y:Code}{b:Bool}{f:FX}(hc:aH (aO fr) c=some f)(hb:uk f=some b)(h1:b=true->ao prog GB C n Q0 fr own (.code x K))(h2:b=false->ao prog GB C n Q0 fr own (.code y K)):ao prog GB C n Q0 fr own (.code (.cond c x y) K):=SX.cond hc hb h1 h2
variable {fr1 fr2:aB} {own1 own2:aF} {cf1 cf2:Cf} {vc1 vc2:List Prop}
def br[fu1:Fu][fu2:Fu]{p:Prop}{hp:Decidable p}{c:Operand}{x y:Code}(hc:aH (aO fr) c=some (.pr p hp))(g1:go tt n fu1.n [] fr own (.code x K)=⟨vc1,fr1,own1,cf1⟩)(g2:go tt n fu2.n [] fr own (.code y K)=⟨vc2,fr2,own2,cf2⟩)
  (k1:p->ao prog GB C n Q0 fr1 own1 cf1)(k2: ¬p->ao prog GB C n Q0 fr2 own2 cf2)
  (v1:p->ah vc1:=by intro;first|exact trivial|(simp only[ah];omega)|(simp only[ah,aJ,bZ,aR];omega))(v2: ¬p->ah vc2:=by intro;first|exact trivial|(simp only[ah];omega)|(simp only[ah,aJ,bZ,aR];omega)):ao prog GB C n Q0 fr own (.code (.cond c x y) K):=
 .cond hc J (fun h=>gj g1 (v1 (of_decide_eq_true h)) (k1 (of_decide_eq_true h))) (fun h=>gj g2 (v2 (of_decide_eq_false h)) (k2 (of_decide_eq_false h)))
def bd[fu1:Fu][fu2:Fu]{p:Prop}{hp:Decidable p}{c:Operand}{x y:Code}(hc:aH (aO fr) c=some (.d (.v (.bool (@decide p hp)))))(g1:go tt n fu1.n [] fr own (.code x K)=⟨vc1,fr1,own1,cf1⟩)(g2:go tt n fu2.n [] fr own (.code y K)=⟨vc2,fr2,own2,cf2⟩)
  (k1:p->ao prog GB C n Q0 fr1 own1 cf1)(k2: ¬p->ao prog GB C n Q0 fr2 own2 cf2)
  (v1:p->ah vc1:=by intro;first|exact trivial|(simp only[ah];omega)|(simp only[ah,aJ,bZ,aR];omega))(v2: ¬p->ah vc2:=by intro;first|exact trivial|(simp only[ah];omega)|(simp only[ah,aJ,bZ,aR];omega)):ao prog GB C n Q0 fr own (.code (.cond c x y) K):=
 .cond hc J (fun h=>gj g1 (v1 (of_decide_eq_true h)) (k1 (of_decide_eq_true h))) (fun h=>gj g2 (v2 (of_decide_eq_false h)) (k2 (of_decide_eq_false h)))
def bb[fu1:Fu][fu2:Fu]{b:Bool}{c:Operand}{x y:Code}(hc:aH (aO fr) c=some (.d (.v (.bool b))))(g1:go tt n fu1.n [] fr own (.code x K)=⟨vc1,fr1,own1,cf1⟩)(g2:go tt n fu2.n [] fr own (.code y K)=⟨vc2,fr2,own2,cf2⟩)
  (k1:b=true->ao prog GB C n Q0 fr1 own1 cf1)(k2:b=false->ao prog GB C n Q0 fr2 own2 cf2)
  (v1:b=true->ah vc1:=by intro;first|exact trivial|(simp only[ah];omega)|(simp only[ah,aJ,bZ,aR];omega))(v2:b=false->ah vc2:=by intro;first|exact trivial|(simp only[ah];omega)|(simp only[ah,aJ,bZ,aR];omega)):ao prog GB C n Q0 fr own (.code (.cond c x y) K):=
 .cond hc J (fun h=>gj g1 (v1 h) (k1 h)) (fun h=>gj g2 (v2 h) (k2 h))
def qb{d:Nat}{f g:FX}(hl:aO fr d=some f)(hi: ∀ρ G y,bF ρ G f y->bF ρ G g y){Φ:Act->World->Prop}(h:SX GB C n (aO ((d,g)::fr)) (ba own) Φ):SX GB C n (aO fr) (ba own) Φ:=by
 refine⟨fun ρ G ov a w r=>h.run ρ G ov a w ⟨r.gb,r.h,r.sz,r.df,fun k f' e=>?_,r.bx,r.dj,r.fxd⟩⟩;rw[kj] at e;split at e
 .cases e;rename_i hk;subst hk
  obtain⟨y,h1,h2⟩:=r.fx _ _ hl;exact⟨y,h1,hi _ _ _ h2⟩
 .exact r.fx k f' e
def ak(d:Nat){f:FX}(g:FX)(hl:aO fr d=some f)(e:f=g)(h:ao prog GB C n Q0 ((d,g)::fr) own cf):ao prog GB C n Q0 fr own cf:=by
 have hs:aO ((d,g)::fr)=aO fr:=by
  funext k;rw[kj];split
  .rename_i hk;rw[hk,hl,e]
  .rfl
 cases cf with
 |dr id ops fr0 own0 us r K=>exact fun D=>h ⟨D.pre,by rw[hs];exact D.st,D.snd⟩
 |_=>unfold ao at h⊢;rw[hs] at h;exact h
def kT(d:Nat){p:Prop}{hp:Decidable p}(hl:aO fr d=some (.pr p hp))(h:p)(k:ao prog GB C n Q0 ((d, .tt)::fr) own (.ops ops r K)):ao prog GB C n Q0 fr own (.ops ops r K):=
 qb hl (fun _ _ _ e=>by rw[show _=_ from e,decide_eq_true h];exact J) k
def kF(d:Nat){p:Prop}{hp:Decidable p}(hl:aO fr d=some (.pr p hp))(h: ¬p)(k:ao prog GB C n Q0 ((d, .ff)::fr) own (.ops ops r K)):ao prog GB C n Q0 fr own (.ops ops r K):=
 qb hl (fun _ _ _ e=>by rw[show _=_ from e,decide_eq_false h];exact J) k
def XN(d:Nat)(hl:aO fr d=some .nl){e:Exit}(h:ao prog GB C n Q0 ((d, .d (.sl []))::fr) own (.ex e K)):ao prog GB C n Q0 fr own (.ex e K):=
 qb (g:= .d (.sl [])) hl (fun ρ G y hy=>(show Is G (.sl []) y from mI (ρ:=ρ) (f:= .nl) hy J)) h
def PF.to{f:FuncId}{ds:List DV}{r1 r2:DV}{P:Program}(h:PF GB P f ds r1)(e:r1=r2):PF GB P f ds r2:=e▸h
def cs[fu1:Fu][fu2:Fu](d:Nat){p:Prop}{hp:Decidable p}(hl:aO fr d=some (.pr p hp))(g1:go tt n fu1.n [] ((d, .tt)::fr) own (.ops ops r K)=⟨vc1,fr1,own1,cf1⟩)(g2:go tt n fu2.n [] ((d, .ff)::fr) own (.ops ops r K)=⟨vc2,fr2,own2,cf2⟩)
  (k1:p->ao prog GB C n Q0 fr1 own1 cf1)(k2: ¬p->ao prog GB C n Q0 fr2 own2 cf2)
  (v1:p->ah vc1:=by intro;first|exact trivial|(simp only[ah];omega)|(simp only[ah,aJ,bZ,aR];omega))(v2: ¬p->ah vc2:=by intro;first|exact trivial|(simp only[ah];omega)|(simp only[ah,aJ,bZ,aR];omega)):ao prog GB C n Q0 fr own (.ops ops r K):=by
 by_cases h:p
 .exact qb hl (fun _ _ _ e=>by rw[show _=_ from e,decide_eq_true h];exact J) (gj g1 (v1 h) (k1 h))
 .exact qb hl (fun _ _ _ e=>by rw[show _=_ from e,decide_eq_false h];exact J) (gj g2 (v2 h) (k2 h))
def ji[fu1:Fu][fu2:Fu](d:Nat){b:Bool}(hl:aO fr d=some (.d (.v (.bool b))))(g1:go tt n fu1.n [] ((d, .tt)::fr) own (.ops ops r K)=⟨vc1,fr1,own1,cf1⟩)(g2:go tt n fu2.n [] ((d, .ff)::fr) own (.ops ops r K)=⟨vc2,fr2,own2,cf2⟩)
  (k1:b=true->ao prog GB C n Q0 fr1 own1 cf1)(k2:b=false->ao prog GB C n Q0 fr2 own2 cf2)
  (v1:b=true->ah vc1:=by intro;first|exact trivial|(simp only[ah];omega)|(simp only[ah,aJ,bZ,aR];omega))(v2:b=false->ah vc2:=by intro;first|exact trivial|(simp only[ah];omega)|(simp only[ah,aJ,bZ,aR];omega)):ao prog GB C n Q0 fr own (.ops ops r K):=by
 cases h:b with
 |true=>exact qb hl (fun _ G _ e=>by rw[(bc (G:=G)).1 e,h];exact J) (gj g1 (v1 h) (k1 h))
 |false=>exact qb hl (fun _ G _ e=>by rw[(bc (G:=G)).1 e,h];exact J) (gj g2 (v2 h) (k2 h))
def Fx:Cf->Option (Array Oper×Oper)
 | .ops ops (o::_) _=>some (ops,o)
 | .dr _ ops _ _ _ (o::_) _=>some (ops,o)
 |_=>none
def bz(fr:aB):Cf->LK
 | .dr _ ops _ _ _ (o::_) _=>mf (BA ops o) (aO fr)
 |_=>aO fr
def ir(fr:aB)(own:aF):Cf->BM
 | .dr _ ops _ _ _ (o::_) _=>mf (B8 o fr (BA ops o)) (ba own)
 |_=>ba own
def bad:yq:=⟨[False],[],[], .ex .normal []⟩
def dh(T:TT)(n q:Nat)(fr:aB)(own:aF)(cf:Cf)(f:FX)(bl:List (Nat×Option Bk))(nw:List Nat):yq:=match cf with
 | .ops ops (o::r) K=>bif vz nw o.dst fr own&&b9 n o.dst then sH own bl fun own'=>yr fr o.dst f fun fr'=>go T n q [] fr' own' (.ops ops r K) else bad
 | .dr id ops fr0 own0 us (o::r) K=>bif b9 n o.dst then lD (BA ops o) fun rs=>lD (B8 o fr rs) fun rn=>sH own bl fun own'=>lD (us++[⟨rs,o.dst,f,rn,bl,nw⟩]) fun us'=>yr fr o.dst f fun fr'=>go T n q [] fr' own' (.dr id ops fr0 own0 us' r K) else bad
 |_=>bad
def vW(ops:Array Oper)(lk:LK):Option (Nat×Bool)->Bool
 |none=>true
 |some (j,b)=>match ops[j]? with
  |some oj=>match oj.dst with
   |some d=>match lk d with
    |some .tt=>b
    |some .ff=>!b
    |_=>false
   |none=>false
  |none=>false
def B9{lk:LK}{bk:BM}{o:Oper}(h:vW ops lk o.guard=true): ∀ρ G ov a w,bA GB C n lk bk ρ G ov a w->Region.wanted o (yielded ops a.tmps)=true:=fun ρ G ov a w r=>by
 unfold Region.wanted;unfold vW at h;split at h
 .rename_i e;rw[e]
 .rename_i j b e
  rw[e];split at h<;>try (cases h;done)
  rename_i oj hj;split at h<;>try (cases h;done)
  rename_i d hd;split at h<;>try (cases h;done)
  .rename_i hl
   obtain⟨y,h1,h2⟩:=A1 r hj hd hl
   cases h1;simp only[h2];subst h;rfl
  .rename_i hl
   obtain⟨y,h1,h2⟩:=A1 r hj hd hl
   cases h1;simp only[h2];cases b<;>first|rfl|(simp at h)
def uo{q:Nat}{f:FX}{bl:List (Nat×Option Bk)}{nw:List Nat}(hh:Fx cf=some (ops,o))(hg:vW ops (bz fr cf) o.guard=true)(h:bG prog GB C n (bz fr cf) (ir fr own cf) o f bl nw)
  (hgo:dh tt n q fr own cf f bl nw=⟨vc,fr',own',cf'⟩)(hv:ah vc)(k:ao prog GB C n Q0 fr' own' cf'):ao prog GB C n Q0 fr own cf:=by
 obtain⟨dst,op,ty,pos,af,gd⟩:=o
 cases cf with
 |ops ops' r K=>
  cases r with
  |nil=>cases hh
  |cons o' r=>
   cases hh
   unfold dh at hgo
   cases hc:(vz nw dst fr own&&b9 n dst) with
   |false=>simp only[hc,cond_false,bad] at hgo;cases hgo;exact absurd hv (fun x=>x)
   |true=>
    simp only[hc,cond_true] at hgo;simp only[xw,Bs] at hgo;simp only[bT] at hc;exact SX.op (h.toS hc.2 (B9 hg)) (Ae hc.1) (gj hgo hv k)
 |dr id ops' fr0 own0 us r K=>
  cases r with
  |nil=>cases hh
  |cons o' r=>
   cases hh
   unfold dh at hgo
   cases hc:b9 n dst with
   |false=>simp only[hc,cond_false,bad] at hgo;cases hgo;exact absurd hv (fun x=>x)
   |true=>
    simp only[hc,cond_true,tv] at hgo;simp only[xw,Bs] at hgo;intro D;exact gj hgo hv k (D.push (h.toS hc (B9 hg)))
 |_=>cases hh
def wZ(lk:LK)(fo:Operand)(args:Array Operand):Option (FuncId×List DV):=match aH lk fo with
 |some (.d (.v (.func (.func f) ⟨[]⟩ ⟨[]⟩)))=>match evDs lk args.toList with
  |some ds=>some (f,ds)
  |none=>none
 |_=>none
def Ik{lk:LK}{fo:Operand}{args:Array Operand}{f:FuncId}{ds:List DV}(h:wZ lk fo args=some (f,ds)):aH lk fo=some (.d (.v (.func (.func f) #[] #[])))/\evDs lk args.toList=some ds:=by
 unfold wZ at h;split at h<;>try (cases h;done)
 rename_i h1;split at h<;>cases h;rename_i h2;exact⟨h1,h2⟩
def aEh{lk:LK}{bk:BM}{fo:Operand}{args:Array Operand}{tys:Array TypeId}{f:FuncId}{ds:List DV}{rv:DV}{dst:Option Nat}{ty:TypeId}{pos:String}{af:Array Edge}{gd:Option (Nat×Bool)}(ha:wZ lk fo args=some (f,ds))(hF:PF GB prog f ds rv):
  bG prog GB C n lk bk ⟨dst, .call ⟨.value fo,args,tys⟩,ty,pos,af,gd⟩ (.d rv) [] []:=by
 intro hd tl tb K' s1 s2 hf hk;refine⟨fun ρ G ov a w r Q=>?_⟩;obtain⟨h1,h2⟩:=Ik ha;obtain⟨y,hy,hy'⟩:=(r.mono s1 s2).ev h1;rw[(bc (G:=G)).1 hy'] at hy;obtain⟨vs,h3,h4⟩:=(r.mono s1 s2).evDs h2;refine zC hy h3 (hF G vs r.gb h4) hd (fun v G' hG hK a' w' rl=>?_) a w Q ⟨r.h,r.sz,c8 a,r.df⟩;exact hk.run ρ G' ov a' w' ⟨r.gb.trans hG.le,rl.h,rl.sz,rl.df,(kO rl).fx (fun k g _ e=>by obtain⟨u,h5,h6⟩:=r.fx k g e;exact⟨u,h5,h6.up hG.le⟩) hK,
  fun nm B e=>by obtain⟨os,h5,h6⟩:=r.bx nm B e;exact⟨os,h5.up hG.le,h6⟩,r.dj,r.fxd⟩
def sA(T:TT)(fr:aB)(own:aF):List ResultVar->Option (List DV)
 |[]=>some []
 | .tmp t::rs=>match aO fr t with
  |some f=>match jG f with
   |some d=>match sA T fr own rs with
    |some l=>some (d::l)
    |none=>none
   |none=>none
  |none=>none
 | .cell a t::rs=>match aO fr a with
  |some (.ov nm 0)=>match dq T t with
   |some i=>match ba own nm with
    |some (.o _ cs _)=>match i.ag with
     |some (some k)=>match takeX cs 0 k with
      |some c=>match jo c with
       |some d=>match sA T fr own rs with
        |some l=>some (.ag d::l)
        |none=>none
       |none=>none
      |none=>none
     |some none=>match cs[0]? with
      |some c=>match jG c with
       |some d=>match sA T fr own rs with
        |some l=>some (d::l)
        |none=>none
       |none=>none
      |none=>none
     |none=>none
    |_=>none
   |none=>none
  |_=>none
def EF{ρ:NE}{G:Gh}{ov:List aw}{a:Act}{w:World}(h:bA GB C n (aO fr) (ba own) ρ G ov a w): ∀{rs:List ResultVar} {ds:List DV},sA tt fr own rs=some ds-> ∃vs,kA prog (cE a) ov rs vs/\IsLs G ds vs:=by
 intro rs
 induction rs with
 |nil=>intro ds e;cases e;exact⟨[], .nil, .nil⟩
 |cons x rs ih=>
  intro ds e
  cases x with
  |tmp t=>
   simp only[sA] at e;split at e<;>try (cases e;done)
   rename_i f hf;split at e<;>try (cases e;done)
   rename_i d hd;split at e<;>cases e;rename_i l hl;obtain⟨vs,h1,h2⟩:=ih hl;obtain⟨y,h3,h4⟩:=h.fx t f hf;exact⟨y::vs, .tmp (B3 h3) h1, .cons (mI h4 hd) h2⟩
  |cell t ty=>
   simp only[sA] at e;split at e<;>try (cases e;done)
   rename_i nm hf;split at e<;>try (cases e;done)
   rename_i i hi;split at e<;>try (cases e;done)
   rename_i hb;obtain⟨y,h3,h4⟩:=h.fx t _ hf;obtain⟨b,m,rfl,h5,h6,h7⟩:=h.own h4 hb;have oat:iI ov b m _ _:=⟨h7⟩;split at e<;>try (cases e;done)
   .rename_i k ha
    split at e<;>try (cases e;done)
    rename_i c hc;split at e<;>try (cases e;done)
    rename_i d hd;split at e<;>cases e;rename_i l hl;obtain⟨vs,h1,h2⟩:=ih hl;obtain⟨l',h8,h9⟩:=h6.takeX hc;exact⟨.agg ⟨l'⟩::vs, .agg (B3 h3) oat (yS (eh _ _ hi) ha) h8 h1, .cons (et.2 ⟨l',J,ry h9 hd⟩) h2⟩
   .rename_i ha
    split at e<;>try (cases e;done)
    rename_i c hc;split at e<;>try (cases e;done)
    rename_i d hd;split at e<;>cases e;rename_i l hl;obtain⟨vs,h1,h2⟩:=ih hl;obtain⟨l',h8,h9⟩:=h6.get hc;exact⟨l'::vs, .sc (B3 h3) oat (yG (eh _ _ hi) ha) h8 h1, .cons (mI h9 hd) h2⟩
def Cn:Exit->Bool
 | .ret=>true
 | .normal=>true
 |_=>false
def rz{fb:Func}{e:Exit}{ds:List DV}{rv:DV}(hr:sA tt fr own fb.results.toList=some ds)(hd:jn ds=rv)(he:Cn e=true:=by rfl):ao prog GB C n (gn C prog fb (mn C (fun v G'=>Is G' rv v))) fr own (.ex e []):=by
 refine⟨fun ρ G ov a w r=>?_⟩;obtain⟨vs,h1,h2⟩:=EF r hr;have hk:Is G rv (iv vs):=hd▸En h2
 cases e with
 |ret=>exact zD (C:=C) (n:=n) (fr:=cE a) (own:=ov) (G:=G) (K:=fun v G'=>Is G' rv v) h1 hk a w ⟨r.h,r.sz,c8 a,r.df⟩
 |normal=>exact Ta (C:=C) (n:=n) (fr:=cE a) (own:=ov) (G:=G) (K:=fun v G'=>Is G' rv v) h1 hk a w ⟨r.h,r.sz,c8 a,r.df⟩
 |_=>cases he
end
end Go.Sx
end
section
namespace Go.Sx
open Go
section
variable {P:Program} {GB:Gh} {C:aD} {n:Nat} {E:pH} {fr fr':ek} {own own':List c9} {bs bs' bs1:List d4} {ops:Array Oper} {Q:Exit->Act->World->Prop} {r:List Oper} {Φ:Act->World->Prop}
variable {dst:Option Nat} {t t' ty':TypeId} {pos:String} {af:Array Edge} {gd:Option (Nat×Bool)} {x y z:Operand} {e s by_:Nat}
class aMc (P:Program) (t:TypeId) (d:outParam DV):Prop where
 z: ∃z,iE P t z/\Is (fun _=>none) d z/\d.okc=true
abbrev SV.f (w:SV):FV:= .d (.v (.slice w.a w.n w.c))
def ajA(z:Value)(k:Nat):aE (List.replicate k z)=dw z k:=by unfold aE dw;rw[List.map_replicate]
def P5{G:Gh}{d:DV}{y:Value}(h:Is G d y): ∀k:Nat,IsLs G (List.replicate k d) (List.replicate k y)
 |0=> .nil
 |k+1=> .cons h (P5 h k)
def aKu(fr:ek):Nat->List (Nat×Operand)->Option (List DV)
 |_,[]=>some []
 |j,(i,x)::r=>match Ds fr x,aKu fr (j+1) r with
  |some d,some l=>bif Nat.beq i j then some (d::l) else none
  |_,_=>none
def PO(pre mid post vs:List Value)(h:vs.length=mid.length):cC (pre++(mid++post)) pre.length vs=pre++(vs++post):=by
 rw[pD _ _ _ (by simp;omega)];simp[h]
def Zh(z:Value)(k:Nat):dw z (k+1)=aG z++dw z k:=by simp[dw,jQ]
def Dw(s:Nat)(ds:List DV):Bool:=ds.all fun d=>d.okc&&Nat.beq d.cells.length s
def Fk{ds:List DV}(h:Dw s ds=true):cF s ds:=fun d hd=>by
 have:=dK.1 h d hd;simp only[bT] at this;exact⟨this.1,aL this.2⟩
def MX{cs:List Value}{off s:Nat}: ∀(es:List Value),(∀i (h:i<es.length),cD cs (off+i*s) s=some (aG es[i]))->off<=cs.length->cD cs off (es.length*s)=some (aE es)
 |[],_,ho=>by
  rw[mB _ _ _ (by simpa using ho)];simp[aE]
 |v::t,h,ho=>by
  have h0:=h 0 (by simp);simp only[mK,fX,pW] at h0;obtain⟨k1,k2⟩:=zh h0;have ih:=MX (off:=off+s) t (fun i hi=>by
   have:=h (i+1) (by simpa using hi);rw[iM,show off+(i*s+s)=off+s+i*s by omega] at this;simpa using this) (by omega)
  obtain⟨k3,k4⟩:=zh ih;rw[mB _ _ _ (by simp only[bJ,iM];omega)];congr 1;have e1:aE (v::t)=aG v++aE t:=by simp[aE]
  rw[e1,k2,k4,bJ,iM,kJ (t.length*s) s,List.take_add,tW]
def T1{ov:List aw}{G:Gh}{w:SV}{es:List Value}(h:fe G s w es):ou P C ov G s w.n (.slice w.a w.n w.c) (aE es):=by
 rcases h.mem with he|⟨b,off,cs,ha,hg,hc⟩
 .subst he
  rw[h.len];exact wz
 .rw[ha]
  by_cases he:es=[]
  .subst he;rw[h.len];exact wz
  .have hp:0<es.length:=nQ.2 he
   have h0:=hc 0 hp;have:=(zh h0).1;rw[h.len];exact Q7 hg (MX es hc (by omega))
def aLM(fr:ek)(bs:List d4)(s:Nat)(y:Operand)(ds:List DV):Prop:=
 (∃l,Ds fr y=some (.sl l)/\l=ds/\cF s l)\/ ∃w ty lo,HX fr y=some w.f/\(⟨w,s,ty,ds,lo⟩:d4)∈bs/\cF s ds
def UA[hT:cp P t e s by_][hN:lO P t']{w:World}{ad2:Option Addr}{cap2:Nat}:(Builtin.append_ #[t,t'] ty' #[.slice none 0 0, .slice ad2 0 cap2]).run P w= .ok (.slice none 0 0) w:=by
 obtain⟨d,hd1⟩:=hN.un;obtain⟨i,hi,his,hib⟩:=hT.info;have h0:(Builtin.firstCells i.size 0 (.slice ad2 0 cap2)).run P w= .ok #[] w:=by
  cases ad2 with
  |none=>rfl
  |some a=>unfold Builtin.firstCells loadCells;simp[loadCellsFrom,run_pure]
 simp[Builtin.append_,run_underlying hT.un,run_underlying hd1,sizeOf,typeInfo,hi,Builtin.lenOf,h0]
def Q1[hT:cp P t e s by_][hN:lO P t']{fr:Fr}{own:List aw}{G:Gh}{ad2:Option Addr}{cap2:Nat}(hx:aA fr x=some (.slice none 0 0))(hy:aA fr y=some (.slice ad2 0 cap2))(hd:b9 n dst=true)
  (h:St C n (put fr dst (.slice none 0 0)) own G Φ):Ch P C n fr own G ⟨dst, .call ⟨.builtin .append, #[x,y], #[t,t']⟩,ty',pos,af,gd⟩ Φ:=by
 intro a w Q rl;refine kz (v:= .slice none 0 0) (w':=w) ?_ (h _ _ (rl.put _ hd));simp only[execOp,resolve,gN,cV,kX,bh rl.fr hx,bh rl.fr hy];exact c7 UA
def dl.upd{G:Gh}{w:SV}{s:Nat}{ty:TypeId}{ds:List DV}{lo:Bool}{B:List aw}(h:dl G ⟨w,s,ty,ds,lo⟩ B){i:Nat}{d:DV}(hi:ds[i]? =some d):
  ∃b vs rest lo',w.a=some ⟨b,0,none⟩/\B=[⟨b,aE vs++rest,ty,lo'⟩]/\IsLs G ds vs/\(∀v∈vs,(aG v).length=s)/\i<vs.length/\
   ∀u d',Is G d' u->(aG u).length=s->dl G ⟨w,s,ty,ds.set i d',lo⟩ [⟨b,aE (vs.set i u)++rest,ty,lo'⟩]:=by
 obtain⟨vs,hB,hv,hs,hlo⟩:=h;obtain⟨v,h1,h2⟩:=hv.get hi;obtain⟨hi',_⟩:=aY.1 h1;rcases hB with⟨e,_,_⟩|⟨b,rest,lo',h3,h4,h5,h6,h7⟩
 .rw[e] at h1;simp at h1
 .refine⟨b,vs,rest,lo',by simp only[] at h3;rw[h3],h4,hv,hs,hi',fun u d' hu hul=>?_⟩
  have hall: ∀x∈vs.set i u,(aG x).length=s:=fun x hx=>by
   rcases List.mem_or_eq_of_mem_set hx with h'|rfl
   .exact hs x h'
   .exact hul
  refine⟨vs.set i u, .inr ⟨b,rest,lo',by simpa using h3,J,eO _ hall,?_,by simpa using h7⟩,hv.set i hu,hall,fun hl o ho=>?_⟩
  .rw[eO _ hall,bZ,<-h5];exact h6
  .have:=hlo hl
   rw[h4] at this;rw[aU.1 ho];have h9:=this ⟨b,aE vs++rest,ty,lo'⟩ aZ;exact h9
def W4{s:Nat}{rest:List Value}{u:Value}(vs:List Value)(i:Nat)(h:i<vs.length)(hs: ∀v∈vs,(aG v).length=s)(hu:(aG u).length=s):cC (aE vs++rest) (i*s) (aG u)=aE (vs.set i u)++rest:=by
 have hl:=eO vs hs;have hle:i*s+s<=vs.length*s:=by rw[<-iM];exact bW _ h
 rw[pD _ _ _ (by rw[hu,aW];omega),hu,fQ (by omega),jW (by omega),DK vs i hs (by omega),<-iM,Dq vs (i+1) hs h,
  List.set_eq_take_append_cons_drop,if_pos h,show vs.take i++u::vs.drop (i+1)=vs.take i++([u]++vs.drop (i+1)) from J,qh,qh,FL]
 simp
def reF(ks:List Nat)(f:FV)(fr:ek):ek:=ks.map (fun k=>(k,f))++fr
end
end Go.Sx
end
section
namespace Go.Sx
open Go Go.Proofs Tryz
section
variable {GB:Gh} {C:aD} {n:Nat} {Q0:Exit->Act->World->Prop} {fr fr':aB} {own own':aF} {cf cf':Cf} {vc vc':List Prop} {ops:Array Oper} {r:List Oper} {o:Oper} {K:List Kt}
def o7(row:Bool)(nm:Nat)(l:List DV):FX->FX
 | .rw m=>bif Nat.beq m nm then(bif row then .d (.sl l) else .no) else .rw m
 | .ov m off=>bif Nat.beq m nm then(bif row then .no else(match off with
  |0=> .d (.pt l)
  |_+1=> .no)) else .ov m off
 | .be m s i j=>bif Nat.beq m nm then .no else .be m s i j
 | .rs m s i j=>bif Nat.beq m nm then .no else .rs m s i j
 | .bx tp pre m post=>bif Nat.beq m nm then(bif row then(match tp with
  |true=> .d (.tp (pre++ .sl l::post))
  |false=> .d (.ag (pre++ .sl l::post))) else .no) else .bx tp pre m post
 |f=>f
def AW{α:Type}(f:FX)(k:FX->α):α:=match f with
 | .d x=>k (.d x)
 | .rw m=>k (.rw m)
 | .ov a b=>k (.ov a b)
 | .be a b c d=>k (.be a b c d)
 | .rs a b c d=>k (.rs a b c d)
 |f=>k f
def EO{α:Type}{f:FX}{k:FX->α}:AW f k=k f:=by cases f<;>rfl
def y6{α:Type}(row:Bool)(nm:Nat)(l:List DV):aB->(aB->α)->α
 |[],k=>k []
 |(j,f)::t,k=>y6 row nm l t fun t'=>AW (o7 row nm l f) fun f'=>k ((j,f')::t')
def EV{α:Type}(row:Bool)(nm:Nat)(l:List DV):List FX->(List FX->α)->α
 |[],k=>k []
 |f::t,k=>EV row nm l t fun t'=>AW (o7 row nm l f) fun f'=>k (f'::t')
def AF{α:Type}(row:Bool)(nm:Nat)(l:List DV):aF->(aF->α)->α
 |[],k=>k []
 |(j,B)::t,k=>AF row nm l t fun t'=>bif Nat.beq j nm then k ((j,none)::t') else match B with
  |some (.o ty cs lo)=>EV row nm l cs fun cs'=>k ((j,some (.o ty cs' lo))::t')
  |B=>k ((j,B)::t')
def vo(row:Bool)(nm:Nat)(l:List DV):Option Bk->Option Bk
 |some (.o ty cs lo)=>some (.o ty (cs.map (o7 row nm l)) lo)
 |B=>B
def OA{α:Type}{row:Bool}{nm:Nat}{l:List DV}: ∀{cs:List FX} {k:List FX->α},EV row nm l cs k=k (cs.map (o7 row nm l))
 |[],k=>rfl
 |f::t,k=>by simp only[EV,EO];rw[OA];rfl
def FA{α:Type}{row:Bool}{nm:Nat}{l:List DV}: ∀{fr:aB} {k:aB->α},y6 row nm l fr k=k (fr.map fun e=>(e.1,o7 row nm l e.2))
 |[],k=>rfl
 |(j,f)::t,k=>by simp only[y6,EO];rw[FA];rfl
def IT{α:Type}{row:Bool}{nm:Nat}{l:List DV}: ∀{own:aF} {k:aF->α},AF row nm l own k=k (own.map fun e=>(e.1,bif Nat.beq e.1 nm then none else vo row nm l e.2))
 |[],k=>rfl
 |(j,B)::t,k=>by
  simp only[AF,IT (own:=t),cV]
  cases Nat.beq j nm with
  |true=>rfl
  |false=>
   cases B with
   |none=>rfl
   |some B=>cases B<;>simp only[cond_false,OA,vo]
def Ej{g:FX->FX}: ∀{fr:aB} {k:Nat},aO (fr.map fun e=>(e.1,g e.2)) k=(aO fr k).map g
 |[],k=>rfl
 |(j,f)::t,k=>by
  simp only[cV];rw[kj,kj,Ej (fr:=t)];split<;>rfl
def S4{row:Bool}{nm:Nat}{l:List DV}: ∀{own:aF} {k:Nat},ba (own.map fun e=>(e.1,bif Nat.beq e.1 nm then none else vo row nm l e.2)) k=if k=nm then none else vo row nm l (ba own k)
 |[],k=>by simp[ba,vo]
 |(j,B)::t,k=>by
  simp only[cV];rw[jI,jI,S4 (own:=t)];by_cases h:k=j
  .subst h
   simp only[if_true];by_cases e:k=nm
   .subst e;simp
   .have:Nat.beq k nm=false:=by
     cases hb:Nat.beq k nm with
     |false=>rfl
     |true=>exact absurd (aL hb) e
    simp[this,e]
  .simp[h]
structure zt where
 fr:aB
 own:aF
def Ag(fr:aB)(own:aF)(nm:Nat):Option zt:=match ba own nm with
 |some (.b _ _ ds true)=>y6 true nm ds fr fun fr'=>AF true nm ds own fun own'=>some ⟨fr',own'⟩
 |some (.o _ cs true)=>match jo cs with
  |some l=>y6 false nm l fr fun fr'=>AF false nm l own fun own'=>some ⟨fr',own'⟩
  |none=>none
 |_=>none
def kr.of_mem{o:aw}: ∀{own:List aw},o∈own-> ∃own',kr own o own'/\ ∀x∈own,x.b≠o.b->x∈own'
 |[],h=>by cases h
 |x::t,h=>by
  rcases aT.1 h with rfl|h
  .exact⟨t, .hd ..,fun y hy hb=>(aT.1 hy).elim (fun e=>absurd (by rw[e]) hb) id⟩
  .obtain⟨own',h1,h2⟩:=kr.of_mem h
   exact⟨x::own', .tl _ _ _ _ h1,fun y hy hb=>(aT.1 hy).elim (fun e=>by rw[e];exact aZ) (fun e=>aK _ (h2 y e hb))⟩
def S3{row:Bool}{nm:Nat}{l:List DV}{ρ:NE}{G G':Gh}{f:FX}{y:Value}(hg:bp G G')(h:bF ρ G f y)(hr:row=true-> ∀y,bF ρ G (.rw nm) y->Is G' (.sl l) y)(ho:row=false-> ∀y,bF ρ G (.ov nm 0) y->Is G' (.pt l) y):bF ρ G' (o7 row nm l f) y:=by
 cases f with
 |rw m=>
  simp only[o7]
  cases hb:Nat.beq m nm with
  |false=>exact h.up hg
  |true=>
   cases aL hb
   cases row with
   |true=>exact hr J y h
   |false=>trivial
 |ov m off=>
  simp only[o7]
  cases hb:Nat.beq m nm with
  |false=>exact h.up hg
  |true=>
   cases aL hb
   cases row with
   |true=>trivial
   |false=>cases off with
    |zero=>exact ho J y h
    |succ=>trivial
 |be m s i j=>
  simp only[o7]
  cases hb:Nat.beq m nm with
  |false=>exact h.up hg
  |true=>trivial
 |rs m s i j=>
  simp only[o7]
  cases hb:Nat.beq m nm with
  |false=>exact h.up hg
  |true=>trivial
 |bx tp pre m post=>
  simp only[o7]
  cases hb:Nat.beq m nm with
  |false=>exact h.up hg
  |true=>
   cases aL hb
   cases row with
   |false=>trivial
   |true=>
    obtain⟨m1,m2,e,h1,h2⟩:=h;have hl:=(h1.up hg).app (.cons (hr J _ J) (h2.up hg))
    cases tp with
    |true=>exact i8.2 ⟨_,e,hl⟩
    |false=>exact et.2 ⟨_,e,hl⟩
 |_=>exact h.up hg
def Od{row:Bool}{nm:Nat}{l:List DV}{ρ:NE}{G G':Gh}(hg:bp G G')(hr:row=true-> ∀y,bF ρ G (.rw nm) y->Is G' (.sl l) y)(ho:row=false-> ∀y,bF ρ G (.ov nm 0) y->Is G' (.pt l) y): ∀{cs:List FX} {m:List Value},dm ρ G cs m->dm ρ G' (cs.map (o7 row nm l)) m
 |[],m,h=>h
 |f::t,m,⟨y,q,e,h1,h2⟩=>⟨y,q,e,S3 hg h1 hr ho,Od hg hr ho h2⟩
def bA.frz{ρ:NE}{G G':Gh}{ov ov':List aw}{a:Act}{w:World}{row:Bool}{nm:Nat}{l:List DV}(h:bA GB C n (aO fr) (ba own) ρ G ov a w)(hg:bp G G')(hh:bt C ov' G' w)(hv: ∀o∈ov,(ρ nm).a≠some ⟨o.b,0,none⟩->o∈ov'){B0:Bk}(hb:ba own nm=some B0)
  (hr:row=true-> ∀y,bF ρ G (.rw nm) y->Is G' (.sl l) y)(ho:row=false-> ∀y,bF ρ G (.ov nm 0) y->Is G' (.pt l) y):
  bA GB C n (aO (fr.map fun e=>(e.1,o7 row nm l e.2))) (ba (own.map fun e=>(e.1,bif Nat.beq e.1 nm then none else vo row nm l e.2))) ρ G' ov' a w:=by
 have inv: ∀m B,ba (own.map fun e=>(e.1,bif Nat.beq e.1 nm then none else vo row nm l e.2)) m=some B->m≠nm/\ ∃B1,ba own m=some B1/\vo row nm l (some B1)=some B:=fun m B e=>by
  rw[S4] at e;split at e
  .cases e
  .rename_i hm
   refine⟨hm,?_⟩
   cases hl:ba own m with
   |none=>rw[hl] at e;cases e
   |some B1=>rw[hl] at e;exact⟨B1,J,e⟩
 refine⟨h.gb.trans hg,hh,h.sz,h.df,fun k f e=>?_,fun m B e=>?_,fun m m' B B' e e'=>?_,h.fxd⟩
 .rw[Ej] at e
  cases hf:aO fr k with
  |none=>rw[hf] at e;cases e
  |some g=>
   rw[hf] at e;cases e;obtain⟨y,h1,h2⟩:=h.fx k g hf;exact⟨y,h1,S3 hg h2 hr ho⟩
 .obtain⟨hm,B1,h1,h2⟩:=inv m B e
  obtain⟨os,h3,h4⟩:=h.bx m B1 h1;refine⟨os,?_,fun o ho'=>hv o (h4 o ho') fun hc=>h.dj m nm B1 B0 h1 hb hm _ (h3.blk ho') hc⟩
  cases B1 with
  |b=>cases h2;exact h3.up hg
  |c=>cases h2;exact h3.up hg
  |o ty cs lo=>cases h2;obtain⟨b,q,h5,h6,h7⟩:=h3;exact⟨b,q,h5,h6,Od hg hr ho h7⟩
 .obtain⟨_,B1,h1,_⟩:=inv m B e
  obtain⟨_,B2,h2,_⟩:=inv m' B' e';exact h.dj m m' B1 B2 h1 h2
def bA.frzRow{lk:LK}{bk:BM}{ρ:NE}{G:Gh}{ov:List aw}{a:Act}{w:World}{nm:Nat}{ty:TypeId}{s:Nat}{ds:List DV}(r:bA GB C n lk bk ρ G ov a w)(hb:bk nm=some (.b ty s ds true)):
  ∃G' ov',bp G G'/\bt C ov' G' w/\(∀o∈ov,(ρ nm).a≠some ⟨o.b,0,none⟩->o∈ov')/\ ∀y,bF ρ G (.rw nm) y->Is G' (.sl ds) y:=by
 obtain⟨B,⟨vs,hB,hv,hs,hlo⟩,hBo⟩:=r.row (y:= .nilFunc) hb;rcases hB with⟨e1,e2,e3⟩|⟨b,rest,lo',e2,e3,h5,h6,h7⟩
 .subst e1
  have ed:ds=[]:=bS (by rw[<-hv.len];rfl);subst ed;simp only at e2;refine⟨G,ov,bp.refl _,r.h,fun o ho _=>ho,fun y hy=>?_⟩;rw[show y=_ from hy,e2];exact iG.2 ⟨0,⟨none,0,0⟩,[],J, .nil G 0, .nil⟩
 .subst e3
  have hl:=hlo J _ aZ;simp only at hl;subst hl;obtain⟨ov',o1,o2⟩:=kr.of_mem (hBo _ aZ);obtain⟨f1,f2⟩:=r.h.freeze o1;simp only at e2;refine⟨_,ov',f2,f1,fun o ho hne=>o2 o ho fun e=>hne (by rw[e2,e]),fun y hy=>?_⟩;rw[show y=_ from hy,e2];exact iG.2 ⟨s,⟨some ⟨b,0,none⟩,vs.length,_⟩,vs,J,fe.of_flat hs (if_pos J) h7,hv.up f2⟩
def bA.frzVar{lk:LK}{bk:BM}{ρ:NE}{G:Gh}{ov:List aw}{a:Act}{w:World}{nm:Nat}{ty:TypeId}{cs:List FX}{l:List DV}(r:bA GB C n lk bk ρ G ov a w)(hb:bk nm=some (.o ty cs true))(hl:jo cs=some l):
  ∃G' ov',bp G G'/\bt C ov' G' w/\(∀o∈ov,(ρ nm).a≠some ⟨o.b,0,none⟩->o∈ov')/\ ∀y,bF ρ G (.ov nm 0) y->Is G' (.pt l) y:=by
 obtain⟨os,⟨b,m,h3,rfl,h4⟩,h5⟩:=r.bx _ _ hb;obtain⟨ov',o1,o2⟩:=kr.of_mem (h5 _ aZ);obtain⟨f1,f2⟩:=r.h.freeze o1;refine⟨_,ov',f2,f1,fun o ho hne=>o2 o ho fun e=>hne (by rw[h3,e]),fun y hy=>?_⟩;obtain⟨b',h6,rfl⟩:=hy;rw[h3] at h6;cases h6;exact rm.2 ⟨b,m,J,if_pos J,(ry h4 hl).up f2⟩
def FP{nm:Nat}{Φ:Act->World->Prop}{R:zt}(h:Ag fr own nm=some R)(hk:SX GB C n (aO R.fr) (ba R.own) Φ):SX GB C n (aO fr) (ba own) Φ:=by
 refine⟨fun ρ G ov a w r=>?_⟩;unfold Ag at h;split at h<;>try (cases h;done)
 .rename_i ty s ds hb
  rw[FA,IT] at h;cases h;obtain⟨G',ov',h1,h2,h3,h4⟩:=r.frzRow hb;exact hk.run ρ G' ov' a w (r.frz (row:=true) h1 h2 h3 hb (fun _=>h4) (fun e=>by cases e))
 .rename_i ty cs hb
  split at h<;>try (cases h;done)
  rename_i l hl;rw[FA,IT] at h;cases h;obtain⟨G',ov',h1,h2,h3,h4⟩:=r.frzVar hb hl;exact hk.run ρ G' ov' a w (r.frz (row:=false) h1 h2 h3 hb (fun e=>by cases e) (fun _=>h4))
def fz[fu:Fu](nm:Nat){fr1:aB}{own1:aF}(h:Ag fr own nm=some ⟨fr1,own1⟩)(hgo:go tt n fu.n [] fr1 own1 (.ops ops r K)=⟨vc,fr',own',cf'⟩)(k:ao prog GB C n Q0 fr' own' cf')(hv:ah vc:=by first|exact trivial|(simp only[ah];kernel_rfl)|(simp only[ah];omega)|(simp only[ah,aJ,bZ,aR];omega)):ao prog GB C n Q0 fr own (.ops ops r K):=
 FP h (gj hgo hv k)
def gI(nm:Nat){fr1:aB}{own1:aF}{e:Exit}(h:Ag fr own nm=some ⟨fr1,own1⟩)(k:ao prog GB C n Q0 fr1 own1 (.ex e K)):ao prog GB C n Q0 fr own (.ex e K):=FP h k
def u'(nm:Nat){fr1:aB}{own1:aF}{c:Code}(h:Ag fr own nm=some ⟨fr1,own1⟩)(k:ao prog GB C n Q0 fr1 own1 (.code c K)):ao prog GB C n Q0 fr own (.code c K):=FP h k
def uS:aB->aB->Prop
 |[],_=>True
 |(k,v)::t,fr=>aO fr k=some v/\uS t fr
def vU:aF->aF->Prop
 |[],_=>True
 |(k,v)::t,own=>ba own k=v/\vU t own
def wc: ∀{f:aB},uS f fr->kl (aO f) (aO fr)
 |[],_,k,x,h=>by cases h
 |(j,v)::t,h,k,x,e=>by
  rw[kj] at e;split at e
  .cases e;rename_i hk;rw[hk];exact h.1
  .exact wc h.2 k x e
def vh: ∀{f:aF},vU f own->kl (ba f) (ba own)
 |[],_,k,x,h=>by cases h
 |(j,v)::t,h,k,x,e=>by
  rw[jI] at e;split at e
  .rename_i hk;rw[hk,h.1,e]
  .exact vh h.2 k x e
def p9{k:Nat}{q:IntKind}{a b:Int}(h:aO fr k=some (.d (.v (.int q a))))(e:a=b):aO fr k=some (.d (.v (.int q b))):=e▸h
def JT(GB:Gh)(C:aD)(n:Nat){X:Type}(F:X->aB)(O:X->aF)(I:X->Prop)(a:Act)(w:World):Prop:=
 ∃x ρ G ov,I x/\bA GB C n (aO (F x)) (ba (O x)) ρ G ov a w
def GD:List Oper->List Nat->List Nat
 |[],l=>l
 |o::r,l=>match o.dst with
  |some d=>d::GD r l
  |none=>GD r l
def vu:Code->List Nat->List Nat
 | .region _ ops _,l=>GD ops.toList l
 | .seq a b,l=>vu a (vu b l)
 | .cond _ a b,l=>vu a (vu b l)
 | .block _ a,l=>vu a l
 | .loop a,l=>vu a l
 | .scope a,l=>vu a l
 |_,l=>l
def Ic{α:Type}:List Nat->aB->(aB->α)->α
 |_,[],k=>k []
 |l,(j,f)::t,k=>bif vq l j then Ic l t k else Ic (j::l) t fun t'=>k ((j,f)::t')
def Ci{α:Type}:List Nat->aF->(aF->α)->α
 |_,[],k=>k []
 |l,(j,B)::t,k=>bif vq l j then Ci l t k else match B with
  |some B=>Ci l t fun t'=>k ((j,some B)::t')
  |none=>Ci l t k
structure Kp where
 fr:aB
 own:aF
def keep(c:Code)(uf uo:List Nat)(fr:aB)(own:aF):Kp:=lD (vu c uo) fun m=>lD (uf++m) fun m'=>Ic m' fr fun fr'=>Ci m own fun own'=>⟨fr',own'⟩
def lp[fu:Fu]{c:Code}{X:Type}(U:X->aB)(V:X->aF)(I:X->Prop)(μ:X->Nat)(x0:X){kf:aB}{ko:aF}{cf':X->Cf}{fr':X->aB}{own':X->aF}{vc:X->List Prop}(hkp:keep c ((U x0).map (·.1)) ((V x0).map (·.1)) fr own=⟨kf,ko⟩)(hI:I x0)
  (hgo: ∀x,go tt n fu.n [] (U x++kf) (V x++ko) (.code c (.ag (JT GB C n (fun y=>U y++kf) (fun y=>V y++ko) (fun y=>I y/\μ y<μ x))::K))=⟨vc x,fr' x,own' x,cf' x⟩)
  (round: ∀x,I x->ao prog GB C n Q0 (fr' x) (own' x) (cf' x))(hF:uS (U x0++kf) fr:=by repeat (first|exact trivial|refine And.intro J ?_|refine And.intro (p9 J (by first|omega|(dsimp only;omega))) ?_|refine And.intro (p9 J (by simp)) ?_))(hO:vU (V x0++ko) own:=by repeat (first|exact trivial|refine And.intro J ?_))
  (hv: ∀x,I x->ah (vc x):=by intros;first|exact trivial|(simp only[ah];kernel_rfl)|(simp only[ah];omega)|(simp only[ah,aJ,bZ,aR];omega)):ao prog GB C n Q0 fr own (.code (.loop c) K):=by
 refine⟨fun ρ G ov a w r=>?_⟩;have r0:=r.mono (wc hF) (vh hO);intro b k cs hro hb hrm;have key: ∀m a w,(∃x ρ G ov,I x/\μ x=m/\bA GB C n (aO (U x++kf)) (ba (V x++ko)) ρ G ov a w)->
   ∃e a' w',cQ C.rd prog Q0 K e a' w'/\ArrivesIn (Machine.fenced prog (FW C.rd)) prog (lone (b.atR a (.code c:: .inLoop c::k)) cs w) b k cs e a' w':=by
  intro m
  induction m using Nat.strongRecOn with
  |_ m ih=>
   intro a w ⟨x,ρ,G,ov,hx,hm,hr⟩;have h1:=gj (GB:=GB) (C:=C) (Q0:=Q0) (hgo x) (hv x hx) (round x hx);obtain⟨e,a₁,w₁,hq,harr⟩:=h1.run ρ G ov a w hr b (.inLoop c::k) cs hro hb hrm
   cases e with
   |normal=>
    obtain⟨x',ρ',G',ov',⟨hx',hlt⟩,hr'⟩:=hq;obtain⟨e₂,a₂,w₂,hq₂,harr₂⟩:=ih (μ x') (hm▸hlt) a₁ w₁ ⟨x',ρ',G',ov',hx',rfl,hr'⟩;exact⟨e₂,a₂,w₂,hq₂, .of_steps (StepsIn.trans harr (.one (fenced_calm hb hrm J) stepR_inLoop)) harr₂⟩
   |exit id=>exact⟨_,a₁,w₁,hq, .pass (x:= .inLoop c) J (fun _ _=> .inl (by simp)) harr⟩
   |goto l=>exact⟨_,a₁,w₁,hq, .pass (x:= .inLoop c) J (fun _ _=> .inl (by simp)) harr⟩
   |ret=>exact⟨_,a₁,w₁,hq, .pass (x:= .inLoop c) J (fun _ _=> .inl (by simp)) harr⟩
   |panic ch=>exact⟨_,a₁,w₁,hq, .pass (x:= .inLoop c) J (fun _ _=> .inl (by simp)) harr⟩
   |outgrown=>exact⟨_,a₁,w₁,hq, .pass (x:= .inLoop c) J (fun _ _=> .inl (by simp)) harr⟩
 obtain⟨e,a',w',q,rr⟩:=key (μ x0) a w ⟨x0,ρ,G,ov,hI,rfl,r0⟩;exact⟨e,a',w',q, .of_steps (.one (fenced_calm hb hrm J) stepR_loop) rr⟩
def at_{X:Type}{F:X->aB}{O:X->aF}{I:X->Prop}(x:X)(hI:I x)(hF:uS (F x) fr:=by repeat (first|exact trivial|refine And.intro J ?_|refine And.intro (p9 J (by first|omega|(dsimp only;omega))) ?_|refine And.intro (p9 J (by simp)) ?_))(hO:vU (O x) own:=by repeat (first|exact trivial|refine And.intro J ?_)):ao prog GB C n Q0 fr own (.ex .normal (.ag (JT GB C n F O I)::K)):=
 ⟨fun ρ G ov a w r=>⟨x,ρ,G,ov,hI,r.mono (wc hF) (vh hO)⟩⟩
def mg[fu:Fu]{c d:Code}{X:Type}(U:X->aB)(V:X->aF)(I:X->Prop){kf:aB}{ko:aF}{cf':X->Cf}{fr':X->aB}{own':X->aF}{vc:X->List Prop}(u0 v0:List Nat)(hkp:keep c u0 v0 fr own=⟨kf,ko⟩)
  (h1:ao prog GB C n Q0 fr own (.code c (.ag (JT GB C n (fun y=>U y++kf) (fun y=>V y++ko) I)::K)))
  (hgo: ∀x,go tt n fu.n [] (U x++kf) (V x++ko) (.code d K)=⟨vc x,fr' x,own' x,cf' x⟩)(k: ∀x,I x->ao prog GB C n Q0 (fr' x) (own' x) (cf' x))(hv: ∀x,I x->ah (vc x):=by intros;first|exact trivial|(simp only[ah];kernel_rfl)|(simp only[ah];omega)|(simp only[ah,aJ,bZ,aR];omega)):ao prog GB C n Q0 fr own (.code c (.sq d::K)):=by
 refine SX.imp h1 fun a w h=>Xv h ?_;intro e a w h
 cases e with
 |normal=>
  obtain⟨x,ρ,G,ov,hI,hr⟩:=h;have:=gj (GB:=GB) (C:=C) (Q0:=Q0) (hgo x) (hv x hI) (k x hI);exact this.run ρ G ov a w hr
 |_=>exact h
end
end Go.Sx
end
section
namespace Go.Sx
open Go
section
variable {P:Program} {ops:Array Oper} {Q:Exit->Act->World->Prop} {S:World->Prop} {π₂:List (Nat×Bool)}
abbrev aMb:Nat->Bool:=fun _=>false
def wk(S:World->Prop)(K:(World->Prop)->Act->World->Prop)(a:Act)(w:World):Prop:= ∃S':World->Prop,(∀w,S' w->S w)/\S' w/\K S' a w
def yI(P:Program)(ops:Array Oper)(Q:Exit->Act->World->Prop)(K:(World->Prop)->Act->World->Prop):List Nat->List (Nat×Bool)->(World->Prop)->Act->World->Prop
 |[],[],S,a,w=>K S a w
 |k::ks,[],S,a,w=> ∀j,(h:j∈k::ks)->wpOp P ops Q j (wk S (yI P ops Q K (bB (k::ks) j) [])) a w
 |ks,(i,true)::r,S,a,w=> ∃o v,ops[i]? =some o/\S w/\YieldsIf P ops S o v a/\yI P ops Q K ks r S (a.put o.dst v) w
 |ks,(i,false)::r,S,a,w=>wpOp P ops Q i (wk S (yI P ops Q K ks r)) a w/\
   ∀j,(h:j∈ks)->wpOp P ops Q j (wk S (yI P ops Q K (bB ks j) ((i,false)::r))) a w
termination_by ks π=>ks.length+π.length
decreasing_by
 all_goals (first|(have:=Hy h;simp only[bJ,fV] at*;omega)|(simp only[bJ];omega))
def aLI(Q:Exit->Act->World->Prop):(World->Prop)->Act->World->Prop:=fun _ a w=>Q .normal a w
end
section
variable {P:Program} {GB:Gh} {C:aD} {n:Nat} {fr fr':ek} {own own' own0 own1 own1':List c9} {bs bs0 bs1 bs1':List d4} {ops:Array Oper} {Q:Exit->Act->World->Prop} {fd:List FD} {π π₂:List (Nat×Bool)}
structure SR (GB:Gh) (C:aD) (n:Nat) (fr:ek) (own0:List c9) (bs0:List d4) (own1:List c9) (bs1:List d4) (fd:List FD) (K:List Nat->(World->Prop)->Act->World->Prop):Prop where
 run: ∀G frv o0 o1,bp GB G->Cx G fr frv->OB G own0 bs0 o0->OB G own1 bs1 o1-> ∀fs:Fs,St C n (frv++GF fd fs) (o1++(o0++JW fd fs)) G (K (Id fd fs) (HS C o0 G))
instance {GB:Gh} {C:aD} {n:Nat} {fr:ek} {own0:List c9} {bs0:List d4} {own1:List c9} {bs1:List d4} {fd:List FD} {K:List Nat->(World->Prop)->Act->World->Prop}:CoeFun (SR GB C n fr own0 bs0 own1 bs1 fd K) (fun _=> ∀G frv o0 o1,bp GB G->Cx G fr frv->OB G own0 bs0 o0->OB G own1 bs1 o1-> ∀fs:Fs,St C n (frv++GF fd fs) (o1++(o0++JW fd fs)) G (K (Id fd fs) (HS C o0 G))):=⟨SR.run⟩
abbrev dwK (P:Program) (ops:Array Oper) (Q:Exit->Act->World->Prop) (K:(World->Prop)->Act->World->Prop) (π:List (Nat×Bool)):List Nat->(World->Prop)->Act->World->Prop:=fun ks S=>yI P ops (f5 Q) K ks π S
def Xr:List FD->List Nat->ek
 |f::fd,b::bl=>(f.d, .d (.v (.pointer (some ⟨b,0,none⟩))))::Xr fd bl
 |_,_=>[]
def owB:List FD->List (List DV)->List Nat->List c9
 |f::fd,c::cl,b::bl=>⟨b,c,f.t,true⟩::owB fd cl bl
 |_,_,_=>[]
def UX:List FD->List (List DV)->Prop
 |f::fd,c::cl=>IsLs (fun _=>none) c (aG f.z)/\UX fd cl
 |[],[]=>True
 |_,_=>False
end
def aKS{α:Type}(idx:List Nat)(l:List α):List α:=idx.filterMap (l[·]?)
section
variable {P:Program} {GB:Gh} {C:aD} {n:Nat} {E:pH} {fr fr':ek} {own own':List c9} {bs bs' bs1:List d4} {ops:Array Oper} {Q:Exit->Act->World->Prop} {r:List Oper} {Φ:Act->World->Prop}
variable {dst:Option Nat} {t t' ty':TypeId} {pos:String} {af:Array Edge} {gd:Option (Nat×Bool)} {x y z:Operand} {e s by_:Nat}
def PB(GB:Gh)(P:Program)(f:FuncId)(mk:SV->List DV)(s:Nat)(ty:TypeId)(dsi:List DV)(mkr:SV->DV)(dso:List DV):Prop:=
 ∀G w vs B,bp GB G->dl G ⟨w,s,ty,dsi,false⟩ B->IsLs G (mk w) vs->nv P f vs B G (fun v own' G'=> ∃w',Is G' (mkr w') v/\dl G' ⟨w',s,ty,dso,false⟩ own')
def Xd(fr:ek):List Operand->Option (List DV)
 |[]=>some []
 |x::t=>match HX fr x,Xd fr t with
  |some (.d d),some l=>some (d::l)
  |_,_=>none
def dl.asB{G:Gh}{w:SV}{ty:TypeId}{ds:List DV}{lo:Bool}{B:List aw}(h:dl G ⟨w,s,ty,ds,lo⟩ B):dl G ⟨w,s,ty,ds,false⟩ (Sx.asB B):=by
 obtain⟨vs,h1,h2,h3,h4⟩:=h;exact⟨vs,h1.asB,h2,h3,fun h=>by cases h⟩
def dl.weak{G:Gh}{w:SV}{ty:TypeId}{ds:List DV}{lo:Bool}{B:List aw}(h:dl G ⟨w,s,ty,ds,lo⟩ B):dl G ⟨w,s,ty,ds,false⟩ B:=by
 obtain⟨vs,h1,h2,h3,h4⟩:=h;exact⟨vs,h1,h2,h3,fun h=>by cases h⟩
inductive HU (fr:ek):List ResultVar->List DV->Prop
 |nil:HU fr [] []
 |tmp {t:Nat} {v:DV} {rs:List ResultVar} {vs:List DV} (h:vM fr t=some (.d v)) (k:HU fr rs vs):HU fr (.tmp t::rs) (v::vs)
end
section
variable {P:Program} {GB:Gh} {C:aD} {n:Nat} {E:pH} {fr fr':ek} {own own':List c9} {bs bs' bs1:List d4} {ops:Array Oper} {Q:Exit->Act->World->Prop} {r:List Oper} {Φ:Act->World->Prop}
variable {dst:Option Nat} {t t' ty':TypeId} {pos:String} {af:Array Edge} {gd:Option (Nat×Bool)} {x y z:Operand} {e s by_:Nat}
def PX(GB:Gh)(P:Program)(f:FuncId)(ds:List DV)(ι:Type)(r:ι->DV):Prop:=
 ∀G vs,bp GB G->IsLs G ds vs->Fn P f vs G (fun v G'=> ∃x,Is G' (r x) v)
def PMX(GB:Gh)(P:Program)(f:FuncId)(ds:List DV)(b:Nat)(ty:TypeId)(cs:List DV)(ι:Type)(r:ι->DV)(cs':ι->List DV):Prop:=
 ∀G vs m lo,bp GB G->IsLs G ds vs->IsLs G cs m->j' P f vs [⟨b,m,ty,lo⟩] G (fun v css G'=> ∃x,Is G' (r x) v/\ ∃m',css=[m']/\IsLs G' (cs' x) m')
def PN(GB:Gh)(P:Program)(f:FuncId)(ds:List DV)(ty:TypeId)(ι:Type)(cs:ι->List DV):Prop:=
 ∀G vs,bp GB G->IsLs G ds vs->nv P f vs [] G (fun v own' G'=> ∃x b m,v= .pointer (some ⟨b,0,none⟩)/\own'=[⟨b,m,ty,true⟩]/\IsLs G' (cs x) m)
inductive ID:List c9->Nat->List DV->TypeId->Bool->List c9->List c9->Prop
 |hd (b:Nat) (cs:List DV) (ty:TypeId) (lo:Bool) (t:List c9):ID (⟨b,cs,ty,lo⟩::t) b cs ty lo [] t
 |tl (o:c9) (t:List c9) (b:Nat) (cs:List DV) (ty:TypeId) (lo:Bool) (L R:List c9) (h:ID t b cs ty lo L R):ID (o::t) b cs ty lo (o::L) R
end
section
variable {P:Program} {GB:Gh} {C:aD} {n:Nat} {fr:ek} {own:List c9} {bs:List d4}
def PMR(GB:Gh)(P:Program)(f:FuncId)(ds:List DV)(b:Nat)(ty:TypeId)(cs:List DV)(s:Nat)(ty2:TypeId)(ι:Type)(rows:ι->List DV)(cs':ι->List DV):Prop:=
 ∀G vs m lo,bp GB G->IsLs G ds vs->IsLs G cs m->nv P f vs [⟨b,m,ty,lo⟩] G (fun v own' G'=> ∃x w m' B,v= .slice w.a w.n w.c/\own'=⟨b,m',ty,false⟩::B/\IsLs G' (cs' x) m'/\dl G' ⟨w,s,ty2,rows x,true⟩ B/\ ∀o∈B,b≠o.b)
variable {dst:Option Nat} {t t' ty':TypeId} {pos:String} {af:Array Edge} {gd:Option (Nat×Bool)} {x y z:Operand}
def Zs{fr:Fr}{own:List aw}{G:Gh}{fn:Func}{K:Value->List aw->Gh->Prop}{vs:List Value}(hr:kA P fr own fn.results.toList vs)(own2 own3:List aw)(hp:own.Perm own2)(hs:own3.Sublist own2)(hk:own3.Pairwise (fun x y=>x.b≠y.b)->K (iv vs) own3 G):St C n fr own G (gn C P fn (tF C K) .ret):=
 fun a w rl hmk=>⟨rl.df.trans hmk,_,uQ hr rl.fr rl.h,_,own3,G,J,(rl.h.perm hp).drop hs,hk ((rl.h.perm hp).drop hs).nd⟩
variable {e s by_:Nat}
def awj{G:Gh}{l:List DV}{w:SV}{es:List Value}{s' nhi mx':Nat}(hsl:fe G s' w es)(hl:IsLs G l es)(ho:cF s l)(h2:nhi<=l.length)(hm1:nhi<=mx')(hm2:mx'<=w.c):Is G (.sl (l.take nhi)) (.slice w.a nhi mx'):=by
 have hn:=hsl.len;have hcap:=hsl.cap;have hll:=hl.len;have e9: ∀s,m8 w.a w.n w.c 0 nhi mx' s= .slice w.a nhi mx':=by
  intro s;unfold m8
  cases w.a with
  |none=>simp
  |some ad=>simp[Addr.add]
 rcases A7 hsl hl ho with he|he
 .subst he
  have:l=[]:=bS (by rw[<-hll];rfl);subst this;have e1:nhi=0:=by simp at h2;exact h2
  subst e1;refine iG.2 ⟨s,⟨_,0,mx'⟩,[],J,⟨J,aN _, .inl J⟩,by simpa using IsLs.nil⟩
 .subst he
  have k:=hsl.sub 0 nhi mx' (aN _) (by omega) hm1 hm2;have k2:=iG.2 ⟨s',⟨_,_,_⟩,_,J,k,(hl.take nhi).drop 0⟩;rw[iZ] at k2;have e:=e9 s';unfold m8 at e;revert k2;simp only[] at*;intro k2
  first|exact e▸k2|(simp at e k2⊢;first|exact k2|(cases hw:w.a<;>simp_all [Addr.add]))
end
end Go.Sx
end
section
namespace Go.Sx
open Go Go.Proofs
section
variable {P:Program} {T:TT} {GB:Gh} {C:aD} {n:Nat} {lk:LK} {bk:BM} {ρ:NE} {G:Gh} {ov:List aw} {a:Act} {w:World}
variable {dst:Option Nat} {t t' ty':TypeId} {pos:String} {af:Array Edge} {gd:Option (Nat×Bool)} {x y:Operand} {e s by_:Nat}
def aFj[hT:cp P t e s by_]{k:IntKind}{l:List DV}{d:DV}{i:Int}(hx:evD lk x=some (.sl l))(hy:aH lk y=some (.d (.v (.int k i))))(h0:0<=i)(he:l[i.toNat]? =some d)(hd:(d.okc&&Nat.beq d.cells.length s)=true):
  bG P GB C n lk bk ⟨dst, .indexAddr t x y,ty',pos,af,gd⟩ (.ep d.cells) [] []:= .yd fun ρ G ov a w r=>by
 simp only[bT] at hd;obtain⟨hd,hs⟩:=hd;obtain⟨u,h1,h2⟩:=r.evD hx;obtain⟨q,g1,g2⟩:=r.ev hy;rw[de] at g2;subst g2;obtain⟨s',z,es,rfl,hsl,hl⟩:=iG.1 h2;obtain⟨v,h3,h4⟩:=hl.get he;obtain⟨h5,h6⟩:=aY.1 h3;have hc:=(h4.cells hd).1.len;replace hs:=aL hs;rcases hsl.mem with h|⟨b,off,cs,ha,hg,hcs⟩
 .rw[h] at h5;simp at h5
 .have h7:=hcs i.toNat h5
  rw[h6] at h7;have h8:=BK h7;have:s'=s:=by omega
  subst this;rw[ha] at h1;have hn:=hsl.len;refine⟨.pointer (some ⟨b,off+i.toNat*s',none⟩),⟨b,_,cs,aG v,J,hg,?_,(h4.cells hd).1⟩,y9 h1 g1 h0 (by omega)⟩;rw[<-hc,h8];exact h7
def A3(ag:Option Nat)(cs:List DV)(j:Nat):Option DV:=match ag with
 |some k=>match takeD cs j k with
  |some l=>some (.ag l)
  |none=>none
 |none=>cs[j]?
def Zo{i:TI}{ag:Option Nat}{nm sz k j:Nat}{ty:TypeId}{ds:List DV}{lo:Bool}{d c:DV}(hi:fg P t=some i)(ha:i.ag=some ag)(hx:aH lk x=some (.be nm sz k j))(hb:bk nm=some (.b ty sz ds lo))(he:ds[k]? =some d)(hd:d.okc=true)(hl:A3 ag d.cells j=some c):
  bG P GB C n lk bk ⟨dst, .load t x,ty',pos,af,gd⟩ (.d c) [] []:= .x1 hx fun ρ G ov a w y _ r h1 h2=>by
 obtain⟨b,hwb,rfl⟩:=h2;obtain⟨B,hB,hmem⟩:=r.row (y:= .nilFunc) hb;obtain⟨b',m,rest,lo',l0,e1,rfl,h3,h4⟩:=hB.elem he hd;simp only[] at e1 h3;rw[hwb] at e1;cases e1;have oat:iI ov b (m++rest) ty lo':=⟨hmem _ aZ⟩
 cases ag with
 |some k'=>
  have:=yS hi ha;simp only[A3] at hl;split at hl<;>cases hl;rename_i hl;obtain⟨l',h5,h6⟩:=h4.takeD hl;exact⟨.agg ⟨l'⟩,et.2 ⟨l',J,h6⟩,DS h1 (M3 h3 h5)⟩
 |none=>
  have:=yG hi ha;simp only[A3] at hl;obtain⟨l',h5,h6⟩:=h4.get hl;have hj:j<sz:=by
   have:=BK h3;have h7:=(aY.1 h5).1;omega
  exact⟨l',h6,ma h1 (by rw[M7 h3 hj];exact h5)⟩
def dl.toBk{nm:Nat}{s:Nat}{ty:TypeId}{ds:List DV}{lo:Bool}{B:List aw}{x:SV}(h:dl G ⟨x,s,ty,ds,lo⟩ B)(e:ρ nm=x):lE ρ G nm (.b ty s ds lo) B:=by
 obtain⟨vs,h1,h2,h3,h4⟩:=h;exact⟨vs,by rw[e];exact h1,h2,h3,h4⟩
def bA.newRow(r:bA GB C n lk bk ρ G ov a w){d:Nat}{z:SV}{ty:TypeId}{s:Nat}{ds:List DV}{B ov':List aw}{K:Act->World->Prop}{a':Act}{w':World}(hf:kt [d] (some d) lk bk)(hB:dl G ⟨z,s,ty,ds,true⟩ B)(hos: ∀o∈B,o∈ov')
  (hov: ∀m B',m≠d->bk m=some B'-> ∀o∈ov,(ρ m).a=some ⟨o.b,0,none⟩->o∈ov'/\z.a≠some ⟨o.b,0,none⟩)
  (hk:SX GB C n (er lk (some d) (.rw d)) (Sx.upB bk [(d,some (.b ty s ds true))]) K)(rl:gD C n (Sx.put (cE a) (some d) (.slice z.a z.n z.c)) ov' G a' w'):K a' w':=
 hk.run _ _ _ a' w' (r.new' (x:=z) (f:= .rw d) (y:= .slice z.a z.n z.c) hf (bp.refl _) rl.h (hB.toBk (by simp)) hos hov (by show _=_;simp) (kO rl))
def nE(i:TI):Option DV:=match i.z with
 |some z=>match jo z with
  |some zs=>bif i.za then(bif zs.all DV.flat then some (.ag zs) else none) else(match zs with
   |[d]=>bif d.flat then some d else none
   |_=>none)
  |none=>none
 |none=>none
def apA{d:DV}(h:d.flat=true):d.cells=[d]/\d.okc=true:=by
 cases d<;>first|exact⟨J,h⟩|cases h
theorem wg{i:TI}{d:DV}(hi:fg P e=some i)(h:nE i=some d): ∃v,iE P e v/\(∀G,Is G d v)/\d.okc=true:=by
 obtain⟨j,hj,hij⟩:=qD hi;unfold nE at h;split at h<;>try (cases h;done)
 rename_i z hz;split at h<;>try (cases h;done)
 rename_i zs hzs;obtain⟨v,h1,h2⟩:=ze hi hz;have h3: ∀G,IsLs G zs (aG v):=fun G=>ry (h2 (fun _=>⟨none,0,0⟩) G) hzs;have hzv:j.zero=some v:=by have:=h1.inf;rw[hj] at this;simpa using this
 have hza:i.za=Jd (some v):=by rw[hij,<-hzv]
 cases hb:i.za with
 |true=>
  rw[hb] at h hza
  cases hc:zs.all DV.flat with
  |false=>rw[hc] at h;cases h
  |true=>
   rw[hc] at h;cases h
   cases v<;>first|(cases hza;done)|skip
   rename_i cs;exact⟨_,h1,fun G=>et.2 ⟨cs.toList,by simp,h3 G⟩,hc⟩
 |false=>
  rw[hb,cond_false] at h;rw[hb] at hza;split at h<;>try (cases h;done)
  rename_i u
  cases hc:u.flat with
  |false=>rw[hc] at h;cases h
  |true=>
   rw[hc] at h;cases h;have hv:aG v=[v]:=by cases v<;>first|rfl|(cases hza;done)
   refine⟨v,h1,fun G=>?_,(apA hc).2⟩;have:=h3 G;rw[hv] at this;exact this.uncons.1
def aB1{d:Nat}{i:TI}{z:DV}{k k':IntKind}{l:Int}{ds:List DV}[hT:cp P t e s by_](hi:fg P e=some i)(hz:nE i=some z)(hs:Nat.beq z.cells.length s=true)(hx:aH lk x=some (.d (.v (.int k l))))(hy:aH lk y=some (.d (.v (.int k' l))))(h0:0<=l)(hb:by_*l<=140737488355328)(hl:l<=1152921504606846976)(hds:List.replicate l.toNat z=ds):
  bG P GB C n lk bk ⟨some d, .makeSlice t x y,ty',pos,af,gd⟩ (.rw d) [(d,some (.b e s ds true))] [d]:=by
 intro hd tl tb K s1 s2 hf hk;refine⟨fun ρ G ov a w r Q=>?_⟩;subst hds;obtain⟨v,hz1,hz2,hz3⟩:=wg hi hz;obtain⟨q1,p1,p2⟩:=(r.mono s1 s2).ev hx;obtain⟨q2,p3,p4⟩:=(r.mono s1 s2).ev hy;rw[de] at p2 p4;subst p2 p4;have c1:=((hz2 G).cells hz3).1.len;replace hs:=aL hs;have e1: ∀u∈List.replicate l.toNat v,(aG u).length=s:=fun u hu=>by rw[mV hu,c1,hs]
 refine um p1 p3 h0 hb hl (by rw[c1,hs]) hd (fun b a' w' rl=>?_) a w Q ⟨r.h,r.sz,c8 a,r.df⟩;have hnd:=(bR.1 rl.h.nd).1;refine r.newRow (z:=⟨some ⟨b,0,none⟩,l.toNat,l.toNat⟩) (B:=[⟨b,dw v l.toNat,e,true⟩]) hf ⟨List.replicate l.toNat v, .inr ⟨b,[],true,by simp,by rw[ajA,mM],eO _ e1,by rw[eO _ e1];simp,by simp⟩,P5 (hz2 G) _,e1,fun _ o ho=>by rw[aU.1 ho]⟩
  (fun o ho=>by rw[aU.1 ho];exact aZ) (fun m B' _ _ o ho _=>⟨aK _ ho,fun e'=>?_⟩) hk rl
 cases e';exact hnd o ho J
def xg(lk:LK):Nat->List (Nat×Operand)->Option (List DV)
 |_,[]=>some []
 |j,(i,x)::r=>match evD lk x,xg lk (j+1) r with
  |some d,some l=>bif Nat.beq i j then some (d::l) else none
  |_,_=>none
def Lt(r:bA GB C n lk bk ρ G ov a w){zv:Value}(hz:(aG zv).length=s): ∀(ps:List (Nat×Operand)) (j:Nat) (pre:List Value) (ds:List DV),xg lk j ps=some ds->pre.length=j*s->(∀d∈ds,d.okc=true/\d.cells.length=s)->
  ∃vs,vj (cE a) s (pre++dw zv ps.length) ps=some (pre++aE vs)/\IsLs G ds vs/\(∀v∈vs,(aG v).length=s)/\vs.length=ps.length
 |[],j,pre,ds,e,hp,hd=>by
  simp only[xg] at e;cases e;exact⟨[],by simp[vj,dw,aE], .nil,by simp,J⟩
 |(i,x)::ps,j,pre,ds,e,hp,hd=>by
  simp only[xg] at e;split at e
  .rename_i d l hx hl
   cases hb:Nat.beq i j with
   |false=>rw[hb] at e;cases e
   |true=>
    rw[hb] at e
    cases e
    have:=aL hb;subst this;obtain⟨y,hy,hy'⟩:=r.evD hx;obtain⟨k1,k2⟩:=hd d aZ;have c1:=(hy'.cells k1).1.len;have hov:cC (pre++dw zv (ps.length+1)) (i*s) (aG y)=(pre++aG y)++dw zv ps.length:=by
     rw[Zh,<-hp,PO _ _ _ _ (by rw[c1,k2,hz]),gX]
    obtain⟨vs,h1,h2,h3,h4⟩:=Lt r hz ps (i+1) (pre++aG y) l hl (by rw[aW,c1,k2,hp,iM]) (fun d hd'=>hd d (aK _ hd'));refine⟨y::vs,?_, .cons hy' h2,fun v hv=>?_,by simp[h4]⟩
    .simp only[vj,hy,bJ]
     rw[if_pos ⟨by rw[c1,k2],by rw[aW,pw,hz,hp,iM];omega⟩,hov,h1];simp[aE]
    .rcases aT.1 hv with rfl|hv
     .rw[c1,k2]
     .exact h3 v hv
  .cases e
def ZB{d:Nat}{i:TI}{z:DV}{len:Nat}{parts:Array (Nat×Operand)}{ds:List DV}[hT:cp P t e s by_](hi:fg P e=some i)(hz:nE i=some z)(hs:Nat.beq z.cells.length s=true)(hb:xg lk 0 parts.toList=some ds)(hok:Dw s ds=true)(hlen:Nat.beq parts.toList.length len=true)(hsm:Nat.ble (len*s) 1000=true)(hs0:Nat.blt 0 (len*s)=true):
  bG P GB C n lk bk ⟨some d, .buildSlice t len parts,ty',pos,af,gd⟩ (.rw d) [(d,some (.b e s ds true))] [d]:=by
 intro hd tl tb K s1 s2 hf hk;refine⟨fun ρ G ov a w r Q=>?_⟩;obtain⟨v,hz1,hz2,hz3⟩:=wg hi hz;have c1:=((hz2 G).cells hz3).1.len;replace hs:=aL hs;have hlen':=aL hlen;obtain⟨vs,h1,h2,h3,h4⟩:=Lt (r.mono s1 s2) (s:=s) (zv:=v) (by rw[c1,hs]) parts.toList 0 [] ds hb (by simp) (Fk hok);rw[kL,kL] at h1;refine HQ (z:=v) (out:=aE vs) (by rw[c1,hs]) (by rw[<-hlen'];exact h1) hsm hs0 hd (fun b a' w' rl=>?_) a w Q ⟨r.h,r.sz,c8 a,r.df⟩;have hnd:=(bR.1 rl.h.nd).1;have hvl:vs.length=len:=by rw[h4,hlen']
 refine r.newRow (z:=⟨some ⟨b,0,none⟩,len,len⟩) (B:=[⟨b,aE vs,e,true⟩]) hf ⟨vs, .inr ⟨b,[],true,by rw[hvl],by rw[mM],eO _ h3,by rw[eO _ h3,hvl];simp,by rw[hvl];exact aM _⟩,h2,h3,fun _ o ho=>by rw[aU.1 ho]⟩
  (fun o ho=>by rw[aU.1 ho];exact aZ) (fun m B' _ _ o ho _=>⟨aK _ ho,fun e'=>?_⟩) hk rl
 cases e';exact hnd o ho J
def aBP{d:Nat}[hT:cp P t e s by_]:bG P GB C n lk bk ⟨some d, .buildSlice t 0 #[],ty',pos,af,gd⟩ (.rw d) [(d,some (.b e s [] true))] [d]:=by
 intro hd tl tb K s1 s2 hf hk;refine⟨fun ρ G ov a w r Q=>?_⟩;refine KY hd (fun b a' w' rl=>?_) a w Q ⟨r.h,r.sz,c8 a,r.df⟩;have hnd:=(bR.1 rl.h.nd).1;refine r.newRow (z:=⟨some ⟨b,0,none⟩,0,0⟩) (B:=[⟨b,[],e,true⟩]) hf ⟨[], .inr ⟨b,[],true,J,by simp[aE],by simp[aE],by simp[aE],by simp⟩, .nil,by simp,fun _ o ho=>by rw[aU.1 ho]⟩
  (fun o ho=>by rw[aU.1 ho];exact aZ) (fun m B' _ _ o ho _=>⟨aK _ ho,fun e'=>?_⟩) hk rl
 cases e';exact hnd o ho J
def bG.frz{o:Oper}{d:Nat}{B:Bk}{f:FX}{v:DV}(hd:o.dst=some d)(h:bG P GB C n lk bk o f [(d,some B)] [d])
  (hz: ∀lk bk ρ G ov a w,bA GB C n lk bk ρ G ov a w->bk d=some B-> ∃G' ov',bp G G'/\bt C ov' G' w/\(∀o∈ov,(ρ d).a≠some ⟨o.b,0,none⟩->o∈ov')/\ ∀y,bF ρ G f y->Is G' v y):bG P GB C n lk bk o (.d v) [(d,none)] [d]:=by
 intro hd' tl tb K s1 s2 hf hk;refine h hd' tl tb K s1 s2 hf ?_;rw[hd] at hk⊢;refine⟨fun ρ G ov a w r=>?_⟩;have hbd:Sx.upB tb [(d,some B)] d=some B:=by simp[Sx.upB]
 obtain⟨G',ov',h1,h2,h3,h4⟩:=hz _ _ ρ G ov a w r hbd;refine hk.run ρ G' ov' a w ⟨r.gb.trans h1,h2,r.sz,r.df,fun k g e=>?_,fun m B' e=>?_,fun m m' B1 B2 e e'=>?_,r.fxd⟩
 .by_cases hk:k=d
  .subst hk
   simp only[er,if_true] at e;cases e;obtain⟨y,g1,g2⟩:=r.fx k f (by simp[er]);exact⟨y,g1,h4 y g2⟩
  .simp only[er,hk,if_false] at e
   obtain⟨y,g1,g2⟩:=r.fx k g (by simp[er,hk,e]);exact⟨y,g1,g2.up h1⟩
 .simp only[Sx.upB] at e
  split at e
  .cases e
  .rename_i hm
   have e':Sx.upB tb [(d,some B)] m=some B':=by simp[Sx.upB,hm,e]
   obtain⟨os,g1,g2⟩:=r.bx m B' e';exact⟨os,g1.up h1,fun o ho=>h3 o (g2 o ho) fun hc=>r.dj m d B' B e' hbd hm _ (g1.blk ho) hc⟩
 .simp only[Sx.upB] at e e'
  split at e
  .cases e
  .rename_i hm
   split at e'
   .cases e'
   .rename_i hm'
    exact r.dj m m' B1 B2 (by simp[Sx.upB,hm,e]) (by simp[Sx.upB,hm',e'])
def bG.frzRow{o:Oper}{d:Nat}{ty:TypeId}{s:Nat}{ds:List DV}(hd:o.dst=some d)(h:bG P GB C n lk bk o (.rw d) [(d,some (.b ty s ds true))] [d]):bG P GB C n lk bk o (.d (.sl ds)) [(d,none)] [d]:=
 h.frz hd fun _ _ _ _ _ _ _ r hb=>r.frzRow hb
def aCE{d:Nat}{f:FX}{l:List DV}(e:aH lk x=some f)(hc:f.okc=true)(hn:yv f d=true)(hl:jo f.cells=some l):bG P GB C n lk bk ⟨some d, .box t x,ty',pos,af,gd⟩ (.d (.pt l)) [(d,none)] [d]:=
 (KK e hc hn).frz J fun _ _ _ _ _ _ _ r hb=>r.frzVar hb hl
def qz(lk:LK)(bk:BM)(s:Nat)(y:Operand):Option (List DV):=match aH lk y with
 |some (.rw nm)=>match bk nm with
  |some (.b _ s' ds _)=>bif Nat.beq s' s then some ds else none
  |_=>none
 |some f=>match jG f with
  |some (.sl l)=>some l
  |_=>none
 |none=>none
def zc{ds:List DV}(r:bA GB C n lk bk ρ G ov a w)(h:qz lk bk s y=some ds)(hk:cF s ds):
  ∃(z:SV) (vs:List Value),aA (cE a) y=some (.slice z.a z.n z.c)/\z.n=vs.length/\IsLs G ds vs/\(∀v∈vs,(aG v).length=s)/\(∀v∈aE vs,Sx.flat v=true)/\ou P C ov G s z.n (.slice z.a z.n z.c) (aE vs):=by
 have hfl: ∀vs:List Value,IsLs G ds vs->(∀v∈vs,(aG v).length=s)/\ ∀v∈aE vs,Sx.flat v=true:=by
  intro vs hl;refine⟨fun v hv=>?_,fun v hv=>?_⟩
  .obtain⟨d,hd,h3⟩:=hl.all v hv
   obtain⟨k1,k2⟩:=hk d hd;rw[(h3.cells k1).1.len,k2]
  .simp only[aE,List.mem_flatten,bQ] at hv
   obtain⟨l,⟨u,hu,rfl⟩,hv⟩:=hv;obtain⟨d,hd,h3⟩:=hl.all u hu;exact(h3.cells (hk d hd).1).2 v hv
 unfold qz at h;split at h
 .rename_i nm hy
  split at h<;>try (cases h;done)
  rename_i ty s' ds' lo hb
  cases hs:Nat.beq s' s with
  |false=>rw[hs] at h;cases h
  |true=>
   rw[hs] at h;cases h
   cases aL hs
   obtain⟨u,h1,h2⟩:=r.ev hy
   cases h2
   obtain⟨B,⟨vs,hB,hv,hs,_⟩,hmem⟩:=r.row (y:= .nilFunc) hb;obtain⟨f1,f2⟩:=hfl _ hv;refine⟨ρ nm,vs,h1,hB.len,hv,f1,f2,?_⟩;rcases hB with⟨e1,e2,e3⟩|⟨b,rest,lo',h3,h4,h5,h6,h7⟩
   .simp only[] at e2
    subst e1;rw[e2];exact wz
   .simp only[] at h3 h4 h5 h6 h7
    have oat:iI ov b (aE vs++rest) ty lo':=⟨hmem _ (by rw[h4];exact aZ)⟩;rw[show(ρ nm).a=some ⟨b,0,none⟩ by rw[h3],show(ρ nm).n=vs.length by rw[h3]];refine AL oat ?_;rw[mB _ _ _ (by rw[aW];omega),iZ,fQ (by omega),aS (by omega)]
 .rename_i f _ hy
  split at h<;>cases h;rename_i hd;obtain⟨u,h3,h4⟩:=r.ev hy;obtain⟨s',z,es,rfl,hsl,hl⟩:=iG.1 (mI h4 hd);obtain⟨f1,f2⟩:=hfl _ hl;refine⟨z,es,h3,hsl.len,hl,f1,f2,?_⟩;rcases A7 hsl hl hk with he|he
  .subst he
   rw[hsl.len];exact wz
  .subst he;exact T1 hsl
 .cases h
def aDq{d nm:Nat}{i:TI}{z:DV}{ds ds2:List DV}[hT:cp P t e s by_][hN:lO P t'](hi:fg P e=some i)(hz:nE i=some z)(hs:Nat.beq z.cells.length s=true)(hx:aH lk x=some (.rw nm))(hb:bk nm=some (.b e s ds true))(hy:qz lk bk s y=some ds2)(hk2:cF s ds2)
  (hby:Nat.blt 0 by_=true)(hbd:(ds.length+ds2.length)*by_<=140737488355328)(hnd:Nat.beq nm d=false){ds':List DV}(hds:ds++ds2=ds'):
  bG P GB C n lk bk ⟨some d, .call ⟨.builtin .append, #[x,y], #[t,t']⟩,ty',pos,af,gd⟩ (.rw d) [(nm,none),(d,some (.b e s ds' true))] [d]:=by
 intro hd tl tb K s1 s2 hf hk;refine⟨fun ρ G ov a w r Q=>?_⟩;subst hds;have r1:=r.mono s1 s2;obtain⟨v,hz1,hz2,hz3⟩:=wg hi hz;have cz:=((hz2 G).cells hz3).1.len;replace hs:=aL hs;rw[mL] at hby
 have hne:nm≠d:=fun e=>by subst e;simp at hnd
 obtain⟨u,hx',hx2⟩:=r1.ev hx
 cases hx2
 obtain⟨B,⟨vs,hB,hv,hvs,hlo⟩,hBo⟩:=r1.row (y:= .nilFunc) hb;simp only[] at hB hv hvs;obtain⟨w2,us,hy',h2,h3,h4,h5,h6⟩:=zc (P:=P) r1 hy hk2;have hus:(aE us).length=us.length*s:=eO us h4;have hbd':(vs.length+us.length)*by_<=140737488355328:=by rw[hv.len,h3.len];exact hbd
 have hall: ∀v∈vs++us,(aG v).length=s:=fun v hv=>by
  rcases bK.1 hv with hv|hv
  .exact hvs v hv
  .exact h4 v hv
 have rd:=r.dropB nm;have hf':kt [d] (some d) tl (Sx.upB tb [(nm,none)]):=fun m hm=>by
  obtain⟨g1,g2⟩:=hf m hm;refine⟨g1,fun k B' hk e=>g2 k B' hk ?_⟩;simp only[Sx.upB] at e;split at e
  .cases e
  .exact e
 have hbk: ∀m B',(Sx.upB tb [(nm,none)]) m=some B'->m≠nm/\tb m=some B':=fun m B' e=>by
  simp only[Sx.upB] at e;split at e
  .cases e
  .exact⟨by assumption,e⟩
 have hfin: ∀(b:Nat) (cap':Nat) (rest':List Value) (ov1:List aw) a' w',vs.length+us.length<=cap'->rest'.length+(vs.length+us.length)*s=cap'*s->(∀o∈ov,(ρ nm).a≠some ⟨o.b,0,none⟩->o∈ov1)->
   gD C n (put (cE a) (some d) (.slice (some ⟨b,0,none⟩) (vs.length+us.length) cap')) (⟨b,aE (vs++us)++rest',e,true⟩::ov1) G a' w'->K a' w':=by
  intro b cap' rest' ov1 a' w' hc hr ho1 rl;have hnd':=(bR.1 rl.h.nd).1;refine rd.newRow (z:=⟨some ⟨b,0,none⟩,vs.length+us.length,cap'⟩) (B:=[⟨b,aE (vs++us)++rest',e,true⟩]) hf' ⟨vs++us, .inr ⟨b,rest',true,by simp,J,eO _ hall,?_,by simpa using hc⟩,hv.app h3,hall,fun _ o ho=>by rw[aU.1 ho]⟩
   (fun o ho=>by rw[aU.1 ho];exact aZ) (fun m B' hm e o ho hmo=>?_) hk rl
  .rw[eO _ hall,aW]
   simp only[];omega
  .obtain⟨h7,h8⟩:=hbk m B' e
   have ho2:=ho1 o ho fun hc=>r.dj m nm B' _ h8 (s2 _ _ hb) h7 _ hmo hc;exact⟨aK _ ho2,fun e'=>by cases e';exact hnd' o ho2 J⟩
 rcases hB with⟨e1,e2,e3⟩|⟨b,rest,lo',k3,k4,k5,k6,k7⟩
 .subst e1
  rw[e2] at hx';by_cases hne:us=[]
  .subst hne
   have:ds2=[]:=bS (by rw[<-h3.len];rfl);subst this;rw[h2] at hy';refine Q1 hx' hy' hd (fun a' w' rl=>?_) a w Q ⟨r.h,r.sz,c8 a,r.df⟩;refine rd.newRow (z:=⟨none,0,0⟩) (B:=[]) hf' ⟨[], .inl ⟨J,J,J⟩,by simpa using hv,by simp,fun _ o ho=>by cases ho⟩ (fun o ho=>by cases ho) (fun m B' hm e o ho hmo=>⟨ho,fun e'=>by cases e'⟩) hk rl
  .have hup:0<us.length:=nQ.2 hne
   rw[h2] at hy' h6;refine C9 (z:=v) (xs:=[]) (ys:=aE us) hx' hy' wz h6 (by show(0:Nat)<0+us.length;omega) hby (by simpa using hbd') hd (fun b cap' hc a' w' rl=>?_) a w Q ⟨r.h,r.sz,c8 a,r.df⟩;exact hfin b cap' (dw v (cap'-us.length)) ov a' w' (by simpa using hc) (by rw[pw,cz,hs,<-cM];simp at hc⊢;congr 1;omega) (fun o ho _=>ho) (by simpa using rl)
 .have hl:=hlo J
  subst k4;have hlo':lo'=true:=hl _ aZ;subst hlo';have ha:(ρ nm).a=some ⟨b,0,none⟩:=by rw[k3]
  have hn:(ρ nm).n=vs.length:=by rw[k3]
  rw[ha,hn] at hx';rw[h2] at hy' h6;obtain⟨ov1,o1,o2⟩:=kr.of_mem (hBo _ aZ);refine OV (z:=v) (xs:=aE vs) (ys:=aE us) (rest:=rest) (own1:=ov1) hx' hy' o1 k5 k6 k7 h6 hus h5 hby hbd' (by rw[cz,hs]) hd (fun b' cap' rest' hc hr a' w' rl=>?_) a w Q ⟨r.h,r.sz,c8 a,r.df⟩;rw[<-qh] at rl;exact hfin b' cap' rest' ov1 a' w' hc hr (fun o ho hne=>o2 o ho fun e'=>hne (by rw[ha,e'])) rl
end
end Go.Sx
end
