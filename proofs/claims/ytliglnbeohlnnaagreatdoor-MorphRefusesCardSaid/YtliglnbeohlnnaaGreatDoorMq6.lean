import Derived.Test.YtliglnbeohlnnaaGreatDoorMq5
set_option linter.all false
set_option maxRecDepth 100000
section
namespace Go.Sx
open Go
def tt:TT:=[
 (2,⟨.int .i64,1,some [.d (.v (.int .i64 0))],false⟩),
 (3,⟨.int .i64,1,some [.d (.v (.int .i64 0))],false⟩),
 (4,⟨.bl,1,some [.ff],false⟩),
 (5,⟨.int .u8,1,some [.d (.v (.int .u8 0))],false⟩),
 (9,⟨.sc,1,some [.d (.v (.string ⟨#[]⟩))],false⟩),
 (20,⟨.fc,1,some [.d (.v (.nilIface))],false⟩),
 (22,⟨.sl 3 1 8,1,some [.nl],false⟩),
 (23,⟨.sl 65 6 112,1,some [.nl],false⟩),
 (24,⟨.sl 65 6 112,1,some [.nl],false⟩),
 (25,⟨.sl 68 6 96,1,some [.nl],false⟩),
 (27,⟨.st [(0,25,1)],1,some [.nl],true⟩),
 (31,⟨.pt,1,some [.d (.v (.pointer none))],false⟩),
 (35,⟨.sl 83 6 112,1,some [.nl],false⟩),
 (37,⟨.sl 164 8 112,1,some [.nl],false⟩),
 (39,⟨.st [(0,3,1),(1,37,1)],2,some [.d (.v (.int .i64 0)), .nl],true⟩),
 (41,⟨.fc,1,some [.d (.v (.nilIface))],false⟩),
 (45,⟨.pt,1,some [.d (.v (.pointer none))],false⟩),
 (49,⟨.sl 99 6 96,1,some [.nl],false⟩),
 (58,⟨.sl 301 1 4,1,some [.nl],false⟩),
 (59,⟨.sl 301 1 4,1,some [.nl],false⟩),
 (61,⟨.st [(0,4,1),(1,59,1)],2,some [.ff, .nl],true⟩),
 (63,⟨.st [(0,61,2),(2,59,1)],3,some [.ff, .nl, .nl],true⟩),
 (65,⟨.st [(0,63,3),(3,63,3)],6,some [.ff, .nl, .nl, .ff, .nl, .nl],true⟩),
 (68,⟨.st [(0,61,2),(2,61,2),(4,61,2)],6,some [.ff, .nl, .ff, .nl, .ff, .nl],true⟩),
 (76,⟨.st [(0,22,1),(1,3,1)],2,some [.nl, .d (.v (.int .i64 0))],true⟩),
 (77,⟨.sl 301 1 4,1,some [.nl],false⟩),
 (79,⟨.st [(0,4,1),(1,77,1)],2,some [.ff, .nl],true⟩),
 (81,⟨.st [(0,79,2),(2,77,1)],3,some [.ff, .nl, .nl],true⟩),
 (83,⟨.st [(0,81,3),(3,81,3)],6,some [.ff, .nl, .nl, .ff, .nl, .nl],true⟩),
 (94,⟨.o,1,some [.d (.v (.nilFunc))],false⟩),
 (99,⟨.st [(0,79,2),(2,79,2),(4,79,2)],6,some [.ff, .nl, .ff, .nl, .ff, .nl],true⟩),
 (103,⟨.st [(0,4,1),(1,4,1),(2,99,6),(8,45,1),(9,45,1)],10,some [.ff, .ff, .ff, .nl, .ff, .nl, .ff, .nl, .d (.v (.pointer none)), .d (.v (.pointer none))],true⟩),
 (104,⟨.sl 172 9 72,1,some [.nl],false⟩),
 (107,⟨.sl 181 6 48,1,some [.nl],false⟩),
 (108,⟨.sl 181 6 48,1,some [.nl],false⟩),
 (111,⟨.sl 179 17 128,1,some [.nl],false⟩),
 (112,⟨.sl 179 17 128,1,some [.nl],false⟩),
 (126,⟨.sl 63 3 56,1,some [.nl],false⟩),
 (127,⟨.sl 59 1 24,1,some [.nl],false⟩),
 (129,⟨.sl 35 1 24,1,some [.nl],false⟩),
 (131,⟨.st [(0,129,1),(1,3,1),(2,49,1)],3,some [.nl, .d (.v (.int .i64 0)), .nl],true⟩),
 (133,⟨.sl 24 1 24,1,some [.nl],false⟩),
 (135,⟨.sl 4 1 1,1,some [.nl],false⟩),
 (148,⟨.sl 94 1 8,1,some [.nl],false⟩),
 (149,⟨.pt,1,some [.d (.v (.pointer none))],false⟩),
 (155,⟨.sl 149 1 8,1,some [.nl],false⟩),
 (156,⟨.sl 112 1 24,1,some [.nl],false⟩),
 (164,⟨.st [(0,68,6),(6,3,1),(7,3,1)],8,some [.ff, .nl, .ff, .nl, .ff, .nl, .d (.v (.int .i64 0)), .d (.v (.int .i64 0))],true⟩),
 (168,⟨.pt,1,some [.d (.v (.pointer none))],false⟩),
 (170,⟨.st [(0,2,1),(1,2,1),(2,168,1)],3,some [.d (.v (.int .i64 0)), .d (.v (.int .i64 0)), .d (.v (.pointer none))],true⟩),
 (172,⟨.st [(0,170,3),(3,170,3),(6,170,3)],9,some [.d (.v (.int .i64 0)), .d (.v (.int .i64 0)), .d (.v (.pointer none)), .d (.v (.int .i64 0)), .d (.v (.int .i64 0)), .d (.v (.pointer none)), .d (.v (.int .i64 0)), .d (.v (.int .i64 0)), .d (.v (.pointer none))],true⟩),
 (177,⟨.st [(0,170,3),(3,170,3),(6,4,1),(7,4,1)],8,some [.d (.v (.int .i64 0)), .d (.v (.int .i64 0)), .d (.v (.pointer none)), .d (.v (.int .i64 0)), .d (.v (.int .i64 0)), .d (.v (.pointer none)), .ff, .ff],true⟩),
 (179,⟨.st [(0,172,9),(9,177,8)],17,some [.d (.v (.int .i64 0)), .d (.v (.int .i64 0)), .d (.v (.pointer none)), .d (.v (.int .i64 0)), .d (.v (.int .i64 0)), .d (.v (.pointer none)), .d (.v (.int .i64 0)), .d (.v (.int .i64 0)), .d (.v (.pointer none)), .d (.v (.int .i64 0)), .d (.v (.int .i64 0)), .d (.v (.pointer none)), .d (.v (.int .i64 0)), .d (.v (.int .i64 0)), .d (.v (.pointer none)), .ff, .ff],true⟩),
 (181,⟨.st [(0,170,3),(3,170,3)],6,some [.d (.v (.int .i64 0)), .d (.v (.int .i64 0)), .d (.v (.pointer none)), .d (.v (.int .i64 0)), .d (.v (.int .i64 0)), .d (.v (.pointer none))],true⟩),
 (189,⟨.o,12,some [.d (.v (.int .i64 0)), .d (.v (.int .i64 0)), .d (.v (.pointer none)), .d (.v (.int .i64 0)), .d (.v (.int .i64 0)), .d (.v (.pointer none)), .d (.v (.int .i64 0)), .d (.v (.int .i64 0)), .d (.v (.pointer none)), .d (.v (.int .i64 0)), .d (.v (.int .i64 0)), .d (.v (.pointer none))],true⟩),
 (210,⟨.sl 41 1 16,1,some [.nl],false⟩),
 (215,⟨.sl 221 14 216,1,some [.nl],false⟩),
 (219,⟨.st [(0,81,3),(3,81,3),(6,4,1),(7,4,1)],8,some [.ff, .nl, .nl, .ff, .nl, .nl, .ff, .ff],true⟩),
 (221,⟨.st [(0,99,6),(6,219,8)],14,some [.ff, .nl, .ff, .nl, .ff, .nl, .ff, .nl, .nl, .ff, .nl, .nl, .ff, .ff],true⟩),
 (222,⟨.sl 81 3 56,1,some [.nl],false⟩),
 (239,⟨.int .u64,1,some [.d (.v (.int .u64 0))],false⟩),
 (240,⟨.pt,1,some [.d (.v (.pointer none))],false⟩),
 (242,⟨.st [(0,37,1),(1,135,1),(2,3,1),(3,4,1)],4,some [.nl, .nl, .d (.v (.int .i64 0)), .ff],true⟩),
 (246,⟨.st [(0,172,9),(9,149,1),(10,149,1),(11,4,1)],12,some [.d (.v (.int .i64 0)), .d (.v (.int .i64 0)), .d (.v (.pointer none)), .d (.v (.int .i64 0)), .d (.v (.int .i64 0)), .d (.v (.pointer none)), .d (.v (.int .i64 0)), .d (.v (.int .i64 0)), .d (.v (.pointer none)), .d (.v (.pointer none)), .d (.v (.pointer none)), .ff],true⟩),
 (247,⟨.sl 250 2 32,1,some [.nl],false⟩),
 (250,⟨.st [(0,112,1),(1,149,1)],2,some [.nl, .d (.v (.pointer none))],true⟩),
 (262,⟨.pt,1,some [.d (.v (.pointer none))],false⟩),
 (264,⟨.st [(0,41,1),(1,3,1),(2,3,1),(3,9,1)],4,some [.d (.v (.nilIface)), .d (.v (.int .i64 0)), .d (.v (.int .i64 0)), .d (.v (.string ⟨#[]⟩))],true⟩),
 (279,⟨.sl 170 3 24,1,some [.nl],false⟩),
 (294,⟨.st [(0,61,2),(2,59,1)],3,some [.ff, .nl, .nl],true⟩),
 (301,⟨.int .u32,1,some [.d (.v (.int .u32 0))],false⟩),
 (312,⟨.int .u64,1,some [.d (.v (.int .u64 0))],false⟩),
 (356,⟨.o,2,some [.nl, .nl],true⟩),
 (357,⟨.sl 219 8 120,1,some [.nl],false⟩),
 (393,⟨.o,32,some (List.replicate 32 (.d (.v (.int .u8 0)))),true⟩),
 (394,⟨.o,64,some (List.replicate 64 (.d (.v (.int .u8 0)))),true⟩),
 (395,⟨.pt,1,some [.d (.v (.pointer none))],false⟩),
 (420,⟨.st [(0,9,1)],1,some [.d (.v (.string ⟨#[]⟩))],true⟩)]
def fi:ni Go.Proofs.Tryz.prog tt:=ni.of omd
end Go.Sx
end
section
namespace Go.Sx
open Go Go.Proofs Tryz
variable {GB G:Gh}{fr fr' fr1 fr2:aC}{cf cf' cf1 cf2:Cf}{vc vc' vc1 vc2:List Prop}{o:Oper}{q m d:Nat}{ds:List DV}{ρ:NE}{a:Act}{f:FuncId}{fb:Func}{c fo:Operand}{rv r1 r2:DV}{p:Prop}{x y:Code}{b:Bool}{e:Exit}{lk:LK}{bk:BM}{args:Array Operand}
def pD:Nat->List DV->aC
 |_,[]=>[]
 |i,v::t=>(i, .d v)::pD (i+1) t
class Fu where n:Nat
instance fu0:Fu:=⟨400⟩
section
variable {C:aF}{n:Nat}{Q0:Exit->Act->World->Prop}{own own':aO}{ops:Array Oper}{r:List Oper}{K:List Kt}
def fB(h:go tt n q [] fr own cf=⟨vc,fr',own',cf'⟩)(hv:ak vc)(k:aA prog GB C n Q0 fr' own' cf'):aA prog GB C n Q0 fr own cf:=by
 have:=(jj (GB:=GB) (C:=C) (Q0:=Q0) fi follows q [] fr own cf (by rw[h];exact hv)).2;rw[h] at this;exact this k
def gx[fu:Fu](h:go tt n fu.n [] fr own cf=⟨vc,fr',own',cf'⟩)(k:aA prog GB C n Q0 fr' own' cf')(hv:ak vc:=by first|exact trivial|(simp only[ak];kernel_rfl)|(simp only[ak];omega)|(simp only[ak,aX,bQ,aL];omega)):aA prog GB C n Q0 fr own cf:=fB h hv k
def Tk: ∀{ds:List DV} {vs:List Value} {ρ:NE} {G:Gh} (i:Nat),IsLs G ds vs-> ∀k f,bi (pD i ds) k=some f-> ∃y,(∃j,k=i+j/\vs[j]? =some y)/\b9 ρ G f y
 |[],vs,ρ,G,i,h,k,f,e=>by cases e
 |d::t,vs,ρ,G,i,h,k,f,e=>by
  obtain⟨y,m,rfl,h1,h2⟩:=bh.1 h;simp only[pD] at e;rw[kr] at e;split at e
  .cases e;rename_i hk;exact⟨y,⟨0,hk,rfl⟩,h1⟩
  .obtain⟨u,⟨j,hj,hu⟩,h3⟩:=Tk (i+1) h2 k f e
   exact⟨u,⟨j+1,we,by simpa using hu⟩,h3⟩
def vm{vs:List Value}(h:IsLs G ds vs)(hf:l6 (nP 0 vs) a)(k:Nat)(f:FX)(e:bi (pD 0 ds) k=some f): ∃y,a.tmps[k]? =some y/\b9 ρ G f y:=by
 obtain⟨y,⟨j,hj,hy⟩,h1⟩:=Tk (ρ:=ρ) 0 h k f e;refine⟨y,hf k y ?_,h1⟩;rw[hj];exact w5 vs 0 j y hy
theorem okp{p:Prop}(h:p:=by rw[hvs.len];exact hlen):p:=h
def fn[fu:Fu]{c:Code}(hf:prog.funcs[f]? =some fb)(hb:fb.body=some c)(hn:(fb.name== "runtime.NumGoroutine")=false)(hm:fb.ntmps=m)(hlen:Nat.ble ds.length m=true)
  (hgo:go tt m fu.n [] (pD 0 ds) [] (.code c [])=⟨vc,fr,own,cf⟩)(k: ∀C:aF,aA prog GB C m (eH C prog fb (jb C (fun v G'=>Is G' rv v))) fr own cf)
  (hv:ak vc:=by first|exact trivial|(simp only[ak];kernel_rfl)|(simp only[ak];omega)|(simp only[ak,aX,bQ,aL];omega)):PF GB prog f ds rv:=by
 intro G vs hg hvs;refine Fn.introR hf hb hn hm okp fun C _ _ hrd hfx=>?_;intro a w rl;refine uO hrd ?_;have h:=fB (GB:=GB) (C:=C) (Q0:=eH C prog fb (jb C (fun v G'=>Is G' rv v))) hgo hv (k C);exact h.run (fun _=>⟨none,0,0⟩) G [] a w ⟨hg,rl.h,rl.sz,rl.df,(fun k f e=>vm hvs rl.fr k f e),(fun nm B e=>by cases e),(fun nm nm' B B' e=>by cases e),fun nm p _ _ e=>by rw[hfx] at e;cases e⟩
def aA.cond{c:Operand}{x y:Code}{b:Bool}{f:FX}(hc:bj (bi fr) c=some f)(hb:uG f=some b)(h1:b=true->aA prog GB C n Q0 fr own (.code x K))(h2:b=false->aA prog GB C n Q0 fr own (.code y K)):aA prog GB C n Q0 fr own (.code (.cond c x y) K):=SX.cond hc hb h1 h2
variable {own1 own2:aO}
def br[fu1:Fu][fu2:Fu]{hp:Decidable p}(hc:bj (bi fr) c=some (.pr p hp))(g1:go tt n fu1.n [] fr own (.code x K)=⟨vc1,fr1,own1,cf1⟩)(g2:go tt n fu2.n [] fr own (.code y K)=⟨vc2,fr2,own2,cf2⟩)
  (k1:p->aA prog GB C n Q0 fr1 own1 cf1)(k2: ¬p->aA prog GB C n Q0 fr2 own2 cf2)
  (v1:p->ak vc1:=by intro;first|exact trivial|(simp only[ak];omega)|(simp only[ak,aX,bQ,aL];omega))(v2: ¬p->ak vc2:=by intro;first|exact trivial|(simp only[ak];omega)|(simp only[ak,aX,bQ,aL];omega)):aA prog GB C n Q0 fr own (.code (.cond c x y) K):=
 .cond hc J (fun h=>fB g1 (v1 (of_decide_eq_true h)) (k1 (of_decide_eq_true h))) (fun h=>fB g2 (v2 (of_decide_eq_false h)) (k2 (of_decide_eq_false h)))
def bd[fu1:Fu][fu2:Fu]{hp:Decidable p}(hc:bj (bi fr) c=some (.d (.v (.bool (@decide p hp)))))(g1:go tt n fu1.n [] fr own (.code x K)=⟨vc1,fr1,own1,cf1⟩)(g2:go tt n fu2.n [] fr own (.code y K)=⟨vc2,fr2,own2,cf2⟩)
  (k1:p->aA prog GB C n Q0 fr1 own1 cf1)(k2: ¬p->aA prog GB C n Q0 fr2 own2 cf2)
  (v1:p->ak vc1:=by intro;first|exact trivial|(simp only[ak];omega)|(simp only[ak,aX,bQ,aL];omega))(v2: ¬p->ak vc2:=by intro;first|exact trivial|(simp only[ak];omega)|(simp only[ak,aX,bQ,aL];omega)):aA prog GB C n Q0 fr own (.code (.cond c x y) K):=
 .cond hc J (fun h=>fB g1 (v1 (of_decide_eq_true h)) (k1 (of_decide_eq_true h))) (fun h=>fB g2 (v2 (of_decide_eq_false h)) (k2 (of_decide_eq_false h)))
def bb[fu1:Fu][fu2:Fu](hc:bj (bi fr) c=some (.d (.v (.bool b))))(g1:go tt n fu1.n [] fr own (.code x K)=⟨vc1,fr1,own1,cf1⟩)(g2:go tt n fu2.n [] fr own (.code y K)=⟨vc2,fr2,own2,cf2⟩)
  (k1:b=true->aA prog GB C n Q0 fr1 own1 cf1)(k2:b=false->aA prog GB C n Q0 fr2 own2 cf2)
  (v1:b=true->ak vc1:=by intro;first|exact trivial|(simp only[ak];omega)|(simp only[ak,aX,bQ,aL];omega))(v2:b=false->ak vc2:=by intro;first|exact trivial|(simp only[ak];omega)|(simp only[ak,aX,bQ,aL];omega)):aA prog GB C n Q0 fr own (.code (.cond c x y) K):=
 .cond hc J (fun h=>fB g1 (v1 h) (k1 h)) (fun h=>fB g2 (v2 h) (k2 h))
def ql{f g:FX}(hl:bi fr d=some f)(hi: ∀ρ G y,b9 ρ G f y->b9 ρ G g y){Φ:Act->World->Prop}(h:SX GB C n (bi ((d,g)::fr)) (bu own) Φ):SX GB C n (bi fr) (bu own) Φ:=by
 refine⟨fun ρ G ov a w r=>h.run ρ G ov a w ⟨r.gb,r.h,r.sz,r.df,fun k f' e=>?_,r.bx,r.dj,r.fxd⟩⟩;rw[kr] at e;split at e
 .cases e;rename_i hk;subst hk
  obtain⟨y,h1,h2⟩:=r.fx _ _ hl;exact⟨y,h1,hi _ _ _ h2⟩
 .exact r.fx k f' e
def aj(d:Nat){f:FX}(g:FX)(hl:bi fr d=some f)(e:f=g)(h:aA prog GB C n Q0 ((d,g)::fr) own cf):aA prog GB C n Q0 fr own cf:=by
 have hs:bi ((d,g)::fr)=bi fr:=by
  funext k;rw[kr];split
  .rename_i hk;rw[hk,hl,e]
  .rfl
 cases cf with
 |dr id ops fr0 own0 us r K=>exact fun D=>h ⟨D.pre,by rw[hs];exact D.st,D.snd⟩
 |_=>unfold aA at h⊢;rw[hs] at h;exact h
def kT(d:Nat){hp:Decidable p}(hl:bi fr d=some (.pr p hp))(h:p)(k:aA prog GB C n Q0 ((d, .tt)::fr) own (.ops ops r K)):aA prog GB C n Q0 fr own (.ops ops r K):=
 ql hl (fun _ _ _ e=>by rw[show _=_ from e,decide_eq_true h];exact J) k
def kF(d:Nat){hp:Decidable p}(hl:bi fr d=some (.pr p hp))(h: ¬p)(k:aA prog GB C n Q0 ((d, .ff)::fr) own (.ops ops r K)):aA prog GB C n Q0 fr own (.ops ops r K):=
 ql hl (fun _ _ _ e=>by rw[show _=_ from e,decide_eq_false h];exact J) k
def Z7(d:Nat)(hl:bi fr d=some .nl)(h:aA prog GB C n Q0 ((d, .d (.sl []))::fr) own (.ex e K)):aA prog GB C n Q0 fr own (.ex e K):=
 ql (g:= .d (.sl [])) hl (fun ρ G y hy=>(show Is G (.sl []) y from nq (ρ:=ρ) (f:= .nl) hy J)) h
def PF.to{P:Program}(h:PF GB P f ds r1)(e:r1=r2):PF GB P f ds r2:=e▸h
def cs[fu1:Fu][fu2:Fu](d:Nat){hp:Decidable p}(hl:bi fr d=some (.pr p hp))(g1:go tt n fu1.n [] ((d, .tt)::fr) own (.ops ops r K)=⟨vc1,fr1,own1,cf1⟩)(g2:go tt n fu2.n [] ((d, .ff)::fr) own (.ops ops r K)=⟨vc2,fr2,own2,cf2⟩)
  (k1:p->aA prog GB C n Q0 fr1 own1 cf1)(k2: ¬p->aA prog GB C n Q0 fr2 own2 cf2)
  (v1:p->ak vc1:=by intro;first|exact trivial|(simp only[ak];omega)|(simp only[ak,aX,bQ,aL];omega))(v2: ¬p->ak vc2:=by intro;first|exact trivial|(simp only[ak];omega)|(simp only[ak,aX,bQ,aL];omega)):aA prog GB C n Q0 fr own (.ops ops r K):=by
 by_cases h:p
 .exact ql hl (fun _ _ _ e=>by rw[show _=_ from e,decide_eq_true h];exact J) (fB g1 (v1 h) (k1 h))
 .exact ql hl (fun _ _ _ e=>by rw[show _=_ from e,decide_eq_false h];exact J) (fB g2 (v2 h) (k2 h))
def iE[fu1:Fu][fu2:Fu](d:Nat)(hl:bi fr d=some (.d (.v (.bool b))))(g1:go tt n fu1.n [] ((d, .tt)::fr) own (.ops ops r K)=⟨vc1,fr1,own1,cf1⟩)(g2:go tt n fu2.n [] ((d, .ff)::fr) own (.ops ops r K)=⟨vc2,fr2,own2,cf2⟩)
  (k1:b=true->aA prog GB C n Q0 fr1 own1 cf1)(k2:b=false->aA prog GB C n Q0 fr2 own2 cf2)
  (v1:b=true->ak vc1:=by intro;first|exact trivial|(simp only[ak];omega)|(simp only[ak,aX,bQ,aL];omega))(v2:b=false->ak vc2:=by intro;first|exact trivial|(simp only[ak];omega)|(simp only[ak,aX,bQ,aL];omega)):aA prog GB C n Q0 fr own (.ops ops r K):=by
 cases h:b with
 |true=>exact ql hl (fun _ G _ e=>by rw[(aI (G:=G)).1 e,h];exact J) (fB g1 (v1 h) (k1 h))
 |false=>exact ql hl (fun _ G _ e=>by rw[(aI (G:=G)).1 e,h];exact J) (fB g2 (v2 h) (k2 h))
def Ja:Cf->Option (Array Oper×Oper)
 | .ops ops (o::_) _=>some (ops,o)
 | .dr _ ops _ _ _ (o::_) _=>some (ops,o)
 |_=>none
def cd(fr:aC):Cf->LK
 | .dr _ ops _ _ _ (o::_) _=>ml (Ba ops o) (bi fr)
 |_=>bi fr
def jk(fr:aC)(own:aO):Cf->BM
 | .dr _ ops _ _ _ (o::_) _=>ml (Fk o fr (Ba ops o)) (bu own)
 |_=>bu own
def qo:yu:=⟨[False],[],[], .ex .normal []⟩
def cB(T:TT)(n q:Nat)(fr:aC)(own:aO)(cf:Cf)(f:FX)(bl:List (Nat×Option Bk))(nw:List Nat):yu:=match cf with
 | .ops ops (o::r) K=>bif uw nw o.dst fr own&&cg n o.dst then r4 own bl fun own'=>zW fr o.dst f fun fr'=>go T n q [] fr' own' (.ops ops r K) else qo
 | .dr id ops fr0 own0 us (o::r) K=>bif cg n o.dst then mf (Ba ops o) fun rs=>mf (Fk o fr rs) fun rn=>r4 own bl fun own'=>mf (us++[⟨rs,o.dst,f,rn,bl,nw⟩]) fun us'=>zW fr o.dst f fun fr'=>go T n q [] fr' own' (.dr id ops fr0 own0 us' r K) else qo
 |_=>qo
def w7(ops:Array Oper)(lk:LK):Option (Nat×Bool)->Bool
 |none=>true
 |some (j,b)=>match ops[j]? with
  |some oj=>match oj.dst with
   |some d=>match lk d with
    |some .tt=>b
    |some .ff=>!b
    |_=>false
   |none=>false
  |none=>false
def Cn(h:w7 ops lk o.guard=true): ∀ρ G ov a w,bP GB C n lk bk ρ G ov a w->Region.wanted o (yielded ops a.tmps)=true:=fun ρ G ov a w r=>by
 unfold Region.wanted;unfold w7 at h;split at h
 .rename_i e;rw[e]
 .rename_i j b e
  rw[e];split at h<;>try (cases h;done)
  rename_i oj hj;split at h<;>try (cases h;done)
  rename_i d hd;split at h<;>try (cases h;done)
  .rename_i hl
   obtain⟨y,h1,h2⟩:=Ax r hj hd hl
   cases h1;simp only[h2];subst h;rfl
  .rename_i hl
   obtain⟨y,h1,h2⟩:=Ax r hj hd hl
   cases h1;simp only[h2];cases b<;>first|rfl|(simp at h)
def uo{f:FX}{bl:List (Nat×Option Bk)}{nw:List Nat}(hh:Ja cf=some (ops,o))(hg:w7 ops (cd fr cf) o.guard=true)(h:b8 prog GB C n (cd fr cf) (jk fr own cf) o f bl nw)
  (hgo:cB tt n q fr own cf f bl nw=⟨vc,fr',own',cf'⟩)(hv:ak vc)(k:aA prog GB C n Q0 fr' own' cf'):aA prog GB C n Q0 fr own cf:=by
 obtain⟨dst,op,ty,pos,af,gd⟩:=o
 cases cf with
 |ops ops' r K=>
  cases r with
  |nil=>cases hh
  |cons o' r=>
   cases hh
   unfold cB at hgo
   cases hc:(uw nw dst fr own&&cg n dst) with
   |false=>simp only[hc,cond_false,qo] at hgo;cases hgo;exact absurd hv (fun x=>x)
   |true=>
    simp only[hc,cond_true] at hgo;simp only[wV,Ab] at hgo;simp only[bW] at hc;exact SX.op (h.toS hc.2 (Cn hg)) (AF hc.1) (fB hgo hv k)
 |dr id ops' fr0 own0 us r K=>
  cases r with
  |nil=>cases hh
  |cons o' r=>
   cases hh
   unfold cB at hgo
   cases hc:cg n dst with
   |false=>simp only[hc,cond_false,qo] at hgo;cases hgo;exact absurd hv (fun x=>x)
   |true=>
    simp only[hc,cond_true,ve] at hgo;simp only[wV,Ab] at hgo;intro D;exact fB hgo hv k (D.push (h.toS hc (Cn hg)))
 |_=>cases hh
def te(lk:LK)(fo:Operand)(args:Array Operand):Option (FuncId×List DV):=match bj lk fo with
 |some (.d (.v (.func (.func f) ⟨[]⟩ ⟨[]⟩)))=>match evDs lk args.toList with
  |some ds=>some (f,ds)
  |none=>none
 |_=>none
def A1(h:te lk fo args=some (f,ds)):bj lk fo=some (.d (.v (.func (.func f) #[] #[])))/\evDs lk args.toList=some ds:=by
 unfold te at h;split at h<;>try (cases h;done)
 rename_i h1;split at h<;>cases h;rename_i h2;exact⟨h1,h2⟩
def MZ{tys:Array TypeId}{dst:Option Nat}{ty:TypeId}{pos:String}{af:Array Edge}{gd:Option (Nat×Bool)}(ha:te lk fo args=some (f,ds))(hF:PF GB prog f ds rv):
  b8 prog GB C n lk bk ⟨dst, .call ⟨.value fo,args,tys⟩,ty,pos,af,gd⟩ (.d rv) [] []:=by
 intro hd tl tb K' s1 s2 hf hk;refine⟨fun ρ G ov a w r Q=>?_⟩;obtain⟨h1,h2⟩:=A1 ha;obtain⟨y,hy,hy'⟩:=(r.mono s1 s2).ev h1;rw[(aI (G:=G)).1 hy'] at hy;obtain⟨vs,h3,h4⟩:=(r.mono s1 s2).evDs h2;refine zC hy h3 (hF G vs r.gb h4) hd (fun v G' hG hK a' w' rl=>?_) a w Q ⟨r.h,r.sz,cC a,r.df⟩;exact hk.run ρ G' ov a' w' ⟨r.gb.trans hG.le,rl.h,rl.sz,rl.df,(jp rl).fx (fun k g _ e=>by obtain⟨u,h5,h6⟩:=r.fx k g e;exact⟨u,h5,h6.up hG.le⟩) hK,
  fun nm B e=>by obtain⟨os,h5,h6⟩:=r.bx nm B e;exact⟨os,h5.up hG.le,h6⟩,r.dj,r.fxd⟩
def qh(T:TT)(fr:aC)(own:aO):List ResultVar->Option (List DV)
 |[]=>some []
 | .tmp t::rs=>match bi fr t with
  |some f=>match ke f with
   |some d=>match qh T fr own rs with
    |some l=>some (d::l)
    |none=>none
   |none=>none
  |none=>none
 | .cell a t::rs=>match bi fr a with
  |some (.ov nm 0)=>match eo T t with
   |some i=>match bu own nm with
    |some (.o _ cs _)=>match i.ag with
     |some (some k)=>match takeX cs 0 k with
      |some c=>match jx c with
       |some d=>match qh T fr own rs with
        |some l=>some (.ag d::l)
        |none=>none
       |none=>none
      |none=>none
     |some none=>match cs[0]? with
      |some c=>match ke c with
       |some d=>match qh T fr own rs with
        |some l=>some (d::l)
        |none=>none
       |none=>none
      |none=>none
     |none=>none
    |_=>none
   |none=>none
  |_=>none
def yx{ov:List aB}{w:World}(h:bP GB C n (bi fr) (bu own) ρ G ov a w): ∀{rs:List ResultVar} {ds:List DV},qh tt fr own rs=some ds-> ∃vs,kh prog (cp a) ov rs vs/\IsLs G ds vs:=by
 intro rs
 induction rs with
 |nil=>intro ds e;cases e;exact⟨[], .nil, .nil⟩
 |cons x rs ih=>
  intro ds e
  cases x with
  |tmp t=>
   simp only[qh] at e;split at e<;>try (cases e;done)
   rename_i f hf;split at e<;>try (cases e;done)
   rename_i d hd;split at e<;>cases e;rename_i l hl;obtain⟨vs,h1,h2⟩:=ih hl;obtain⟨y,h3,h4⟩:=h.fx t f hf;exact⟨y::vs, .tmp (E3 h3) h1, .cons (nq h4 hd) h2⟩
  |cell t ty=>
   simp only[qh] at e;split at e<;>try (cases e;done)
   rename_i nm hf;split at e<;>try (cases e;done)
   rename_i i hi;split at e<;>try (cases e;done)
   rename_i hb;obtain⟨y,h3,h4⟩:=h.fx t _ hf;obtain⟨b,m,rfl,h5,h6,h7⟩:=h.own h4 hb;have oat:i7 ov b m _ _:=⟨h7⟩;split at e<;>try (cases e;done)
   .rename_i k ha
    split at e<;>try (cases e;done)
    rename_i c hc;split at e<;>try (cases e;done)
    rename_i d hd;split at e<;>cases e;rename_i l hl;obtain⟨vs,h1,h2⟩:=ih hl;obtain⟨l',h8,h9⟩:=h6.takeX hc;exact⟨.agg ⟨l'⟩::vs, .agg (E3 h3) oat (yJ (fi _ _ hi) ha) h8 h1, .cons (eG.2 ⟨l',J,tv h9 hd⟩) h2⟩
   .rename_i ha
    split at e<;>try (cases e;done)
    rename_i c hc;split at e<;>try (cases e;done)
    rename_i d hd;split at e<;>cases e;rename_i l hl;obtain⟨vs,h1,h2⟩:=ih hl;obtain⟨l',h8,h9⟩:=h6.get hc;exact⟨l'::vs, .sc (E3 h3) oat (xy (fi _ _ hi) ha) h8 h1, .cons (nq h9 hd) h2⟩
def yE:Exit->Bool
 | .ret=>true
 | .normal=>true
 |_=>false
def rz(hr:qh tt fr own fb.results.toList=some ds)(hd:fg ds=rv)(he:yE e=true:=by rfl):aA prog GB C n (eH C prog fb (jb C (fun v G'=>Is G' rv v))) fr own (.ex e []):=by
 refine⟨fun ρ G ov a w r=>?_⟩;obtain⟨vs,h1,h2⟩:=yx r hr;have hk:Is G rv (m9 vs):=hd▸zF h2
 cases e with
 |ret=>exact zD (C:=C) (n:=n) (fr:=cp a) (own:=ov) (G:=G) (K:=fun v G'=>Is G' rv v) h1 hk a w ⟨r.h,r.sz,cC a,r.df⟩
 |normal=>exact II (C:=C) (n:=n) (fr:=cp a) (own:=ov) (G:=G) (K:=fun v G'=>Is G' rv v) h1 hk a w ⟨r.h,r.sz,cC a,r.df⟩
 |_=>cases he
end
end Go.Sx
end
section
namespace Go.Sx
open Go
variable {GB G:Gh}{n e s by_ cap2 i:Nat}{t t' ty' ty:TypeId}{ds:List DV}{ov B:List aB}{w:SV}{es rest:List Value}{ad2:Option Addr}
section
variable {P:Program}{C:aF}{E:vt}{fr fr':nC}{own own':List kH}{bs bs' bs1:List jq}{ops:Array Oper}{Q:Exit->Act->World->Prop}{r:List Oper}{Φ:Act->World->Prop}
variable {dst:Option Nat}{pos:String}{af:Array Edge}{gd:Option (Nat×Bool)}{x y z:Operand}
abbrev SV.f (w:SV):FV:= .d (.v (.slice w.a w.n w.c))
def W0(z:Value)(k:Nat):aH (List.replicate k z)=dH z k:=by unfold aH dH;rw[List.map_replicate]
def Re{G:Gh}{d:DV}{y:Value}(h:Is G d y): ∀k:Nat,IsLs G (List.replicate k d) (List.replicate k y)
 |0=> .nil
 |k+1=> .cons h (Re h k)
def Ps(pre mid post vs:List Value)(h:vs.length=mid.length):cH (pre++(mid++post)) pre.length vs=pre++(vs++post):=by
 rw[rE _ _ _ omp];simp[h]
def auz(z:Value)(k:Nat):dH z (k+1)=aG z++dH z k:=by simp[dH,tM]
def Et(s:Nat)(ds:List DV):Bool:=ds.all fun d=>d.okc&&Nat.beq d.cells.length s
def CJ(h:Et s ds=true):cI s ds:=fun d hd=>by
 have:=dJ.1 h d hd;simp only[bW] at this;exact⟨this.1,aN this.2⟩
def Se{cs:List Value}{off s:Nat}: ∀(es:List Value),(∀i (h:i<es.length),cw cs (off+i*s) s=some (aG es[i]))->off<=cs.length->cw cs off (es.length*s)=some (aH es)
 |[],_,ho=>by
  rw[ld _ _ _ okE];simp[aH]
 |v::t,h,ho=>by
  have h0:=h 0 omc;simp only[kS,gK,pV] at h0;obtain⟨k1,k2⟩:=AO h0;have ih:=Se (off:=off+s) t (fun i hi=>by
   have:=h (i+1) omV;rw[gQ,show off+(i*s+s)=off+s+i*s by omega] at this;simpa using this) we
  obtain⟨k3,k4⟩:=AO ih;rw[ld _ _ _ (by simp only[bZ,gQ];omega)];congr 1;have e1:aH (v::t)=aG v++aH t:=by simp[aH]
  rw[e1,k2,k4,bZ,gQ,lV (t.length*s) s,List.take_add,uR]
def aJd(h:gp G s w es):m8 P C ov G s w.n (.slice w.a w.n w.c) (aH es):=by
 rcases h.mem with he|⟨b,off,cs,ha,hg,hc⟩
 .subst he
  rw[h.len];exact vn
 .rw[ha]
  by_cases he:es=[]
  .subst he;rw[h.len];exact vn
  .have hp:0<es.length:=oR.2 he
   have h0:=hc 0 hp;have:=(AO h0).1;rw[h.len];exact MQ hg (Se es hc we)
def alf[hT:cD P t e s by_][hN:j0 P t']{w:World}:(Builtin.append_ #[t,t'] ty' #[.slice none 0 0, .slice ad2 0 cap2]).run P w= .ok (.slice none 0 0) w:=by
 obtain⟨d,hd1⟩:=hN.un;obtain⟨i,hi,his,hib⟩:=hT.info;have h0:(Builtin.firstCells i.size 0 (.slice ad2 0 cap2)).run P w= .ok #[] w:=by
  cases ad2 with
  |none=>rfl
  |some a=>unfold Builtin.firstCells loadCells;simp[loadCellsFrom,run_pure]
 simp[Builtin.append_,run_underlying hT.un,run_underlying hd1,sizeOf,typeInfo,hi,Builtin.lenOf,h0]
def RB[hT:cD P t e s by_][hN:j0 P t']{fr:Fr}{own:List aB}(hx:aD fr x=some (.slice none 0 0))(hy:aD fr y=some (.slice ad2 0 cap2))(hd:cg n dst=true)
  (h:St C n (put fr dst (.slice none 0 0)) own G Φ):Ch P C n fr own G ⟨dst, .call ⟨.builtin .append, #[x,y], #[t,t']⟩,ty',pos,af,gd⟩ Φ:=by
 intro a w Q rl;refine kO (v:= .slice none 0 0) (w':=w) ?_ (h _ _ (rl.put _ hd));simp only[execOp,resolve,iN,bV,iU,bC rl.fr hx,bC rl.fr hy];exact c7 alf
def d9.upd{lo:Bool}(h:d9 G ⟨w,s,ty,ds,lo⟩ B){d:DV}(hi:ds[i]? =some d):
  ∃b vs rest lo',w.a=some ⟨b,0,none⟩/\B=[⟨b,aH vs++rest,ty,lo'⟩]/\IsLs G ds vs/\(∀v∈vs,(aG v).length=s)/\i<vs.length/\
   ∀u d',Is G d' u->(aG u).length=s->d9 G ⟨w,s,ty,ds.set i d',lo⟩ [⟨b,aH (vs.set i u)++rest,ty,lo'⟩]:=by
 obtain⟨vs,hB,hv,hs,hlo⟩:=h;obtain⟨v,h1,h2⟩:=hv.get hi;obtain⟨hi',_⟩:=aT.1 h1;rcases hB with⟨e,_,_⟩|⟨b,rest,lo',h3,h4,h5,h6,h7⟩
 .rw[e] at h1;simp at h1
 .refine⟨b,vs,rest,lo',by simp only[] at h3;rw[h3],h4,hv,hs,hi',fun u d' hu hul=>?_⟩
  have hall: ∀x∈vs.set i u,(aG x).length=s:=fun x hx=>by
   rcases List.mem_or_eq_of_mem_set hx with h'|rfl
   .exact hs x h'
   .exact hul
  refine⟨vs.set i u, .inr ⟨b,rest,lo',by simpa using h3,J,fp _ hall,?_,by simpa using h7⟩,hv.set i hu,hall,fun hl o ho=>?_⟩
  .rw[fp _ hall,bQ,<-h5];exact h6
  .have:=hlo hl
   rw[h4] at this;rw[aR.1 ho];have h9:=this ⟨b,aH vs++rest,ty,lo'⟩ aZ;exact h9
def avI{u:Value}(vs:List Value)(i:Nat)(h:i<vs.length)(hs: ∀v∈vs,(aG v).length=s)(hu:(aG u).length=s):cH (aH vs++rest) (i*s) (aG u)=aH (vs.set i u)++rest:=by
 have hl:=fp vs hs;have hle:i*s+s<=vs.length*s:=by rw[<-gQ];exact bR _ h
 rw[rE _ _ _ (by rw[hu,aY];omega),hu,gJ we,lS we,Li vs i hs we,<-gQ,Ea vs (i+1) hs h,
  List.set_eq_take_append_cons_drop,if_pos h,show vs.take i++u::vs.drop (i+1)=vs.take i++([u]++vs.drop (i+1)) from J,oE,oE,xv]
 simp
end
end Go.Sx
end
section
namespace Go.Sx
open Go Go.Proofs Tryz
variable {GB G G':Gh}{n nm s k:Nat}{fr' fr1 kf:aC}{own' own1 ko:aO}{α X:Type}{f:FX}{row:Bool}{l ds:List DV}{ρ:NE}{ov ov':List aB}{a:Act}{w:World}{lk:LK}{bk:BM}{ty:TypeId}{c d:Code}
section
variable {C:aF}{Q0:Exit->Act->World->Prop}{fr:aC}{own:aO}{cf cf':Cf}{vc vc':List Prop}{ops:Array Oper}{r:List Oper}{o:Oper}{K:List Kt}
def pp(row:Bool)(nm:Nat)(l:List DV):FX->FX
 | .rw m=>bif Nat.beq m nm then(bif row then .d (.sl l) else .no) else .rw m
 | .ov m off=>bif Nat.beq m nm then(bif row then .no else(match off with
  |0=> .d (.pt l)
  |_+1=> .no)) else .ov m off
 | .be m s i j=>bif Nat.beq m nm then .no else .be m s i j
 | .rs m s i j=>bif Nat.beq m nm then .no else .rs m s i j
 | .bx tp pre m post=>bif Nat.beq m nm then(bif row then(match tp with
  |true=> .d (.tp (pre++ .sl l::post))
  |false=> .d (.ag (pre++ .sl l::post))) else .no) else .bx tp pre m post
 |f=>f
def Bn(f:FX)(k:FX->α):α:=match f with
 | .d x=>k (.d x)
 | .rw m=>k (.rw m)
 | .ov a b=>k (.ov a b)
 | .be a b c d=>k (.be a b c d)
 | .rs a b c d=>k (.rs a b c d)
 |f=>k f
def Fv{k:FX->α}:Bn f k=k f:=by cases f<;>rfl
def A3{α:Type}(row:Bool)(nm:Nat)(l:List DV):aC->(aC->α)->α
 |[],k=>k []
 |(j,f)::t,k=>A3 row nm l t fun t'=>Bn (pp row nm l f) fun f'=>k ((j,f')::t')
def CT{α:Type}(row:Bool)(nm:Nat)(l:List DV):List FX->(List FX->α)->α
 |[],k=>k []
 |f::t,k=>CT row nm l t fun t'=>Bn (pp row nm l f) fun f'=>k (f'::t')
def Aj{α:Type}(row:Bool)(nm:Nat)(l:List DV):aO->(aO->α)->α
 |[],k=>k []
 |(j,B)::t,k=>Aj row nm l t fun t'=>bif Nat.beq j nm then k ((j,none)::t') else match B with
  |some (.o ty cs lo)=>CT row nm l cs fun cs'=>k ((j,some (.o ty cs' lo))::t')
  |B=>k ((j,B)::t')
def wn(row:Bool)(nm:Nat)(l:List DV):Option Bk->Option Bk
 |some (.o ty cs lo)=>some (.o ty (cs.map (pp row nm l)) lo)
 |B=>B
def SF{α:Type}{row:Bool}{nm:Nat}{l:List DV}: ∀{cs:List FX} {k:List FX->α},CT row nm l cs k=k (cs.map (pp row nm l))
 |[],k=>rfl
 |f::t,k=>by simp only[CT,Fv];rw[SF];rfl
def Ke{α:Type}{row:Bool}{nm:Nat}{l:List DV}: ∀{fr:aC} {k:aC->α},A3 row nm l fr k=k (fr.map fun e=>(e.1,pp row nm l e.2))
 |[],k=>rfl
 |(j,f)::t,k=>by simp only[A3,Fv];rw[Ke];rfl
def KW{α:Type}{row:Bool}{nm:Nat}{l:List DV}: ∀{own:aO} {k:aO->α},Aj row nm l own k=k (own.map fun e=>(e.1,bif Nat.beq e.1 nm then none else wn row nm l e.2))
 |[],k=>rfl
 |(j,B)::t,k=>by
  simp only[Aj,KW (own:=t),bV]
  cases Nat.beq j nm with
  |true=>rfl
  |false=>
   cases B with
   |none=>rfl
   |some B=>cases B<;>simp only[cond_false,SF,wn]
def FF{g:FX->FX}: ∀{fr:aC} {k:Nat},bi (fr.map fun e=>(e.1,g e.2)) k=(bi fr k).map g
 |[],k=>rfl
 |(j,f)::t,k=>by
  simp only[bV];rw[kr,kr,FF (fr:=t)];split<;>rfl
def RD{row:Bool}{nm:Nat}{l:List DV}: ∀{own:aO} {k:Nat},bu (own.map fun e=>(e.1,bif Nat.beq e.1 nm then none else wn row nm l e.2)) k=if k=nm then none else wn row nm l (bu own k)
 |[],k=>by simp[bu,wn]
 |(j,B)::t,k=>by
  simp only[bV];rw[jg,jg,RD (own:=t)];by_cases h:k=j
  .subst h
   simp only[if_true];by_cases e:k=nm
   .subst e;simp
   .have:Nat.beq k nm=false:=by
     cases hb:Nat.beq k nm with
     |false=>rfl
     |true=>exact absurd (aN hb) e
    simp[this,e]
  .simp[h]
structure Bh where
 fr:aC
 own:aO
def Bs(fr:aC)(own:aO)(nm:Nat):Option Bh:=match bu own nm with
 |some (.b _ _ ds true)=>A3 true nm ds fr fun fr'=>Aj true nm ds own fun own'=>some ⟨fr',own'⟩
 |some (.o _ cs true)=>match jx cs with
  |some l=>A3 false nm l fr fun fr'=>Aj false nm l own fun own'=>some ⟨fr',own'⟩
  |none=>none
 |_=>none
def jE.of_mem{o:aB}: ∀{own:List aB},o∈own-> ∃own',jE own o own'/\ ∀x∈own,x.b≠o.b->x∈own'
 |[],h=>by cases h
 |x::t,h=>by
  rcases aW.1 h with rfl|h
  .exact⟨t, .hd ..,fun y hy hb=>(aW.1 hy).elim (fun e=>absurd ozI hb) id⟩
  .obtain⟨own',h1,h2⟩:=jE.of_mem h
   exact⟨x::own', .tl _ _ _ _ h1,fun y hy hb=>(aW.1 hy).elim (fun e=>by rw[e];exact aZ) (fun e=>aJ _ (h2 y e hb))⟩
def OR{y:Value}(hg:bI G G')(h:b9 ρ G f y)(hr:row=true-> ∀y,b9 ρ G (.rw nm) y->Is G' (.sl l) y)(ho:row=false-> ∀y,b9 ρ G (.ov nm 0) y->Is G' (.pt l) y):b9 ρ G' (pp row nm l f) y:=by
 cases f with
 |rw m=>
  simp only[pp]
  cases hb:Nat.beq m nm with
  |false=>exact h.up hg
  |true=>
   cases aN hb
   cases row with
   |true=>exact hr J y h
   |false=>trivial
 |ov m off=>
  simp only[pp]
  cases hb:Nat.beq m nm with
  |false=>exact h.up hg
  |true=>
   cases aN hb
   cases row with
   |true=>trivial
   |false=>cases off with
    |zero=>exact ho J y h
    |succ=>trivial
 |be m s i j=>
  simp only[pp]
  cases hb:Nat.beq m nm with
  |false=>exact h.up hg
  |true=>trivial
 |rs m s i j=>
  simp only[pp]
  cases hb:Nat.beq m nm with
  |false=>exact h.up hg
  |true=>trivial
 |bx tp pre m post=>
  simp only[pp]
  cases hb:Nat.beq m nm with
  |false=>exact h.up hg
  |true=>
   cases aN hb
   cases row with
   |false=>trivial
   |true=>
    obtain⟨m1,m2,e,h1,h2⟩:=h;have hl:=(h1.up hg).app (.cons (hr J _ J) (h2.up hg))
    cases tp with
    |true=>exact mo.2 ⟨_,e,hl⟩
    |false=>exact eG.2 ⟨_,e,hl⟩
 |_=>exact h.up hg
def UG{row:Bool}{nm:Nat}{l:List DV}{ρ:NE}{G G':Gh}(hg:bI G G')(hr:row=true-> ∀y,b9 ρ G (.rw nm) y->Is G' (.sl l) y)(ho:row=false-> ∀y,b9 ρ G (.ov nm 0) y->Is G' (.pt l) y): ∀{cs:List FX} {m:List Value},du ρ G cs m->du ρ G' (cs.map (pp row nm l)) m
 |[],m,h=>h
 |f::t,m,⟨y,q,e,h1,h2⟩=>⟨y,q,e,OR hg h1 hr ho,UG hg hr ho h2⟩
def bP.frz(h:bP GB C n (bi fr) (bu own) ρ G ov a w)(hg:bI G G')(hh:bH C ov' G' w)(hv: ∀o∈ov,(ρ nm).a≠some ⟨o.b,0,none⟩->o∈ov'){B0:Bk}(hb:bu own nm=some B0)
  (hr:row=true-> ∀y,b9 ρ G (.rw nm) y->Is G' (.sl l) y)(ho:row=false-> ∀y,b9 ρ G (.ov nm 0) y->Is G' (.pt l) y):
  bP GB C n (bi (fr.map fun e=>(e.1,pp row nm l e.2))) (bu (own.map fun e=>(e.1,bif Nat.beq e.1 nm then none else wn row nm l e.2))) ρ G' ov' a w:=by
 have inv: ∀m B,bu (own.map fun e=>(e.1,bif Nat.beq e.1 nm then none else wn row nm l e.2)) m=some B->m≠nm/\ ∃B1,bu own m=some B1/\wn row nm l (some B1)=some B:=fun m B e=>by
  rw[RD] at e;split at e
  .cases e
  .rename_i hm
   refine⟨hm,?_⟩
   cases hl:bu own m with
   |none=>rw[hl] at e;cases e
   |some B1=>rw[hl] at e;exact⟨B1,J,e⟩
 refine⟨h.gb.trans hg,hh,h.sz,h.df,fun k f e=>?_,fun m B e=>?_,fun m m' B B' e e'=>?_,h.fxd⟩
 .rw[FF] at e
  cases hf:bi fr k with
  |none=>rw[hf] at e;cases e
  |some g=>
   rw[hf] at e;cases e;obtain⟨y,h1,h2⟩:=h.fx k g hf;exact⟨y,h1,OR hg h2 hr ho⟩
 .obtain⟨hm,B1,h1,h2⟩:=inv m B e
  obtain⟨os,h3,h4⟩:=h.bx m B1 h1;refine⟨os,?_,fun o ho'=>hv o (h4 o ho') fun hc=>h.dj m nm B1 B0 h1 hb hm _ (h3.blk ho') hc⟩
  cases B1 with
  |b=>cases h2;exact h3.up hg
  |c=>cases h2;exact h3.up hg
  |p=>cases h2;exact h3.up hg
  |o ty cs lo=>cases h2;obtain⟨b,q,h5,h6,h7⟩:=h3;exact⟨b,q,h5,h6,UG hg hr ho h7⟩
 .obtain⟨_,B1,h1,_⟩:=inv m B e
  obtain⟨_,B2,h2,_⟩:=inv m' B' e';exact h.dj m m' B1 B2 h1 h2
def bP.frzRow(r:bP GB C n lk bk ρ G ov a w)(hb:bk nm=some (.b ty s ds true)):
  ∃G' ov',bI G G'/\bH C ov' G' w/\(∀o∈ov,(ρ nm).a≠some ⟨o.b,0,none⟩->o∈ov')/\ ∀y,b9 ρ G (.rw nm) y->Is G' (.sl ds) y:=by
 obtain⟨B,⟨vs,hB,hv,hs,hlo⟩,hBo⟩:=r.row (y:= .nilFunc) hb;rcases hB with⟨e1,e2,e3⟩|⟨b,rest,lo',e2,e3,h5,h6,h7⟩
 .subst e1
  have ed:ds=[]:=cJ (by rw[<-hv.len];rfl);subst ed;simp only at e2;refine⟨G,ov,bI.refl _,r.h,fun o ho _=>ho,fun y hy=>?_⟩;rw[show y=_ from hy,e2];exact gr.2 ⟨0,⟨none,0,0⟩,[],J, .nil G 0, .nil⟩
 .subst e3
  have hl:=hlo J _ aZ;simp only at hl;subst hl;obtain⟨ov',o1,o2⟩:=jE.of_mem (hBo _ aZ);obtain⟨f1,f2⟩:=r.h.freeze o1;simp only at e2;refine⟨_,ov',f2,f1,fun o ho hne=>o2 o ho fun e=>hne (by rw[e2,e]),fun y hy=>?_⟩;rw[show y=_ from hy,e2];exact gr.2 ⟨s,⟨some ⟨b,0,none⟩,vs.length,_⟩,vs,J,gp.of_flat hs (if_pos J) h7,hv.up f2⟩
def bP.frzVar{cs:List FX}(r:bP GB C n lk bk ρ G ov a w)(hb:bk nm=some (.o ty cs true))(hl:jx cs=some l):
  ∃G' ov',bI G G'/\bH C ov' G' w/\(∀o∈ov,(ρ nm).a≠some ⟨o.b,0,none⟩->o∈ov')/\ ∀y,b9 ρ G (.ov nm 0) y->Is G' (.pt l) y:=by
 obtain⟨os,⟨b,m,h3,rfl,h4⟩,h5⟩:=r.bx _ _ hb;obtain⟨ov',o1,o2⟩:=jE.of_mem (h5 _ aZ);obtain⟨f1,f2⟩:=r.h.freeze o1;refine⟨_,ov',f2,f1,fun o ho hne=>o2 o ho fun e=>hne (by rw[h3,e]),fun y hy=>?_⟩;obtain⟨b',h6,rfl⟩:=hy;rw[h3] at h6;cases h6;exact lG.2 ⟨b,m,J,if_pos J,(tv h4 hl).up f2⟩
def Jn{Φ:Act->World->Prop}{R:Bh}(h:Bs fr own nm=some R)(hk:SX GB C n (bi R.fr) (bu R.own) Φ):SX GB C n (bi fr) (bu own) Φ:=by
 refine⟨fun ρ G ov a w r=>?_⟩;unfold Bs at h;split at h<;>try (cases h;done)
 .rename_i ty s ds hb
  rw[Ke,KW] at h;cases h;obtain⟨G',ov',h1,h2,h3,h4⟩:=r.frzRow hb;exact hk.run ρ G' ov' a w (r.frz (row:=true) h1 h2 h3 hb (fun _=>h4) (fun e=>by cases e))
 .rename_i ty cs hb
  split at h<;>try (cases h;done)
  rename_i l hl;rw[Ke,KW] at h;cases h;obtain⟨G',ov',h1,h2,h3,h4⟩:=r.frzVar hb hl;exact hk.run ρ G' ov' a w (r.frz (row:=false) h1 h2 h3 hb (fun e=>by cases e) (fun _=>h4))
def fz[fu:Fu](nm:Nat)(h:Bs fr own nm=some ⟨fr1,own1⟩)(hgo:go tt n fu.n [] fr1 own1 (.ops ops r K)=⟨vc,fr',own',cf'⟩)(k:aA prog GB C n Q0 fr' own' cf')(hv:ak vc:=by first|exact trivial|(simp only[ak];kernel_rfl)|(simp only[ak];omega)|(simp only[ak,aX,bQ,aL];omega)):aA prog GB C n Q0 fr own (.ops ops r K):=
 Jn h (fB hgo hv k)
def gD(nm:Nat){e:Exit}(h:Bs fr own nm=some ⟨fr1,own1⟩)(k:aA prog GB C n Q0 fr1 own1 (.ex e K)):aA prog GB C n Q0 fr own (.ex e K):=Jn h k
def lv(nm:Nat)(h:Bs fr own nm=some ⟨fr1,own1⟩)(k:aA prog GB C n Q0 fr1 own1 (.code c K)):aA prog GB C n Q0 fr own (.code c K):=Jn h k
def wc:aC->aC->Prop
 |[],_=>True
 |(k,v)::t,fr=>bi fr k=some v/\wc t fr
def wX:aO->aO->Prop
 |[],_=>True
 |(k,v)::t,own=>bu own k=v/\wX t own
def xM: ∀{f:aC},wc f fr->km (bi f) (bi fr)
 |[],_,k,x,h=>by cases h
 |(j,v)::t,h,k,x,e=>by
  rw[kr] at e;split at e
  .cases e;rename_i hk;rw[hk];exact h.1
  .exact xM h.2 k x e
def vk: ∀{f:aO},wX f own->km (bu f) (bu own)
 |[],_,k,x,h=>by cases h
 |(j,v)::t,h,k,x,e=>by
  rw[jg] at e;split at e
  .rename_i hk;rw[hk,h.1,e]
  .exact vk h.2 k x e
def pC{q:IntKind}{a b:Int}(h:bi fr k=some (.d (.v (.int q a))))(e:a=b):bi fr k=some (.d (.v (.int q b))):=e▸h
def Hk(GB:Gh)(C:aF)(n:Nat)(F:X->aC)(O:X->aO)(I:X->Prop)(a:Act)(w:World):Prop:=
 ∃x ρ G ov,I x/\bP GB C n (bi (F x)) (bu (O x)) ρ G ov a w
def Kd:List Oper->List Nat->List Nat
 |[],l=>l
 |o::r,l=>match o.dst with
  |some d=>d::Kd r l
  |none=>Kd r l
def wh:Code->List Nat->List Nat
 | .region _ ops _,l=>Kd ops.toList l
 | .seq a b,l=>wh a (wh b l)
 | .cond _ a b,l=>wh a (wh b l)
 | .block _ a,l=>wh a l
 | .loop a,l=>wh a l
 | .scope a,l=>wh a l
 |_,l=>l
def Gt{α:Type}:List Nat->aC->(aC->α)->α
 |_,[],k=>k []
 |l,(j,f)::t,k=>bif vo l j then Gt l t k else Gt (j::l) t fun t'=>k ((j,f)::t')
def CD{α:Type}:List Nat->aO->(aO->α)->α
 |_,[],k=>k []
 |l,(j,B)::t,k=>bif vo l j then CD l t k else match B with
  |some B=>CD l t fun t'=>k ((j,some B)::t')
  |none=>CD l t k
structure Kp where
 fr:aC
 own:aO
def keep(c:Code)(uf uo:List Nat)(fr:aC)(own:aO):Kp:=mf (wh c uo) fun m=>mf (uf++m) fun m'=>Gt m' fr fun fr'=>CD m own fun own'=>⟨fr',own'⟩
theorem oko{p:Prop}(h:p:=by first|omega|(dsimp only;omega)):p:=h
def lp[fu:Fu](U:X->aC)(V:X->aO)(I:X->Prop)(μ:X->Nat)(x0:X){cf':X->Cf}{fr':X->aC}{own':X->aO}{vc:X->List Prop}(hkp:keep c ((U x0).map (·.1)) ((V x0).map (·.1)) fr own=⟨kf,ko⟩)(hI:I x0)
  (hgo: ∀x,go tt n fu.n [] (U x++kf) (V x++ko) (.code c (.ag (Hk GB C n (fun y=>U y++kf) (fun y=>V y++ko) (fun y=>I y/\μ y<μ x))::K))=⟨vc x,fr' x,own' x,cf' x⟩)
  (round: ∀x,I x->aA prog GB C n Q0 (fr' x) (own' x) (cf' x))(hF:wc (U x0++kf) fr:=by repeat (first|exact trivial|refine And.intro J ?_|refine And.intro (pC J oko) ?_|refine And.intro (pC J omc) ?_))(hO:wX (V x0++ko) own:=by repeat (first|exact trivial|refine And.intro J ?_))
  (hv: ∀x,I x->ak (vc x):=by intros;first|exact trivial|(simp only[ak];kernel_rfl)|(simp only[ak];omega)|(simp only[ak,aX,bQ,aL];omega)):aA prog GB C n Q0 fr own (.code (.loop c) K):=by
 refine⟨fun ρ G ov a w r=>?_⟩;have r0:=r.mono (xM hF) (vk hO);intro b k cs hro hb hrm;have key: ∀m a w,(∃x ρ G ov,I x/\μ x=m/\bP GB C n (bi (U x++kf)) (bu (V x++ko)) ρ G ov a w)->
   ∃e a' w',cQ C.rd prog Q0 K e a' w'/\ArrivesIn (Machine.fenced prog (FW C.rd)) prog (lone (b.atR a (.code c:: .inLoop c::k)) cs w) b k cs e a' w':=by
  intro m
  induction m using Nat.strongRecOn with
  |_ m ih=>
   intro a w ⟨x,ρ,G,ov,hx,hm,hr⟩;have h1:=fB (GB:=GB) (C:=C) (Q0:=Q0) (hgo x) (hv x hx) (round x hx);obtain⟨e,a₁,w₁,hq,harr⟩:=h1.run ρ G ov a w hr b (.inLoop c::k) cs hro hb hrm
   cases e with
   |normal=>
    obtain⟨x',ρ',G',ov',⟨hx',hlt⟩,hr'⟩:=hq;obtain⟨e₂,a₂,w₂,hq₂,harr₂⟩:=ih (μ x') (hm▸hlt) a₁ w₁ ⟨x',ρ',G',ov',hx',rfl,hr'⟩;exact⟨e₂,a₂,w₂,hq₂, .of_steps (StepsIn.trans harr (.one (fenced_calm hb hrm J) stepR_inLoop)) harr₂⟩
   |exit id=>exact⟨_,a₁,w₁,hq, .pass (x:= .inLoop c) J (fun _ _=> .inl omc) harr⟩
   |goto l=>exact⟨_,a₁,w₁,hq, .pass (x:= .inLoop c) J (fun _ _=> .inl omc) harr⟩
   |ret=>exact⟨_,a₁,w₁,hq, .pass (x:= .inLoop c) J (fun _ _=> .inl omc) harr⟩
   |panic ch=>exact⟨_,a₁,w₁,hq, .pass (x:= .inLoop c) J (fun _ _=> .inl omc) harr⟩
   |outgrown=>exact⟨_,a₁,w₁,hq, .pass (x:= .inLoop c) J (fun _ _=> .inl omc) harr⟩
 obtain⟨e,a',w',q,rr⟩:=key (μ x0) a w ⟨x0,ρ,G,ov,hI,rfl,r0⟩;exact⟨e,a',w',q, .of_steps (.one (fenced_calm hb hrm J) stepR_loop) rr⟩
def at_{F:X->aC}{O:X->aO}{I:X->Prop}(x:X)(hI:I x)(hF:wc (F x) fr:=by repeat (first|exact trivial|refine And.intro J ?_|refine And.intro (pC J oko) ?_|refine And.intro (pC J omc) ?_))(hO:wX (O x) own:=by repeat (first|exact trivial|refine And.intro J ?_)):aA prog GB C n Q0 fr own (.ex .normal (.ag (Hk GB C n F O I)::K)):=
 ⟨fun ρ G ov a w r=>⟨x,ρ,G,ov,hI,r.mono (xM hF) (vk hO)⟩⟩
def mg[fu:Fu](U:X->aC)(V:X->aO)(I:X->Prop){cf':X->Cf}{fr':X->aC}{own':X->aO}{vc:X->List Prop}(u0 v0:List Nat)(hkp:keep c u0 v0 fr own=⟨kf,ko⟩)
  (h1:aA prog GB C n Q0 fr own (.code c (.ag (Hk GB C n (fun y=>U y++kf) (fun y=>V y++ko) I)::K)))
  (hgo: ∀x,go tt n fu.n [] (U x++kf) (V x++ko) (.code d K)=⟨vc x,fr' x,own' x,cf' x⟩)(k: ∀x,I x->aA prog GB C n Q0 (fr' x) (own' x) (cf' x))(hv: ∀x,I x->ak (vc x):=by intros;first|exact trivial|(simp only[ak];kernel_rfl)|(simp only[ak];omega)|(simp only[ak,aX,bQ,aL];omega)):aA prog GB C n Q0 fr own (.code c (.sq d::K)):=by
 refine SX.imp h1 fun a w h=>aBz h ?_;intro e a w h
 cases e with
 |normal=>
  obtain⟨x,ρ,G,ov,hI,hr⟩:=h;have:=fB (GB:=GB) (C:=C) (Q0:=Q0) (hgo x) (hv x hI) (k x hI);exact this.run ρ G ov a w hr
 |_=>exact h
end
end Go.Sx
end
section
namespace Go.Sx
open Go
variable {P:Program}{ops:Array Oper}{Q:Exit->Act->World->Prop}{GB G:Gh}{C:aF}{n e s by_ s' nhi mx':Nat}{fr fr':nC}{own' own0 own1 own1':List kH}{bs bs0 bs1 bs1' bs':List jq}{E:vt}{r:List Oper}{Φ:Act->World->Prop}{dst:Option Nat}{t t' ty' ty:TypeId}{pos:String}{af:Array Edge}{x y z:Operand}{w:SV}{ds l:List DV}{vs es:List Value}
section
variable {S:World->Prop}{π₂:List (Nat×Bool)}
end
section
variable {own:List kH}{fd:List FD}{π π₂:List (Nat×Bool)}
structure SR (GB:Gh) (C:aF) (n:Nat) (fr:nC) (own0:List kH) (bs0:List jq) (own1:List kH) (bs1:List jq) (fd:List FD) (K:List Nat->(World->Prop)->Act->World->Prop):Prop where
 run: ∀G frv o0 o1,bI GB G->CW G fr frv->OB G own0 bs0 o0->OB G own1 bs1 o1-> ∀fs:Fs,St C n (frv++Ij fd fs) (o1++(o0++H' fd fs)) G (K (PS fd fs) (HS C o0 G))
instance {GB:Gh} {C:aF} {n:Nat} {fr:nC} {own0:List kH} {bs0:List jq} {own1:List kH} {bs1:List jq} {fd:List FD} {K:List Nat->(World->Prop)->Act->World->Prop}:CoeFun (SR GB C n fr own0 bs0 own1 bs1 fd K) (fun _=> ∀G frv o0 o1,bI GB G->CW G fr frv->OB G own0 bs0 o0->OB G own1 bs1 o1-> ∀fs:Fs,St C n (frv++Ij fd fs) (o1++(o0++H' fd fs)) G (K (PS fd fs) (HS C o0 G))):=⟨SR.run⟩
end
section
variable {own:List kH}
variable {gd:Option (Nat×Bool)}
def PB(GB:Gh)(P:Program)(f:FuncId)(mk:SV->List DV)(s:Nat)(ty:TypeId)(dsi:List DV)(mkr:SV->DV)(dso:List DV):Prop:=
 ∀G w vs B,bI GB G->d9 G ⟨w,s,ty,dsi,false⟩ B->IsLs G (mk w) vs->iu P f vs B G (fun v own' G'=> ∃w',Is G' (mkr w') v/\d9 G' ⟨w',s,ty,dso,false⟩ own')
def d9.asB{G:Gh}{w:SV}{ty:TypeId}{ds:List DV}{lo:Bool}{B:List aB}(h:d9 G ⟨w,s,ty,ds,lo⟩ B):d9 G ⟨w,s,ty,ds,false⟩ (Sx.asB B):=by
 obtain⟨vs,h1,h2,h3,h4⟩:=h;exact⟨vs,h1.asB,h2,h3,fun h=>by cases h⟩
def d9.weak{lo:Bool}{B:List aB}(h:d9 G ⟨w,s,ty,ds,lo⟩ B):d9 G ⟨w,s,ty,ds,false⟩ B:=by
 obtain⟨vs,h1,h2,h3,h4⟩:=h;exact⟨vs,h1,h2,h3,fun h=>by cases h⟩
end
section
variable {own:List kH}
variable {gd:Option (Nat×Bool)}
def PN(GB:Gh)(P:Program)(f:FuncId)(ds:List DV)(ty:TypeId)(ι:Type)(cs:ι->List DV):Prop:=
 ∀G vs,bI GB G->IsLs G ds vs->iu P f vs [] G (fun v own' G'=> ∃x b m,v= .pointer (some ⟨b,0,none⟩)/\own'=[⟨b,m,ty,true⟩]/\IsLs G' (cs x) m)
end
section
variable {own:List kH}
variable {gd:Option (Nat×Bool)}
def Xa{fr:Fr}{own:List aB}{fn:Func}{K:Value->List aB->Gh->Prop}(hr:kh P fr own fn.results.toList vs)(own2 own3:List aB)(hp:own.Perm own2)(hs:own3.Sublist own2)(hk:own3.Pairwise (fun x y=>x.b≠y.b)->K (m9 vs) own3 G):St C n fr own G (eH C P fn (s7 C K) .ret):=
 fun a w rl hmk=>⟨rl.df.trans hmk,_,r8 hr rl.fr rl.h,_,own3,G,J,(rl.h.perm hp).drop hs,hk ((rl.h.perm hp).drop hs).nd⟩
def Zt(hsl:gp G s' w es)(hl:IsLs G l es)(ho:cI s l)(h2:nhi<=l.length)(hm1:nhi<=mx')(hm2:mx'<=w.c):Is G (.sl (l.take nhi)) (.slice w.a nhi mx'):=by
 have hn:=hsl.len;have hcap:=hsl.cap;have hll:=hl.len;have e9: ∀s,oo w.a w.n w.c 0 nhi mx' s= .slice w.a nhi mx':=by
  intro s;unfold oo
  cases w.a with
  |none=>simp
  |some ad=>simp[Addr.add]
 rcases Bx hsl hl ho with he|he
 .subst he
  have:l=[]:=cJ (by rw[<-hll];rfl);subst this;have e1:nhi=0:=by simp at h2;exact h2
  subst e1;refine gr.2 ⟨s,⟨_,0,mx'⟩,[],J,⟨J,aS _, .inl J⟩,by simpa using IsLs.nil⟩
 .subst he
  have k:=hsl.sub 0 nhi mx' (aS _) we hm1 hm2;have k2:=gr.2 ⟨s',⟨_,_,_⟩,_,J,k,(hl.take nhi).drop 0⟩;rw[iZ] at k2;have e:=e9 s';unfold oo at e;revert k2;simp only[] at*;intro k2
  first|exact e▸k2|(simp at e k2⊢;first|exact k2|(cases hw:w.a<;>simp_all [Addr.add]))
end
end Go.Sx
end
section
namespace Go.Sx
open Go Go.Proofs
variable {P:Program}{T:TT}{GB G:Gh}{C:aF}{n e s by_ d nm sz j len b nlo nhi:Nat}{lk:LK}{bk:BM}{ρ:NE}{ov B ov' own':List aB}{a a':Act}{w w':World}{dst ag:Option Nat}{t t' ty' ty:TypeId}{pos:String}{af:Array Edge}{x y mx:Operand}{k k':IntKind}{l ds ds2 ds':List DV}{i:TI}{lo lo':Bool}{c z v d' u:DV}{K:Act->World->Prop}{f:FX}{vs rest m':List Value}
section
variable {gd:Option (Nat×Bool)}
def YB[hT:cD P t e s by_]{d:DV}{i:Int}(hx:evD lk x=some (.sl l))(hy:bj lk y=some (.d (.v (.int k i))))(h0:0<=i)(he:l[i.toNat]? =some d)(hd:(d.okc&&Nat.beq d.cells.length s)=true):
  b8 P GB C n lk bk ⟨dst, .indexAddr t x y,ty',pos,af,gd⟩ (.ep d.cells) [] []:= .yd fun ρ G ov a w r=>by
 simp only[bW] at hd;obtain⟨hd,hs⟩:=hd;obtain⟨u,h1,h2⟩:=r.evD hx;obtain⟨q,g1,g2⟩:=r.ev hy;rw[dk] at g2;subst g2;obtain⟨s',z,es,rfl,hsl,hl⟩:=gr.1 h2;obtain⟨v,h3,h4⟩:=hl.get he;obtain⟨h5,h6⟩:=aT.1 h3;have hc:=(h4.cells hd).1.len;replace hs:=aN hs;rcases hsl.mem with h|⟨b,off,cs,ha,hg,hcs⟩
 .rw[h] at h5;simp at h5
 .have h7:=hcs i.toNat h5
  rw[h6] at h7;have h8:=Di h7;have:s'=s:=by omega
  subst this;rw[ha] at h1;have hn:=hsl.len;refine⟨.pointer (some ⟨b,off+i.toNat*s',none⟩),⟨b,_,cs,aG v,J,hg,?_,(h4.cells hd).1⟩,xW h1 g1 h0 we⟩;rw[<-hc,h8];exact h7
def As(ag:Option Nat)(cs:List DV)(j:Nat):Option DV:=match ag with
 |some k=>match takeD cs j k with
  |some l=>some (.ag l)
  |none=>none
 |none=>cs[j]?
def aJD{k:Nat}{d:DV}(hi:fw P t=some i)(ha:i.ag=some ag)(hx:bj lk x=some (.be nm sz k j))(hb:bk nm=some (.b ty sz ds lo))(he:ds[k]? =some d)(hd:d.okc=true)(hl:As ag d.cells j=some c):
  b8 P GB C n lk bk ⟨dst, .load t x,ty',pos,af,gd⟩ (.d c) [] []:= .x1 hx fun ρ G ov a w y _ r h1 h2=>by
 obtain⟨b,hwb,rfl⟩:=h2;obtain⟨B,hB,hmem⟩:=r.row (y:= .nilFunc) hb;obtain⟨b',m,rest,lo',l0,e1,rfl,h3,h4⟩:=hB.elem he hd;simp only[] at e1 h3;rw[hwb] at e1;cases e1;have oat:i7 ov b (m++rest) ty lo':=⟨hmem _ aZ⟩
 cases ag with
 |some k'=>
  have:=yJ hi ha;simp only[As] at hl;split at hl<;>cases hl;rename_i hl;obtain⟨l',h5,h6⟩:=h4.takeD hl;exact⟨.agg ⟨l'⟩,eG.2 ⟨l',J,h6⟩,Dw h1 (Nl h3 h5)⟩
 |none=>
  have:=xy hi ha;simp only[As] at hl;obtain⟨l',h5,h6⟩:=h4.get hl;have hj:j<sz:=by
   have:=Di h3;have h7:=(aT.1 h5).1;omega
  exact⟨l',h6,pk h1 (by rw[H8 h3 hj];exact h5)⟩
def d9.toBk{x:SV}(h:d9 G ⟨x,s,ty,ds,lo⟩ B)(e:ρ nm=x):lI ρ G nm (.b ty s ds lo) B:=by
 obtain⟨vs,h1,h2,h3,h4⟩:=h;exact⟨vs,by rw[e];exact h1,h2,h3,h4⟩
theorem ozd{p:Prop}(h:p:=by show _=_;simp):p:=h
def bP.newRow(r:bP GB C n lk bk ρ G ov a w){z:SV}(hf:kE [d] (some d) lk bk)(hB:d9 G ⟨z,s,ty,ds,true⟩ B)(hos: ∀o∈B,o∈ov')
  (hov: ∀m B',m≠d->bk m=some B'-> ∀o∈ov,(ρ m).a=some ⟨o.b,0,none⟩->o∈ov'/\z.a≠some ⟨o.b,0,none⟩)
  (hk:SX GB C n (eh lk (some d) (.rw d)) (Sx.upB bk [(d,some (.b ty s ds true))]) K)(rl:gA C n (Sx.put (cp a) (some d) (.slice z.a z.n z.c)) ov' G a' w'):K a' w':=
 hk.run _ _ _ a' w' (r.new' (x:=z) (f:= .rw d) (y:= .slice z.a z.n z.c) hf (bI.refl _) rl.h (hB.toBk omc) hos hov ozd (jp rl))
def oD(i:TI):Option DV:=match i.z with
 |some z=>match jx z with
  |some zs=>bif i.za then(bif zs.all DV.flat then some (.ag zs) else none) else(match zs with
   |[d]=>bif d.flat then some d else none
   |_=>none)
  |none=>none
 |none=>none
def YE{d:DV}(h:d.flat=true):d.cells=[d]/\d.okc=true:=by
 cases d<;>first|exact⟨J,h⟩|cases h
theorem yt{d:DV}(hi:fw P e=some i)(h:oD i=some d): ∃v,gv P e v/\(∀G,Is G d v)/\d.okc=true:=by
 obtain⟨j,hj,hij⟩:=ru hi;unfold oD at h;split at h<;>try (cases h;done)
 rename_i z hz;split at h<;>try (cases h;done)
 rename_i zs hzs;obtain⟨v,h1,h2⟩:=Bo hi hz;have h3: ∀G,IsLs G zs (aG v):=fun G=>tv (h2 (fun _=>⟨none,0,0⟩) G) hzs;have hzv:j.zero=some v:=by have:=h1.inf;rw[hj] at this;simpa using this
 have hza:i.za=Lq (some v):=by rw[hij,<-hzv]
 cases hb:i.za with
 |true=>
  rw[hb] at h hza
  cases hc:zs.all DV.flat with
  |false=>rw[hc] at h;cases h
  |true=>
   rw[hc] at h;cases h
   cases v<;>first|(cases hza;done)|skip
   rename_i cs;exact⟨_,h1,fun G=>eG.2 ⟨cs.toList,omc,h3 G⟩,hc⟩
 |false=>
  rw[hb,cond_false] at h;rw[hb] at hza;split at h<;>try (cases h;done)
  rename_i u
  cases hc:u.flat with
  |false=>rw[hc] at h;cases h
  |true=>
   rw[hc] at h;cases h;have hv:aG v=[v]:=by cases v<;>first|rfl|(cases hza;done)
   refine⟨v,h1,fun G=>?_,(YE hc).2⟩;have:=h3 G;rw[hv] at this;exact this.uncons.1
def aF4{l:Int}[hT:cD P t e s by_](hi:fw P e=some i)(hz:oD i=some z)(hs:Nat.beq z.cells.length s=true)(hx:bj lk x=some (.d (.v (.int k l))))(hy:bj lk y=some (.d (.v (.int k' l))))(h0:0<=l)(hb:by_*l<=140737488355328)(hl:l<=1152921504606846976)(hds:List.replicate l.toNat z=ds):
  b8 P GB C n lk bk ⟨some d, .makeSlice t x y,ty',pos,af,gd⟩ (.rw d) [(d,some (.b e s ds true))] [d]:=by
 intro hd tl tb K s1 s2 hf hk;refine⟨fun ρ G ov a w r Q=>?_⟩;subst hds;obtain⟨v,hz1,hz2,hz3⟩:=yt hi hz;obtain⟨q1,p1,p2⟩:=(r.mono s1 s2).ev hx;obtain⟨q2,p3,p4⟩:=(r.mono s1 s2).ev hy;rw[dk] at p2 p4;subst p2 p4;have c1:=((hz2 G).cells hz3).1.len;replace hs:=aN hs;have e1: ∀u∈List.replicate l.toNat v,(aG u).length=s:=fun u hu=>by rw[List.eq_of_mem_replicate hu,c1,hs]
 refine Jh p1 p3 h0 hb hl (by rw[c1,hs]) hd (fun b a' w' rl=>?_) a w Q ⟨r.h,r.sz,cC a,r.df⟩;have hnd:=(bY.1 rl.h.nd).1;refine r.newRow (z:=⟨some ⟨b,0,none⟩,l.toNat,l.toNat⟩) (B:=[⟨b,dH v l.toNat,e,true⟩]) hf ⟨List.replicate l.toNat v, .inr ⟨b,[],true,omc,by rw[W0,gX],fp _ e1,by rw[fp _ e1];simp,omc⟩,Re (hz2 G) _,e1,fun _ o ho=>by rw[aR.1 ho]⟩
  (fun o ho=>by rw[aR.1 ho];exact aZ) (fun m B' _ _ o ho _=>⟨aJ _ ho,fun e'=>?_⟩) hk rl
 cases e';exact hnd o ho J
def xK(lk:LK):Nat->List (Nat×Operand)->Option (List DV)
 |_,[]=>some []
 |j,(i,x)::r=>match evD lk x,xK lk (j+1) r with
  |some d,some l=>bif Nat.beq i j then some (d::l) else none
  |_,_=>none
def SI(r:bP GB C n lk bk ρ G ov a w){zv:Value}(hz:(aG zv).length=s): ∀(ps:List (Nat×Operand)) (j:Nat) (pre:List Value) (ds:List DV),xK lk j ps=some ds->pre.length=j*s->(∀d∈ds,d.okc=true/\d.cells.length=s)->
  ∃vs,vL (cp a) s (pre++dH zv ps.length) ps=some (pre++aH vs)/\IsLs G ds vs/\(∀v∈vs,(aG v).length=s)/\vs.length=ps.length
 |[],j,pre,ds,e,hp,hd=>by
  simp only[xK] at e;cases e;exact⟨[],by simp[vL,dH,aH], .nil,omc,J⟩
 |(i,x)::ps,j,pre,ds,e,hp,hd=>by
  simp only[xK] at e;split at e
  .rename_i d l hx hl
   cases hb:Nat.beq i j with
   |false=>rw[hb] at e;cases e
   |true=>
    rw[hb] at e
    cases e
    have:=aN hb;subst this;obtain⟨y,hy,hy'⟩:=r.evD hx;obtain⟨k1,k2⟩:=hd d aZ;have c1:=(hy'.cells k1).1.len;have hov:cH (pre++dH zv (ps.length+1)) (i*s) (aG y)=(pre++aG y)++dH zv ps.length:=by
     rw[auz,<-hp,Ps _ _ _ _ (by rw[c1,k2,hz]),dV]
    obtain⟨vs,h1,h2,h3,h4⟩:=SI r hz ps (i+1) (pre++aG y) l hl (by rw[aY,c1,k2,hp,gQ]) (fun d hd'=>hd d (aJ _ hd'));refine⟨y::vs,?_, .cons hy' h2,fun v hv=>?_,by simp[h4]⟩
    .simp only[vL,hy,bZ]
     rw[if_pos ⟨by rw[c1,k2],by rw[aY,pu,hz,hp,gQ];omega⟩,hov,h1];simp[aH]
    .rcases aW.1 hv with rfl|hv
     .rw[c1,k2]
     .exact h3 v hv
  .cases e
def SW{parts:Array (Nat×Operand)}[hT:cD P t e s by_](hi:fw P e=some i)(hz:oD i=some z)(hs:Nat.beq z.cells.length s=true)(hb:xK lk 0 parts.toList=some ds)(hok:Et s ds=true)(hlen:Nat.beq parts.toList.length len=true)(hsm:Nat.ble (len*s) 1000=true)(hs0:Nat.blt 0 (len*s)=true):
  b8 P GB C n lk bk ⟨some d, .buildSlice t len parts,ty',pos,af,gd⟩ (.rw d) [(d,some (.b e s ds true))] [d]:=by
 intro hd tl tb K s1 s2 hf hk;refine⟨fun ρ G ov a w r Q=>?_⟩;obtain⟨v,hz1,hz2,hz3⟩:=yt hi hz;have c1:=((hz2 G).cells hz3).1.len;replace hs:=aN hs;have hlen':=aN hlen;obtain⟨vs,h1,h2,h3,h4⟩:=SI (r.mono s1 s2) (s:=s) (zv:=v) (by rw[c1,hs]) parts.toList 0 [] ds hb omc (CJ hok);rw[kV,kV] at h1;refine TM (z:=v) (out:=aH vs) (by rw[c1,hs]) (by rw[<-hlen'];exact h1) hsm hs0 hd (fun b a' w' rl=>?_) a w Q ⟨r.h,r.sz,cC a,r.df⟩;have hnd:=(bY.1 rl.h.nd).1;have hvl:vs.length=len:=by rw[h4,hlen']
 refine r.newRow (z:=⟨some ⟨b,0,none⟩,len,len⟩) (B:=[⟨b,aH vs,e,true⟩]) hf ⟨vs, .inr ⟨b,[],true,by rw[hvl],by rw[gX],fp _ h3,by rw[fp _ h3,hvl];simp,by rw[hvl];exact bJ _⟩,h2,h3,fun _ o ho=>by rw[aR.1 ho]⟩
  (fun o ho=>by rw[aR.1 ho];exact aZ) (fun m B' _ _ o ho _=>⟨aJ _ ho,fun e'=>?_⟩) hk rl
 cases e';exact hnd o ho J
def aGT[hT:cD P t e s by_]:b8 P GB C n lk bk ⟨some d, .buildSlice t 0 #[],ty',pos,af,gd⟩ (.rw d) [(d,some (.b e s [] true))] [d]:=by
 intro hd tl tb K s1 s2 hf hk;refine⟨fun ρ G ov a w r Q=>?_⟩;refine MH hd (fun b a' w' rl=>?_) a w Q ⟨r.h,r.sz,cC a,r.df⟩;have hnd:=(bY.1 rl.h.nd).1;refine r.newRow (z:=⟨some ⟨b,0,none⟩,0,0⟩) (B:=[⟨b,[],e,true⟩]) hf ⟨[], .inr ⟨b,[],true,J,by simp[aH],by simp[aH],by simp[aH],omc⟩, .nil,omc,fun _ o ho=>by rw[aR.1 ho]⟩
  (fun o ho=>by rw[aR.1 ho];exact aZ) (fun m B' _ _ o ho _=>⟨aJ _ ho,fun e'=>?_⟩) hk rl
 cases e';exact hnd o ho J
def b8.frz{o:Oper}{B:Bk}(hd:o.dst=some d)(h:b8 P GB C n lk bk o f [(d,some B)] [d])
  (hz: ∀lk bk ρ G ov a w,bP GB C n lk bk ρ G ov a w->bk d=some B-> ∃G' ov',bI G G'/\bH C ov' G' w/\(∀o∈ov,(ρ d).a≠some ⟨o.b,0,none⟩->o∈ov')/\ ∀y,b9 ρ G f y->Is G' v y):b8 P GB C n lk bk o (.d v) [(d,none)] [d]:=by
 intro hd' tl tb K s1 s2 hf hk;refine h hd' tl tb K s1 s2 hf ?_;rw[hd] at hk⊢;refine⟨fun ρ G ov a w r=>?_⟩;have hbd:Sx.upB tb [(d,some B)] d=some B:=by simp[Sx.upB]
 obtain⟨G',ov',h1,h2,h3,h4⟩:=hz _ _ ρ G ov a w r hbd;refine hk.run ρ G' ov' a w ⟨r.gb.trans h1,h2,r.sz,r.df,fun k g e=>?_,fun m B' e=>?_,fun m m' B1 B2 e e'=>?_,r.fxd⟩
 .by_cases hk:k=d
  .subst hk
   simp only[eh,if_true] at e;cases e;obtain⟨y,g1,g2⟩:=r.fx k f (by simp[eh]);exact⟨y,g1,h4 y g2⟩
  .simp only[eh,hk,if_false] at e
   obtain⟨y,g1,g2⟩:=r.fx k g (by simp[eh,hk,e]);exact⟨y,g1,g2.up h1⟩
 .simp only[Sx.upB] at e
  split at e
  .cases e
  .rename_i hm
   have e':Sx.upB tb [(d,some B)] m=some B':=by simp[Sx.upB,hm,e]
   obtain⟨os,g1,g2⟩:=r.bx m B' e';exact⟨os,g1.up h1,fun o ho=>h3 o (g2 o ho) fun hc=>r.dj m d B' B e' hbd hm _ (g1.blk ho) hc⟩
 .simp only[Sx.upB] at e e'
  split at e
  .cases e
  .rename_i hm
   split at e'
   .cases e'
   .rename_i hm'
    exact r.dj m m' B1 B2 (by simp[Sx.upB,hm,e]) (by simp[Sx.upB,hm',e'])
def b8.frzRow{o:Oper}{d:Nat}{ty:TypeId}{s:Nat}{ds:List DV}(hd:o.dst=some d)(h:b8 P GB C n lk bk o (.rw d) [(d,some (.b ty s ds true))] [d]):b8 P GB C n lk bk o (.d (.sl ds)) [(d,none)] [d]:=
 h.frz hd fun _ _ _ _ _ _ _ r hb=>r.frzRow hb
def aEc(e:bj lk x=some f)(hc:f.okc=true)(hn:yQ f d=true)(hl:jx f.cells=some l):b8 P GB C n lk bk ⟨some d, .box t x,ty',pos,af,gd⟩ (.d (.pt l)) [(d,none)] [d]:=
 (Pi e hc hn).frz J fun _ _ _ _ _ _ _ r hb=>r.frzVar hb hl
def rB(lk:LK)(bk:BM)(s:Nat)(y:Operand):Option (List DV):=match bj lk y with
 |some (.rw nm)=>match bk nm with
  |some (.b _ s' ds _)=>bif Nat.beq s' s then some ds else none
  |_=>none
 |some f=>match ke f with
  |some (.sl l)=>some l
  |_=>none
 |none=>none
theorem okD{p:Prop}(h:p:=by rw[aY];omega):p:=h
def BG(r:bP GB C n lk bk ρ G ov a w)(h:rB lk bk s y=some ds)(hk:cI s ds):
  ∃(z:SV) (vs:List Value),aD (cp a) y=some (.slice z.a z.n z.c)/\z.n=vs.length/\IsLs G ds vs/\(∀v∈vs,(aG v).length=s)/\(∀v∈aH vs,Sx.flat v=true)/\m8 P C ov G s z.n (.slice z.a z.n z.c) (aH vs):=by
 have hfl: ∀vs:List Value,IsLs G ds vs->(∀v∈vs,(aG v).length=s)/\ ∀v∈aH vs,Sx.flat v=true:=by
  intro vs hl;refine⟨fun v hv=>?_,fun v hv=>?_⟩
  .obtain⟨d,hd,h3⟩:=hl.all v hv
   obtain⟨k1,k2⟩:=hk d hd;rw[(h3.cells k1).1.len,k2]
  .simp only[aH,List.mem_flatten,aU] at hv
   obtain⟨l,⟨u,hu,rfl⟩,hv⟩:=hv;obtain⟨d,hd,h3⟩:=hl.all u hu;exact(h3.cells (hk d hd).1).2 v hv
 unfold rB at h;split at h
 .rename_i nm hy
  split at h<;>try (cases h;done)
  rename_i ty s' ds' lo hb
  cases hs:Nat.beq s' s with
  |false=>rw[hs] at h;cases h
  |true=>
   rw[hs] at h;cases h
   cases aN hs
   obtain⟨u,h1,h2⟩:=r.ev hy
   cases h2
   obtain⟨B,⟨vs,hB,hv,hs,_⟩,hmem⟩:=r.row (y:= .nilFunc) hb;obtain⟨f1,f2⟩:=hfl _ hv;refine⟨ρ nm,vs,h1,hB.len,hv,f1,f2,?_⟩;rcases hB with⟨e1,e2,e3⟩|⟨b,rest,lo',h3,h4,h5,h6,h7⟩
   .simp only[] at e2
    subst e1;rw[e2];exact vn
   .simp only[] at h3 h4 h5 h6 h7
    have oat:i7 ov b (aH vs++rest) ty lo':=⟨hmem _ (by rw[h4];exact aZ)⟩;rw[show(ρ nm).a=some ⟨b,0,none⟩ by rw[h3],show(ρ nm).n=vs.length by rw[h3]];refine zN oat ?_;rw[ld _ _ _ okD,iZ,gJ we,bS we]
 .rename_i f _ hy
  split at h<;>cases h;rename_i hd;obtain⟨u,h3,h4⟩:=r.ev hy;obtain⟨s',z,es,rfl,hsl,hl⟩:=gr.1 (nq h4 hd);obtain⟨f1,f2⟩:=hfl _ hl;refine⟨z,es,h3,hsl.len,hl,f1,f2,?_⟩;rcases Bx hsl hl hk with he|he
  .subst he
   rw[hsl.len];exact vn
  .subst he;exact aJd hsl
 .cases h
def aFC[hT:cD P t e s by_][hN:j0 P t'](hi:fw P e=some i)(hz:oD i=some z)(hs:Nat.beq z.cells.length s=true)(hx:bj lk x=some (.rw nm))(hb:bk nm=some (.b e s ds true))(hy:rB lk bk s y=some ds2)(hk2:cI s ds2)
  (hby:Nat.blt 0 by_=true)(hbd:(ds.length+ds2.length)*by_<=140737488355328)(hnd:Nat.beq nm d=false)(hds:ds++ds2=ds'):
  b8 P GB C n lk bk ⟨some d, .call ⟨.builtin .append, #[x,y], #[t,t']⟩,ty',pos,af,gd⟩ (.rw d) [(nm,none),(d,some (.b e s ds' true))] [d]:=by
 intro hd tl tb K s1 s2 hf hk;refine⟨fun ρ G ov a w r Q=>?_⟩;subst hds;have r1:=r.mono s1 s2;obtain⟨v,hz1,hz2,hz3⟩:=yt hi hz;have cz:=((hz2 G).cells hz3).1.len;replace hs:=aN hs;rw[lU] at hby
 have hne:nm≠d:=fun e=>by subst e;simp at hnd
 obtain⟨u,hx',hx2⟩:=r1.ev hx
 cases hx2
 obtain⟨B,⟨vs,hB,hv,hvs,hlo⟩,hBo⟩:=r1.row (y:= .nilFunc) hb;simp only[] at hB hv hvs;obtain⟨w2,us,hy',h2,h3,h4,h5,h6⟩:=BG (P:=P) r1 hy hk2;have hus:(aH us).length=us.length*s:=fp us h4;have hbd':(vs.length+us.length)*by_<=140737488355328:=by rw[hv.len,h3.len];exact hbd
 have hall: ∀v∈vs++us,(aG v).length=s:=fun v hv=>by
  rcases bX.1 hv with hv|hv
  .exact hvs v hv
  .exact h4 v hv
 have rd:=r.dropB nm;have hf':kE [d] (some d) tl (Sx.upB tb [(nm,none)]):=fun m hm=>by
  obtain⟨g1,g2⟩:=hf m hm;refine⟨g1,fun k B' hk e=>g2 k B' hk ?_⟩;simp only[Sx.upB] at e;split at e
  .cases e
  .exact e
 have hbk: ∀m B',(Sx.upB tb [(nm,none)]) m=some B'->m≠nm/\tb m=some B':=fun m B' e=>by
  simp only[Sx.upB] at e;split at e
  .cases e
  .exact⟨ome,e⟩
 have hfin: ∀(b:Nat) (cap':Nat) (rest':List Value) (ov1:List aB) a' w',vs.length+us.length<=cap'->rest'.length+(vs.length+us.length)*s=cap'*s->(∀o∈ov,(ρ nm).a≠some ⟨o.b,0,none⟩->o∈ov1)->
   gA C n (put (cp a) (some d) (.slice (some ⟨b,0,none⟩) (vs.length+us.length) cap')) (⟨b,aH (vs++us)++rest',e,true⟩::ov1) G a' w'->K a' w':=by
  intro b cap' rest' ov1 a' w' hc hr ho1 rl;have hnd':=(bY.1 rl.h.nd).1;refine rd.newRow (z:=⟨some ⟨b,0,none⟩,vs.length+us.length,cap'⟩) (B:=[⟨b,aH (vs++us)++rest',e,true⟩]) hf' ⟨vs++us, .inr ⟨b,rest',true,omc,J,fp _ hall,?_,by simpa using hc⟩,hv.app h3,hall,fun _ o ho=>by rw[aR.1 ho]⟩
   (fun o ho=>by rw[aR.1 ho];exact aZ) (fun m B' hm e o ho hmo=>?_) hk rl
  .rw[fp _ hall,aY]
   simp only[];omega
  .obtain⟨h7,h8⟩:=hbk m B' e
   have ho2:=ho1 o ho fun hc=>r.dj m nm B' _ h8 (s2 _ _ hb) h7 _ hmo hc;exact⟨aJ _ ho2,fun e'=>by cases e';exact hnd' o ho2 J⟩
 rcases hB with⟨e1,e2,e3⟩|⟨b,rest,lo',k3,k4,k5,k6,k7⟩
 .subst e1
  rw[e2] at hx';by_cases hne:us=[]
  .subst hne
   have:ds2=[]:=cJ (by rw[<-h3.len];rfl);subst this;rw[h2] at hy';refine RB hx' hy' hd (fun a' w' rl=>?_) a w Q ⟨r.h,r.sz,cC a,r.df⟩;refine rd.newRow (z:=⟨none,0,0⟩) (B:=[]) hf' ⟨[], .inl ⟨J,J,J⟩,by simpa using hv,omc,fun _ o ho=>by cases ho⟩ (fun o ho=>by cases ho) (fun m B' hm e o ho hmo=>⟨ho,fun e'=>by cases e'⟩) hk rl
  .have hup:0<us.length:=oR.2 hne
   rw[h2] at hy' h6;refine Fd (z:=v) (xs:=[]) (ys:=aH us) hx' hy' vn h6 (by show(0:Nat)<0+us.length;omega) hby (by simpa using hbd') hd (fun b cap' hc a' w' rl=>?_) a w Q ⟨r.h,r.sz,cC a,r.df⟩;exact hfin b cap' (dH v (cap'-us.length)) ov a' w' (by simpa using hc) (by rw[pu,cz,hs,<-dY];simp at hc⊢;congr 1;omega) (fun o ho _=>ho) (by simpa using rl)
 .have hl:=hlo J
  subst k4;have hlo':lo'=true:=hl _ aZ;subst hlo';have ha:(ρ nm).a=some ⟨b,0,none⟩:=by rw[k3]
  have hn:(ρ nm).n=vs.length:=by rw[k3]
  rw[ha,hn] at hx';rw[h2] at hy' h6;obtain⟨ov1,o1,o2⟩:=jE.of_mem (hBo _ aZ);refine Nz (z:=v) (xs:=aH vs) (ys:=aH us) (rest:=rest) (own1:=ov1) hx' hy' o1 k5 k6 k7 h6 hus h5 hby hbd' (by rw[cz,hs]) hd (fun b' cap' rest' hc hr a' w' rl=>?_) a w Q ⟨r.h,r.sz,cC a,r.df⟩;rw[<-oE] at rl;exact hfin b' cap' rest' ov1 a' w' hc hr (fun o ho hne=>o2 o ho fun e'=>hne (by rw[ha,e'])) rl
end
section
variable {gd:Option (Nat×Bool)}
def KV{cs:List Value}{i:Nat}{v':Value}(hil:i<vs.length)(hvs: ∀v∈vs,(aG v).length=sz)(hv':aG v'=cH (aG vs[i]) j cs)(hj:j+cs.length<=sz):cH (aH vs++rest) (i*sz+j) cs=aH (vs.set i v')++rest:=by
 have hm:(aG vs[i]).length=sz:=hvs _ (cR hil);have hl':(aG v').length=sz:=by rw[hv',BC,hm]
 rw[<-avI (rest:=rest) (u:=v') vs i hil hvs hl',hv'];have hlv:=fp vs hvs;have hle:i*sz+sz<=vs.length*sz:=by rw[<-gQ];exact bR _ hil
 generalize hmm:aG vs[i]=m at*;have hX:aH vs++rest=(aH vs).take (i*sz)++(m++((aH vs).drop (i*sz+sz)++rest)):=by
  have t1:=KD (rest:=rest) hvs hil;rw[hmm] at t1;obtain⟨_,t2⟩:=AO t1;have t3:m=((aH vs).drop (i*sz)).take sz:=by
   have:m=((aH vs++rest).drop (i*sz)).take sz:=t2;rw[this,lS we,gJ (by rw[gW];omega)]
  rw[t3]
  conv=>lhs;rw[<-jR (i*sz) (aH vs),<-jR sz ((aH vs).drop (i*sz)),uR]
  simp[dV]
 have hP:((aH vs).take (i*sz)).length=i*sz:=by rw[bT];omega
 generalize (aH vs).take (i*sz)=A at hX hP;generalize (aH vs).drop (i*sz+sz)++rest=Z at hX;rw[hX,<-hP,Ps A m Z (cH m j cs) (by rw[BC])];rw[rE _ m j we,rE _ _ _ okW];rw[List.take_append,bS we,Nat.add_sub_cancel_left,gJ we];rw[nT,iW we,kV,show A.length+j+cs.length-A.length=j+cs.length by omega,lS we];simp[dV]
def DN(ag:Option Nat)(d:DV)(j:Nat)(u:DV):Option DV:=match d with
 | .ag l=>match ag with
  |some k=>bif u.okc&&(Nat.beq u.cells.length k&&Nat.ble (j+k) l.length) then some (.ag (Cq l j u.cells)) else none
  |none=>bif u.flat&&Nat.blt j l.length then some (.ag (l.set j u)) else none
 |d=>match ag with
  |some _=>none
  |none=>bif d.flat&&(u.flat&&Nat.beq j 0) then some u else none
def bP.wroteRow(r:bP GB C n lk bk ρ G ov a w)(hb:bk nm=some (.b ty sz ds lo))(ha:(ρ nm).a=some ⟨b,0,none⟩)(hB:d9 G ⟨ρ nm,sz,ty,ds',lo⟩ [⟨b,m',ty,lo'⟩])
  (h1:⟨b,m',ty,lo'⟩∈own')(h2: ∀o∈ov,o.b≠b->o∈own')(hk:SX GB C n (eh lk dst .un) (Sx.upB bk [(nm,some (.b ty sz ds' lo))]) K)(rl:gA C n (Sx.put (cp a) dst undef) own' G a' w'):K a' w':=by
 have r2:=r.upB (G':=G) (ov':=own') (w':=w') (B':= .b ty sz ds' lo) (bI.refl _) rl.h (hB.toBk J) (fun o ho=>by rw[aR.1 ho];exact h1) (fun o ho hne=>h2 o ho fun e=>hne (by rw[ha,e])) ⟨_,hb⟩;exact hk.run _ _ _ a' w' (r2.put J (jp rl))
def SZ(cs:List Value)(o:Nat)(v:Value):cH cs o [v]=cs.set o v:=rfl
def aHJ{k:Nat}{d:DV}(hi:fw P t=some i)(ha:i.ag=some ag)(hx:bj lk x=some (.be nm sz k j))(hb:bk nm=some (.b ty sz ds lo))(hy:evD lk y=some u)(he:ds[k]? =some d)(hl:DN ag d j u=some d')(hds:ds.set k d'=ds'):
  b8 P GB C n lk bk ⟨dst, .store t x y,ty',pos,af,gd⟩ .un [(nm,some (.b ty sz ds' lo))] []:=by
 intro hd tl tb K s1 s2 hf hk;refine⟨fun ρ G ov a w r Q=>?_⟩;subst hds;have r1:=r.mono s1 s2;obtain⟨y',h1,h2⟩:=r1.evD hy;obtain⟨x',h3,b,hwb,rfl⟩:=r1.ev hx;obtain⟨B,hB,hBo⟩:=r1.row (y:= .nilFunc) hb;obtain⟨b',vs,rest,lo',e1,rfl,hv,hvs,hil,hup⟩:=hB.upd he;rw[hwb] at e1;cases e1;obtain⟨v,g1,g2⟩:=hv.get he;obtain⟨g3,g4⟩:=aT.1 g1;have hlv:=fp vs hvs;have hle:k*sz+sz<=vs.length*sz:=by rw[<-gQ];exact bR _ hil
 have hml:(aG v).length=sz:=hvs _ (aK g1)
 cases ag with
 |some q=>
  have:=yJ hi ha;unfold DN at hl;split at hl
  .rename_i l
   simp only at hl
   cases hc:(u.okc&&(Nat.beq u.cells.length q&&Nat.ble (j+q) l.length)) with
   |false=>rw[hc] at hl;cases hl
   |true=>
    rw[hc] at hl;cases hl;simp only[bW,Nat.ble_eq] at hc;obtain⟨c1,c2,c3⟩:=hc;replace c2:=aN c2;obtain⟨c4,c5⟩:=h2.cells c1;obtain⟨m,rfl,hm⟩:=eG.1 g2;have hcl:(aG y').length=q:=by rw[c4.len,c2]
    have hmd:=hm.len;have hsz:m.length=sz:=hml;have key:=hup (.agg ⟨cH m j (aG y')⟩) (.ag (Cq l j u.cells)) (eG.2 ⟨_,J,hm.ov c4⟩) (by show(cH m j (aG y')).length=sz;rw[BC,hsz]);have hov:=KV (rest:=rest) (v':= .agg ⟨cH m j (aG y')⟩) (cs:=aG y') (j:=j) hil hvs (by rw[g4];rfl) we;obtain⟨own',u1,u2,u3⟩:=iq.of_mem (cs':=cH (aH vs++rest) (k*sz+j) (aG y')) (hBo _ aZ);refine Dm h3 h1 u1 hcl okD (dJ.2 c5) hd (fun a' w' rl=>?_) a w Q ⟨r.h,r.sz,cC a,r.df⟩;rw[hov] at u2;exact r.wroteRow (s2 _ _ hb) hwb key u2 u3 hk rl
  .simp at hl
 |none=>
  have:=xy hi ha;unfold DN at hl;split at hl
  .rename_i l
   simp only at hl
   cases hc:(u.flat&&Nat.blt j l.length) with
   |false=>rw[hc] at hl;cases hl
   |true=>
    rw[hc] at hl;cases hl;simp only[bW,lU] at hc;obtain⟨c1,c2⟩:=hc;have hfl:=h2.flat c1;have hcl:=A4 hfl;obtain⟨m,rfl,hm⟩:=eG.1 g2;have hmd:=hm.len;have hsz:m.length=sz:=hml;have key:=hup (.agg ⟨m.set j y'⟩) (.ag (l.set j u)) (eG.2 ⟨_,J,hm.set j h2⟩) (by show(m.set j y').length=sz;rw[bQ,hsz]);have hov:=KV (rest:=rest) (v':= .agg ⟨m.set j y'⟩) (cs:=[y']) (j:=j) hil hvs (by rw[g4];rfl) omp;rw[SZ] at hov;obtain⟨own',u1,u2,u3⟩:=iq.of_mem (cs':=(aH vs++rest).set (k*sz+j) y') (hBo _ aZ);refine vW h3 h1 u1 okD hfl hd (fun a' w' rl=>?_) a w Q ⟨r.h,r.sz,cC a,r.df⟩;rw[hov] at u2;exact r.wroteRow (s2 _ _ hb) hwb key u2 u3 hk rl
  .rename_i hna
   simp only at hl
   cases hc:(d.flat&&(u.flat&&Nat.beq j 0)) with
   |false=>rw[hc] at hl;cases hl
   |true=>
    rw[hc] at hl;cases hl;simp only[bW] at hc;obtain⟨c0,c1,c2⟩:=hc
    cases aN c2
    have hfl:=h2.flat c1;have hcl:=A4 hfl;have hvl:=A4 (g2.flat c0);have h1z:1=sz:=by rw[<-hml,hvl];rfl
    have key:=hup y' d' h2 (by rw[hcl,<-h1z];rfl);have hov:=KV (rest:=rest) (v':=y') (cs:=[y']) (j:=0) hil hvs (by rw[g4,hvl,hcl];rfl) omp;rw[SZ] at hov;obtain⟨own',u1,u2,u3⟩:=iq.of_mem (cs':=(aH vs++rest).set (k*sz+0) y') (hBo _ aZ);refine vW h3 h1 u1 okD hfl hd (fun a' w' rl=>?_) a w Q ⟨r.h,r.sz,cC a,r.df⟩;rw[hov] at u2;exact r.wroteRow (s2 _ _ hb) hwb key u2 u3 hk rl
def nk(lk:LK)(dflt:Nat):Option Operand->Option Int
 |none=>some (dflt:Nat)
 |some o=>match bj lk o with
  |some (.d (.v (.int .i64 i)))=>some i
  |_=>none
def Xj{lo hi:Option Operand}[hT:cD P t e s by_](hx:evD lk x=some (.sl l))(ho:cI s l)(hlo:nk lk 0 lo=some (nlo:Int))(hhi:nk lk l.length hi=some (nhi:Int))(h1:nlo<=nhi)(h2:nhi<=l.length):
  b8 P GB C n lk bk ⟨dst, .slice t x lo hi none,ty',pos,af,gd⟩ (.d (.sl ((l.take nhi).drop nlo))) [] []:= .yd fun ρ G ov a w r=>by
 obtain⟨u,h3,h4⟩:=r.evD hx;obtain⟨s',z,es,rfl,hsl,hl⟩:=gr.1 h4;have hn:=hsl.len;have hcap:=hsl.cap;have hll:=hl.len;have key: ∀mx',nhi<=mx'->mx'<=z.c->Is G (.sl ((l.take nhi).drop nlo)) (oo z.a z.n z.c nlo nhi mx' s):=by
  intro mx' hm1 hm2;rcases Bx hsl hl ho with he|he
  .subst he
   have:l=[]:=cJ (by rw[<-hll];rfl);subst this;have e1:nhi=0:=by simp at h2;exact h2
   have e2:nlo=0:=by omega
   subst e1 e2;refine gr.2 ⟨s,⟨_,0,mx'⟩,[],J,⟨J,aS _, .inl J⟩,by simpa using IsLs.nil⟩
  .subst he
   refine gr.2 ⟨s',⟨_,_,_⟩,_,J,hsl.sub nlo nhi mx' h1 we hm1 hm2,(hl.take nhi).drop nlo⟩
 have bnd: ∀{o:Operand} {d:Nat} {i:Int},nk lk d (some o)=some i->aD (cp a) o=some (.int .i64 i):=fun{o d i} h=>by
  simp only[nk] at h;split at h<;>cases h;rename_i he;obtain⟨q,g1,g2⟩:=r.ev he;rw[dk] at g2;subst g2;exact g1
 match lo,hi,hlo,hhi with
 |none,none,hlo,hhi=>
  simp only[nk,Option.some.injEq] at hlo hhi;have e1:nlo=0:=by omega
  have e2:nhi=l.length:=by omega
  subst e1 e2;refine⟨_,key z.c we (bJ _),?_⟩;intro a w0 hf hh;simp only[execOp,bC hf h3,rX];have h9:=At (P:=P) (t:=t) (ad:=z.a) (len:=z.n) (cap:=z.c) w0 (lo:=none) (hi:=none) (mx:=none) (l:=0) (h:=l.length) (m:=z.c) (fun w0=>by
   simp[Instr.sliceBounds,Result.andThen,run_pure];omega)
  exact c7 h9
 |none,some o2,hlo,hhi=>
  simp only[nk,Option.some.injEq] at hlo;have e1:nlo=0:=by omega
  subst e1;refine⟨_,key z.c we (bJ _),?_⟩;have h9:=Eo (P:=P) (C:=C) (own:=ov) (G:=G) (t:=t) (dst:=dst) (ty':=ty') (pos:=pos) (af:=af) (gd:=gd) h3 (bnd hhi);have e9:oo z.a z.n z.c 0 nhi z.c s= .slice z.a nhi z.c:=by
   unfold oo
   cases z.a with
   |none=>simp
   |some ad=>simp[Addr.add]
  rw[e9];simpa using h9
 |some o1,none,hlo,hhi=>
  simp only[nk,Option.some.injEq] at hhi;have e2:nhi=l.length:=by omega
  subst e2;refine⟨_,key z.c we (bJ _),?_⟩;have h9:=K0 (P:=P) (C:=C) (own:=ov) (G:=G) (t:=t) (dst:=dst) (ty':=ty') (pos:=pos) (af:=af) (gd:=gd) h3 (bnd hlo);have e9:z.n=l.length:=by omega
  rw[cK,e9] at h9;rw[e9];exact h9
 |some o1,some o2,hlo,hhi=>
  refine⟨_,key z.c we (bJ _),?_⟩;have h9:=Y1 (P:=P) (C:=C) (own:=ov) (G:=G) (t:=t) (dst:=dst) (ty':=ty') (pos:=pos) (af:=af) (gd:=gd) h3 (bnd hlo) (bnd hhi) we we we;simpa using h9
def Vg{hi:Operand}[hT:cD P t e s by_](hx:evD lk x=some (.sl l))(ho:cI s l)(hhi:nk lk 0 (some hi)=some (nhi:Int))(hmx:nk lk 0 (some mx)=some (nhi:Int))(h2:nhi<=l.length):
  b8 P GB C n lk bk ⟨dst, .slice t x none (some hi) (some mx),ty',pos,af,gd⟩ (.ct (l.take nhi)) [] []:= .yd fun ρ G ov a w r=>by
 obtain⟨u,h3,h4⟩:=r.evD hx;obtain⟨s',z,es,rfl,hsl,hl⟩:=gr.1 h4;have hn:=hsl.len;have hcap:=hsl.cap;have hll:=hl.len;have bnd: ∀{o:Operand} {d:Nat} {i:Int},nk lk d (some o)=some i->aD (cp a) o=some (.int .i64 i):=fun{o d i} h=>by
  simp only[nk] at h;split at h<;>cases h;rename_i he;obtain⟨q,g1,g2⟩:=r.ev he;rw[dk] at g2;subst g2;exact g1
 refine⟨.slice z.a nhi nhi,⟨⟨_,_,J⟩,Zt hsl hl ho h2 (bJ _) we⟩,?_⟩;have h9:=atZ (P:=P) (C:=C) (own:=ov) (G:=G) (t:=t) (dst:=dst) (ty':=ty') (pos:=pos) (af:=af) (gd:=gd) h3 (bnd hhi) (bnd hmx) we (Int.le_refl _) we;simpa using h9
def R4[hT:cD P t e s by_][hN:j0 P t'](hi:fw P e=some i)(hz:oD i=some z)(hs:Nat.beq z.cells.length s=true)(hx:bj lk x=some (.ct ds)\/(bj lk x=some .nl/\ds=[]))(ox:cI s ds)(hy:rB lk bk s y=some ds2)(hk2:cI s ds2)(hne:0<ds2.length)
  (hby:Nat.blt 0 by_=true)(hbd:(ds.length+ds2.length)*by_<=140737488355328)(hds:ds++ds2=ds'):
  b8 P GB C n lk bk ⟨some d, .call ⟨.builtin .append, #[x,y], #[t,t']⟩,ty',pos,af,gd⟩ (.rw d) [(d,some (.b e s ds' true))] [d]:=by
 intro hd tl tb K s1 s2 hf hk;refine⟨fun ρ G ov a w r Q=>?_⟩;subst hds;have r1:=r.mono s1 s2;obtain⟨v,hz1,hz2,hz3⟩:=yt hi hz;have cz:=((hz2 G).cells hz3).1.len;replace hs:=aN hs;rw[lU] at hby
 obtain⟨w2,us,h1,h2,h3,h4,h5,h6⟩:=BG (P:=P) r1 hy hk2;have hxs:rB lk bk s x=some ds:=by
  unfold rB;rcases hx with hx|⟨hx,rfl⟩<;>rw[hx]<;>rfl
 obtain⟨w1,vs,g1,g2,g3,g4,g5,g6⟩:=BG (P:=P) r1 hxs ox;have hc1:w1.c=w1.n:=by
  rcases hx with hx|⟨hx,rfl⟩
  .obtain⟨y1,k1,⟨a1,n1,rfl⟩,_⟩:=r1.ev hx
   rw[k1] at g1;simp only[Option.some.injEq,Value.slice.injEq] at g1;omega
  .obtain⟨y1,k1,k2⟩:=r1.ev hx
   cases k2
   rw[k1] at g1;simp only[Option.some.injEq,Value.slice.injEq] at g1;omega
 have hl3:=h3.len;have hl4:=g3.len;have hall: ∀v∈vs++us,(aG v).length=s:=fun v hv=>by
  rcases bX.1 hv with hv|hv
  .exact g4 v hv
  .exact h4 v hv
 refine Fd (z:=v) (xs:=aH vs) (ys:=aH us) (ad:=w1.a) (len:=w1.n) (cap:=w1.c) g1 h1 g6 h6 we hby (by rw[g2,h2,hl3,hl4];exact hbd) hd (fun b cap' hc a' w' rl=>?_) a w Q ⟨r.h,r.sz,cC a,r.df⟩;rw[<-oE] at rl;have hnd':=(bY.1 rl.h.nd).1;refine r.newRow (z:=⟨some ⟨b,0,none⟩,w1.n+w2.n,cap'⟩) (B:=[⟨b,aH (vs++us)++dH v (cap'-(w1.n+w2.n)),e,true⟩]) hf ⟨vs++us, .inr ⟨b,_,true,by simp[g2,h2],J,fp _ hall,?_,by simpa[g2,h2] using hc⟩,g3.app h3,hall,fun _ o ho=>by rw[aR.1 ho]⟩
  (fun o ho=>by rw[aR.1 ho];exact aZ) (fun m B' hm e o ho _=>⟨aJ _ ho,fun e'=>by cases e';exact hnd' o ho J⟩) hk rl
 rw[fp _ hall,aY,pu,cz,hs,<-dY,g2,h2];congr 1;rw[g2,h2] at hc;dsimp only;omega
end
end Go.Sx
end
