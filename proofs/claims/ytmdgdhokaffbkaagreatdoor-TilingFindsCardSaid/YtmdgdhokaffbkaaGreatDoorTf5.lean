import Derived.Test.YtmdgdhokaffbkaaGreatDoorTf4
set_option linter.all false
set_option maxRecDepth 100000
section
namespace Go.Sx
open Go
def tt:TT:=[
 (2,⟨.int .i64,1,some [.d (.v (.int .i64 0))],false⟩),
 (3,⟨.int .i64,1,some [.d (.v (.int .i64 0))],false⟩),
 (4,⟨.bl,1,some [.ff],false⟩),
 (5,⟨.int .u8,1,some [.d (.v (.int .u8 0))],false⟩),
 (9,⟨.sc,1,some [.d (.v (.string ⟨#[]⟩))],false⟩),
 (20,⟨.fc,1,some [.d (.v (.nilIface))],false⟩),
 (22,⟨.sl 3 1 8,1,some [.nl],false⟩),
 (23,⟨.pt,1,some [.d (.v (.pointer none))],false⟩),
 (25,⟨.sl 44 1 24,1,some [.nl],false⟩),
 (27,⟨.pt,1,some [.d (.v (.pointer none))],false⟩),
 (29,⟨.sl 225 1 4,1,some [.nl],false⟩),
 (30,⟨.sl 225 1 4,1,some [.nl],false⟩),
 (32,⟨.st [(0,4,1),(1,30,1)],2,some [.ff, .nl],true⟩),
 (34,⟨.st [(0,32,2),(2,30,1)],3,some [.ff, .nl, .nl],true⟩),
 (36,⟨.st [(0,34,3),(3,34,3)],6,some [.ff, .nl, .nl, .ff, .nl, .nl],true⟩),
 (38,⟨.sl 45 1 24,1,some [.nl],false⟩),
 (41,⟨.fc,1,some [.d (.v (.nilIface))],false⟩),
 (42,⟨.sl 52 6 112,1,some [.nl],false⟩),
 (44,⟨.sl 36 6 112,1,some [.nl],false⟩),
 (45,⟨.sl 52 6 112,1,some [.nl],false⟩),
 (46,⟨.sl 225 1 4,1,some [.nl],false⟩),
 (48,⟨.st [(0,4,1),(1,46,1)],2,some [.ff, .nl],true⟩),
 (50,⟨.st [(0,48,2),(2,46,1)],3,some [.ff, .nl, .nl],true⟩),
 (52,⟨.st [(0,50,3),(3,50,3)],6,some [.ff, .nl, .nl, .ff, .nl, .nl],true⟩),
 (67,⟨.sl 233 8 112,1,some [.nl],false⟩),
 (69,⟨.st [(0,3,1),(1,67,1)],2,some [.d (.v (.int .i64 0)), .nl],true⟩),
 (85,⟨.st [(0,22,1),(1,3,1)],2,some [.nl, .d (.v (.int .i64 0))],true⟩),
 (86,⟨.sl 89 1 24,1,some [.nl],false⟩),
 (89,⟨.sl 136 6 96,1,some [.nl],false⟩),
 (96,⟨.sl 106 1 24,1,some [.nl],false⟩),
 (99,⟨.pt,1,some [.d (.v (.pointer none))],false⟩),
 (101,⟨.st [(0,2,1),(1,2,1),(2,99,1)],3,some [.d (.v (.int .i64 0)), .d (.v (.int .i64 0)), .d (.v (.pointer none))],true⟩),
 (103,⟨.st [(0,101,3),(3,101,3)],6,some [.d (.v (.int .i64 0)), .d (.v (.int .i64 0)), .d (.v (.pointer none)), .d (.v (.int .i64 0)), .d (.v (.int .i64 0)), .d (.v (.pointer none))],true⟩),
 (105,⟨.sl 103 6 48,1,some [.nl],false⟩),
 (106,⟨.sl 103 6 48,1,some [.nl],false⟩),
 (115,⟨.st [(0,25,1),(1,3,1),(2,89,1)],3,some [.nl, .d (.v (.int .i64 0)), .nl],true⟩),
 (136,⟨.st [(0,32,2),(2,32,2),(4,32,2)],6,some [.ff, .nl, .ff, .nl, .ff, .nl],true⟩),
 (140,⟨.st [(0,4,1),(1,4,1),(2,136,6),(8,27,1),(9,27,1)],10,some [.ff, .ff, .ff, .nl, .ff, .nl, .ff, .nl, .d (.v (.pointer none)), .d (.v (.pointer none))],true⟩),
 (143,⟨.pt,1,some [.d (.v (.pointer none))],false⟩),
 (151,⟨.o,1,some [.d (.v (.nilFunc))],false⟩),
 (153,⟨.st [(0,143,1),(1,143,1)],2,some [.d (.v (.pointer none)), .d (.v (.pointer none))],true⟩),
 (165,⟨.sl 168 2 32,1,some [.nl],false⟩),
 (168,⟨.st [(0,89,1),(1,4,1)],2,some [.nl, .ff],true⟩),
 (185,⟨.o,12,some [.d (.v (.int .i64 0)), .d (.v (.int .i64 0)), .d (.v (.pointer none)), .d (.v (.int .i64 0)), .d (.v (.int .i64 0)), .d (.v (.pointer none)), .d (.v (.int .i64 0)), .d (.v (.int .i64 0)), .d (.v (.pointer none)), .d (.v (.int .i64 0)), .d (.v (.int .i64 0)), .d (.v (.pointer none))],true⟩),
 (200,⟨.sl 207 14 216,1,some [.nl],false⟩),
 (205,⟨.st [(0,34,3),(3,34,3),(6,4,1),(7,4,1)],8,some [.ff, .nl, .nl, .ff, .nl, .nl, .ff, .ff],true⟩),
 (207,⟨.st [(0,136,6),(6,205,8)],14,some [.ff, .nl, .ff, .nl, .ff, .nl, .ff, .nl, .nl, .ff, .nl, .nl, .ff, .ff],true⟩),
 (217,⟨.sl 41 1 16,1,some [.nl],false⟩),
 (224,⟨.int .u64,1,some [.d (.v (.int .u64 0))],false⟩),
 (225,⟨.int .u32,1,some [.d (.v (.int .u32 0))],false⟩),
 (226,⟨.int .u64,1,some [.d (.v (.int .u64 0))],false⟩),
 (230,⟨.st [(0,48,2),(2,48,2),(4,48,2)],6,some [.ff, .nl, .ff, .nl, .ff, .nl],true⟩),
 (233,⟨.st [(0,230,6),(6,3,1),(7,3,1)],8,some [.ff, .nl, .ff, .nl, .ff, .nl, .d (.v (.int .i64 0)), .d (.v (.int .i64 0))],true⟩),
 (236,⟨.pt,1,some [.d (.v (.pointer none))],false⟩),
 (237,⟨.sl 4 1 1,1,some [.nl],false⟩),
 (239,⟨.st [(0,67,1),(1,237,1),(2,3,1),(3,4,1)],4,some [.nl, .nl, .d (.v (.int .i64 0)), .ff],true⟩),
 (243,⟨.st [(0,101,3),(3,101,3),(6,101,3)],9,some [.d (.v (.int .i64 0)), .d (.v (.int .i64 0)), .d (.v (.pointer none)), .d (.v (.int .i64 0)), .d (.v (.int .i64 0)), .d (.v (.pointer none)), .d (.v (.int .i64 0)), .d (.v (.int .i64 0)), .d (.v (.pointer none))],true⟩),
 (245,⟨.st [(0,243,9),(9,143,1),(10,143,1),(11,4,1)],12,some [.d (.v (.int .i64 0)), .d (.v (.int .i64 0)), .d (.v (.pointer none)), .d (.v (.int .i64 0)), .d (.v (.int .i64 0)), .d (.v (.pointer none)), .d (.v (.int .i64 0)), .d (.v (.int .i64 0)), .d (.v (.pointer none)), .d (.v (.pointer none)), .d (.v (.pointer none)), .ff],true⟩),
 (247,⟨.sl 151 1 8,1,some [.nl],false⟩),
 (249,⟨.sl 143 1 8,1,some [.nl],false⟩),
 (250,⟨.sl 254 1 24,1,some [.nl],false⟩),
 (253,⟨.sl 330 17 128,1,some [.nl],false⟩),
 (254,⟨.sl 330 17 128,1,some [.nl],false⟩),
 (265,⟨.sl 34 3 56,1,some [.nl],false⟩),
 (277,⟨.pt,1,some [.d (.v (.pointer none))],false⟩),
 (279,⟨.st [(0,41,1),(1,3,1),(2,3,1),(3,9,1)],4,some [.d (.v (.nilIface)), .d (.v (.int .i64 0)), .d (.v (.int .i64 0)), .d (.v (.string ⟨#[]⟩))],true⟩),
 (296,⟨.st [(0,48,2),(2,46,1)],3,some [.ff, .nl, .nl],true⟩),
 (322,⟨.sl 325 2 32,1,some [.nl],false⟩),
 (325,⟨.st [(0,254,1),(1,143,1)],2,some [.nl, .d (.v (.pointer none))],true⟩),
 (326,⟨.sl 243 9 72,1,some [.nl],false⟩),
 (328,⟨.st [(0,101,3),(3,101,3),(6,4,1),(7,4,1)],8,some [.d (.v (.int .i64 0)), .d (.v (.int .i64 0)), .d (.v (.pointer none)), .d (.v (.int .i64 0)), .d (.v (.int .i64 0)), .d (.v (.pointer none)), .ff, .ff],true⟩),
 (330,⟨.st [(0,243,9),(9,328,8)],17,some [.d (.v (.int .i64 0)), .d (.v (.int .i64 0)), .d (.v (.pointer none)), .d (.v (.int .i64 0)), .d (.v (.int .i64 0)), .d (.v (.pointer none)), .d (.v (.int .i64 0)), .d (.v (.int .i64 0)), .d (.v (.pointer none)), .d (.v (.int .i64 0)), .d (.v (.int .i64 0)), .d (.v (.pointer none)), .d (.v (.int .i64 0)), .d (.v (.int .i64 0)), .d (.v (.pointer none)), .ff, .ff],true⟩),
 (364,⟨.o,2,some [.nl, .nl],true⟩),
 (365,⟨.sl 205 8 120,1,some [.nl],false⟩),
 (380,⟨.sl 101 3 24,1,some [.nl],false⟩),
 (407,⟨.int .i64,1,some [.d (.v (.int .i64 0))],false⟩),
 (425,⟨.int .u64,1,some [.d (.v (.int .u64 0))],false⟩),
 (429,⟨.pt,1,some [.d (.v (.pointer none))],false⟩),
 (439,⟨.o,32,some (List.replicate 32 (.d (.v (.int .u8 0)))),true⟩),
 (440,⟨.o,64,some (List.replicate 64 (.d (.v (.int .u8 0)))),true⟩),
 (441,⟨.pt,1,some [.d (.v (.pointer none))],false⟩),
 (466,⟨.st [(0,9,1)],1,some [.d (.v (.string ⟨#[]⟩))],true⟩)]
def dw:lg Go.Proofs.Tryz.prog tt:=lg.of we
end Go.Sx
end
section
namespace Go.Sx
open Go Go.Proofs Tryz
variable {GB G:Gh}{fr fr' fr1 fr2:aA}{cf cf' cf1 cf2:Cf}{vc vc' vc1 vc2:List Prop}{o:Oper}{q m d:Nat}{ds:List DV}{ρ:NE}{a:Act}{f:FuncId}{fb:Func}{c fo:Operand}{rv r1 r2:DV}{p:Prop}{x y:Code}{b:Bool}{e:Exit}{lk:LK}{bk:BM}{args:Array Operand}
def nH:Nat->List DV->aA
 |_,[]=>[]
 |i,v::t=>(i, .d v)::nH (i+1) t
class Fu where n:Nat
instance fu0:Fu:=⟨400⟩
section
variable {C:aD}{n:Nat}{Q0:Exit->Act->World->Prop}{own own':aF}{ops:Array Oper}{r:List Oper}{K:List Kt}
def eo(h:go tt n q [] fr own cf=⟨vc,fr',own',cf'⟩)(hv:aj vc)(k:ao prog GB C n Q0 fr' own' cf'):ao prog GB C n Q0 fr own cf:=by
 have:=(hH (GB:=GB) (C:=C) (Q0:=Q0) dw follows q [] fr own cf (by rw[h];exact hv)).2;rw[h] at this;exact this k
def gx[fu:Fu](h:go tt n fu.n [] fr own cf=⟨vc,fr',own',cf'⟩)(k:ao prog GB C n Q0 fr' own' cf')(hv:aj vc:=by first|exact trivial|(simp only[aj];kernel_rfl)|(simp only[aj];omega)|(simp only[aj,aX,aM,aY];omega)):ao prog GB C n Q0 fr own cf:=eo h hv k
def J4: ∀{ds:List DV} {vs:List Value} {ρ:NE} {G:Gh} (i:Nat),IsLs G ds vs-> ∀k f,aI (nH i ds) k=some f-> ∃y,(∃j,k=i+j/\vs[j]? =some y)/\bB ρ G f y
 |[],vs,ρ,G,i,h,k,f,e=>by cases e
 |d::t,vs,ρ,G,i,h,k,f,e=>by
  obtain⟨y,m,rfl,h1,h2⟩:=bE.1 h;simp only[nH] at e;rw[i9] at e;split at e
  .cases e;rename_i hk;exact⟨y,⟨0,hk,rfl⟩,h1⟩
  .obtain⟨u,⟨j,hj,hu⟩,h3⟩:=J4 (i+1) h2 k f e
   exact⟨u,⟨j+1,pb,by simpa using hu⟩,h3⟩
def tc{vs:List Value}(h:IsLs G ds vs)(hf:kh (mG 0 vs) a)(k:Nat)(f:FX)(e:aI (nH 0 ds) k=some f): ∃y,a.tmps[k]? =some y/\bB ρ G f y:=by
 obtain⟨y,⟨j,hj,hy⟩,h1⟩:=J4 (ρ:=ρ) 0 h k f e;refine⟨y,hf k y ?_,h1⟩;rw[hj];exact ua vs 0 j y hy
theorem omS{p:Prop}(h:p:=by rw[hvs.len];exact hlen):p:=h
def fn[fu:Fu]{c:Code}(hf:prog.funcs[f]? =some fb)(hb:fb.body=some c)(hn:(fb.name== "runtime.NumGoroutine")=false)(hm:fb.ntmps=m)(hlen:Nat.ble ds.length m=true)
  (hgo:go tt m fu.n [] (nH 0 ds) [] (.code c [])=⟨vc,fr,own,cf⟩)(k: ∀C:aD,ao prog GB C m (dx C prog fb (je C (fun v G'=>Is G' rv v))) fr own cf)
  (hv:aj vc:=by first|exact trivial|(simp only[aj];kernel_rfl)|(simp only[aj];omega)|(simp only[aj,aX,aM,aY];omega)):PF GB prog f ds rv:=by
 intro G vs hg hvs;refine Fn.introR hf hb hn hm omS fun C _ _ hrd hfx=>?_;intro a w rl;refine o7 hrd ?_;have h:=eo (GB:=GB) (C:=C) (Q0:=dx C prog fb (je C (fun v G'=>Is G' rv v))) hgo hv (k C);exact h.run (fun _=>⟨none,0,0⟩) G [] a w ⟨hg,rl.h,rl.sz,rl.df,(fun k f e=>tc hvs rl.fr k f e),(fun nm B e=>by cases e),(fun nm nm' B B' e=>by cases e),fun nm p _ _ e=>by rw[hfx] at e;cases e⟩
def ao.cond{c:Operand}{x y:Code}{b:Bool}{f:FX}(hc:ba (aI fr) c=some f)(hb:qH f=some b)(h1:b=true->ao prog GB C n Q0 fr own (.code x K))(h2:b=false->ao prog GB C n Q0 fr own (.code y K)):ao prog GB C n Q0 fr own (.code (.cond c x y) K):=SX.cond hc hb h1 h2
variable {own1 own2:aF}
def br[fu1:Fu][fu2:Fu]{hp:Decidable p}(hc:ba (aI fr) c=some (.pr p hp))(g1:go tt n fu1.n [] fr own (.code x K)=⟨vc1,fr1,own1,cf1⟩)(g2:go tt n fu2.n [] fr own (.code y K)=⟨vc2,fr2,own2,cf2⟩)
  (k1:p->ao prog GB C n Q0 fr1 own1 cf1)(k2: ¬p->ao prog GB C n Q0 fr2 own2 cf2)
  (v1:p->aj vc1:=by intro;first|exact trivial|(simp only[aj];omega)|(simp only[aj,aX,aM,aY];omega))(v2: ¬p->aj vc2:=by intro;first|exact trivial|(simp only[aj];omega)|(simp only[aj,aX,aM,aY];omega)):ao prog GB C n Q0 fr own (.code (.cond c x y) K):=
 .cond hc J (fun h=>eo g1 (v1 (of_decide_eq_true h)) (k1 (of_decide_eq_true h))) (fun h=>eo g2 (v2 (of_decide_eq_false h)) (k2 (of_decide_eq_false h)))
def bd[fu1:Fu][fu2:Fu]{hp:Decidable p}(hc:ba (aI fr) c=some (.d (.v (.bool (@decide p hp)))))(g1:go tt n fu1.n [] fr own (.code x K)=⟨vc1,fr1,own1,cf1⟩)(g2:go tt n fu2.n [] fr own (.code y K)=⟨vc2,fr2,own2,cf2⟩)
  (k1:p->ao prog GB C n Q0 fr1 own1 cf1)(k2: ¬p->ao prog GB C n Q0 fr2 own2 cf2)
  (v1:p->aj vc1:=by intro;first|exact trivial|(simp only[aj];omega)|(simp only[aj,aX,aM,aY];omega))(v2: ¬p->aj vc2:=by intro;first|exact trivial|(simp only[aj];omega)|(simp only[aj,aX,aM,aY];omega)):ao prog GB C n Q0 fr own (.code (.cond c x y) K):=
 .cond hc J (fun h=>eo g1 (v1 (of_decide_eq_true h)) (k1 (of_decide_eq_true h))) (fun h=>eo g2 (v2 (of_decide_eq_false h)) (k2 (of_decide_eq_false h)))
def bb[fu1:Fu][fu2:Fu](hc:ba (aI fr) c=some (.d (.v (.bool b))))(g1:go tt n fu1.n [] fr own (.code x K)=⟨vc1,fr1,own1,cf1⟩)(g2:go tt n fu2.n [] fr own (.code y K)=⟨vc2,fr2,own2,cf2⟩)
  (k1:b=true->ao prog GB C n Q0 fr1 own1 cf1)(k2:b=false->ao prog GB C n Q0 fr2 own2 cf2)
  (v1:b=true->aj vc1:=by intro;first|exact trivial|(simp only[aj];omega)|(simp only[aj,aX,aM,aY];omega))(v2:b=false->aj vc2:=by intro;first|exact trivial|(simp only[aj];omega)|(simp only[aj,aX,aM,aY];omega)):ao prog GB C n Q0 fr own (.code (.cond c x y) K):=
 .cond hc J (fun h=>eo g1 (v1 h) (k1 h)) (fun h=>eo g2 (v2 h) (k2 h))
def ow{f g:FX}(hl:aI fr d=some f)(hi: ∀ρ G y,bB ρ G f y->bB ρ G g y){Φ:Act->World->Prop}(h:SX GB C n (aI ((d,g)::fr)) (aO own) Φ):SX GB C n (aI fr) (aO own) Φ:=by
 refine⟨fun ρ G ov a w r=>h.run ρ G ov a w ⟨r.gb,r.h,r.sz,r.df,fun k f' e=>?_,r.bx,r.dj,r.fxd⟩⟩;rw[i9] at e;split at e
 .cases e;rename_i hk;subst hk
  obtain⟨y,h1,h2⟩:=r.fx _ _ hl;exact⟨y,h1,hi _ _ _ h2⟩
 .exact r.fx k f' e
def ah(d:Nat){f:FX}(g:FX)(hl:aI fr d=some f)(e:f=g)(h:ao prog GB C n Q0 ((d,g)::fr) own cf):ao prog GB C n Q0 fr own cf:=by
 have hs:aI ((d,g)::fr)=aI fr:=by
  funext k;rw[i9];split
  .rename_i hk;rw[hk,hl,e]
  .rfl
 cases cf with
 |dr id ops fr0 own0 us r K=>exact fun D=>h ⟨D.pre,by rw[hs];exact D.st,D.snd⟩
 |_=>unfold ao at h⊢;rw[hs] at h;exact h
def kT(d:Nat){hp:Decidable p}(hl:aI fr d=some (.pr p hp))(h:p)(k:ao prog GB C n Q0 ((d, .tt)::fr) own (.ops ops r K)):ao prog GB C n Q0 fr own (.ops ops r K):=
 ow hl (fun _ _ _ e=>by rw[show _=_ from e,decide_eq_true h];exact J) k
def kF(d:Nat){hp:Decidable p}(hl:aI fr d=some (.pr p hp))(h: ¬p)(k:ao prog GB C n Q0 ((d, .ff)::fr) own (.ops ops r K)):ao prog GB C n Q0 fr own (.ops ops r K):=
 ow hl (fun _ _ _ e=>by rw[show _=_ from e,decide_eq_false h];exact J) k
def Tq(d:Nat)(hl:aI fr d=some .nl)(h:ao prog GB C n Q0 ((d, .d (.sl []))::fr) own (.ex e K)):ao prog GB C n Q0 fr own (.ex e K):=
 ow (g:= .d (.sl [])) hl (fun ρ G y hy=>(show Is G (.sl []) y from mh (ρ:=ρ) (f:= .nl) hy J)) h
def PF.to{P:Program}(h:PF GB P f ds r1)(e:r1=r2):PF GB P f ds r2:=e▸h
def cs[fu1:Fu][fu2:Fu](d:Nat){hp:Decidable p}(hl:aI fr d=some (.pr p hp))(g1:go tt n fu1.n [] ((d, .tt)::fr) own (.ops ops r K)=⟨vc1,fr1,own1,cf1⟩)(g2:go tt n fu2.n [] ((d, .ff)::fr) own (.ops ops r K)=⟨vc2,fr2,own2,cf2⟩)
  (k1:p->ao prog GB C n Q0 fr1 own1 cf1)(k2: ¬p->ao prog GB C n Q0 fr2 own2 cf2)
  (v1:p->aj vc1:=by intro;first|exact trivial|(simp only[aj];omega)|(simp only[aj,aX,aM,aY];omega))(v2: ¬p->aj vc2:=by intro;first|exact trivial|(simp only[aj];omega)|(simp only[aj,aX,aM,aY];omega)):ao prog GB C n Q0 fr own (.ops ops r K):=by
 by_cases h:p
 .exact ow hl (fun _ _ _ e=>by rw[show _=_ from e,decide_eq_true h];exact J) (eo g1 (v1 h) (k1 h))
 .exact ow hl (fun _ _ _ e=>by rw[show _=_ from e,decide_eq_false h];exact J) (eo g2 (v2 h) (k2 h))
def ja[fu1:Fu][fu2:Fu](d:Nat)(hl:aI fr d=some (.d (.v (.bool b))))(g1:go tt n fu1.n [] ((d, .tt)::fr) own (.ops ops r K)=⟨vc1,fr1,own1,cf1⟩)(g2:go tt n fu2.n [] ((d, .ff)::fr) own (.ops ops r K)=⟨vc2,fr2,own2,cf2⟩)
  (k1:b=true->ao prog GB C n Q0 fr1 own1 cf1)(k2:b=false->ao prog GB C n Q0 fr2 own2 cf2)
  (v1:b=true->aj vc1:=by intro;first|exact trivial|(simp only[aj];omega)|(simp only[aj,aX,aM,aY];omega))(v2:b=false->aj vc2:=by intro;first|exact trivial|(simp only[aj];omega)|(simp only[aj,aX,aM,aY];omega)):ao prog GB C n Q0 fr own (.ops ops r K):=by
 cases h:b with
 |true=>exact ow hl (fun _ G _ e=>by rw[(bh (G:=G)).1 e,h];exact J) (eo g1 (v1 h) (k1 h))
 |false=>exact ow hl (fun _ G _ e=>by rw[(bh (G:=G)).1 e,h];exact J) (eo g2 (v2 h) (k2 h))
def GT:Cf->Option (Array Oper×Oper)
 | .ops ops (o::_) _=>some (ops,o)
 | .dr _ ops _ _ _ (o::_) _=>some (ops,o)
 |_=>none
def bH(fr:aA):Cf->LK
 | .dr _ ops _ _ _ (o::_) _=>kA (wq ops o) (aI fr)
 |_=>aI fr
def gp(fr:aA)(own:aF):Cf->BM
 | .dr _ ops _ _ _ (o::_) _=>kA (C8 o fr (wq ops o)) (aO own)
 |_=>aO own
def nF:vC:=⟨[False],[],[], .ex .normal []⟩
def cv(T:TT)(n q:Nat)(fr:aA)(own:aF)(cf:Cf)(f:FX)(bl:List (Nat×Option Bk))(nw:List Nat):vC:=match cf with
 | .ops ops (o::r) K=>bif oP nw o.dst fr own&&bP n o.dst then oo own bl fun own'=>vq fr o.dst f fun fr'=>go T n q [] fr' own' (.ops ops r K) else nF
 | .dr id ops fr0 own0 us (o::r) K=>bif bP n o.dst then kb (wq ops o) fun rs=>kb (C8 o fr rs) fun rn=>oo own bl fun own'=>kb (us++[⟨rs,o.dst,f,rn,bl,nw⟩]) fun us'=>vq fr o.dst f fun fr'=>go T n q [] fr' own' (.dr id ops fr0 own0 us' r K) else nF
 |_=>nF
def uC(ops:Array Oper)(lk:LK):Option (Nat×Bool)->Bool
 |none=>true
 |some (j,b)=>match ops[j]? with
  |some oj=>match oj.dst with
   |some d=>match lk d with
    |some .tt=>b
    |some .ff=>!b
    |_=>false
   |none=>false
  |none=>false
def AQ(h:uC ops lk o.guard=true): ∀ρ G ov a w,bz GB C n lk bk ρ G ov a w->Region.wanted o (yielded ops a.tmps)=true:=fun ρ G ov a w r=>by
 unfold Region.wanted;unfold uC at h;split at h
 .rename_i e;rw[e]
 .rename_i j b e
  rw[e];split at h<;>try (cases h;done)
  rename_i oj hj;split at h<;>try (cases h;done)
  rename_i d hd;split at h<;>try (cases h;done)
  .rename_i hl
   obtain⟨y,h1,h2⟩:=zg r hj hd hl
   cases h1;simp only[h2];subst h;rfl
  .rename_i hl
   obtain⟨y,h1,h2⟩:=zg r hj hd hl
   cases h1;simp only[h2];cases b<;>first|rfl|(simp at h)
def uo{f:FX}{bl:List (Nat×Option Bk)}{nw:List Nat}(hh:GT cf=some (ops,o))(hg:uC ops (bH fr cf) o.guard=true)(h:bD prog GB C n (bH fr cf) (gp fr own cf) o f bl nw)
  (hgo:cv tt n q fr own cf f bl nw=⟨vc,fr',own',cf'⟩)(hv:aj vc)(k:ao prog GB C n Q0 fr' own' cf'):ao prog GB C n Q0 fr own cf:=by
 obtain⟨dst,op,ty,pos,af,gd⟩:=o
 cases cf with
 |ops ops' r K=>
  cases r with
  |nil=>cases hh
  |cons o' r=>
   cases hh
   unfold cv at hgo
   cases hc:(oP nw dst fr own&&bP n dst) with
   |false=>simp only[hc,cond_false,nF] at hgo;cases hgo;exact absurd hv (fun x=>x)
   |true=>
    simp only[hc,cond_true] at hgo;simp only[tu,vM] at hgo;simp only[bV] at hc;exact SX.op (h.toS hc.2 (AQ hg)) (t7 hc.1) (eo hgo hv k)
 |dr id ops' fr0 own0 us r K=>
  cases r with
  |nil=>cases hh
  |cons o' r=>
   cases hh
   unfold cv at hgo
   cases hc:bP n dst with
   |false=>simp only[hc,cond_false,nF] at hgo;cases hgo;exact absurd hv (fun x=>x)
   |true=>
    simp only[hc,cond_true,re] at hgo;simp only[tu,vM] at hgo;intro D;exact eo hgo hv k (D.push (h.toS hc (AQ hg)))
 |_=>cases hh
def n9(lk:LK)(fo:Operand)(args:Array Operand):Option (FuncId×List DV):=match ba lk fo with
 |some (.d (.v (.func (.func f) ⟨[]⟩ ⟨[]⟩)))=>match evDs lk args.toList with
  |some ds=>some (f,ds)
  |none=>none
 |_=>none
def vX(h:n9 lk fo args=some (f,ds)):ba lk fo=some (.d (.v (.func (.func f) #[] #[])))/\evDs lk args.toList=some ds:=by
 unfold n9 at h;split at h<;>try (cases h;done)
 rename_i h1;split at h<;>cases h;rename_i h2;exact⟨h1,h2⟩
def Xv{tys:Array TypeId}{dst:Option Nat}{ty:TypeId}{pos:String}{af:Array Edge}{gd:Option (Nat×Bool)}(ha:n9 lk fo args=some (f,ds))(hF:PF GB prog f ds rv):
  bD prog GB C n lk bk ⟨dst, .call ⟨.value fo,args,tys⟩,ty,pos,af,gd⟩ (.d rv) [] []:=by
 intro hd tl tb K' s1 s2 hf hk;refine⟨fun ρ G ov a w r Q=>?_⟩;obtain⟨h1,h2⟩:=vX ha;obtain⟨y,hy,hy'⟩:=(r.mono s1 s2).ev h1;rw[(bh (G:=G)).1 hy'] at hy;obtain⟨vs,h3,h4⟩:=(r.mono s1 s2).evDs h2;refine zC hy h3 (hF G vs r.gb h4) hd (fun v G' hG hK a' w' rl=>?_) a w Q ⟨r.h,r.sz,b9 a,r.df⟩;exact hk.run ρ G' ov a' w' ⟨r.gb.trans hG.le,rl.h,rl.sz,rl.df,(iA rl).fx (fun k g _ e=>by obtain⟨u,h5,h6⟩:=r.fx k g e;exact⟨u,h5,h6.up hG.le⟩) hK,
  fun nm B e=>by obtain⟨os,h5,h6⟩:=r.bx nm B e;exact⟨os,h5.up hG.le,h6⟩,r.dj,r.fxd⟩
def og(T:TT)(fr:aA)(own:aF):List ResultVar->Option (List DV)
 |[]=>some []
 | .tmp t::rs=>match aI fr t with
  |some f=>match ka f with
   |some d=>match og T fr own rs with
    |some l=>some (d::l)
    |none=>none
   |none=>none
  |none=>none
 | .cell a t::rs=>match aI fr a with
  |some (.ov nm 0)=>match di T t with
   |some i=>match aO own nm with
    |some (.o _ cs _)=>match i.ag with
     |some (some k)=>match takeX cs 0 k with
      |some c=>match gO c with
       |some d=>match og T fr own rs with
        |some l=>some (.ag d::l)
        |none=>none
       |none=>none
      |none=>none
     |some none=>match cs[0]? with
      |some c=>match ka c with
       |some d=>match og T fr own rs with
        |some l=>some (d::l)
        |none=>none
       |none=>none
      |none=>none
     |none=>none
    |_=>none
   |none=>none
  |_=>none
def yb{ov:List av}{w:World}(h:bz GB C n (aI fr) (aO own) ρ G ov a w): ∀{rs:List ResultVar} {ds:List DV},og tt fr own rs=some ds-> ∃vs,jn prog (b8 a) ov rs vs/\IsLs G ds vs:=by
 intro rs
 induction rs with
 |nil=>intro ds e;cases e;exact⟨[], .nil, .nil⟩
 |cons x rs ih=>
  intro ds e
  cases x with
  |tmp t=>
   simp only[og] at e;split at e<;>try (cases e;done)
   rename_i f hf;split at e<;>try (cases e;done)
   rename_i d hd;split at e<;>cases e;rename_i l hl;obtain⟨vs,h1,h2⟩:=ih hl;obtain⟨y,h3,h4⟩:=h.fx t f hf;exact⟨y::vs, .tmp (BO h3) h1, .cons (mh h4 hd) h2⟩
  |cell t ty=>
   simp only[og] at e;split at e<;>try (cases e;done)
   rename_i nm hf;split at e<;>try (cases e;done)
   rename_i i hi;split at e<;>try (cases e;done)
   rename_i hb;obtain⟨y,h3,h4⟩:=h.fx t _ hf;obtain⟨b,m,rfl,h5,h6,h7⟩:=h.own h4 hb;have oat:gA ov b m _ _:=⟨h7⟩;split at e<;>try (cases e;done)
   .rename_i k ha
    split at e<;>try (cases e;done)
    rename_i c hc;split at e<;>try (cases e;done)
    rename_i d hd;split at e<;>cases e;rename_i l hl;obtain⟨vs,h1,h2⟩:=ih hl;obtain⟨l',h8,h9⟩:=h6.takeX hc;exact⟨.agg ⟨l'⟩::vs, .agg (BO h3) oat (vp (dw _ _ hi) ha) h8 h1, .cons (eO.2 ⟨l',J,oq h9 hd⟩) h2⟩
   .rename_i ha
    split at e<;>try (cases e;done)
    rename_i c hc;split at e<;>try (cases e;done)
    rename_i d hd;split at e<;>cases e;rename_i l hl;obtain⟨vs,h1,h2⟩:=ih hl;obtain⟨l',h8,h9⟩:=h6.get hc;exact⟨l'::vs, .sc (BO h3) oat (ui (dw _ _ hi) ha) h8 h1, .cons (mh h9 hd) h2⟩
def y9:Exit->Bool
 | .ret=>true
 | .normal=>true
 |_=>false
def rz(hr:og tt fr own fb.results.toList=some ds)(hd:ic ds=rv)(he:y9 e=true:=by rfl):ao prog GB C n (dx C prog fb (je C (fun v G'=>Is G' rv v))) fr own (.ex e []):=by
 refine⟨fun ρ G ov a w r=>?_⟩;obtain⟨vs,h1,h2⟩:=yb r hr;have hk:Is G rv (my vs):=hd▸xI h2
 cases e with
 |ret=>exact zD (C:=C) (n:=n) (fr:=b8 a) (own:=ov) (G:=G) (K:=fun v G'=>Is G' rv v) h1 hk a w ⟨r.h,r.sz,b9 a,r.df⟩
 |normal=>exact FG (C:=C) (n:=n) (fr:=b8 a) (own:=ov) (G:=G) (K:=fun v G'=>Is G' rv v) h1 hk a w ⟨r.h,r.sz,b9 a,r.df⟩
 |_=>cases he
end
end Go.Sx
end
section
namespace Go.Sx
open Go
variable {GB G:Gh}{n e s by_ cap2 i:Nat}{t t' ty' ty:TypeId}{ds:List DV}{ov B:List av}{w:SV}{es rest:List Value}{ad2:Option Addr}
section
variable {P:Program}{C:aD}{E:sk}{fr fr':li}{own own':List ju}{bs bs' bs1:List il}{ops:Array Oper}{Q:Exit->Act->World->Prop}{r:List Oper}{Φ:Act->World->Prop}
variable {dst:Option Nat}{pos:String}{af:Array Edge}{gd:Option (Nat×Bool)}{x y z:Operand}
abbrev SV.f (w:SV):FV:= .d (.v (.slice w.a w.n w.c))
def Xo(z:Value)(k:Nat):aG (List.replicate k z)=dE z k:=by unfold aG dE;rw[List.map_replicate]
def M1{G:Gh}{d:DV}{y:Value}(h:Is G d y): ∀k:Nat,IsLs G (List.replicate k d) (List.replicate k y)
 |0=> .nil
 |k+1=> .cons h (M1 h k)
def NI(pre mid post vs:List Value)(h:vs.length=mid.length):ck (pre++(mid++post)) pre.length vs=pre++(vs++post):=by
 rw[n4 _ _ _ omk];simp[h]
def Qe(z:Value)(k:Nat):dE z (k+1)=aH z++dE z k:=by simp[dE,sV]
def Fi(s:Nat)(ds:List DV):Bool:=ds.all fun d=>d.okc&&Nat.beq d.cells.length s
def Co(h:Fi s ds=true):cd s ds:=fun d hd=>by
 have:=dZ.1 h d hd;simp only[bV] at this;exact⟨this.1,aR this.2⟩
def H8{cs:List Value}{off s:Nat}: ∀(es:List Value),(∀i (h:i<es.length),co cs (off+i*s) s=some (aH es[i]))->off<=cs.length->co cs off (es.length*s)=some (aG es)
 |[],_,ho=>by
  rw[ks _ _ _ okv];simp[aG]
 |v::t,h,ho=>by
  have h0:=h 0 v8;simp only[kK,gW,oX] at h0;obtain⟨k1,k2⟩:=xJ h0;have ih:=H8 (off:=off+s) t (fun i hi=>by
   have:=h (i+1) omW;rw[iX,show off+(i*s+s)=off+s+i*s by omega] at this;simpa using this) pb
  obtain⟨k3,k4⟩:=xJ ih;rw[ks _ _ _ (by simp only[bY,iX];omega)];congr 1;have e1:aG (v::t)=aH v++aG t:=by simp[aG]
  rw[e1,k2,k4,bY,iX,jW (t.length*s) s,List.take_add,List.drop_drop]
def Xy(h:gy G s w es):l6 P C ov G s w.n (.slice w.a w.n w.c) (aG es):=by
 rcases h.mem with he|⟨b,off,cs,ha,hg,hc⟩
 .subst he
  rw[h.len];exact sA
 .rw[ha]
  by_cases he:es=[]
  .subst he;rw[h.len];exact sA
  .have hp:0<es.length:=mQ.2 he
   have h0:=hc 0 hp;have:=(xJ h0).1;rw[h.len];exact Ir hg (H8 es hc pb)
def T3[hT:cg P t e s by_][hN:jh P t']{w:World}:(Builtin.append_ #[t,t'] ty' #[.slice none 0 0, .slice ad2 0 cap2]).run P w= .ok (.slice none 0 0) w:=by
 obtain⟨d,hd1⟩:=hN.un;obtain⟨i,hi,his,hib⟩:=hT.info;have h0:(Builtin.firstCells i.size 0 (.slice ad2 0 cap2)).run P w= .ok #[] w:=by
  cases ad2 with
  |none=>rfl
  |some a=>unfold Builtin.firstCells loadCells;simp[loadCellsFrom,run_pure]
 simp[Builtin.append_,run_underlying hT.un,run_underlying hd1,sizeOf,typeInfo,hi,Builtin.lenOf,h0]
def Hn[hT:cg P t e s by_][hN:jh P t']{fr:Fr}{own:List av}(hx:aB fr x=some (.slice none 0 0))(hy:aB fr y=some (.slice ad2 0 cap2))(hd:bP n dst=true)
  (h:St C n (put fr dst (.slice none 0 0)) own G Φ):Ch P C n fr own G ⟨dst, .call ⟨.builtin .append, #[x,y], #[t,t']⟩,ty',pos,af,gd⟩ Φ:=by
 intro a w Q rl;refine j0 (v:= .slice none 0 0) (w':=w) ?_ (h _ _ (rl.put _ hd));simp only[execOp,resolve,gN,cZ,kJ,bg rl.fr hx,bg rl.fr hy];exact cA T3
def cH.upd{lo:Bool}(h:cH G ⟨w,s,ty,ds,lo⟩ B){d:DV}(hi:ds[i]? =some d):
  ∃b vs rest lo',w.a=some ⟨b,0,none⟩/\B=[⟨b,aG vs++rest,ty,lo'⟩]/\IsLs G ds vs/\(∀v∈vs,(aH v).length=s)/\i<vs.length/\
   ∀u d',Is G d' u->(aH u).length=s->cH G ⟨w,s,ty,ds.set i d',lo⟩ [⟨b,aG (vs.set i u)++rest,ty,lo'⟩]:=by
 obtain⟨vs,hB,hv,hs,hlo⟩:=h;obtain⟨v,h1,h2⟩:=hv.get hi;obtain⟨hi',_⟩:=aS.1 h1;rcases hB with⟨e,_,_⟩|⟨b,rest,lo',h3,h4,h5,h6,h7⟩
 .rw[e] at h1;simp at h1
 .refine⟨b,vs,rest,lo',by simp only[] at h3;rw[h3],h4,hv,hs,hi',fun u d' hu hul=>?_⟩
  have hall: ∀x∈vs.set i u,(aH x).length=s:=fun x hx=>by
   rcases pY hx with h'|rfl
   .exact hs x h'
   .exact hul
  refine⟨vs.set i u, .inr ⟨b,rest,lo',by simpa using h3,J,d6 _ hall,?_,by simpa using h7⟩,hv.set i hu,hall,fun hl o ho=>?_⟩
  .rw[d6 _ hall,aM,<-h5];exact h6
  .have:=hlo hl
   rw[h4] at this;rw[aW.1 ho];have h9:=this ⟨b,aG vs++rest,ty,lo'⟩ aZ;exact h9
def T9{u:Value}(vs:List Value)(i:Nat)(h:i<vs.length)(hs: ∀v∈vs,(aH v).length=s)(hu:(aH u).length=s):ck (aG vs++rest) (i*s) (aH u)=aG (vs.set i u)++rest:=by
 have hl:=d6 vs hs;have hle:i*s+s<=vs.length*s:=by rw[<-iX];exact bX _ h
 rw[n4 _ _ _ (by rw[hu,aU];omega),hu,fY pb,kZ pb,FB vs i hs pb,<-iX,BC vs (i+1) hs h,
  List.set_eq_take_append_cons_drop,if_pos h,show vs.take i++u::vs.drop (i+1)=vs.take i++([u]++vs.drop (i+1)) from J,pg,pg,DB]
 simp
end
end Go.Sx
end
section
namespace Go.Sx
open Go Go.Proofs Tryz
variable {GB G G':Gh}{n nm s k:Nat}{fr' fr1 kf:aA}{own' own1 ko:aF}{α X:Type}{f:FX}{row:Bool}{l ds:List DV}{ρ:NE}{ov ov':List av}{a:Act}{w:World}{lk:LK}{bk:BM}{ty:TypeId}{c d:Code}
section
variable {C:aD}{Q0:Exit->Act->World->Prop}{fr:aA}{own:aF}{cf cf':Cf}{vc vc':List Prop}{ops:Array Oper}{r:List Oper}{o:Oper}{K:List Kt}
def mD(row:Bool)(nm:Nat)(l:List DV):FX->FX
 | .rw m=>bif Nat.beq m nm then(bif row then .d (.sl l) else .no) else .rw m
 | .ov m off=>bif Nat.beq m nm then(bif row then .no else(match off with
  |0=> .d (.pt l)
  |_+1=> .no)) else .ov m off
 | .be m s i j=>bif Nat.beq m nm then .no else .be m s i j
 | .rs m s i j=>bif Nat.beq m nm then .no else .rs m s i j
 | .bx tp pre m post=>bif Nat.beq m nm then(bif row then(match tp with
  |true=> .d (.tp (pre++ .sl l::post))
  |false=> .d (.ag (pre++ .sl l::post))) else .no) else .bx tp pre m post
 |f=>f
def ye(f:FX)(k:FX->α):α:=match f with
 | .d x=>k (.d x)
 | .rw m=>k (.rw m)
 | .ov a b=>k (.ov a b)
 | .be a b c d=>k (.be a b c d)
 | .rs a b c d=>k (.rs a b c d)
 |f=>k f
def B4{k:FX->α}:ye f k=k f:=by cases f<;>rfl
def xb{α:Type}(row:Bool)(nm:Nat)(l:List DV):aA->(aA->α)->α
 |[],k=>k []
 |(j,f)::t,k=>xb row nm l t fun t'=>ye (mD row nm l f) fun f'=>k ((j,f')::t')
def Bw{α:Type}(row:Bool)(nm:Nat)(l:List DV):List FX->(List FX->α)->α
 |[],k=>k []
 |f::t,k=>Bw row nm l t fun t'=>ye (mD row nm l f) fun f'=>k (f'::t')
def xH{α:Type}(row:Bool)(nm:Nat)(l:List DV):aF->(aF->α)->α
 |[],k=>k []
 |(j,B)::t,k=>xH row nm l t fun t'=>bif Nat.beq j nm then k ((j,none)::t') else match B with
  |some (.o ty cs lo)=>Bw row nm l cs fun cs'=>k ((j,some (.o ty cs' lo))::t')
  |B=>k ((j,B)::t')
def rp(row:Bool)(nm:Nat)(l:List DV):Option Bk->Option Bk
 |some (.o ty cs lo)=>some (.o ty (cs.map (mD row nm l)) lo)
 |B=>B
def KD{α:Type}{row:Bool}{nm:Nat}{l:List DV}: ∀{cs:List FX} {k:List FX->α},Bw row nm l cs k=k (cs.map (mD row nm l))
 |[],k=>rfl
 |f::t,k=>by simp only[Bw,B4];rw[KD];rfl
def FO{α:Type}{row:Bool}{nm:Nat}{l:List DV}: ∀{fr:aA} {k:aA->α},xb row nm l fr k=k (fr.map fun e=>(e.1,mD row nm l e.2))
 |[],k=>rfl
 |(j,f)::t,k=>by simp only[xb,B4];rw[FO];rfl
def Hb{α:Type}{row:Bool}{nm:Nat}{l:List DV}: ∀{own:aF} {k:aF->α},xH row nm l own k=k (own.map fun e=>(e.1,bif Nat.beq e.1 nm then none else rp row nm l e.2))
 |[],k=>rfl
 |(j,B)::t,k=>by
  simp only[xH,Hb (own:=t),cZ]
  cases Nat.beq j nm with
  |true=>rfl
  |false=>
   cases B with
   |none=>rfl
   |some B=>cases B<;>simp only[cond_false,KD,rp]
def zr{g:FX->FX}: ∀{fr:aA} {k:Nat},aI (fr.map fun e=>(e.1,g e.2)) k=(aI fr k).map g
 |[],k=>rfl
 |(j,f)::t,k=>by
  simp only[cZ];rw[i9,i9,zr (fr:=t)];split<;>rfl
def Lc{row:Bool}{nm:Nat}{l:List DV}: ∀{own:aF} {k:Nat},aO (own.map fun e=>(e.1,bif Nat.beq e.1 nm then none else rp row nm l e.2)) k=if k=nm then none else rp row nm l (aO own k)
 |[],k=>by simp[aO,rp]
 |(j,B)::t,k=>by
  simp only[cZ];rw[f7,f7,Lc (own:=t)];by_cases h:k=j
  .subst h
   simp only[if_true];by_cases e:k=nm
   .subst e;simp
   .have:Nat.beq k nm=false:=by
     cases hb:Nat.beq k nm with
     |false=>rfl
     |true=>exact absurd (aR hb) e
    simp[this,e]
  .simp[h]
structure yn where
 fr:aA
 own:aF
def xK(fr:aA)(own:aF)(nm:Nat):Option yn:=match aO own nm with
 |some (.b _ _ ds true)=>xb true nm ds fr fun fr'=>xH true nm ds own fun own'=>some ⟨fr',own'⟩
 |some (.o _ cs true)=>match gO cs with
  |some l=>xb false nm l fr fun fr'=>xH false nm l own fun own'=>some ⟨fr',own'⟩
  |none=>none
 |_=>none
def iC.of_mem{o:av}: ∀{own:List av},o∈own-> ∃own',iC own o own'/\ ∀x∈own,x.b≠o.b->x∈own'
 |[],h=>by cases h
 |x::t,h=>by
  rcases aT.1 h with rfl|h
  .exact⟨t, .hd ..,fun y hy hb=>(aT.1 hy).elim (fun e=>absurd okE hb) id⟩
  .obtain⟨own',h1,h2⟩:=iC.of_mem h
   exact⟨x::own', .tl _ _ _ _ h1,fun y hy hb=>(aT.1 hy).elim (fun e=>by rw[e];exact aZ) (fun e=>aK _ (h2 y e hb))⟩
def KN{y:Value}(hg:bA G G')(h:bB ρ G f y)(hr:row=true-> ∀y,bB ρ G (.rw nm) y->Is G' (.sl l) y)(ho:row=false-> ∀y,bB ρ G (.ov nm 0) y->Is G' (.pt l) y):bB ρ G' (mD row nm l f) y:=by
 cases f with
 |rw m=>
  simp only[mD]
  cases hb:Nat.beq m nm with
  |false=>exact h.up hg
  |true=>
   cases aR hb
   cases row with
   |true=>exact hr J y h
   |false=>trivial
 |ov m off=>
  simp only[mD]
  cases hb:Nat.beq m nm with
  |false=>exact h.up hg
  |true=>
   cases aR hb
   cases row with
   |true=>trivial
   |false=>cases off with
    |zero=>exact ho J y h
    |succ=>trivial
 |be m s i j=>
  simp only[mD]
  cases hb:Nat.beq m nm with
  |false=>exact h.up hg
  |true=>trivial
 |rs m s i j=>
  simp only[mD]
  cases hb:Nat.beq m nm with
  |false=>exact h.up hg
  |true=>trivial
 |bx tp pre m post=>
  simp only[mD]
  cases hb:Nat.beq m nm with
  |false=>exact h.up hg
  |true=>
   cases aR hb
   cases row with
   |false=>trivial
   |true=>
    obtain⟨m1,m2,e,h1,h2⟩:=h;have hl:=(h1.up hg).app (.cons (hr J _ J) (h2.up hg))
    cases tp with
    |true=>exact mj.2 ⟨_,e,hl⟩
    |false=>exact eO.2 ⟨_,e,hl⟩
 |_=>exact h.up hg
def KH{row:Bool}{nm:Nat}{l:List DV}{ρ:NE}{G G':Gh}(hg:bA G G')(hr:row=true-> ∀y,bB ρ G (.rw nm) y->Is G' (.sl l) y)(ho:row=false-> ∀y,bB ρ G (.ov nm 0) y->Is G' (.pt l) y): ∀{cs:List FX} {m:List Value},cP ρ G cs m->cP ρ G' (cs.map (mD row nm l)) m
 |[],m,h=>h
 |f::t,m,⟨y,q,e,h1,h2⟩=>⟨y,q,e,KN hg h1 hr ho,KH hg hr ho h2⟩
def bz.frz(h:bz GB C n (aI fr) (aO own) ρ G ov a w)(hg:bA G G')(hh:bu C ov' G' w)(hv: ∀o∈ov,(ρ nm).a≠some ⟨o.b,0,none⟩->o∈ov'){B0:Bk}(hb:aO own nm=some B0)
  (hr:row=true-> ∀y,bB ρ G (.rw nm) y->Is G' (.sl l) y)(ho:row=false-> ∀y,bB ρ G (.ov nm 0) y->Is G' (.pt l) y):
  bz GB C n (aI (fr.map fun e=>(e.1,mD row nm l e.2))) (aO (own.map fun e=>(e.1,bif Nat.beq e.1 nm then none else rp row nm l e.2))) ρ G' ov' a w:=by
 have inv: ∀m B,aO (own.map fun e=>(e.1,bif Nat.beq e.1 nm then none else rp row nm l e.2)) m=some B->m≠nm/\ ∃B1,aO own m=some B1/\rp row nm l (some B1)=some B:=fun m B e=>by
  rw[Lc] at e;split at e
  .cases e
  .rename_i hm
   refine⟨hm,?_⟩
   cases hl:aO own m with
   |none=>rw[hl] at e;cases e
   |some B1=>rw[hl] at e;exact⟨B1,J,e⟩
 refine⟨h.gb.trans hg,hh,h.sz,h.df,fun k f e=>?_,fun m B e=>?_,fun m m' B B' e e'=>?_,h.fxd⟩
 .rw[zr] at e
  cases hf:aI fr k with
  |none=>rw[hf] at e;cases e
  |some g=>
   rw[hf] at e;cases e;obtain⟨y,h1,h2⟩:=h.fx k g hf;exact⟨y,h1,KN hg h2 hr ho⟩
 .obtain⟨hm,B1,h1,h2⟩:=inv m B e
  obtain⟨os,h3,h4⟩:=h.bx m B1 h1;refine⟨os,?_,fun o ho'=>hv o (h4 o ho') fun hc=>h.dj m nm B1 B0 h1 hb hm _ (h3.blk ho') hc⟩
  cases B1 with
  |b=>cases h2;exact h3.up hg
  |c=>cases h2;exact h3.up hg
  |p=>cases h2;exact h3.up hg
  |o ty cs lo=>cases h2;obtain⟨b,q,h5,h6,h7⟩:=h3;exact⟨b,q,h5,h6,KH hg hr ho h7⟩
 .obtain⟨_,B1,h1,_⟩:=inv m B e
  obtain⟨_,B2,h2,_⟩:=inv m' B' e';exact h.dj m m' B1 B2 h1 h2
def bz.frzRow(r:bz GB C n lk bk ρ G ov a w)(hb:bk nm=some (.b ty s ds true)):
  ∃G' ov',bA G G'/\bu C ov' G' w/\(∀o∈ov,(ρ nm).a≠some ⟨o.b,0,none⟩->o∈ov')/\ ∀y,bB ρ G (.rw nm) y->Is G' (.sl ds) y:=by
 obtain⟨B,⟨vs,hB,hv,hs,hlo⟩,hBo⟩:=r.row (y:= .nilFunc) hb;rcases hB with⟨e1,e2,e3⟩|⟨b,rest,lo',e2,e3,h5,h6,h7⟩
 .subst e1
  have ed:ds=[]:=cV (by rw[<-hv.len];rfl);subst ed;simp only at e2;refine⟨G,ov,bA.refl _,r.h,fun o ho _=>ho,fun y hy=>?_⟩;rw[show y=_ from hy,e2];exact ie.2 ⟨0,⟨none,0,0⟩,[],J, .nil G 0, .nil⟩
 .subst e3
  have hl:=hlo J _ aZ;simp only at hl;subst hl;obtain⟨ov',o1,o2⟩:=iC.of_mem (hBo _ aZ);obtain⟨f1,f2⟩:=r.h.freeze o1;simp only at e2;refine⟨_,ov',f2,f1,fun o ho hne=>o2 o ho fun e=>hne (by rw[e2,e]),fun y hy=>?_⟩;rw[show y=_ from hy,e2];exact ie.2 ⟨s,⟨some ⟨b,0,none⟩,vs.length,_⟩,vs,J,gy.of_flat hs (if_pos J) h7,hv.up f2⟩
def bz.frzVar{cs:List FX}(r:bz GB C n lk bk ρ G ov a w)(hb:bk nm=some (.o ty cs true))(hl:gO cs=some l):
  ∃G' ov',bA G G'/\bu C ov' G' w/\(∀o∈ov,(ρ nm).a≠some ⟨o.b,0,none⟩->o∈ov')/\ ∀y,bB ρ G (.ov nm 0) y->Is G' (.pt l) y:=by
 obtain⟨os,⟨b,m,h3,rfl,h4⟩,h5⟩:=r.bx _ _ hb;obtain⟨ov',o1,o2⟩:=iC.of_mem (h5 _ aZ);obtain⟨f1,f2⟩:=r.h.freeze o1;refine⟨_,ov',f2,f1,fun o ho hne=>o2 o ho fun e=>hne (by rw[h3,e]),fun y hy=>?_⟩;obtain⟨b',h6,rfl⟩:=hy;rw[h3] at h6;cases h6;exact oh.2 ⟨b,m,J,if_pos J,(oq h4 hl).up f2⟩
def HJ{Φ:Act->World->Prop}{R:yn}(h:xK fr own nm=some R)(hk:SX GB C n (aI R.fr) (aO R.own) Φ):SX GB C n (aI fr) (aO own) Φ:=by
 refine⟨fun ρ G ov a w r=>?_⟩;unfold xK at h;split at h<;>try (cases h;done)
 .rename_i ty s ds hb
  rw[FO,Hb] at h;cases h;obtain⟨G',ov',h1,h2,h3,h4⟩:=r.frzRow hb;exact hk.run ρ G' ov' a w (r.frz (row:=true) h1 h2 h3 hb (fun _=>h4) (fun e=>by cases e))
 .rename_i ty cs hb
  split at h<;>try (cases h;done)
  rename_i l hl;rw[FO,Hb] at h;cases h;obtain⟨G',ov',h1,h2,h3,h4⟩:=r.frzVar hb hl;exact hk.run ρ G' ov' a w (r.frz (row:=false) h1 h2 h3 hb (fun e=>by cases e) (fun _=>h4))
def fz[fu:Fu](nm:Nat)(h:xK fr own nm=some ⟨fr1,own1⟩)(hgo:go tt n fu.n [] fr1 own1 (.ops ops r K)=⟨vc,fr',own',cf'⟩)(k:ao prog GB C n Q0 fr' own' cf')(hv:aj vc:=by first|exact trivial|(simp only[aj];kernel_rfl)|(simp only[aj];omega)|(simp only[aj,aX,aM,aY];omega)):ao prog GB C n Q0 fr own (.ops ops r K):=
 HJ h (eo hgo hv k)
def fD(nm:Nat){e:Exit}(h:xK fr own nm=some ⟨fr1,own1⟩)(k:ao prog GB C n Q0 fr1 own1 (.ex e K)):ao prog GB C n Q0 fr own (.ex e K):=HJ h k
def lm(nm:Nat)(h:xK fr own nm=some ⟨fr1,own1⟩)(k:ao prog GB C n Q0 fr1 own1 (.code c K)):ao prog GB C n Q0 fr own (.code c K):=HJ h k
def sg:aA->aA->Prop
 |[],_=>True
 |(k,v)::t,fr=>aI fr k=some v/\sg t fr
def tz:aF->aF->Prop
 |[],_=>True
 |(k,v)::t,own=>aO own k=v/\tz t own
def uL: ∀{f:aA},sg f fr->iO (aI f) (aI fr)
 |[],_,k,x,h=>by cases h
 |(j,v)::t,h,k,x,e=>by
  rw[i9] at e;split at e
  .cases e;rename_i hk;rw[hk];exact h.1
  .exact uL h.2 k x e
def tg: ∀{f:aF},tz f own->iO (aO f) (aO own)
 |[],_,k,x,h=>by cases h
 |(j,v)::t,h,k,x,e=>by
  rw[f7] at e;split at e
  .rename_i hk;rw[hk,h.1,e]
  .exact tg h.2 k x e
def nv{q:IntKind}{a b:Int}(h:aI fr k=some (.d (.v (.int q a))))(e:a=b):aI fr k=some (.d (.v (.int q b))):=e▸h
def FM(GB:Gh)(C:aD)(n:Nat)(F:X->aA)(O:X->aF)(I:X->Prop)(a:Act)(w:World):Prop:=
 ∃x ρ G ov,I x/\bz GB C n (aI (F x)) (aO (O x)) ρ G ov a w
def Hv:List Oper->List Nat->List Nat
 |[],l=>l
 |o::r,l=>match o.dst with
  |some d=>d::Hv r l
  |none=>Hv r l
def r8:Code->List Nat->List Nat
 | .region _ ops _,l=>Hv ops.toList l
 | .seq a b,l=>r8 a (r8 b l)
 | .cond _ a b,l=>r8 a (r8 b l)
 | .block _ a,l=>r8 a l
 | .loop a,l=>r8 a l
 | .scope a,l=>r8 a l
 |_,l=>l
def Gp{α:Type}:List Nat->aA->(aA->α)->α
 |_,[],k=>k []
 |l,(j,f)::t,k=>bif th l j then Gp l t k else Gp (j::l) t fun t'=>k ((j,f)::t')
def Ap{α:Type}:List Nat->aF->(aF->α)->α
 |_,[],k=>k []
 |l,(j,B)::t,k=>bif th l j then Ap l t k else match B with
  |some B=>Ap l t fun t'=>k ((j,some B)::t')
  |none=>Ap l t k
structure Kp where
 fr:aA
 own:aF
def keep(c:Code)(uf uo:List Nat)(fr:aA)(own:aF):Kp:=kb (r8 c uo) fun m=>kb (uf++m) fun m'=>Gp m' fr fun fr'=>Ap m own fun own'=>⟨fr',own'⟩
theorem okg{p:Prop}(h:p:=by first|omega|(dsimp only;omega)):p:=h
def lp[fu:Fu](U:X->aA)(V:X->aF)(I:X->Prop)(μ:X->Nat)(x0:X){cf':X->Cf}{fr':X->aA}{own':X->aF}{vc:X->List Prop}(hkp:keep c ((U x0).map (·.1)) ((V x0).map (·.1)) fr own=⟨kf,ko⟩)(hI:I x0)
  (hgo: ∀x,go tt n fu.n [] (U x++kf) (V x++ko) (.code c (.ag (FM GB C n (fun y=>U y++kf) (fun y=>V y++ko) (fun y=>I y/\μ y<μ x))::K))=⟨vc x,fr' x,own' x,cf' x⟩)
  (round: ∀x,I x->ao prog GB C n Q0 (fr' x) (own' x) (cf' x))(hF:sg (U x0++kf) fr:=by repeat (first|exact trivial|refine And.intro J ?_|refine And.intro (nv J okg) ?_|refine And.intro (nv J v8) ?_))(hO:tz (V x0++ko) own:=by repeat (first|exact trivial|refine And.intro J ?_))
  (hv: ∀x,I x->aj (vc x):=by intros;first|exact trivial|(simp only[aj];kernel_rfl)|(simp only[aj];omega)|(simp only[aj,aX,aM,aY];omega)):ao prog GB C n Q0 fr own (.code (.loop c) K):=by
 refine⟨fun ρ G ov a w r=>?_⟩;have r0:=r.mono (uL hF) (tg hO);intro b k cs hro hb hrm;have key: ∀m a w,(∃x ρ G ov,I x/\μ x=m/\bz GB C n (aI (U x++kf)) (aO (V x++ko)) ρ G ov a w)->
   ∃e a' w',cQ C.rd prog Q0 K e a' w'/\ArrivesIn (Machine.fenced prog (FW C.rd)) prog (lone (b.atR a (.code c:: .inLoop c::k)) cs w) b k cs e a' w':=by
  intro m
  induction m using Nat.strongRecOn with
  |_ m ih=>
   intro a w ⟨x,ρ,G,ov,hx,hm,hr⟩;have h1:=eo (GB:=GB) (C:=C) (Q0:=Q0) (hgo x) (hv x hx) (round x hx);obtain⟨e,a₁,w₁,hq,harr⟩:=h1.run ρ G ov a w hr b (.inLoop c::k) cs hro hb hrm
   cases e with
   |normal=>
    obtain⟨x',ρ',G',ov',⟨hx',hlt⟩,hr'⟩:=hq;obtain⟨e₂,a₂,w₂,hq₂,harr₂⟩:=ih (μ x') (hm▸hlt) a₁ w₁ ⟨x',ρ',G',ov',hx',rfl,hr'⟩;exact⟨e₂,a₂,w₂,hq₂, .of_steps (StepsIn.trans harr (.one (fenced_calm hb hrm J) stepR_inLoop)) harr₂⟩
   |exit id=>exact⟨_,a₁,w₁,hq, .pass (x:= .inLoop c) J (fun _ _=> .inl v8) harr⟩
   |goto l=>exact⟨_,a₁,w₁,hq, .pass (x:= .inLoop c) J (fun _ _=> .inl v8) harr⟩
   |ret=>exact⟨_,a₁,w₁,hq, .pass (x:= .inLoop c) J (fun _ _=> .inl v8) harr⟩
   |panic ch=>exact⟨_,a₁,w₁,hq, .pass (x:= .inLoop c) J (fun _ _=> .inl v8) harr⟩
   |outgrown=>exact⟨_,a₁,w₁,hq, .pass (x:= .inLoop c) J (fun _ _=> .inl v8) harr⟩
 obtain⟨e,a',w',q,rr⟩:=key (μ x0) a w ⟨x0,ρ,G,ov,hI,rfl,r0⟩;exact⟨e,a',w',q, .of_steps (.one (fenced_calm hb hrm J) stepR_loop) rr⟩
def at_{F:X->aA}{O:X->aF}{I:X->Prop}(x:X)(hI:I x)(hF:sg (F x) fr:=by repeat (first|exact trivial|refine And.intro J ?_|refine And.intro (nv J okg) ?_|refine And.intro (nv J v8) ?_))(hO:tz (O x) own:=by repeat (first|exact trivial|refine And.intro J ?_)):ao prog GB C n Q0 fr own (.ex .normal (.ag (FM GB C n F O I)::K)):=
 ⟨fun ρ G ov a w r=>⟨x,ρ,G,ov,hI,r.mono (uL hF) (tg hO)⟩⟩
def mg[fu:Fu](U:X->aA)(V:X->aF)(I:X->Prop){cf':X->Cf}{fr':X->aA}{own':X->aF}{vc:X->List Prop}(u0 v0:List Nat)(hkp:keep c u0 v0 fr own=⟨kf,ko⟩)
  (h1:ao prog GB C n Q0 fr own (.code c (.ag (FM GB C n (fun y=>U y++kf) (fun y=>V y++ko) I)::K)))
  (hgo: ∀x,go tt n fu.n [] (U x++kf) (V x++ko) (.code d K)=⟨vc x,fr' x,own' x,cf' x⟩)(k: ∀x,I x->ao prog GB C n Q0 (fr' x) (own' x) (cf' x))(hv: ∀x,I x->aj (vc x):=by intros;first|exact trivial|(simp only[aj];kernel_rfl)|(simp only[aj];omega)|(simp only[aj,aX,aM,aY];omega)):ao prog GB C n Q0 fr own (.code c (.sq d::K)):=by
 refine SX.imp h1 fun a w h=>R9 h ?_;intro e a w h
 cases e with
 |normal=>
  obtain⟨x,ρ,G,ov,hI,hr⟩:=h;have:=eo (GB:=GB) (C:=C) (Q0:=Q0) (hgo x) (hv x hI) (k x hI);exact this.run ρ G ov a w hr
 |_=>exact h
end
end Go.Sx
end
section
namespace Go.Sx
open Go
variable {P:Program}{ops:Array Oper}{Q:Exit->Act->World->Prop}{GB G:Gh}{C:aD}{n e s by_ s' nhi mx':Nat}{fr fr':li}{own' own0 own1 own1':List ju}{bs bs0 bs1 bs1' bs':List il}{E:sk}{r:List Oper}{Φ:Act->World->Prop}{dst:Option Nat}{t t' ty' ty:TypeId}{pos:String}{af:Array Edge}{x y z:Operand}{w:SV}{ds l:List DV}{vs es:List Value}
section
variable {S:World->Prop}{π₂:List (Nat×Bool)}
end
section
variable {own:List ju}{fd:List FD}{π π₂:List (Nat×Bool)}
structure SR (GB:Gh) (C:aD) (n:Nat) (fr:li) (own0:List ju) (bs0:List il) (own1:List ju) (bs1:List il) (fd:List FD) (K:List Nat->(World->Prop)->Act->World->Prop):Prop where
 run: ∀G frv o0 o1,bA GB G->BK G fr frv->OB G own0 bs0 o0->OB G own1 bs1 o1-> ∀fs:Fs,St C n (frv++EM fd fs) (o1++(o0++GS fd fs)) G (K (M8 fd fs) (HS C o0 G))
instance {GB:Gh} {C:aD} {n:Nat} {fr:li} {own0:List ju} {bs0:List il} {own1:List ju} {bs1:List il} {fd:List FD} {K:List Nat->(World->Prop)->Act->World->Prop}:CoeFun (SR GB C n fr own0 bs0 own1 bs1 fd K) (fun _=> ∀G frv o0 o1,bA GB G->BK G fr frv->OB G own0 bs0 o0->OB G own1 bs1 o1-> ∀fs:Fs,St C n (frv++EM fd fs) (o1++(o0++GS fd fs)) G (K (M8 fd fs) (HS C o0 G))):=⟨SR.run⟩
end
section
variable {own:List ju}
variable {gd:Option (Nat×Bool)}
def PB(GB:Gh)(P:Program)(f:FuncId)(mk:SV->List DV)(s:Nat)(ty:TypeId)(dsi:List DV)(mkr:SV->DV)(dso:List DV):Prop:=
 ∀G w vs B,bA GB G->cH G ⟨w,s,ty,dsi,false⟩ B->IsLs G (mk w) vs->lc P f vs B G (fun v own' G'=> ∃w',Is G' (mkr w') v/\cH G' ⟨w',s,ty,dso,false⟩ own')
def cH.asB{G:Gh}{w:SV}{ty:TypeId}{ds:List DV}{lo:Bool}{B:List av}(h:cH G ⟨w,s,ty,ds,lo⟩ B):cH G ⟨w,s,ty,ds,false⟩ (Sx.asB B):=by
 obtain⟨vs,h1,h2,h3,h4⟩:=h;exact⟨vs,h1.asB,h2,h3,fun h=>by cases h⟩
def cH.weak{lo:Bool}{B:List av}(h:cH G ⟨w,s,ty,ds,lo⟩ B):cH G ⟨w,s,ty,ds,false⟩ B:=by
 obtain⟨vs,h1,h2,h3,h4⟩:=h;exact⟨vs,h1,h2,h3,fun h=>by cases h⟩
end
section
variable {own:List ju}
variable {gd:Option (Nat×Bool)}
def PN(GB:Gh)(P:Program)(f:FuncId)(ds:List DV)(ty:TypeId)(ι:Type)(cs:ι->List DV):Prop:=
 ∀G vs,bA GB G->IsLs G ds vs->lc P f vs [] G (fun v own' G'=> ∃x b m,v= .pointer (some ⟨b,0,none⟩)/\own'=[⟨b,m,ty,true⟩]/\IsLs G' (cs x) m)
end
section
variable {own:List ju}
variable {gd:Option (Nat×Bool)}
def So{fr:Fr}{own:List av}{fn:Func}{K:Value->List av->Gh->Prop}(hr:jn P fr own fn.results.toList vs)(own2 own3:List av)(hp:own.Perm own2)(hs:own3.Sublist own2)(hk:own3.Pairwise (fun x y=>x.b≠y.b)->K (my vs) own3 G):St C n fr own G (dx C P fn (qj C K) .ret):=
 fun a w rl hmk=>⟨rl.df.trans hmk,_,rI hr rl.fr rl.h,_,own3,G,J,(rl.h.perm hp).drop hs,hk ((rl.h.perm hp).drop hs).nd⟩
def Qr(hsl:gy G s' w es)(hl:IsLs G l es)(ho:cd s l)(h2:nhi<=l.length)(hm1:nhi<=mx')(hm2:mx'<=w.c):Is G (.sl (l.take nhi)) (.slice w.a nhi mx'):=by
 have hn:=hsl.len;have hcap:=hsl.cap;have hll:=hl.len;have e9: ∀s,lO w.a w.n w.c 0 nhi mx' s= .slice w.a nhi mx':=by
  intro s;unfold lO
  cases w.a with
  |none=>simp
  |some ad=>simp[Addr.add]
 rcases xp hsl hl ho with he|he
 .subst he
  have:l=[]:=cV (by rw[<-hll];rfl);subst this;have e1:nhi=0:=by simp at h2;exact h2
  subst e1;refine ie.2 ⟨s,⟨_,0,mx'⟩,[],J,⟨J,aL _, .inl J⟩,by simpa using IsLs.nil⟩
 .subst he
  have k:=hsl.sub 0 nhi mx' (aL _) pb hm1 hm2;have k2:=ie.2 ⟨s',⟨_,_,_⟩,_,J,k,(hl.take nhi).drop 0⟩;rw[fM] at k2;have e:=e9 s';unfold lO at e;revert k2;simp only[] at*;intro k2
  first|exact e▸k2|(simp at e k2⊢;first|exact k2|(cases hw:w.a<;>simp_all [Addr.add]))
end
end Go.Sx
end
section
namespace Go.Sx
open Go Go.Proofs
variable {P:Program}{T:TT}{GB G:Gh}{C:aD}{n e s by_ d nm sz j len b nlo nhi:Nat}{lk:LK}{bk:BM}{ρ:NE}{ov B ov' own':List av}{a a':Act}{w w':World}{dst ag:Option Nat}{t t' ty' ty:TypeId}{pos:String}{af:Array Edge}{x y mx:Operand}{k k':IntKind}{l ds ds2 ds':List DV}{i:TI}{lo lo':Bool}{c z v d' u:DV}{K:Act->World->Prop}{f:FX}{vs rest m':List Value}
section
variable {gd:Option (Nat×Bool)}
def Zx[hT:cg P t e s by_]{d:DV}{i:Int}(hx:evD lk x=some (.sl l))(hy:ba lk y=some (.d (.v (.int k i))))(h0:0<=i)(he:l[i.toNat]? =some d)(hd:(d.okc&&Nat.beq d.cells.length s)=true):
  bD P GB C n lk bk ⟨dst, .indexAddr t x y,ty',pos,af,gd⟩ (.ep d.cells) [] []:= .yd fun ρ G ov a w r=>by
 simp only[bV] at hd;obtain⟨hd,hs⟩:=hd;obtain⟨u,h1,h2⟩:=r.evD hx;obtain⟨q,g1,g2⟩:=r.ev hy;rw[cC] at g2;subst g2;obtain⟨s',z,es,rfl,hsl,hl⟩:=ie.1 h2;obtain⟨v,h3,h4⟩:=hl.get he;obtain⟨h5,h6⟩:=aS.1 h3;have hc:=(h4.cells hd).1.len;replace hs:=aR hs;rcases hsl.mem with h|⟨b,off,cs,ha,hg,hcs⟩
 .rw[h] at h5;simp at h5
 .have h7:=hcs i.toNat h5
  rw[h6] at h7;have h8:=Cu h7;have:s'=s:=by omega
  subst this;rw[ha] at h1;have hn:=hsl.len;refine⟨.pointer (some ⟨b,off+i.toNat*s',none⟩),⟨b,_,cs,aH v,J,hg,?_,(h4.cells hd).1⟩,Bv h1 g1 h0 pb⟩;rw[<-hc,h8];exact h7
def vg(ag:Option Nat)(cs:List DV)(j:Nat):Option DV:=match ag with
 |some k=>match takeD cs j k with
  |some l=>some (.ag l)
  |none=>none
 |none=>cs[j]?
def JX{k:Nat}{d:DV}(hi:d7 P t=some i)(ha:i.ag=some ag)(hx:ba lk x=some (.be nm sz k j))(hb:bk nm=some (.b ty sz ds lo))(he:ds[k]? =some d)(hd:d.okc=true)(hl:vg ag d.cells j=some c):
  bD P GB C n lk bk ⟨dst, .load t x,ty',pos,af,gd⟩ (.d c) [] []:= .x1 hx fun ρ G ov a w y _ r h1 h2=>by
 obtain⟨b,hwb,rfl⟩:=h2;obtain⟨B,hB,hmem⟩:=r.row (y:= .nilFunc) hb;obtain⟨b',m,rest,lo',l0,e1,rfl,h3,h4⟩:=hB.elem he hd;simp only[] at e1 h3;rw[hwb] at e1;cases e1;have oat:gA ov b (m++rest) ty lo':=⟨hmem _ aZ⟩
 cases ag with
 |some k'=>
  have:=vp hi ha;simp only[vg] at hl;split at hl<;>cases hl;rename_i hl;obtain⟨l',h5,h6⟩:=h4.takeD hl;exact⟨.agg ⟨l'⟩,eO.2 ⟨l',J,h6⟩,CV h1 (Pg h3 h5)⟩
 |none=>
  have:=ui hi ha;simp only[vg] at hl;obtain⟨l',h5,h6⟩:=h4.get hl;have hj:j<sz:=by
   have:=Cu h3;have h7:=(aS.1 h5).1;omega
  exact⟨l',h6,rh h1 (by rw[Nr h3 hj];exact h5)⟩
def cH.toBk{x:SV}(h:cH G ⟨x,s,ty,ds,lo⟩ B)(e:ρ nm=x):i6 ρ G nm (.b ty s ds lo) B:=by
 obtain⟨vs,h1,h2,h3,h4⟩:=h;exact⟨vs,by rw[e];exact h1,h2,h3,h4⟩
theorem okV{p:Prop}(h:p:=by show _=_;simp):p:=h
def bz.newRow(r:bz GB C n lk bk ρ G ov a w){z:SV}(hf:ir [d] (some d) lk bk)(hB:cH G ⟨z,s,ty,ds,true⟩ B)(hos: ∀o∈B,o∈ov')
  (hov: ∀m B',m≠d->bk m=some B'-> ∀o∈ov,(ρ m).a=some ⟨o.b,0,none⟩->o∈ov'/\z.a≠some ⟨o.b,0,none⟩)
  (hk:SX GB C n (dm lk (some d) (.rw d)) (Sx.upB bk [(d,some (.b ty s ds true))]) K)(rl:gh C n (Sx.put (b8 a) (some d) (.slice z.a z.n z.c)) ov' G a' w'):K a' w':=
 hk.run _ _ _ a' w' (r.new' (x:=z) (f:= .rw d) (y:= .slice z.a z.n z.c) hf (bA.refl _) rl.h (hB.toBk v8) hos hov okV (iA rl))
def lv(i:TI):Option DV:=match i.z with
 |some z=>match gO z with
  |some zs=>bif i.za then(bif zs.all DV.flat then some (.ag zs) else none) else(match zs with
   |[d]=>bif d.flat then some d else none
   |_=>none)
  |none=>none
 |none=>none
def XB{d:DV}(h:d.flat=true):d.cells=[d]/\d.okc=true:=by
 cases d<;>first|exact⟨J,h⟩|cases h
theorem ug{d:DV}(hi:d7 P e=some i)(h:lv i=some d): ∃v,iv P e v/\(∀G,Is G d v)/\d.okc=true:=by
 obtain⟨j,hj,hij⟩:=oc hi;unfold lv at h;split at h<;>try (cases h;done)
 rename_i z hz;split at h<;>try (cases h;done)
 rename_i zs hzs;obtain⟨v,h1,h2⟩:=y8 hi hz;have h3: ∀G,IsLs G zs (aH v):=fun G=>oq (h2 (fun _=>⟨none,0,0⟩) G) hzs;have hzv:j.zero=some v:=by have:=h1.inf;rw[hj] at this;simpa using this
 have hza:i.za=HG (some v):=by rw[hij,<-hzv]
 cases hb:i.za with
 |true=>
  rw[hb] at h hza
  cases hc:zs.all DV.flat with
  |false=>rw[hc] at h;cases h
  |true=>
   rw[hc] at h;cases h
   cases v<;>first|(cases hza;done)|skip
   rename_i cs;exact⟨_,h1,fun G=>eO.2 ⟨cs.toList,v8,h3 G⟩,hc⟩
 |false=>
  rw[hb,cond_false] at h;rw[hb] at hza;split at h<;>try (cases h;done)
  rename_i u
  cases hc:u.flat with
  |false=>rw[hc] at h;cases h
  |true=>
   rw[hc] at h;cases h;have hv:aH v=[v]:=by cases v<;>first|rfl|(cases hza;done)
   refine⟨v,h1,fun G=>?_,(XB hc).2⟩;have:=h3 G;rw[hv] at this;exact this.uncons.1
def R7{l:Int}[hT:cg P t e s by_](hi:d7 P e=some i)(hz:lv i=some z)(hs:Nat.beq z.cells.length s=true)(hx:ba lk x=some (.d (.v (.int k l))))(hy:ba lk y=some (.d (.v (.int k' l))))(h0:0<=l)(hb:by_*l<=140737488355328)(hl:l<=1152921504606846976)(hds:List.replicate l.toNat z=ds):
  bD P GB C n lk bk ⟨some d, .makeSlice t x y,ty',pos,af,gd⟩ (.rw d) [(d,some (.b e s ds true))] [d]:=by
 intro hd tl tb K s1 s2 hf hk;refine⟨fun ρ G ov a w r Q=>?_⟩;subst hds;obtain⟨v,hz1,hz2,hz3⟩:=ug hi hz;obtain⟨q1,p1,p2⟩:=(r.mono s1 s2).ev hx;obtain⟨q2,p3,p4⟩:=(r.mono s1 s2).ev hy;rw[cC] at p2 p4;subst p2 p4;have c1:=((hz2 G).cells hz3).1.len;replace hs:=aR hs;have e1: ∀u∈List.replicate l.toNat v,(aH u).length=s:=fun u hu=>by rw[List.eq_of_mem_replicate hu,c1,hs]
 refine I7 p1 p3 h0 hb hl (by rw[c1,hs]) hd (fun b a' w' rl=>?_) a w Q ⟨r.h,r.sz,b9 a,r.df⟩;have hnd:=(bN.1 rl.h.nd).1;refine r.newRow (z:=⟨some ⟨b,0,none⟩,l.toNat,l.toNat⟩) (B:=[⟨b,dE v l.toNat,e,true⟩]) hf ⟨List.replicate l.toNat v, .inr ⟨b,[],true,v8,by rw[Xo,oW],d6 _ e1,by rw[d6 _ e1];simp,v8⟩,M1 (hz2 G) _,e1,fun _ o ho=>by rw[aW.1 ho]⟩
  (fun o ho=>by rw[aW.1 ho];exact aZ) (fun m B' _ _ o ho _=>⟨aK _ ho,fun e'=>?_⟩) hk rl
 cases e';exact hnd o ho J
def vu(lk:LK):Nat->List (Nat×Operand)->Option (List DV)
 |_,[]=>some []
 |j,(i,x)::r=>match evD lk x,vu lk (j+1) r with
  |some d,some l=>bif Nat.beq i j then some (d::l) else none
  |_,_=>none
def Nl(r:bz GB C n lk bk ρ G ov a w){zv:Value}(hz:(aH zv).length=s): ∀(ps:List (Nat×Operand)) (j:Nat) (pre:List Value) (ds:List DV),vu lk j ps=some ds->pre.length=j*s->(∀d∈ds,d.okc=true/\d.cells.length=s)->
  ∃vs,tf (b8 a) s (pre++dE zv ps.length) ps=some (pre++aG vs)/\IsLs G ds vs/\(∀v∈vs,(aH v).length=s)/\vs.length=ps.length
 |[],j,pre,ds,e,hp,hd=>by
  simp only[vu] at e;cases e;exact⟨[],by simp[tf,dE,aG], .nil,v8,J⟩
 |(i,x)::ps,j,pre,ds,e,hp,hd=>by
  simp only[vu] at e;split at e
  .rename_i d l hx hl
   cases hb:Nat.beq i j with
   |false=>rw[hb] at e;cases e
   |true=>
    rw[hb] at e
    cases e
    have:=aR hb;subst this;obtain⟨y,hy,hy'⟩:=r.evD hx;obtain⟨k1,k2⟩:=hd d aZ;have c1:=(hy'.cells k1).1.len;have hov:ck (pre++dE zv (ps.length+1)) (i*s) (aH y)=(pre++aH y)++dE zv ps.length:=by
     rw[Qe,<-hp,NI _ _ _ _ (by rw[c1,k2,hz]),fK]
    obtain⟨vs,h1,h2,h3,h4⟩:=Nl r hz ps (i+1) (pre++aH y) l hl (by rw[aU,c1,k2,hp,iX]) (fun d hd'=>hd d (aK _ hd'));refine⟨y::vs,?_, .cons hy' h2,fun v hv=>?_,by simp[h4]⟩
    .simp only[tf,hy,bY]
     rw[if_pos ⟨by rw[c1,k2],by rw[aU,nA,hz,hp,iX];omega⟩,hov,h1];simp[aG]
    .rcases aT.1 hv with rfl|hv
     .rw[c1,k2]
     .exact h3 v hv
  .cases e
def SI{parts:Array (Nat×Operand)}[hT:cg P t e s by_](hi:d7 P e=some i)(hz:lv i=some z)(hs:Nat.beq z.cells.length s=true)(hb:vu lk 0 parts.toList=some ds)(hok:Fi s ds=true)(hlen:Nat.beq parts.toList.length len=true)(hsm:Nat.ble (len*s) 1000=true)(hs0:Nat.blt 0 (len*s)=true):
  bD P GB C n lk bk ⟨some d, .buildSlice t len parts,ty',pos,af,gd⟩ (.rw d) [(d,some (.b e s ds true))] [d]:=by
 intro hd tl tb K s1 s2 hf hk;refine⟨fun ρ G ov a w r Q=>?_⟩;obtain⟨v,hz1,hz2,hz3⟩:=ug hi hz;have c1:=((hz2 G).cells hz3).1.len;replace hs:=aR hs;have hlen':=aR hlen;obtain⟨vs,h1,h2,h3,h4⟩:=Nl (r.mono s1 s2) (s:=s) (zv:=v) (by rw[c1,hs]) parts.toList 0 [] ds hb v8 (Co hok);rw[kN,kN] at h1;refine ZH (z:=v) (out:=aG vs) (by rw[c1,hs]) (by rw[<-hlen'];exact h1) hsm hs0 hd (fun b a' w' rl=>?_) a w Q ⟨r.h,r.sz,b9 a,r.df⟩;have hnd:=(bN.1 rl.h.nd).1;have hvl:vs.length=len:=by rw[h4,hlen']
 refine r.newRow (z:=⟨some ⟨b,0,none⟩,len,len⟩) (B:=[⟨b,aG vs,e,true⟩]) hf ⟨vs, .inr ⟨b,[],true,by rw[hvl],by rw[oW],d6 _ h3,by rw[d6 _ h3,hvl];simp,by rw[hvl];exact bZ _⟩,h2,h3,fun _ o ho=>by rw[aW.1 ho]⟩
  (fun o ho=>by rw[aW.1 ho];exact aZ) (fun m B' _ _ o ho _=>⟨aK _ ho,fun e'=>?_⟩) hk rl
 cases e';exact hnd o ho J
def YJ[hT:cg P t e s by_]:bD P GB C n lk bk ⟨some d, .buildSlice t 0 #[],ty',pos,af,gd⟩ (.rw d) [(d,some (.b e s [] true))] [d]:=by
 intro hd tl tb K s1 s2 hf hk;refine⟨fun ρ G ov a w r Q=>?_⟩;refine N8 hd (fun b a' w' rl=>?_) a w Q ⟨r.h,r.sz,b9 a,r.df⟩;have hnd:=(bN.1 rl.h.nd).1;refine r.newRow (z:=⟨some ⟨b,0,none⟩,0,0⟩) (B:=[⟨b,[],e,true⟩]) hf ⟨[], .inr ⟨b,[],true,J,by simp[aG],by simp[aG],by simp[aG],v8⟩, .nil,v8,fun _ o ho=>by rw[aW.1 ho]⟩
  (fun o ho=>by rw[aW.1 ho];exact aZ) (fun m B' _ _ o ho _=>⟨aK _ ho,fun e'=>?_⟩) hk rl
 cases e';exact hnd o ho J
def bD.frz{o:Oper}{B:Bk}(hd:o.dst=some d)(h:bD P GB C n lk bk o f [(d,some B)] [d])
  (hz: ∀lk bk ρ G ov a w,bz GB C n lk bk ρ G ov a w->bk d=some B-> ∃G' ov',bA G G'/\bu C ov' G' w/\(∀o∈ov,(ρ d).a≠some ⟨o.b,0,none⟩->o∈ov')/\ ∀y,bB ρ G f y->Is G' v y):bD P GB C n lk bk o (.d v) [(d,none)] [d]:=by
 intro hd' tl tb K s1 s2 hf hk;refine h hd' tl tb K s1 s2 hf ?_;rw[hd] at hk⊢;refine⟨fun ρ G ov a w r=>?_⟩;have hbd:Sx.upB tb [(d,some B)] d=some B:=by simp[Sx.upB]
 obtain⟨G',ov',h1,h2,h3,h4⟩:=hz _ _ ρ G ov a w r hbd;refine hk.run ρ G' ov' a w ⟨r.gb.trans h1,h2,r.sz,r.df,fun k g e=>?_,fun m B' e=>?_,fun m m' B1 B2 e e'=>?_,r.fxd⟩
 .by_cases hk:k=d
  .subst hk
   simp only[dm,if_true] at e;cases e;obtain⟨y,g1,g2⟩:=r.fx k f (by simp[dm]);exact⟨y,g1,h4 y g2⟩
  .simp only[dm,hk,if_false] at e
   obtain⟨y,g1,g2⟩:=r.fx k g (by simp[dm,hk,e]);exact⟨y,g1,g2.up h1⟩
 .simp only[Sx.upB] at e
  split at e
  .cases e
  .rename_i hm
   have e':Sx.upB tb [(d,some B)] m=some B':=by simp[Sx.upB,hm,e]
   obtain⟨os,g1,g2⟩:=r.bx m B' e';exact⟨os,g1.up h1,fun o ho=>h3 o (g2 o ho) fun hc=>r.dj m d B' B e' hbd hm _ (g1.blk ho) hc⟩
 .simp only[Sx.upB] at e e'
  split at e
  .cases e
  .rename_i hm
   split at e'
   .cases e'
   .rename_i hm'
    exact r.dj m m' B1 B2 (by simp[Sx.upB,hm,e]) (by simp[Sx.upB,hm',e'])
def bD.frzRow{o:Oper}{d:Nat}{ty:TypeId}{s:Nat}{ds:List DV}(hd:o.dst=some d)(h:bD P GB C n lk bk o (.rw d) [(d,some (.b ty s ds true))] [d]):bD P GB C n lk bk o (.d (.sl ds)) [(d,none)] [d]:=
 h.frz hd fun _ _ _ _ _ _ _ r hb=>r.frzRow hb
def XM(e:ba lk x=some f)(hc:f.okc=true)(hn:vO f d=true)(hl:gO f.cells=some l):bD P GB C n lk bk ⟨some d, .box t x,ty',pos,af,gd⟩ (.d (.pt l)) [(d,none)] [d]:=
 (N5 e hc hn).frz J fun _ _ _ _ _ _ _ r hb=>r.frzVar hb hl
def mH(lk:LK)(bk:BM)(s:Nat)(y:Operand):Option (List DV):=match ba lk y with
 |some (.rw nm)=>match bk nm with
  |some (.b _ s' ds _)=>bif Nat.beq s' s then some ds else none
  |_=>none
 |some f=>match ka f with
  |some (.sl l)=>some l
  |_=>none
 |none=>none
theorem oku{p:Prop}(h:p:=by rw[aU];omega):p:=h
def wi(r:bz GB C n lk bk ρ G ov a w)(h:mH lk bk s y=some ds)(hk:cd s ds):
  ∃(z:SV) (vs:List Value),aB (b8 a) y=some (.slice z.a z.n z.c)/\z.n=vs.length/\IsLs G ds vs/\(∀v∈vs,(aH v).length=s)/\(∀v∈aG vs,Sx.flat v=true)/\l6 P C ov G s z.n (.slice z.a z.n z.c) (aG vs):=by
 have hfl: ∀vs:List Value,IsLs G ds vs->(∀v∈vs,(aH v).length=s)/\ ∀v∈aG vs,Sx.flat v=true:=by
  intro vs hl;refine⟨fun v hv=>?_,fun v hv=>?_⟩
  .obtain⟨d,hd,h3⟩:=hl.all v hv
   obtain⟨k1,k2⟩:=hk d hd;rw[(h3.cells k1).1.len,k2]
  .simp only[aG,List.mem_flatten,aN] at hv
   obtain⟨l,⟨u,hu,rfl⟩,hv⟩:=hv;obtain⟨d,hd,h3⟩:=hl.all u hu;exact(h3.cells (hk d hd).1).2 v hv
 unfold mH at h;split at h
 .rename_i nm hy
  split at h<;>try (cases h;done)
  rename_i ty s' ds' lo hb
  cases hs:Nat.beq s' s with
  |false=>rw[hs] at h;cases h
  |true=>
   rw[hs] at h;cases h
   cases aR hs
   obtain⟨u,h1,h2⟩:=r.ev hy
   cases h2
   obtain⟨B,⟨vs,hB,hv,hs,_⟩,hmem⟩:=r.row (y:= .nilFunc) hb;obtain⟨f1,f2⟩:=hfl _ hv;refine⟨ρ nm,vs,h1,hB.len,hv,f1,f2,?_⟩;rcases hB with⟨e1,e2,e3⟩|⟨b,rest,lo',h3,h4,h5,h6,h7⟩
   .simp only[] at e2
    subst e1;rw[e2];exact sA
   .simp only[] at h3 h4 h5 h6 h7
    have oat:gA ov b (aG vs++rest) ty lo':=⟨hmem _ (by rw[h4];exact aZ)⟩;rw[show(ρ nm).a=some ⟨b,0,none⟩ by rw[h3],show(ρ nm).n=vs.length by rw[h3]];refine AX oat ?_;rw[ks _ _ _ oku,fM,fY pb,bK pb]
 .rename_i f _ hy
  split at h<;>cases h;rename_i hd;obtain⟨u,h3,h4⟩:=r.ev hy;obtain⟨s',z,es,rfl,hsl,hl⟩:=ie.1 (mh h4 hd);obtain⟨f1,f2⟩:=hfl _ hl;refine⟨z,es,h3,hsl.len,hl,f1,f2,?_⟩;rcases xp hsl hl hk with he|he
  .subst he
   rw[hsl.len];exact sA
  .subst he;exact Xy hsl
 .cases h
theorem okn{p:Prop}(h:p:=by rw[nA,cz,hs,<-cN];simp at hc⊢;congr 1;omega):p:=h
theorem okP{p:Prop}(h:p:=by show(0:Nat)<0+us.length;omega):p:=h
def SQ[hT:cg P t e s by_][hN:jh P t'](hi:d7 P e=some i)(hz:lv i=some z)(hs:Nat.beq z.cells.length s=true)(hx:ba lk x=some (.rw nm))(hb:bk nm=some (.b e s ds true))(hy:mH lk bk s y=some ds2)(hk2:cd s ds2)
  (hby:Nat.blt 0 by_=true)(hbd:(ds.length+ds2.length)*by_<=140737488355328)(hnd:Nat.beq nm d=false)(hds:ds++ds2=ds'):
  bD P GB C n lk bk ⟨some d, .call ⟨.builtin .append, #[x,y], #[t,t']⟩,ty',pos,af,gd⟩ (.rw d) [(nm,none),(d,some (.b e s ds' true))] [d]:=by
 intro hd tl tb K s1 s2 hf hk;refine⟨fun ρ G ov a w r Q=>?_⟩;subst hds;have r1:=r.mono s1 s2;obtain⟨v,hz1,hz2,hz3⟩:=ug hi hz;have cz:=((hz2 G).cells hz3).1.len;replace hs:=aR hs;rw[jN] at hby
 have hne:nm≠d:=fun e=>by subst e;simp at hnd
 obtain⟨u,hx',hx2⟩:=r1.ev hx
 cases hx2
 obtain⟨B,⟨vs,hB,hv,hvs,hlo⟩,hBo⟩:=r1.row (y:= .nilFunc) hb;simp only[] at hB hv hvs;obtain⟨w2,us,hy',h2,h3,h4,h5,h6⟩:=wi (P:=P) r1 hy hk2;have hus:(aG us).length=us.length*s:=d6 us h4;have hbd':(vs.length+us.length)*by_<=140737488355328:=by rw[hv.len,h3.len];exact hbd
 have hall: ∀v∈vs++us,(aH v).length=s:=fun v hv=>by
  rcases bJ.1 hv with hv|hv
  .exact hvs v hv
  .exact h4 v hv
 have rd:=r.dropB nm;have hf':ir [d] (some d) tl (Sx.upB tb [(nm,none)]):=fun m hm=>by
  obtain⟨g1,g2⟩:=hf m hm;refine⟨g1,fun k B' hk e=>g2 k B' hk ?_⟩;simp only[Sx.upB] at e;split at e
  .cases e
  .exact e
 have hbk: ∀m B',(Sx.upB tb [(nm,none)]) m=some B'->m≠nm/\tb m=some B':=fun m B' e=>by
  simp only[Sx.upB] at e;split at e
  .cases e
  .exact⟨oma,e⟩
 have hfin: ∀(b:Nat) (cap':Nat) (rest':List Value) (ov1:List av) a' w',vs.length+us.length<=cap'->rest'.length+(vs.length+us.length)*s=cap'*s->(∀o∈ov,(ρ nm).a≠some ⟨o.b,0,none⟩->o∈ov1)->
   gh C n (put (b8 a) (some d) (.slice (some ⟨b,0,none⟩) (vs.length+us.length) cap')) (⟨b,aG (vs++us)++rest',e,true⟩::ov1) G a' w'->K a' w':=by
  intro b cap' rest' ov1 a' w' hc hr ho1 rl;have hnd':=(bN.1 rl.h.nd).1;refine rd.newRow (z:=⟨some ⟨b,0,none⟩,vs.length+us.length,cap'⟩) (B:=[⟨b,aG (vs++us)++rest',e,true⟩]) hf' ⟨vs++us, .inr ⟨b,rest',true,v8,J,d6 _ hall,?_,by simpa using hc⟩,hv.app h3,hall,fun _ o ho=>by rw[aW.1 ho]⟩
   (fun o ho=>by rw[aW.1 ho];exact aZ) (fun m B' hm e o ho hmo=>?_) hk rl
  .rw[d6 _ hall,aU]
   simp only[];omega
  .obtain⟨h7,h8⟩:=hbk m B' e
   have ho2:=ho1 o ho fun hc=>r.dj m nm B' _ h8 (s2 _ _ hb) h7 _ hmo hc;exact⟨aK _ ho2,fun e'=>by cases e';exact hnd' o ho2 J⟩
 rcases hB with⟨e1,e2,e3⟩|⟨b,rest,lo',k3,k4,k5,k6,k7⟩
 .subst e1
  rw[e2] at hx';by_cases hne:us=[]
  .subst hne
   have:ds2=[]:=cV (by rw[<-h3.len];rfl);subst this;rw[h2] at hy';refine Hn hx' hy' hd (fun a' w' rl=>?_) a w Q ⟨r.h,r.sz,b9 a,r.df⟩;refine rd.newRow (z:=⟨none,0,0⟩) (B:=[]) hf' ⟨[], .inl ⟨J,J,J⟩,by simpa using hv,v8,fun _ o ho=>by cases ho⟩ (fun o ho=>by cases ho) (fun m B' hm e o ho hmo=>⟨ho,fun e'=>by cases e'⟩) hk rl
  .have hup:0<us.length:=mQ.2 hne
   rw[h2] at hy' h6;refine Bo (z:=v) (xs:=[]) (ys:=aG us) hx' hy' sA h6 okP hby (by simpa using hbd') hd (fun b cap' hc a' w' rl=>?_) a w Q ⟨r.h,r.sz,b9 a,r.df⟩;exact hfin b cap' (dE v (cap'-us.length)) ov a' w' (by simpa using hc) okn (fun o ho _=>ho) (by simpa using rl)
 .have hl:=hlo J
  subst k4;have hlo':lo'=true:=hl _ aZ;subst hlo';have ha:(ρ nm).a=some ⟨b,0,none⟩:=by rw[k3]
  have hn:(ρ nm).n=vs.length:=by rw[k3]
  rw[ha,hn] at hx';rw[h2] at hy' h6;obtain⟨ov1,o1,o2⟩:=iC.of_mem (hBo _ aZ);refine DF (z:=v) (xs:=aG vs) (ys:=aG us) (rest:=rest) (own1:=ov1) hx' hy' o1 k5 k6 k7 h6 hus h5 hby hbd' (by rw[cz,hs]) hd (fun b' cap' rest' hc hr a' w' rl=>?_) a w Q ⟨r.h,r.sz,b9 a,r.df⟩;rw[<-pg] at rl;exact hfin b' cap' rest' ov1 a' w' hc hr (fun o ho hne=>o2 o ho fun e'=>hne (by rw[ha,e'])) rl
end
section
variable {gd:Option (Nat×Bool)}
def D6{cs:List Value}{i:Nat}{v':Value}(hil:i<vs.length)(hvs: ∀v∈vs,(aH v).length=sz)(hv':aH v'=ck (aH vs[i]) j cs)(hj:j+cs.length<=sz):ck (aG vs++rest) (i*sz+j) cs=aG (vs.set i v')++rest:=by
 have hm:(aH vs[i]).length=sz:=hvs _ (bL hil);have hl':(aH v').length=sz:=by rw[hv',xf,hm]
 rw[<-T9 (rest:=rest) (u:=v') vs i hil hvs hl',hv'];have hlv:=d6 vs hvs;have hle:i*sz+sz<=vs.length*sz:=by rw[<-iX];exact bX _ hil
 generalize hmm:aH vs[i]=m at*;have hX:aG vs++rest=(aG vs).take (i*sz)++(m++((aG vs).drop (i*sz+sz)++rest)):=by
  have t1:=Es (rest:=rest) hvs hil;rw[hmm] at t1;obtain⟨_,t2⟩:=xJ t1;have t3:m=((aG vs).drop (i*sz)).take sz:=by
   have:m=((aG vs++rest).drop (i*sz)).take sz:=t2;rw[this,kZ pb,fY (by rw[gU];omega)]
  rw[t3]
  conv=>lhs;rw[<-jK (i*sz) (aG vs),<-jK sz ((aG vs).drop (i*sz)),List.drop_drop]
  simp[fK]
 have hP:((aG vs).take (i*sz)).length=i*sz:=by rw[bR];omega
 generalize (aG vs).take (i*sz)=A at hX hP;generalize (aG vs).drop (i*sz+sz)++rest=Z at hX;rw[hX,<-hP,NI A m Z (ck m j cs) (by rw[xf])];rw[n4 _ m j pb,n4 _ _ _ okO];rw[List.take_append,bK pb,Nat.add_sub_cancel_left,fY pb];rw[mX,gS pb,kN,show A.length+j+cs.length-A.length=j+cs.length by omega,kZ pb];simp[fK]
def Bj(ag:Option Nat)(d:DV)(j:Nat)(u:DV):Option DV:=match d with
 | .ag l=>match ag with
  |some k=>bif u.okc&&(Nat.beq u.cells.length k&&Nat.ble (j+k) l.length) then some (.ag (CJ l j u.cells)) else none
  |none=>bif u.flat&&Nat.blt j l.length then some (.ag (l.set j u)) else none
 |d=>match ag with
  |some _=>none
  |none=>bif d.flat&&(u.flat&&Nat.beq j 0) then some u else none
def bz.wroteRow(r:bz GB C n lk bk ρ G ov a w)(hb:bk nm=some (.b ty sz ds lo))(ha:(ρ nm).a=some ⟨b,0,none⟩)(hB:cH G ⟨ρ nm,sz,ty,ds',lo⟩ [⟨b,m',ty,lo'⟩])
  (h1:⟨b,m',ty,lo'⟩∈own')(h2: ∀o∈ov,o.b≠b->o∈own')(hk:SX GB C n (dm lk dst .un) (Sx.upB bk [(nm,some (.b ty sz ds' lo))]) K)(rl:gh C n (Sx.put (b8 a) dst undef) own' G a' w'):K a' w':=by
 have r2:=r.upB (G':=G) (ov':=own') (w':=w') (B':= .b ty sz ds' lo) (bA.refl _) rl.h (hB.toBk J) (fun o ho=>by rw[aW.1 ho];exact h1) (fun o ho hne=>h2 o ho fun e=>hne (by rw[ha,e])) ⟨_,hb⟩;exact hk.run _ _ _ a' w' (r2.put J (iA rl))
def H9(cs:List Value)(o:Nat)(v:Value):ck cs o [v]=cs.set o v:=rfl
def Sc{k:Nat}{d:DV}(hi:d7 P t=some i)(ha:i.ag=some ag)(hx:ba lk x=some (.be nm sz k j))(hb:bk nm=some (.b ty sz ds lo))(hy:evD lk y=some u)(he:ds[k]? =some d)(hl:Bj ag d j u=some d')(hds:ds.set k d'=ds'):
  bD P GB C n lk bk ⟨dst, .store t x y,ty',pos,af,gd⟩ .un [(nm,some (.b ty sz ds' lo))] []:=by
 intro hd tl tb K s1 s2 hf hk;refine⟨fun ρ G ov a w r Q=>?_⟩;subst hds;have r1:=r.mono s1 s2;obtain⟨y',h1,h2⟩:=r1.evD hy;obtain⟨x',h3,b,hwb,rfl⟩:=r1.ev hx;obtain⟨B,hB,hBo⟩:=r1.row (y:= .nilFunc) hb;obtain⟨b',vs,rest,lo',e1,rfl,hv,hvs,hil,hup⟩:=hB.upd he;rw[hwb] at e1;cases e1;obtain⟨v,g1,g2⟩:=hv.get he;obtain⟨g3,g4⟩:=aS.1 g1;have hlv:=d6 vs hvs;have hle:k*sz+sz<=vs.length*sz:=by rw[<-iX];exact bX _ hil
 have hml:(aH v).length=sz:=hvs _ (aV g1)
 cases ag with
 |some q=>
  have:=vp hi ha;unfold Bj at hl;split at hl
  .rename_i l
   simp only at hl
   cases hc:(u.okc&&(Nat.beq u.cells.length q&&Nat.ble (j+q) l.length)) with
   |false=>rw[hc] at hl;cases hl
   |true=>
    rw[hc] at hl;cases hl;simp only[bV,Nat.ble_eq] at hc;obtain⟨c1,c2,c3⟩:=hc;replace c2:=aR c2;obtain⟨c4,c5⟩:=h2.cells c1;obtain⟨m,rfl,hm⟩:=eO.1 g2;have hcl:(aH y').length=q:=by rw[c4.len,c2]
    have hmd:=hm.len;have hsz:m.length=sz:=hml;have key:=hup (.agg ⟨ck m j (aH y')⟩) (.ag (CJ l j u.cells)) (eO.2 ⟨_,J,hm.ov c4⟩) (by show(ck m j (aH y')).length=sz;rw[xf,hsz]);have hov:=D6 (rest:=rest) (v':= .agg ⟨ck m j (aH y')⟩) (cs:=aH y') (j:=j) hil hvs (by rw[g4];rfl) pb;obtain⟨own',u1,u2,u3⟩:=gv.of_mem (cs':=ck (aG vs++rest) (k*sz+j) (aH y')) (hBo _ aZ);refine AM h3 h1 u1 hcl oku (dZ.2 c5) hd (fun a' w' rl=>?_) a w Q ⟨r.h,r.sz,b9 a,r.df⟩;rw[hov] at u2;exact r.wroteRow (s2 _ _ hb) hwb key u2 u3 hk rl
  .simp at hl
 |none=>
  have:=ui hi ha;unfold Bj at hl;split at hl
  .rename_i l
   simp only at hl
   cases hc:(u.flat&&Nat.blt j l.length) with
   |false=>rw[hc] at hl;cases hl
   |true=>
    rw[hc] at hl;cases hl;simp only[bV,jN] at hc;obtain⟨c1,c2⟩:=hc;have hfl:=h2.flat c1;have hcl:=wv hfl;obtain⟨m,rfl,hm⟩:=eO.1 g2;have hmd:=hm.len;have hsz:m.length=sz:=hml;have key:=hup (.agg ⟨m.set j y'⟩) (.ag (l.set j u)) (eO.2 ⟨_,J,hm.set j h2⟩) (by show(m.set j y').length=sz;rw[aM,hsz]);have hov:=D6 (rest:=rest) (v':= .agg ⟨m.set j y'⟩) (cs:=[y']) (j:=j) hil hvs (by rw[g4];rfl) omk;rw[H9] at hov;obtain⟨own',u1,u2,u3⟩:=gv.of_mem (cs':=(aG vs++rest).set (k*sz+j) y') (hBo _ aZ);refine xW h3 h1 u1 oku hfl hd (fun a' w' rl=>?_) a w Q ⟨r.h,r.sz,b9 a,r.df⟩;rw[hov] at u2;exact r.wroteRow (s2 _ _ hb) hwb key u2 u3 hk rl
  .rename_i hna
   simp only at hl
   cases hc:(d.flat&&(u.flat&&Nat.beq j 0)) with
   |false=>rw[hc] at hl;cases hl
   |true=>
    rw[hc] at hl;cases hl;simp only[bV] at hc;obtain⟨c0,c1,c2⟩:=hc
    cases aR c2
    have hfl:=h2.flat c1;have hcl:=wv hfl;have hvl:=wv (g2.flat c0);have h1z:1=sz:=by rw[<-hml,hvl];rfl
    have key:=hup y' d' h2 (by rw[hcl,<-h1z];rfl);have hov:=D6 (rest:=rest) (v':=y') (cs:=[y']) (j:=0) hil hvs (by rw[g4,hvl,hcl];rfl) omk;rw[H9] at hov;obtain⟨own',u1,u2,u3⟩:=gv.of_mem (cs':=(aG vs++rest).set (k*sz+0) y') (hBo _ aZ);refine xW h3 h1 u1 oku hfl hd (fun a' w' rl=>?_) a w Q ⟨r.h,r.sz,b9 a,r.df⟩;rw[hov] at u2;exact r.wroteRow (s2 _ _ hb) hwb key u2 u3 hk rl
def lj(lk:LK)(dflt:Nat):Option Operand->Option Int
 |none=>some (dflt:Nat)
 |some o=>match ba lk o with
  |some (.d (.v (.int .i64 i)))=>some i
  |_=>none
def Qp{lo hi:Option Operand}[hT:cg P t e s by_](hx:evD lk x=some (.sl l))(ho:cd s l)(hlo:lj lk 0 lo=some (nlo:Int))(hhi:lj lk l.length hi=some (nhi:Int))(h1:nlo<=nhi)(h2:nhi<=l.length):
  bD P GB C n lk bk ⟨dst, .slice t x lo hi none,ty',pos,af,gd⟩ (.d (.sl ((l.take nhi).drop nlo))) [] []:= .yd fun ρ G ov a w r=>by
 obtain⟨u,h3,h4⟩:=r.evD hx;obtain⟨s',z,es,rfl,hsl,hl⟩:=ie.1 h4;have hn:=hsl.len;have hcap:=hsl.cap;have hll:=hl.len;have key: ∀mx',nhi<=mx'->mx'<=z.c->Is G (.sl ((l.take nhi).drop nlo)) (lO z.a z.n z.c nlo nhi mx' s):=by
  intro mx' hm1 hm2;rcases xp hsl hl ho with he|he
  .subst he
   have:l=[]:=cV (by rw[<-hll];rfl);subst this;have e1:nhi=0:=by simp at h2;exact h2
   have e2:nlo=0:=by omega
   subst e1 e2;refine ie.2 ⟨s,⟨_,0,mx'⟩,[],J,⟨J,aL _, .inl J⟩,by simpa using IsLs.nil⟩
  .subst he
   refine ie.2 ⟨s',⟨_,_,_⟩,_,J,hsl.sub nlo nhi mx' h1 pb hm1 hm2,(hl.take nhi).drop nlo⟩
 have bnd: ∀{o:Operand} {d:Nat} {i:Int},lj lk d (some o)=some i->aB (b8 a) o=some (.int .i64 i):=fun{o d i} h=>by
  simp only[lj] at h;split at h<;>cases h;rename_i he;obtain⟨q,g1,g2⟩:=r.ev he;rw[cC] at g2;subst g2;exact g1
 match lo,hi,hlo,hhi with
 |none,none,hlo,hhi=>
  simp only[lj,Option.some.injEq] at hlo hhi;have e1:nlo=0:=by omega
  have e2:nhi=l.length:=by omega
  subst e1 e2;refine⟨_,key z.c pb (bZ _),?_⟩;intro a w0 hf hh;simp only[execOp,bg hf h3,qQ];have h9:=yc (P:=P) (t:=t) (ad:=z.a) (len:=z.n) (cap:=z.c) w0 (lo:=none) (hi:=none) (mx:=none) (l:=0) (h:=l.length) (m:=z.c) (fun w0=>by
   simp[Instr.sliceBounds,Result.andThen,run_pure];omega)
  exact cA h9
 |none,some o2,hlo,hhi=>
  simp only[lj,Option.some.injEq] at hlo;have e1:nlo=0:=by omega
  subst e1;refine⟨_,key z.c pb (bZ _),?_⟩;have h9:=HL (P:=P) (C:=C) (own:=ov) (G:=G) (t:=t) (dst:=dst) (ty':=ty') (pos:=pos) (af:=af) (gd:=gd) h3 (bnd hhi);have e9:lO z.a z.n z.c 0 nhi z.c s= .slice z.a nhi z.c:=by
   unfold lO
   cases z.a with
   |none=>simp
   |some ad=>simp[Addr.add]
  rw[e9];simpa using h9
 |some o1,none,hlo,hhi=>
  simp only[lj,Option.some.injEq] at hhi;have e2:nhi=l.length:=by omega
  subst e2;refine⟨_,key z.c pb (bZ _),?_⟩;have h9:=Hu (P:=P) (C:=C) (own:=ov) (G:=G) (t:=t) (dst:=dst) (ty':=ty') (pos:=pos) (af:=af) (gd:=gd) h3 (bnd hlo);have e9:z.n=l.length:=by omega
  rw[dQ,e9] at h9;rw[e9];exact h9
 |some o1,some o2,hlo,hhi=>
  refine⟨_,key z.c pb (bZ _),?_⟩;have h9:=R8 (P:=P) (C:=C) (own:=ov) (G:=G) (t:=t) (dst:=dst) (ty':=ty') (pos:=pos) (af:=af) (gd:=gd) h3 (bnd hlo) (bnd hhi) pb pb pb;simpa using h9
def XR{hi:Operand}[hT:cg P t e s by_](hx:evD lk x=some (.sl l))(ho:cd s l)(hhi:lj lk 0 (some hi)=some (nhi:Int))(hmx:lj lk 0 (some mx)=some (nhi:Int))(h2:nhi<=l.length):
  bD P GB C n lk bk ⟨dst, .slice t x none (some hi) (some mx),ty',pos,af,gd⟩ (.ct (l.take nhi)) [] []:= .yd fun ρ G ov a w r=>by
 obtain⟨u,h3,h4⟩:=r.evD hx;obtain⟨s',z,es,rfl,hsl,hl⟩:=ie.1 h4;have hn:=hsl.len;have hcap:=hsl.cap;have hll:=hl.len;have bnd: ∀{o:Operand} {d:Nat} {i:Int},lj lk d (some o)=some i->aB (b8 a) o=some (.int .i64 i):=fun{o d i} h=>by
  simp only[lj] at h;split at h<;>cases h;rename_i he;obtain⟨q,g1,g2⟩:=r.ev he;rw[cC] at g2;subst g2;exact g1
 refine⟨.slice z.a nhi nhi,⟨⟨_,_,J⟩,Qr hsl hl ho h2 (bZ _) pb⟩,?_⟩;have h9:=Xa (P:=P) (C:=C) (own:=ov) (G:=G) (t:=t) (dst:=dst) (ty':=ty') (pos:=pos) (af:=af) (gd:=gd) h3 (bnd hhi) (bnd hmx) pb (Int.le_refl _) pb;simpa using h9
def Ig[hT:cg P t e s by_][hN:jh P t'](hi:d7 P e=some i)(hz:lv i=some z)(hs:Nat.beq z.cells.length s=true)(hx:ba lk x=some (.ct ds)\/(ba lk x=some .nl/\ds=[]))(ox:cd s ds)(hy:mH lk bk s y=some ds2)(hk2:cd s ds2)(hne:0<ds2.length)
  (hby:Nat.blt 0 by_=true)(hbd:(ds.length+ds2.length)*by_<=140737488355328)(hds:ds++ds2=ds'):
  bD P GB C n lk bk ⟨some d, .call ⟨.builtin .append, #[x,y], #[t,t']⟩,ty',pos,af,gd⟩ (.rw d) [(d,some (.b e s ds' true))] [d]:=by
 intro hd tl tb K s1 s2 hf hk;refine⟨fun ρ G ov a w r Q=>?_⟩;subst hds;have r1:=r.mono s1 s2;obtain⟨v,hz1,hz2,hz3⟩:=ug hi hz;have cz:=((hz2 G).cells hz3).1.len;replace hs:=aR hs;rw[jN] at hby
 obtain⟨w2,us,h1,h2,h3,h4,h5,h6⟩:=wi (P:=P) r1 hy hk2;have hxs:mH lk bk s x=some ds:=by
  unfold mH;rcases hx with hx|⟨hx,rfl⟩<;>rw[hx]<;>rfl
 obtain⟨w1,vs,g1,g2,g3,g4,g5,g6⟩:=wi (P:=P) r1 hxs ox;have hc1:w1.c=w1.n:=by
  rcases hx with hx|⟨hx,rfl⟩
  .obtain⟨y1,k1,⟨a1,n1,rfl⟩,_⟩:=r1.ev hx
   rw[k1] at g1;simp only[Option.some.injEq,Value.slice.injEq] at g1;omega
  .obtain⟨y1,k1,k2⟩:=r1.ev hx
   cases k2
   rw[k1] at g1;simp only[Option.some.injEq,Value.slice.injEq] at g1;omega
 have hl3:=h3.len;have hl4:=g3.len;have hall: ∀v∈vs++us,(aH v).length=s:=fun v hv=>by
  rcases bJ.1 hv with hv|hv
  .exact g4 v hv
  .exact h4 v hv
 refine Bo (z:=v) (xs:=aG vs) (ys:=aG us) (ad:=w1.a) (len:=w1.n) (cap:=w1.c) g1 h1 g6 h6 pb hby (by rw[g2,h2,hl3,hl4];exact hbd) hd (fun b cap' hc a' w' rl=>?_) a w Q ⟨r.h,r.sz,b9 a,r.df⟩;rw[<-pg] at rl;have hnd':=(bN.1 rl.h.nd).1;refine r.newRow (z:=⟨some ⟨b,0,none⟩,w1.n+w2.n,cap'⟩) (B:=[⟨b,aG (vs++us)++dE v (cap'-(w1.n+w2.n)),e,true⟩]) hf ⟨vs++us, .inr ⟨b,_,true,by simp[g2,h2],J,d6 _ hall,?_,by simpa[g2,h2] using hc⟩,g3.app h3,hall,fun _ o ho=>by rw[aW.1 ho]⟩
  (fun o ho=>by rw[aW.1 ho];exact aZ) (fun m B' hm e o ho _=>⟨aK _ ho,fun e'=>by cases e';exact hnd' o ho J⟩) hk rl
 rw[d6 _ hall,aU,nA,cz,hs,<-cN,g2,h2];congr 1;rw[g2,h2] at hc;dsimp only;omega
end
end Go.Sx
end
