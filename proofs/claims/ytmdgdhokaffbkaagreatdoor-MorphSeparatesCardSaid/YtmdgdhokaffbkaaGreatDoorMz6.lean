import Derived.Test.YtmdgdhokaffbkaaGreatDoorMz5
set_option linter.all false
set_option maxRecDepth 100000
section
namespace Go.Sx
open Go
def tt:TT:=[
 (2,⟨.int .i64,1,some [.d (.v (.int .i64 0))],false⟩),
 (3,⟨.int .i64,1,some [.d (.v (.int .i64 0))],false⟩),
 (4,⟨.bl,1,some [.ff],false⟩),
 (5,⟨.int .u8,1,some [.d (.v (.int .u8 0))],false⟩),
 (9,⟨.sc,1,some [.d (.v (.string ⟨#[]⟩))],false⟩),
 (20,⟨.fc,1,some [.d (.v (.nilIface))],false⟩),
 (22,⟨.sl 3 1 8,1,some [.nl],false⟩),
 (23,⟨.pt,1,some [.d (.v (.pointer none))],false⟩),
 (25,⟨.sl 44 1 24,1,some [.nl],false⟩),
 (27,⟨.pt,1,some [.d (.v (.pointer none))],false⟩),
 (29,⟨.sl 225 1 4,1,some [.nl],false⟩),
 (30,⟨.sl 225 1 4,1,some [.nl],false⟩),
 (32,⟨.st [(0,4,1),(1,30,1)],2,some [.ff, .nl],true⟩),
 (34,⟨.st [(0,32,2),(2,30,1)],3,some [.ff, .nl, .nl],true⟩),
 (36,⟨.st [(0,34,3),(3,34,3)],6,some [.ff, .nl, .nl, .ff, .nl, .nl],true⟩),
 (38,⟨.sl 45 1 24,1,some [.nl],false⟩),
 (41,⟨.fc,1,some [.d (.v (.nilIface))],false⟩),
 (42,⟨.sl 52 6 112,1,some [.nl],false⟩),
 (44,⟨.sl 36 6 112,1,some [.nl],false⟩),
 (45,⟨.sl 52 6 112,1,some [.nl],false⟩),
 (46,⟨.sl 225 1 4,1,some [.nl],false⟩),
 (48,⟨.st [(0,4,1),(1,46,1)],2,some [.ff, .nl],true⟩),
 (50,⟨.st [(0,48,2),(2,46,1)],3,some [.ff, .nl, .nl],true⟩),
 (52,⟨.st [(0,50,3),(3,50,3)],6,some [.ff, .nl, .nl, .ff, .nl, .nl],true⟩),
 (67,⟨.sl 233 8 112,1,some [.nl],false⟩),
 (69,⟨.st [(0,3,1),(1,67,1)],2,some [.d (.v (.int .i64 0)), .nl],true⟩),
 (85,⟨.st [(0,22,1),(1,3,1)],2,some [.nl, .d (.v (.int .i64 0))],true⟩),
 (86,⟨.sl 89 1 24,1,some [.nl],false⟩),
 (89,⟨.sl 136 6 96,1,some [.nl],false⟩),
 (96,⟨.sl 106 1 24,1,some [.nl],false⟩),
 (99,⟨.pt,1,some [.d (.v (.pointer none))],false⟩),
 (101,⟨.st [(0,2,1),(1,2,1),(2,99,1)],3,some [.d (.v (.int .i64 0)), .d (.v (.int .i64 0)), .d (.v (.pointer none))],true⟩),
 (103,⟨.st [(0,101,3),(3,101,3)],6,some [.d (.v (.int .i64 0)), .d (.v (.int .i64 0)), .d (.v (.pointer none)), .d (.v (.int .i64 0)), .d (.v (.int .i64 0)), .d (.v (.pointer none))],true⟩),
 (105,⟨.sl 103 6 48,1,some [.nl],false⟩),
 (106,⟨.sl 103 6 48,1,some [.nl],false⟩),
 (115,⟨.st [(0,25,1),(1,3,1),(2,89,1)],3,some [.nl, .d (.v (.int .i64 0)), .nl],true⟩),
 (136,⟨.st [(0,32,2),(2,32,2),(4,32,2)],6,some [.ff, .nl, .ff, .nl, .ff, .nl],true⟩),
 (140,⟨.st [(0,4,1),(1,4,1),(2,136,6),(8,27,1),(9,27,1)],10,some [.ff, .ff, .ff, .nl, .ff, .nl, .ff, .nl, .d (.v (.pointer none)), .d (.v (.pointer none))],true⟩),
 (143,⟨.pt,1,some [.d (.v (.pointer none))],false⟩),
 (151,⟨.o,1,some [.d (.v (.nilFunc))],false⟩),
 (153,⟨.st [(0,143,1),(1,143,1)],2,some [.d (.v (.pointer none)), .d (.v (.pointer none))],true⟩),
 (165,⟨.sl 168 2 32,1,some [.nl],false⟩),
 (168,⟨.st [(0,89,1),(1,4,1)],2,some [.nl, .ff],true⟩),
 (185,⟨.o,12,some [.d (.v (.int .i64 0)), .d (.v (.int .i64 0)), .d (.v (.pointer none)), .d (.v (.int .i64 0)), .d (.v (.int .i64 0)), .d (.v (.pointer none)), .d (.v (.int .i64 0)), .d (.v (.int .i64 0)), .d (.v (.pointer none)), .d (.v (.int .i64 0)), .d (.v (.int .i64 0)), .d (.v (.pointer none))],true⟩),
 (200,⟨.sl 207 14 216,1,some [.nl],false⟩),
 (205,⟨.st [(0,34,3),(3,34,3),(6,4,1),(7,4,1)],8,some [.ff, .nl, .nl, .ff, .nl, .nl, .ff, .ff],true⟩),
 (207,⟨.st [(0,136,6),(6,205,8)],14,some [.ff, .nl, .ff, .nl, .ff, .nl, .ff, .nl, .nl, .ff, .nl, .nl, .ff, .ff],true⟩),
 (217,⟨.sl 41 1 16,1,some [.nl],false⟩),
 (224,⟨.int .u64,1,some [.d (.v (.int .u64 0))],false⟩),
 (225,⟨.int .u32,1,some [.d (.v (.int .u32 0))],false⟩),
 (226,⟨.int .u64,1,some [.d (.v (.int .u64 0))],false⟩),
 (230,⟨.st [(0,48,2),(2,48,2),(4,48,2)],6,some [.ff, .nl, .ff, .nl, .ff, .nl],true⟩),
 (233,⟨.st [(0,230,6),(6,3,1),(7,3,1)],8,some [.ff, .nl, .ff, .nl, .ff, .nl, .d (.v (.int .i64 0)), .d (.v (.int .i64 0))],true⟩),
 (236,⟨.pt,1,some [.d (.v (.pointer none))],false⟩),
 (237,⟨.sl 4 1 1,1,some [.nl],false⟩),
 (239,⟨.st [(0,67,1),(1,237,1),(2,3,1),(3,4,1)],4,some [.nl, .nl, .d (.v (.int .i64 0)), .ff],true⟩),
 (243,⟨.st [(0,101,3),(3,101,3),(6,101,3)],9,some [.d (.v (.int .i64 0)), .d (.v (.int .i64 0)), .d (.v (.pointer none)), .d (.v (.int .i64 0)), .d (.v (.int .i64 0)), .d (.v (.pointer none)), .d (.v (.int .i64 0)), .d (.v (.int .i64 0)), .d (.v (.pointer none))],true⟩),
 (245,⟨.st [(0,243,9),(9,143,1),(10,143,1),(11,4,1)],12,some [.d (.v (.int .i64 0)), .d (.v (.int .i64 0)), .d (.v (.pointer none)), .d (.v (.int .i64 0)), .d (.v (.int .i64 0)), .d (.v (.pointer none)), .d (.v (.int .i64 0)), .d (.v (.int .i64 0)), .d (.v (.pointer none)), .d (.v (.pointer none)), .d (.v (.pointer none)), .ff],true⟩),
 (247,⟨.sl 151 1 8,1,some [.nl],false⟩),
 (249,⟨.sl 143 1 8,1,some [.nl],false⟩),
 (250,⟨.sl 254 1 24,1,some [.nl],false⟩),
 (253,⟨.sl 330 17 128,1,some [.nl],false⟩),
 (254,⟨.sl 330 17 128,1,some [.nl],false⟩),
 (265,⟨.sl 34 3 56,1,some [.nl],false⟩),
 (277,⟨.pt,1,some [.d (.v (.pointer none))],false⟩),
 (279,⟨.st [(0,41,1),(1,3,1),(2,3,1),(3,9,1)],4,some [.d (.v (.nilIface)), .d (.v (.int .i64 0)), .d (.v (.int .i64 0)), .d (.v (.string ⟨#[]⟩))],true⟩),
 (296,⟨.st [(0,48,2),(2,46,1)],3,some [.ff, .nl, .nl],true⟩),
 (322,⟨.sl 325 2 32,1,some [.nl],false⟩),
 (325,⟨.st [(0,254,1),(1,143,1)],2,some [.nl, .d (.v (.pointer none))],true⟩),
 (326,⟨.sl 243 9 72,1,some [.nl],false⟩),
 (328,⟨.st [(0,101,3),(3,101,3),(6,4,1),(7,4,1)],8,some [.d (.v (.int .i64 0)), .d (.v (.int .i64 0)), .d (.v (.pointer none)), .d (.v (.int .i64 0)), .d (.v (.int .i64 0)), .d (.v (.pointer none)), .ff, .ff],true⟩),
 (330,⟨.st [(0,243,9),(9,328,8)],17,some [.d (.v (.int .i64 0)), .d (.v (.int .i64 0)), .d (.v (.pointer none)), .d (.v (.int .i64 0)), .d (.v (.int .i64 0)), .d (.v (.pointer none)), .d (.v (.int .i64 0)), .d (.v (.int .i64 0)), .d (.v (.pointer none)), .d (.v (.int .i64 0)), .d (.v (.int .i64 0)), .d (.v (.pointer none)), .d (.v (.int .i64 0)), .d (.v (.int .i64 0)), .d (.v (.pointer none)), .ff, .ff],true⟩),
 (364,⟨.o,2,some [.nl, .nl],true⟩),
 (365,⟨.sl 205 8 120,1,some [.nl],false⟩),
 (380,⟨.sl 101 3 24,1,some [.nl],false⟩),
 (407,⟨.int .i64,1,some [.d (.v (.int .i64 0))],false⟩),
 (425,⟨.int .u64,1,some [.d (.v (.int .u64 0))],false⟩),
 (429,⟨.pt,1,some [.d (.v (.pointer none))],false⟩),
 (439,⟨.o,32,some (List.replicate 32 (.d (.v (.int .u8 0)))),true⟩),
 (440,⟨.o,64,some (List.replicate 64 (.d (.v (.int .u8 0)))),true⟩),
 (441,⟨.pt,1,some [.d (.v (.pointer none))],false⟩),
 (466,⟨.st [(0,9,1)],1,some [.d (.v (.string ⟨#[]⟩))],true⟩)]
def fe:n7 Go.Proofs.Tryz.prog tt:=n7.of v6
end Go.Sx
end
section
namespace Go.Sx
open Go Go.Proofs Tryz
variable {GB G:Gh}{fr fr' fr1 fr2:aD}{cf cf' cf1 cf2:Cf}{vc vc' vc1 vc2:List Prop}{o:Oper}{q m d:Nat}{ds:List DV}{ρ:NE}{a:Act}{f:FuncId}{fb:Func}{c fo:Operand}{rv r1 r2:DV}{p:Prop}{x y:Code}{b:Bool}{e:Exit}{lk:LK}{bk:BM}{args:Array Operand}
def tn:Nat->List DV->aD
 |_,[]=>[]
 |i,v::t=>(i, .d v)::tn (i+1) t
class Fu where n:Nat
instance fu0:Fu:=⟨400⟩
section
variable {C:aG}{n:Nat}{Q0:Exit->Act->World->Prop}{own own':aI}{ops:Array Oper}{r:List Oper}{K:List Kt}
def gF(h:go tt n q [] fr own cf=⟨vc,fr',own',cf'⟩)(hv:ak vc)(k:av prog GB C n Q0 fr' own' cf'):av prog GB C n Q0 fr own cf:=by
 have:=(jz (GB:=GB) (C:=C) (Q0:=Q0) fe follows q [] fr own cf (by rw[h];exact hv)).2;rw[h] at this;exact this k
def gx[fu:Fu](h:go tt n fu.n [] fr own cf=⟨vc,fr',own',cf'⟩)(k:av prog GB C n Q0 fr' own' cf')(hv:ak vc:=by first|exact trivial|(simp only[ak];kernel_rfl)|(simp only[ak];omega)|(simp only[ak,aX,bZ,aR];omega)):av prog GB C n Q0 fr own cf:=gF h hv k
def Vn: ∀{ds:List DV} {vs:List Value} {ρ:NE} {G:Gh} (i:Nat),IsLs G ds vs-> ∀k f,bi (tn i ds) k=some f-> ∃y,(∃j,k=i+j/\vs[j]? =some y)/\cp ρ G f y
 |[],vs,ρ,G,i,h,k,f,e=>by cases e
 |d::t,vs,ρ,G,i,h,k,f,e=>by
  obtain⟨y,m,rfl,h1,h2⟩:=bj.1 h;simp only[tn] at e;rw[li] at e;split at e
  .cases e;rename_i hk;exact⟨y,⟨0,hk,rfl⟩,h1⟩
  .obtain⟨u,⟨j,hj,hu⟩,h3⟩:=Vn (i+1) h2 k f e
   exact⟨u,⟨j+1,m5,by simpa using hu⟩,h3⟩
def yY{vs:List Value}(h:IsLs G ds vs)(hf:mh (ol 0 vs) a)(k:Nat)(f:FX)(e:bi (tn 0 ds) k=some f): ∃y,a.tmps[k]? =some y/\cp ρ G f y:=by
 obtain⟨y,⟨j,hj,hy⟩,h1⟩:=Vn (ρ:=ρ) 0 h k f e;refine⟨y,hf k y ?_,h1⟩;rw[hj];exact xG vs 0 j y hy
theorem okt{p:Prop}(h:p:=by rw[hvs.len];exact hlen):p:=h
def fn[fu:Fu]{c:Code}(hf:prog.funcs[f]? =some fb)(hb:fb.body=some c)(hn:(fb.name== "runtime.NumGoroutine")=false)(hm:fb.ntmps=m)(hlen:Nat.ble ds.length m=true)
  (hgo:go tt m fu.n [] (tn 0 ds) [] (.code c [])=⟨vc,fr,own,cf⟩)(k: ∀C:aG,av prog GB C m (ge C prog fb (nf C (fun v G'=>Is G' rv v))) fr own cf)
  (hv:ak vc:=by first|exact trivial|(simp only[ak];kernel_rfl)|(simp only[ak];omega)|(simp only[ak,aX,bZ,aR];omega)):PF GB prog f ds rv:=by
 intro G vs hg hvs;refine Fn.introR hf hb hn hm okt fun C _ _ hrd hfx=>?_;intro a w rl;refine xb hrd ?_;have h:=gF (GB:=GB) (C:=C) (Q0:=ge C prog fb (nf C (fun v G'=>Is G' rv v))) hgo hv (k C);exact h.run (fun _=>⟨none,0,0⟩) G [] a w ⟨hg,rl.h,rl.sz,rl.df,(fun k f e=>yY hvs rl.fr k f e),(fun nm B e=>by cases e),(fun nm nm' B B' e=>by cases e),fun nm p _ _ e=>by rw[hfx] at e;cases e⟩
def av.cond{c:Operand}{x y:Code}{b:Bool}{f:FX}(hc:aP (bi fr) c=some f)(hb:ut f=some b)(h1:b=true->av prog GB C n Q0 fr own (.code x K))(h2:b=false->av prog GB C n Q0 fr own (.code y K)):av prog GB C n Q0 fr own (.code (.cond c x y) K):=SX.cond hc hb h1 h2
variable {own1 own2:aI}
def br[fu1:Fu][fu2:Fu]{hp:Decidable p}(hc:aP (bi fr) c=some (.pr p hp))(g1:go tt n fu1.n [] fr own (.code x K)=⟨vc1,fr1,own1,cf1⟩)(g2:go tt n fu2.n [] fr own (.code y K)=⟨vc2,fr2,own2,cf2⟩)
  (k1:p->av prog GB C n Q0 fr1 own1 cf1)(k2: ¬p->av prog GB C n Q0 fr2 own2 cf2)
  (v1:p->ak vc1:=by intro;first|exact trivial|(simp only[ak];omega)|(simp only[ak,aX,bZ,aR];omega))(v2: ¬p->ak vc2:=by intro;first|exact trivial|(simp only[ak];omega)|(simp only[ak,aX,bZ,aR];omega)):av prog GB C n Q0 fr own (.code (.cond c x y) K):=
 .cond hc J (fun h=>gF g1 (v1 (of_decide_eq_true h)) (k1 (of_decide_eq_true h))) (fun h=>gF g2 (v2 (of_decide_eq_false h)) (k2 (of_decide_eq_false h)))
def bd[fu1:Fu][fu2:Fu]{hp:Decidable p}(hc:aP (bi fr) c=some (.d (.v (.bool (@decide p hp)))))(g1:go tt n fu1.n [] fr own (.code x K)=⟨vc1,fr1,own1,cf1⟩)(g2:go tt n fu2.n [] fr own (.code y K)=⟨vc2,fr2,own2,cf2⟩)
  (k1:p->av prog GB C n Q0 fr1 own1 cf1)(k2: ¬p->av prog GB C n Q0 fr2 own2 cf2)
  (v1:p->ak vc1:=by intro;first|exact trivial|(simp only[ak];omega)|(simp only[ak,aX,bZ,aR];omega))(v2: ¬p->ak vc2:=by intro;first|exact trivial|(simp only[ak];omega)|(simp only[ak,aX,bZ,aR];omega)):av prog GB C n Q0 fr own (.code (.cond c x y) K):=
 .cond hc J (fun h=>gF g1 (v1 (of_decide_eq_true h)) (k1 (of_decide_eq_true h))) (fun h=>gF g2 (v2 (of_decide_eq_false h)) (k2 (of_decide_eq_false h)))
def bb[fu1:Fu][fu2:Fu](hc:aP (bi fr) c=some (.d (.v (.bool b))))(g1:go tt n fu1.n [] fr own (.code x K)=⟨vc1,fr1,own1,cf1⟩)(g2:go tt n fu2.n [] fr own (.code y K)=⟨vc2,fr2,own2,cf2⟩)
  (k1:b=true->av prog GB C n Q0 fr1 own1 cf1)(k2:b=false->av prog GB C n Q0 fr2 own2 cf2)
  (v1:b=true->ak vc1:=by intro;first|exact trivial|(simp only[ak];omega)|(simp only[ak,aX,bZ,aR];omega))(v2:b=false->ak vc2:=by intro;first|exact trivial|(simp only[ak];omega)|(simp only[ak,aX,bZ,aR];omega)):av prog GB C n Q0 fr own (.code (.cond c x y) K):=
 .cond hc J (fun h=>gF g1 (v1 h) (k1 h)) (fun h=>gF g2 (v2 h) (k2 h))
def qD{f g:FX}(hl:bi fr d=some f)(hi: ∀ρ G y,cp ρ G f y->cp ρ G g y){Φ:Act->World->Prop}(h:SX GB C n (bi ((d,g)::fr)) (bA own) Φ):SX GB C n (bi fr) (bA own) Φ:=by
 refine⟨fun ρ G ov a w r=>h.run ρ G ov a w ⟨r.gb,r.h,r.sz,r.df,fun k f' e=>?_,r.bx,r.dj,r.fxd⟩⟩;rw[li] at e;split at e
 .cases e;rename_i hk;subst hk
  obtain⟨y,h1,h2⟩:=r.fx _ _ hl;exact⟨y,h1,hi _ _ _ h2⟩
 .exact r.fx k f' e
def aj(d:Nat){f:FX}(g:FX)(hl:bi fr d=some f)(e:f=g)(h:av prog GB C n Q0 ((d,g)::fr) own cf):av prog GB C n Q0 fr own cf:=by
 have hs:bi ((d,g)::fr)=bi fr:=by
  funext k;rw[li];split
  .rename_i hk;rw[hk,hl,e]
  .rfl
 cases cf with
 |dr id ops fr0 own0 us r K=>exact fun D=>h ⟨D.pre,by rw[hs];exact D.st,D.snd⟩
 |_=>unfold av at h⊢;rw[hs] at h;exact h
def kT(d:Nat){hp:Decidable p}(hl:bi fr d=some (.pr p hp))(h:p)(k:av prog GB C n Q0 ((d, .tt)::fr) own (.ops ops r K)):av prog GB C n Q0 fr own (.ops ops r K):=
 qD hl (fun _ _ _ e=>by rw[show _=_ from e,decide_eq_true h];exact J) k
def kF(d:Nat){hp:Decidable p}(hl:bi fr d=some (.pr p hp))(h: ¬p)(k:av prog GB C n Q0 ((d, .ff)::fr) own (.ops ops r K)):av prog GB C n Q0 fr own (.ops ops r K):=
 qD hl (fun _ _ _ e=>by rw[show _=_ from e,decide_eq_false h];exact J) k
def Zd(d:Nat)(hl:bi fr d=some .nl)(h:av prog GB C n Q0 ((d, .d (.sl []))::fr) own (.ex e K)):av prog GB C n Q0 fr own (.ex e K):=
 qD (g:= .d (.sl [])) hl (fun ρ G y hy=>(show Is G (.sl []) y from nO (ρ:=ρ) (f:= .nl) hy J)) h
def PF.to{P:Program}(h:PF GB P f ds r1)(e:r1=r2):PF GB P f ds r2:=e▸h
def cs[fu1:Fu][fu2:Fu](d:Nat){hp:Decidable p}(hl:bi fr d=some (.pr p hp))(g1:go tt n fu1.n [] ((d, .tt)::fr) own (.ops ops r K)=⟨vc1,fr1,own1,cf1⟩)(g2:go tt n fu2.n [] ((d, .ff)::fr) own (.ops ops r K)=⟨vc2,fr2,own2,cf2⟩)
  (k1:p->av prog GB C n Q0 fr1 own1 cf1)(k2: ¬p->av prog GB C n Q0 fr2 own2 cf2)
  (v1:p->ak vc1:=by intro;first|exact trivial|(simp only[ak];omega)|(simp only[ak,aX,bZ,aR];omega))(v2: ¬p->ak vc2:=by intro;first|exact trivial|(simp only[ak];omega)|(simp only[ak,aX,bZ,aR];omega)):av prog GB C n Q0 fr own (.ops ops r K):=by
 by_cases h:p
 .exact qD hl (fun _ _ _ e=>by rw[show _=_ from e,decide_eq_true h];exact J) (gF g1 (v1 h) (k1 h))
 .exact qD hl (fun _ _ _ e=>by rw[show _=_ from e,decide_eq_false h];exact J) (gF g2 (v2 h) (k2 h))
def je[fu1:Fu][fu2:Fu](d:Nat)(hl:bi fr d=some (.d (.v (.bool b))))(g1:go tt n fu1.n [] ((d, .tt)::fr) own (.ops ops r K)=⟨vc1,fr1,own1,cf1⟩)(g2:go tt n fu2.n [] ((d, .ff)::fr) own (.ops ops r K)=⟨vc2,fr2,own2,cf2⟩)
  (k1:b=true->av prog GB C n Q0 fr1 own1 cf1)(k2:b=false->av prog GB C n Q0 fr2 own2 cf2)
  (v1:b=true->ak vc1:=by intro;first|exact trivial|(simp only[ak];omega)|(simp only[ak,aX,bZ,aR];omega))(v2:b=false->ak vc2:=by intro;first|exact trivial|(simp only[ak];omega)|(simp only[ak,aX,bZ,aR];omega)):av prog GB C n Q0 fr own (.ops ops r K):=by
 cases h:b with
 |true=>exact qD hl (fun _ G _ e=>by rw[(aO (G:=G)).1 e,h];exact J) (gF g1 (v1 h) (k1 h))
 |false=>exact qD hl (fun _ G _ e=>by rw[(aO (G:=G)).1 e,h];exact J) (gF g2 (v2 h) (k2 h))
def J0:Cf->Option (Array Oper×Oper)
 | .ops ops (o::_) _=>some (ops,o)
 | .dr _ ops _ _ _ (o::_) _=>some (ops,o)
 |_=>none
def cj(fr:aD):Cf->LK
 | .dr _ ops _ _ _ (o::_) _=>mE (Cm ops o) (bi fr)
 |_=>bi fr
def jd(fr:aD)(own:aI):Cf->BM
 | .dr _ ops _ _ _ (o::_) _=>mE (C4 o fr (Cm ops o)) (bA own)
 |_=>bA own
def qv:zL:=⟨[False],[],[], .ex .normal []⟩
def cF(T:TT)(n q:Nat)(fr:aD)(own:aI)(cf:Cf)(f:FX)(bl:List (Nat×Option Bk))(nw:List Nat):zL:=match cf with
 | .ops ops (o::r) K=>bif wB nw o.dst fr own&&cv n o.dst then s5 own bl fun own'=>zG fr o.dst f fun fr'=>go T n q [] fr' own' (.ops ops r K) else qv
 | .dr id ops fr0 own0 us (o::r) K=>bif cv n o.dst then my (Cm ops o) fun rs=>my (C4 o fr rs) fun rn=>s5 own bl fun own'=>my (us++[⟨rs,o.dst,f,rn,bl,nw⟩]) fun us'=>zG fr o.dst f fun fr'=>go T n q [] fr' own' (.dr id ops fr0 own0 us' r K) else qv
 |_=>qv
def xV(ops:Array Oper)(lk:LK):Option (Nat×Bool)->Bool
 |none=>true
 |some (j,b)=>match ops[j]? with
  |some oj=>match oj.dst with
   |some d=>match lk d with
    |some .tt=>b
    |some .ff=>!b
    |_=>false
   |none=>false
  |none=>false
def Fx(h:xV ops lk o.guard=true): ∀ρ G ov a w,ce GB C n lk bk ρ G ov a w->Region.wanted o (yielded ops a.tmps)=true:=fun ρ G ov a w r=>by
 unfold Region.wanted;unfold xV at h;split at h
 .rename_i e;rw[e]
 .rename_i j b e
  rw[e];split at h<;>try (cases h;done)
  rename_i oj hj;split at h<;>try (cases h;done)
  rename_i d hd;split at h<;>try (cases h;done)
  .rename_i hl
   obtain⟨y,h1,h2⟩:=A7 r hj hd hl
   cases h1;simp only[h2];subst h;rfl
  .rename_i hl
   obtain⟨y,h1,h2⟩:=A7 r hj hd hl
   cases h1;simp only[h2];cases b<;>first|rfl|(simp at h)
def uo{f:FX}{bl:List (Nat×Option Bk)}{nw:List Nat}(hh:J0 cf=some (ops,o))(hg:xV ops (cj fr cf) o.guard=true)(h:cg prog GB C n (cj fr cf) (jd fr own cf) o f bl nw)
  (hgo:cF tt n q fr own cf f bl nw=⟨vc,fr',own',cf'⟩)(hv:ak vc)(k:av prog GB C n Q0 fr' own' cf'):av prog GB C n Q0 fr own cf:=by
 obtain⟨dst,op,ty,pos,af,gd⟩:=o
 cases cf with
 |ops ops' r K=>
  cases r with
  |nil=>cases hh
  |cons o' r=>
   cases hh
   unfold cF at hgo
   cases hc:(wB nw dst fr own&&cv n dst) with
   |false=>simp only[hc,cond_false,qv] at hgo;cases hgo;exact absurd hv (fun x=>x)
   |true=>
    simp only[hc,cond_true] at hgo;simp only[xL,BR] at hgo;simp only[bR] at hc;exact SX.op (h.toS hc.2 (Fx hg)) (BK hc.1) (gF hgo hv k)
 |dr id ops' fr0 own0 us r K=>
  cases r with
  |nil=>cases hh
  |cons o' r=>
   cases hh
   unfold cF at hgo
   cases hc:cv n dst with
   |false=>simp only[hc,cond_false,qv] at hgo;cases hgo;exact absurd hv (fun x=>x)
   |true=>
    simp only[hc,cond_true,uG] at hgo;simp only[xL,BR] at hgo;intro D;exact gF hgo hv k (D.push (h.toS hc (Fx hg)))
 |_=>cases hh
def vP(lk:LK)(fo:Operand)(args:Array Operand):Option (FuncId×List DV):=match aP lk fo with
 |some (.d (.v (.func (.func f) ⟨[]⟩ ⟨[]⟩)))=>match evDs lk args.toList with
  |some ds=>some (f,ds)
  |none=>none
 |_=>none
def DE(h:vP lk fo args=some (f,ds)):aP lk fo=some (.d (.v (.func (.func f) #[] #[])))/\evDs lk args.toList=some ds:=by
 unfold vP at h;split at h<;>try (cases h;done)
 rename_i h1;split at h<;>cases h;rename_i h2;exact⟨h1,h2⟩
def TQ{tys:Array TypeId}{dst:Option Nat}{ty:TypeId}{pos:String}{af:Array Edge}{gd:Option (Nat×Bool)}(ha:vP lk fo args=some (f,ds))(hF:PF GB prog f ds rv):
  cg prog GB C n lk bk ⟨dst, .call ⟨.value fo,args,tys⟩,ty,pos,af,gd⟩ (.d rv) [] []:=by
 intro hd tl tb K' s1 s2 hf hk;refine⟨fun ρ G ov a w r Q=>?_⟩;obtain⟨h1,h2⟩:=DE ha;obtain⟨y,hy,hy'⟩:=(r.mono s1 s2).ev h1;rw[(aO (G:=G)).1 hy'] at hy;obtain⟨vs,h3,h4⟩:=(r.mono s1 s2).evDs h2;refine zC hy h3 (hF G vs r.gb h4) hd (fun v G' hG hK a' w' rl=>?_) a w Q ⟨r.h,r.sz,dh a,r.df⟩;exact hk.run ρ G' ov a' w' ⟨r.gb.trans hG.le,rl.h,rl.sz,rl.df,(kd rl).fx (fun k g _ e=>by obtain⟨u,h5,h6⟩:=r.fx k g e;exact⟨u,h5,h6.up hG.le⟩) hK,
  fun nm B e=>by obtain⟨os,h5,h6⟩:=r.bx nm B e;exact⟨os,h5.up hG.le,h6⟩,r.dj,r.fxd⟩
def sk(T:TT)(fr:aD)(own:aI):List ResultVar->Option (List DV)
 |[]=>some []
 | .tmp t::rs=>match bi fr t with
  |some f=>match kr f with
   |some d=>match sk T fr own rs with
    |some l=>some (d::l)
    |none=>none
   |none=>none
  |none=>none
 | .cell a t::rs=>match bi fr a with
  |some (.ov nm 0)=>match d9 T t with
   |some i=>match bA own nm with
    |some (.o _ cs _)=>match i.ag with
     |some (some k)=>match takeX cs 0 k with
      |some c=>match jP c with
       |some d=>match sk T fr own rs with
        |some l=>some (.ag d::l)
        |none=>none
       |none=>none
      |none=>none
     |some none=>match cs[0]? with
      |some c=>match kr c with
       |some d=>match sk T fr own rs with
        |some l=>some (d::l)
        |none=>none
       |none=>none
      |none=>none
     |none=>none
    |_=>none
   |none=>none
  |_=>none
def DH{ov:List aA}{w:World}(h:ce GB C n (bi fr) (bA own) ρ G ov a w): ∀{rs:List ResultVar} {ds:List DV},sk tt fr own rs=some ds-> ∃vs,lm prog (cI a) ov rs vs/\IsLs G ds vs:=by
 intro rs
 induction rs with
 |nil=>intro ds e;cases e;exact⟨[], .nil, .nil⟩
 |cons x rs ih=>
  intro ds e
  cases x with
  |tmp t=>
   simp only[sk] at e;split at e<;>try (cases e;done)
   rename_i f hf;split at e<;>try (cases e;done)
   rename_i d hd;split at e<;>cases e;rename_i l hl;obtain⟨vs,h1,h2⟩:=ih hl;obtain⟨y,h3,h4⟩:=h.fx t f hf;exact⟨y::vs, .tmp (CF h3) h1, .cons (nO h4 hd) h2⟩
  |cell t ty=>
   simp only[sk] at e;split at e<;>try (cases e;done)
   rename_i nm hf;split at e<;>try (cases e;done)
   rename_i i hi;split at e<;>try (cases e;done)
   rename_i hb;obtain⟨y,h3,h4⟩:=h.fx t _ hf;obtain⟨b,m,rfl,h5,h6,h7⟩:=h.own h4 hb;have oat:jw ov b m _ _:=⟨h7⟩;split at e<;>try (cases e;done)
   .rename_i k ha
    split at e<;>try (cases e;done)
    rename_i c hc;split at e<;>try (cases e;done)
    rename_i d hd;split at e<;>cases e;rename_i l hl;obtain⟨vs,h1,h2⟩:=ih hl;obtain⟨l',h8,h9⟩:=h6.takeX hc;exact⟨.agg ⟨l'⟩::vs, .agg (CF h3) oat (yG (fe _ _ hi) ha) h8 h1, .cons (eD.2 ⟨l',J,ti h9 hd⟩) h2⟩
   .rename_i ha
    split at e<;>try (cases e;done)
    rename_i c hc;split at e<;>try (cases e;done)
    rename_i d hd;split at e<;>cases e;rename_i l hl;obtain⟨vs,h1,h2⟩:=ih hl;obtain⟨l',h8,h9⟩:=h6.get hc;exact⟨l'::vs, .sc (CF h3) oat (xt (fe _ _ hi) ha) h8 h1, .cons (nO h9 hd) h2⟩
def EL:Exit->Bool
 | .ret=>true
 | .normal=>true
 |_=>false
def rz(hr:sk tt fr own fb.results.toList=some ds)(hd:gg ds=rv)(he:EL e=true:=by rfl):av prog GB C n (ge C prog fb (nf C (fun v G'=>Is G' rv v))) fr own (.ex e []):=by
 refine⟨fun ρ G ov a w r=>?_⟩;obtain⟨vs,h1,h2⟩:=DH r hr;have hk:Is G rv (p9 vs):=hd▸D8 h2
 cases e with
 |ret=>exact zD (C:=C) (n:=n) (fr:=cI a) (own:=ov) (G:=G) (K:=fun v G'=>Is G' rv v) h1 hk a w ⟨r.h,r.sz,dh a,r.df⟩
 |normal=>exact N3 (C:=C) (n:=n) (fr:=cI a) (own:=ov) (G:=G) (K:=fun v G'=>Is G' rv v) h1 hk a w ⟨r.h,r.sz,dh a,r.df⟩
 |_=>cases he
end
end Go.Sx
end
section
namespace Go.Sx
open Go
variable {GB G:Gh}{n e s by_ cap2 i:Nat}{t t' ty' ty:TypeId}{ds:List DV}{ov B:List aA}{w:SV}{es rest:List Value}{ad2:Option Addr}
section
variable {P:Program}{C:aG}{E:vW}{fr fr':n5}{own own':List lz}{bs bs' bs1:List ke}{ops:Array Oper}{Q:Exit->Act->World->Prop}{r:List Oper}{Φ:Act->World->Prop}
variable {dst:Option Nat}{pos:String}{af:Array Edge}{gd:Option (Nat×Bool)}{x y z:Operand}
abbrev SV.f (w:SV):FV:= .d (.v (.slice w.a w.n w.c))
def XS(z:Value)(k:Nat):aF (List.replicate k z)=du z k:=by unfold aF du;rw[List.map_replicate]
def Tn{G:Gh}{d:DV}{y:Value}(h:Is G d y): ∀k:Nat,IsLs G (List.replicate k d) (List.replicate k y)
 |0=> .nil
 |k+1=> .cons h (Tn h k)
def Mi(pre mid post vs:List Value)(h:vs.length=mid.length):cP (pre++(mid++post)) pre.length vs=pre++(vs++post):=by
 rw[qj _ _ _ omg];simp[h]
def auR(z:Value)(k:Nat):du z (k+1)=aH z++du z k:=by simp[du,mT]
def CN(s:Nat)(ds:List DV):Bool:=ds.all fun d=>d.okc&&Nat.beq d.cells.length s
def CQ(h:CN s ds=true):dm s ds:=fun d hd=>by
 have:=dW.1 h d hd;simp only[bR] at this;exact⟨this.1,bQ this.2⟩
def Mj{cs:List Value}{off s:Nat}: ∀(es:List Value),(∀i (h:i<es.length),dd cs (off+i*s) s=some (aH es[i]))->off<=cs.length->dd cs off (es.length*s)=some (aF es)
 |[],_,ho=>by
  rw[l5 _ _ _ oko];simp[aF]
 |v::t,h,ho=>by
  have h0:=h 0 vb;simp only[kM,gQ,pL] at h0;obtain⟨k1,k2⟩:=Bb h0;have ih:=Mj (off:=off+s) t (fun i hi=>by
   have:=h (i+1) omI;rw[gK,show off+(i*s+s)=off+s+i*s by omega] at this;simpa using this) m5
  obtain⟨k3,k4⟩:=Bb ih;rw[l5 _ _ _ (by simp only[aN,gK];omega)];congr 1;have e1:aF (v::t)=aH v++aF t:=by simp[aF]
  rw[e1,k2,k4,aN,gK,lK (t.length*s) s,List.take_add,uZ]
def YA(h:gH G s w es):nI P C ov G s w.n (.slice w.a w.n w.c) (aF es):=by
 rcases h.mem with he|⟨b,off,cs,ha,hg,hc⟩
 .subst he
  rw[h.len];exact wi
 .rw[ha]
  by_cases he:es=[]
  .subst he;rw[h.len];exact wi
  .have hp:0<es.length:=nU.2 he
   have h0:=hc 0 hp;have:=(Bb h0).1;rw[h.len];exact M6 hg (Mj es hc m5)
def ak7[hT:cD P t e s by_][hN:kz P t']{w:World}:(Builtin.append_ #[t,t'] ty' #[.slice none 0 0, .slice ad2 0 cap2]).run P w= .ok (.slice none 0 0) w:=by
 obtain⟨d,hd1⟩:=hN.un;obtain⟨i,hi,his,hib⟩:=hT.info;have h0:(Builtin.firstCells i.size 0 (.slice ad2 0 cap2)).run P w= .ok #[] w:=by
  cases ad2 with
  |none=>rfl
  |some a=>unfold Builtin.firstCells loadCells;simp[loadCellsFrom,run_pure]
 simp[Builtin.append_,run_underlying hT.un,run_underlying hd1,sizeOf,typeInfo,hi,Builtin.lenOf,h0]
def TO[hT:cD P t e s by_][hN:kz P t']{fr:Fr}{own:List aA}(hx:aE fr x=some (.slice none 0 0))(hy:aE fr y=some (.slice ad2 0 cap2))(hd:cv n dst=true)
  (h:St C n (put fr dst (.slice none 0 0)) own G Φ):Ch P C n fr own G ⟨dst, .call ⟨.builtin .append, #[x,y], #[t,t']⟩,ty',pos,af,gd⟩ Φ:=by
 intro a w Q rl;refine kI (v:= .slice none 0 0) (w':=w) ?_ (h _ _ (rl.put _ hd));simp only[execOp,resolve,iY,bY,iQ,bC rl.fr hx,bC rl.fr hy];exact dq ak7
def dO.upd{lo:Bool}(h:dO G ⟨w,s,ty,ds,lo⟩ B){d:DV}(hi:ds[i]? =some d):
  ∃b vs rest lo',w.a=some ⟨b,0,none⟩/\B=[⟨b,aF vs++rest,ty,lo'⟩]/\IsLs G ds vs/\(∀v∈vs,(aH v).length=s)/\i<vs.length/\
   ∀u d',Is G d' u->(aH u).length=s->dO G ⟨w,s,ty,ds.set i d',lo⟩ [⟨b,aF (vs.set i u)++rest,ty,lo'⟩]:=by
 obtain⟨vs,hB,hv,hs,hlo⟩:=h;obtain⟨v,h1,h2⟩:=hv.get hi;obtain⟨hi',_⟩:=aS.1 h1;rcases hB with⟨e,_,_⟩|⟨b,rest,lo',h3,h4,h5,h6,h7⟩
 .rw[e] at h1;simp at h1
 .refine⟨b,vs,rest,lo',by simp only[] at h3;rw[h3],h4,hv,hs,hi',fun u d' hu hul=>?_⟩
  have hall: ∀x∈vs.set i u,(aH x).length=s:=fun x hx=>by
   rcases List.mem_or_eq_of_mem_set hx with h'|rfl
   .exact hs x h'
   .exact hul
  refine⟨vs.set i u, .inr ⟨b,rest,lo',by simpa using h3,J,fC _ hall,?_,by simpa using h7⟩,hv.set i hu,hall,fun hl o ho=>?_⟩
  .rw[fC _ hall,bZ,<-h5];exact h6
  .have:=hlo hl
   rw[h4] at this;rw[aY.1 ho];have h9:=this ⟨b,aF vs++rest,ty,lo'⟩ aQ;exact h9
def axu{u:Value}(vs:List Value)(i:Nat)(h:i<vs.length)(hs: ∀v∈vs,(aH v).length=s)(hu:(aH u).length=s):cP (aF vs++rest) (i*s) (aH u)=aF (vs.set i u)++rest:=by
 have hl:=fC vs hs;have hle:i*s+s<=vs.length*s:=by rw[<-gK];exact bS _ h
 rw[qj _ _ _ (by rw[hu,aU];omega),hu,fV m5,kV m5,Df vs i hs m5,<-gK,Fz vs (i+1) hs h,
  List.set_eq_take_append_cons_drop,if_pos h,show vs.take i++u::vs.drop (i+1)=vs.take i++([u]++vs.drop (i+1)) from J,nA,nA,yk]
 simp
end
end Go.Sx
end
section
namespace Go.Sx
open Go Go.Proofs Tryz
variable {GB G G':Gh}{n nm s k:Nat}{fr' fr1 kf:aD}{own' own1 ko:aI}{α X:Type}{f:FX}{row:Bool}{l ds:List DV}{ρ:NE}{ov ov':List aA}{a:Act}{w:World}{lk:LK}{bk:BM}{ty:TypeId}{c d:Code}
section
variable {C:aG}{Q0:Exit->Act->World->Prop}{fr:aD}{own:aI}{cf cf':Cf}{vc vc':List Prop}{ops:Array Oper}{r:List Oper}{o:Oper}{K:List Kt}
def pj(row:Bool)(nm:Nat)(l:List DV):FX->FX
 | .rw m=>bif Nat.beq m nm then(bif row then .d (.sl l) else .no) else .rw m
 | .ov m off=>bif Nat.beq m nm then(bif row then .no else(match off with
  |0=> .d (.pt l)
  |_+1=> .no)) else .ov m off
 | .be m s i j=>bif Nat.beq m nm then .no else .be m s i j
 | .rs m s i j=>bif Nat.beq m nm then .no else .rs m s i j
 | .bx tp pre m post=>bif Nat.beq m nm then(bif row then(match tp with
  |true=> .d (.tp (pre++ .sl l::post))
  |false=> .d (.ag (pre++ .sl l::post))) else .no) else .bx tp pre m post
 |f=>f
def Bn(f:FX)(k:FX->α):α:=match f with
 | .d x=>k (.d x)
 | .rw m=>k (.rw m)
 | .ov a b=>k (.ov a b)
 | .be a b c d=>k (.be a b c d)
 | .rs a b c d=>k (.rs a b c d)
 |f=>k f
def Ef{k:FX->α}:Bn f k=k f:=by cases f<;>rfl
def Cj{α:Type}(row:Bool)(nm:Nat)(l:List DV):aD->(aD->α)->α
 |[],k=>k []
 |(j,f)::t,k=>Cj row nm l t fun t'=>Bn (pj row nm l f) fun f'=>k ((j,f')::t')
def Do{α:Type}(row:Bool)(nm:Nat)(l:List DV):List FX->(List FX->α)->α
 |[],k=>k []
 |f::t,k=>Do row nm l t fun t'=>Bn (pj row nm l f) fun f'=>k (f'::t')
def AX{α:Type}(row:Bool)(nm:Nat)(l:List DV):aI->(aI->α)->α
 |[],k=>k []
 |(j,B)::t,k=>AX row nm l t fun t'=>bif Nat.beq j nm then k ((j,none)::t') else match B with
  |some (.o ty cs lo)=>Do row nm l cs fun cs'=>k ((j,some (.o ty cs' lo))::t')
  |B=>k ((j,B)::t')
def wM(row:Bool)(nm:Nat)(l:List DV):Option Bk->Option Bk
 |some (.o ty cs lo)=>some (.o ty (cs.map (pj row nm l)) lo)
 |B=>B
def P4{α:Type}{row:Bool}{nm:Nat}{l:List DV}: ∀{cs:List FX} {k:List FX->α},Do row nm l cs k=k (cs.map (pj row nm l))
 |[],k=>rfl
 |f::t,k=>by simp only[Do,Ef];rw[P4];rfl
def KN{α:Type}{row:Bool}{nm:Nat}{l:List DV}: ∀{fr:aD} {k:aD->α},Cj row nm l fr k=k (fr.map fun e=>(e.1,pj row nm l e.2))
 |[],k=>rfl
 |(j,f)::t,k=>by simp only[Cj,Ef];rw[KN];rfl
def GU{α:Type}{row:Bool}{nm:Nat}{l:List DV}: ∀{own:aI} {k:aI->α},AX row nm l own k=k (own.map fun e=>(e.1,bif Nat.beq e.1 nm then none else wM row nm l e.2))
 |[],k=>rfl
 |(j,B)::t,k=>by
  simp only[AX,GU (own:=t),bY]
  cases Nat.beq j nm with
  |true=>rfl
  |false=>
   cases B with
   |none=>rfl
   |some B=>cases B<;>simp only[cond_false,P4,wM]
def E1{g:FX->FX}: ∀{fr:aD} {k:Nat},bi (fr.map fun e=>(e.1,g e.2)) k=(bi fr k).map g
 |[],k=>rfl
 |(j,f)::t,k=>by
  simp only[bY];rw[li,li,E1 (fr:=t)];split<;>rfl
def PY{row:Bool}{nm:Nat}{l:List DV}: ∀{own:aI} {k:Nat},bA (own.map fun e=>(e.1,bif Nat.beq e.1 nm then none else wM row nm l e.2)) k=if k=nm then none else wM row nm l (bA own k)
 |[],k=>by simp[bA,wM]
 |(j,B)::t,k=>by
  simp only[bY];rw[km,km,PY (own:=t)];by_cases h:k=j
  .subst h
   simp only[if_true];by_cases e:k=nm
   .subst e;simp
   .have:Nat.beq k nm=false:=by
     cases hb:Nat.beq k nm with
     |false=>rfl
     |true=>exact absurd (bQ hb) e
    simp[this,e]
  .simp[h]
structure B6 where
 fr:aD
 own:aI
def B4(fr:aD)(own:aI)(nm:Nat):Option B6:=match bA own nm with
 |some (.b _ _ ds true)=>Cj true nm ds fr fun fr'=>AX true nm ds own fun own'=>some ⟨fr',own'⟩
 |some (.o _ cs true)=>match jP cs with
  |some l=>Cj false nm l fr fun fr'=>AX false nm l own fun own'=>some ⟨fr',own'⟩
  |none=>none
 |_=>none
def ki.of_mem{o:aA}: ∀{own:List aA},o∈own-> ∃own',ki own o own'/\ ∀x∈own,x.b≠o.b->x∈own'
 |[],h=>by cases h
 |x::t,h=>by
  rcases aV.1 h with rfl|h
  .exact⟨t, .hd ..,fun y hy hb=>(aV.1 hy).elim (fun e=>absurd (by rw[e]) hb) id⟩
  .obtain⟨own',h1,h2⟩:=ki.of_mem h
   exact⟨x::own', .tl _ _ _ _ h1,fun y hy hb=>(aV.1 hy).elim (fun e=>by rw[e];exact aQ) (fun e=>aJ _ (h2 y e hb))⟩
def Mt{y:Value}(hg:b9 G G')(h:cp ρ G f y)(hr:row=true-> ∀y,cp ρ G (.rw nm) y->Is G' (.sl l) y)(ho:row=false-> ∀y,cp ρ G (.ov nm 0) y->Is G' (.pt l) y):cp ρ G' (pj row nm l f) y:=by
 cases f with
 |rw m=>
  simp only[pj]
  cases hb:Nat.beq m nm with
  |false=>exact h.up hg
  |true=>
   cases bQ hb
   cases row with
   |true=>exact hr J y h
   |false=>trivial
 |ov m off=>
  simp only[pj]
  cases hb:Nat.beq m nm with
  |false=>exact h.up hg
  |true=>
   cases bQ hb
   cases row with
   |true=>trivial
   |false=>cases off with
    |zero=>exact ho J y h
    |succ=>trivial
 |be m s i j=>
  simp only[pj]
  cases hb:Nat.beq m nm with
  |false=>exact h.up hg
  |true=>trivial
 |rs m s i j=>
  simp only[pj]
  cases hb:Nat.beq m nm with
  |false=>exact h.up hg
  |true=>trivial
 |bx tp pre m post=>
  simp only[pj]
  cases hb:Nat.beq m nm with
  |false=>exact h.up hg
  |true=>
   cases bQ hb
   cases row with
   |false=>trivial
   |true=>
    obtain⟨m1,m2,e,h1,h2⟩:=h;have hl:=(h1.up hg).app (.cons (hr J _ J) (h2.up hg))
    cases tp with
    |true=>exact lh.2 ⟨_,e,hl⟩
    |false=>exact eD.2 ⟨_,e,hl⟩
 |_=>exact h.up hg
def U0{row:Bool}{nm:Nat}{l:List DV}{ρ:NE}{G G':Gh}(hg:b9 G G')(hr:row=true-> ∀y,cp ρ G (.rw nm) y->Is G' (.sl l) y)(ho:row=false-> ∀y,cp ρ G (.ov nm 0) y->Is G' (.pt l) y): ∀{cs:List FX} {m:List Value},d6 ρ G cs m->d6 ρ G' (cs.map (pj row nm l)) m
 |[],m,h=>h
 |f::t,m,⟨y,q,e,h1,h2⟩=>⟨y,q,e,Mt hg h1 hr ho,U0 hg hr ho h2⟩
def ce.frz(h:ce GB C n (bi fr) (bA own) ρ G ov a w)(hg:b9 G G')(hh:bP C ov' G' w)(hv: ∀o∈ov,(ρ nm).a≠some ⟨o.b,0,none⟩->o∈ov'){B0:Bk}(hb:bA own nm=some B0)
  (hr:row=true-> ∀y,cp ρ G (.rw nm) y->Is G' (.sl l) y)(ho:row=false-> ∀y,cp ρ G (.ov nm 0) y->Is G' (.pt l) y):
  ce GB C n (bi (fr.map fun e=>(e.1,pj row nm l e.2))) (bA (own.map fun e=>(e.1,bif Nat.beq e.1 nm then none else wM row nm l e.2))) ρ G' ov' a w:=by
 have inv: ∀m B,bA (own.map fun e=>(e.1,bif Nat.beq e.1 nm then none else wM row nm l e.2)) m=some B->m≠nm/\ ∃B1,bA own m=some B1/\wM row nm l (some B1)=some B:=fun m B e=>by
  rw[PY] at e;split at e
  .cases e
  .rename_i hm
   refine⟨hm,?_⟩
   cases hl:bA own m with
   |none=>rw[hl] at e;cases e
   |some B1=>rw[hl] at e;exact⟨B1,J,e⟩
 refine⟨h.gb.trans hg,hh,h.sz,h.df,fun k f e=>?_,fun m B e=>?_,fun m m' B B' e e'=>?_,h.fxd⟩
 .rw[E1] at e
  cases hf:bi fr k with
  |none=>rw[hf] at e;cases e
  |some g=>
   rw[hf] at e;cases e;obtain⟨y,h1,h2⟩:=h.fx k g hf;exact⟨y,h1,Mt hg h2 hr ho⟩
 .obtain⟨hm,B1,h1,h2⟩:=inv m B e
  obtain⟨os,h3,h4⟩:=h.bx m B1 h1;refine⟨os,?_,fun o ho'=>hv o (h4 o ho') fun hc=>h.dj m nm B1 B0 h1 hb hm _ (h3.blk ho') hc⟩
  cases B1 with
  |b=>cases h2;exact h3.up hg
  |c=>cases h2;exact h3.up hg
  |o ty cs lo=>cases h2;obtain⟨b,q,h5,h6,h7⟩:=h3;exact⟨b,q,h5,h6,U0 hg hr ho h7⟩
 .obtain⟨_,B1,h1,_⟩:=inv m B e
  obtain⟨_,B2,h2,_⟩:=inv m' B' e';exact h.dj m m' B1 B2 h1 h2
def ce.frzRow(r:ce GB C n lk bk ρ G ov a w)(hb:bk nm=some (.b ty s ds true)):
  ∃G' ov',b9 G G'/\bP C ov' G' w/\(∀o∈ov,(ρ nm).a≠some ⟨o.b,0,none⟩->o∈ov')/\ ∀y,cp ρ G (.rw nm) y->Is G' (.sl ds) y:=by
 obtain⟨B,⟨vs,hB,hv,hs,hlo⟩,hBo⟩:=r.row (y:= .nilFunc) hb;rcases hB with⟨e1,e2,e3⟩|⟨b,rest,lo',e2,e3,h5,h6,h7⟩
 .subst e1
  have ed:ds=[]:=cJ (by rw[<-hv.len];rfl);subst ed;simp only at e2;refine⟨G,ov,b9.refl _,r.h,fun o ho _=>ho,fun y hy=>?_⟩;rw[show y=_ from hy,e2];exact il.2 ⟨0,⟨none,0,0⟩,[],J, .nil G 0, .nil⟩
 .subst e3
  have hl:=hlo J _ aQ;simp only at hl;subst hl;obtain⟨ov',o1,o2⟩:=ki.of_mem (hBo _ aQ);obtain⟨f1,f2⟩:=r.h.freeze o1;simp only at e2;refine⟨_,ov',f2,f1,fun o ho hne=>o2 o ho fun e=>hne (by rw[e2,e]),fun y hy=>?_⟩;rw[show y=_ from hy,e2];exact il.2 ⟨s,⟨some ⟨b,0,none⟩,vs.length,_⟩,vs,J,gH.of_flat hs (if_pos J) h7,hv.up f2⟩
def ce.frzVar{cs:List FX}(r:ce GB C n lk bk ρ G ov a w)(hb:bk nm=some (.o ty cs true))(hl:jP cs=some l):
  ∃G' ov',b9 G G'/\bP C ov' G' w/\(∀o∈ov,(ρ nm).a≠some ⟨o.b,0,none⟩->o∈ov')/\ ∀y,cp ρ G (.ov nm 0) y->Is G' (.pt l) y:=by
 obtain⟨os,⟨b,m,h3,rfl,h4⟩,h5⟩:=r.bx _ _ hb;obtain⟨ov',o1,o2⟩:=ki.of_mem (h5 _ aQ);obtain⟨f1,f2⟩:=r.h.freeze o1;refine⟨_,ov',f2,f1,fun o ho hne=>o2 o ho fun e=>hne (by rw[h3,e]),fun y hy=>?_⟩;obtain⟨b',h6,rfl⟩:=hy;rw[h3] at h6;cases h6;exact mO.2 ⟨b,m,J,if_pos J,(ti h4 hl).up f2⟩
def KX{Φ:Act->World->Prop}{R:B6}(h:B4 fr own nm=some R)(hk:SX GB C n (bi R.fr) (bA R.own) Φ):SX GB C n (bi fr) (bA own) Φ:=by
 refine⟨fun ρ G ov a w r=>?_⟩;unfold B4 at h;split at h<;>try (cases h;done)
 .rename_i ty s ds hb
  rw[KN,GU] at h;cases h;obtain⟨G',ov',h1,h2,h3,h4⟩:=r.frzRow hb;exact hk.run ρ G' ov' a w (r.frz (row:=true) h1 h2 h3 hb (fun _=>h4) (fun e=>by cases e))
 .rename_i ty cs hb
  split at h<;>try (cases h;done)
  rename_i l hl;rw[KN,GU] at h;cases h;obtain⟨G',ov',h1,h2,h3,h4⟩:=r.frzVar hb hl;exact hk.run ρ G' ov' a w (r.frz (row:=false) h1 h2 h3 hb (fun e=>by cases e) (fun _=>h4))
def fz[fu:Fu](nm:Nat)(h:B4 fr own nm=some ⟨fr1,own1⟩)(hgo:go tt n fu.n [] fr1 own1 (.ops ops r K)=⟨vc,fr',own',cf'⟩)(k:av prog GB C n Q0 fr' own' cf')(hv:ak vc:=by first|exact trivial|(simp only[ak];kernel_rfl)|(simp only[ak];omega)|(simp only[ak,aX,bZ,aR];omega)):av prog GB C n Q0 fr own (.ops ops r K):=
 KX h (gF hgo hv k)
def iH(nm:Nat){e:Exit}(h:B4 fr own nm=some ⟨fr1,own1⟩)(k:av prog GB C n Q0 fr1 own1 (.ex e K)):av prog GB C n Q0 fr own (.ex e K):=KX h k
def oA(nm:Nat)(h:B4 fr own nm=some ⟨fr1,own1⟩)(k:av prog GB C n Q0 fr1 own1 (.code c K)):av prog GB C n Q0 fr own (.code c K):=KX h k
def vO:aD->aD->Prop
 |[],_=>True
 |(k,v)::t,fr=>bi fr k=some v/\vO t fr
def xk:aI->aI->Prop
 |[],_=>True
 |(k,v)::t,own=>bA own k=v/\xk t own
def xo: ∀{f:aD},vO f fr->ll (bi f) (bi fr)
 |[],_,k,x,h=>by cases h
 |(j,v)::t,h,k,x,e=>by
  rw[li] at e;split at e
  .cases e;rename_i hk;rw[hk];exact h.1
  .exact xo h.2 k x e
def wU: ∀{f:aI},xk f own->ll (bA f) (bA own)
 |[],_,k,x,h=>by cases h
 |(j,v)::t,h,k,x,e=>by
  rw[km] at e;split at e
  .rename_i hk;rw[hk,h.1,e]
  .exact wU h.2 k x e
def qf{q:IntKind}{a b:Int}(h:bi fr k=some (.d (.v (.int q a))))(e:a=b):bi fr k=some (.d (.v (.int q b))):=e▸h
def Gm(GB:Gh)(C:aG)(n:Nat)(F:X->aD)(O:X->aI)(I:X->Prop)(a:Act)(w:World):Prop:=
 ∃x ρ G ov,I x/\ce GB C n (bi (F x)) (bA (O x)) ρ G ov a w
def KF:List Oper->List Nat->List Nat
 |[],l=>l
 |o::r,l=>match o.dst with
  |some d=>d::KF r l
  |none=>KF r l
def wv:Code->List Nat->List Nat
 | .region _ ops _,l=>KF ops.toList l
 | .seq a b,l=>wv a (wv b l)
 | .cond _ a b,l=>wv a (wv b l)
 | .block _ a,l=>wv a l
 | .loop a,l=>wv a l
 | .scope a,l=>wv a l
 |_,l=>l
def Gb{α:Type}:List Nat->aD->(aD->α)->α
 |_,[],k=>k []
 |l,(j,f)::t,k=>bif xd l j then Gb l t k else Gb (j::l) t fun t'=>k ((j,f)::t')
def CK{α:Type}:List Nat->aI->(aI->α)->α
 |_,[],k=>k []
 |l,(j,B)::t,k=>bif xd l j then CK l t k else match B with
  |some B=>CK l t fun t'=>k ((j,some B)::t')
  |none=>CK l t k
structure Kp where
 fr:aD
 own:aI
def keep(c:Code)(uf uo:List Nat)(fr:aD)(own:aI):Kp:=my (wv c uo) fun m=>my (uf++m) fun m'=>Gb m' fr fun fr'=>CK m own fun own'=>⟨fr',own'⟩
theorem omY{p:Prop}(h:p:=by first|omega|(dsimp only;omega)):p:=h
def lp[fu:Fu](U:X->aD)(V:X->aI)(I:X->Prop)(μ:X->Nat)(x0:X){cf':X->Cf}{fr':X->aD}{own':X->aI}{vc:X->List Prop}(hkp:keep c ((U x0).map (·.1)) ((V x0).map (·.1)) fr own=⟨kf,ko⟩)(hI:I x0)
  (hgo: ∀x,go tt n fu.n [] (U x++kf) (V x++ko) (.code c (.ag (Gm GB C n (fun y=>U y++kf) (fun y=>V y++ko) (fun y=>I y/\μ y<μ x))::K))=⟨vc x,fr' x,own' x,cf' x⟩)
  (round: ∀x,I x->av prog GB C n Q0 (fr' x) (own' x) (cf' x))(hF:vO (U x0++kf) fr:=by repeat (first|exact trivial|refine And.intro J ?_|refine And.intro (qf J omY) ?_|refine And.intro (qf J vb) ?_))(hO:xk (V x0++ko) own:=by repeat (first|exact trivial|refine And.intro J ?_))
  (hv: ∀x,I x->ak (vc x):=by intros;first|exact trivial|(simp only[ak];kernel_rfl)|(simp only[ak];omega)|(simp only[ak,aX,bZ,aR];omega)):av prog GB C n Q0 fr own (.code (.loop c) K):=by
 refine⟨fun ρ G ov a w r=>?_⟩;have r0:=r.mono (xo hF) (wU hO);intro b k cs hro hb hrm;have key: ∀m a w,(∃x ρ G ov,I x/\μ x=m/\ce GB C n (bi (U x++kf)) (bA (V x++ko)) ρ G ov a w)->
   ∃e a' w',cQ C.rd prog Q0 K e a' w'/\ArrivesIn (Machine.fenced prog (FW C.rd)) prog (lone (b.atR a (.code c:: .inLoop c::k)) cs w) b k cs e a' w':=by
  intro m
  induction m using Nat.strongRecOn with
  |_ m ih=>
   intro a w ⟨x,ρ,G,ov,hx,hm,hr⟩;have h1:=gF (GB:=GB) (C:=C) (Q0:=Q0) (hgo x) (hv x hx) (round x hx);obtain⟨e,a₁,w₁,hq,harr⟩:=h1.run ρ G ov a w hr b (.inLoop c::k) cs hro hb hrm
   cases e with
   |normal=>
    obtain⟨x',ρ',G',ov',⟨hx',hlt⟩,hr'⟩:=hq;obtain⟨e₂,a₂,w₂,hq₂,harr₂⟩:=ih (μ x') (hm▸hlt) a₁ w₁ ⟨x',ρ',G',ov',hx',rfl,hr'⟩;exact⟨e₂,a₂,w₂,hq₂, .of_steps (StepsIn.trans harr (.one (fenced_calm hb hrm J) stepR_inLoop)) harr₂⟩
   |exit id=>exact⟨_,a₁,w₁,hq, .pass (x:= .inLoop c) J (fun _ _=> .inl vb) harr⟩
   |goto l=>exact⟨_,a₁,w₁,hq, .pass (x:= .inLoop c) J (fun _ _=> .inl vb) harr⟩
   |ret=>exact⟨_,a₁,w₁,hq, .pass (x:= .inLoop c) J (fun _ _=> .inl vb) harr⟩
   |panic ch=>exact⟨_,a₁,w₁,hq, .pass (x:= .inLoop c) J (fun _ _=> .inl vb) harr⟩
   |outgrown=>exact⟨_,a₁,w₁,hq, .pass (x:= .inLoop c) J (fun _ _=> .inl vb) harr⟩
 obtain⟨e,a',w',q,rr⟩:=key (μ x0) a w ⟨x0,ρ,G,ov,hI,rfl,r0⟩;exact⟨e,a',w',q, .of_steps (.one (fenced_calm hb hrm J) stepR_loop) rr⟩
def at_{F:X->aD}{O:X->aI}{I:X->Prop}(x:X)(hI:I x)(hF:vO (F x) fr:=by repeat (first|exact trivial|refine And.intro J ?_|refine And.intro (qf J omY) ?_|refine And.intro (qf J vb) ?_))(hO:xk (O x) own:=by repeat (first|exact trivial|refine And.intro J ?_)):av prog GB C n Q0 fr own (.ex .normal (.ag (Gm GB C n F O I)::K)):=
 ⟨fun ρ G ov a w r=>⟨x,ρ,G,ov,hI,r.mono (xo hF) (wU hO)⟩⟩
def mg[fu:Fu](U:X->aD)(V:X->aI)(I:X->Prop){cf':X->Cf}{fr':X->aD}{own':X->aI}{vc:X->List Prop}(u0 v0:List Nat)(hkp:keep c u0 v0 fr own=⟨kf,ko⟩)
  (h1:av prog GB C n Q0 fr own (.code c (.ag (Gm GB C n (fun y=>U y++kf) (fun y=>V y++ko) I)::K)))
  (hgo: ∀x,go tt n fu.n [] (U x++kf) (V x++ko) (.code d K)=⟨vc x,fr' x,own' x,cf' x⟩)(k: ∀x,I x->av prog GB C n Q0 (fr' x) (own' x) (cf' x))(hv: ∀x,I x->ak (vc x):=by intros;first|exact trivial|(simp only[ak];kernel_rfl)|(simp only[ak];omega)|(simp only[ak,aX,bZ,aR];omega)):av prog GB C n Q0 fr own (.code c (.sq d::K)):=by
 refine SX.imp h1 fun a w h=>V2 h ?_;intro e a w h
 cases e with
 |normal=>
  obtain⟨x,ρ,G,ov,hI,hr⟩:=h;have:=gF (GB:=GB) (C:=C) (Q0:=Q0) (hgo x) (hv x hI) (k x hI);exact this.run ρ G ov a w hr
 |_=>exact h
end
end Go.Sx
end
section
namespace Go.Sx
open Go
variable {P:Program}{ops:Array Oper}{Q:Exit->Act->World->Prop}{GB G:Gh}{C:aG}{n e s by_ s' nhi mx':Nat}{fr fr':n5}{own' own0 own1 own1':List lz}{bs bs0 bs1 bs1' bs':List ke}{E:vW}{r:List Oper}{Φ:Act->World->Prop}{dst:Option Nat}{t t' ty' ty:TypeId}{pos:String}{af:Array Edge}{x y z:Operand}{w:SV}{ds l:List DV}{vs es:List Value}
section
variable {S:World->Prop}{π₂:List (Nat×Bool)}
end
section
variable {own:List lz}{fd:List FD}{π π₂:List (Nat×Bool)}
structure SR (GB:Gh) (C:aG) (n:Nat) (fr:n5) (own0:List lz) (bs0:List ke) (own1:List lz) (bs1:List ke) (fd:List FD) (K:List Nat->(World->Prop)->Act->World->Prop):Prop where
 run: ∀G frv o0 o1,b9 GB G->D1 G fr frv->OB G own0 bs0 o0->OB G own1 bs1 o1-> ∀fs:Fs,St C n (frv++H8 fd fs) (o1++(o0++Ja fd fs)) G (K (Ty fd fs) (HS C o0 G))
instance {GB:Gh} {C:aG} {n:Nat} {fr:n5} {own0:List lz} {bs0:List ke} {own1:List lz} {bs1:List ke} {fd:List FD} {K:List Nat->(World->Prop)->Act->World->Prop}:CoeFun (SR GB C n fr own0 bs0 own1 bs1 fd K) (fun _=> ∀G frv o0 o1,b9 GB G->D1 G fr frv->OB G own0 bs0 o0->OB G own1 bs1 o1-> ∀fs:Fs,St C n (frv++H8 fd fs) (o1++(o0++Ja fd fs)) G (K (Ty fd fs) (HS C o0 G))):=⟨SR.run⟩
end
section
variable {own:List lz}
variable {gd:Option (Nat×Bool)}
def PB(GB:Gh)(P:Program)(f:FuncId)(mk:SV->List DV)(s:Nat)(ty:TypeId)(dsi:List DV)(mkr:SV->DV)(dso:List DV):Prop:=
 ∀G w vs B,b9 GB G->dO G ⟨w,s,ty,dsi,false⟩ B->IsLs G (mk w) vs->iO P f vs B G (fun v own' G'=> ∃w',Is G' (mkr w') v/\dO G' ⟨w',s,ty,dso,false⟩ own')
def dO.asB{G:Gh}{w:SV}{ty:TypeId}{ds:List DV}{lo:Bool}{B:List aA}(h:dO G ⟨w,s,ty,ds,lo⟩ B):dO G ⟨w,s,ty,ds,false⟩ (Sx.asB B):=by
 obtain⟨vs,h1,h2,h3,h4⟩:=h;exact⟨vs,h1.asB,h2,h3,fun h=>by cases h⟩
def dO.weak{lo:Bool}{B:List aA}(h:dO G ⟨w,s,ty,ds,lo⟩ B):dO G ⟨w,s,ty,ds,false⟩ B:=by
 obtain⟨vs,h1,h2,h3,h4⟩:=h;exact⟨vs,h1,h2,h3,fun h=>by cases h⟩
end
section
variable {own:List lz}
variable {gd:Option (Nat×Bool)}
def PN(GB:Gh)(P:Program)(f:FuncId)(ds:List DV)(ty:TypeId)(ι:Type)(cs:ι->List DV):Prop:=
 ∀G vs,b9 GB G->IsLs G ds vs->iO P f vs [] G (fun v own' G'=> ∃x b m,v= .pointer (some ⟨b,0,none⟩)/\own'=[⟨b,m,ty,true⟩]/\IsLs G' (cs x) m)
end
section
variable {own:List lz}
variable {gd:Option (Nat×Bool)}
def axT{fr:Fr}{own:List aA}{fn:Func}{K:Value->List aA->Gh->Prop}(hr:lm P fr own fn.results.toList vs)(own2 own3:List aA)(hp:own.Perm own2)(hs:own3.Sublist own2)(hk:own3.Pairwise (fun x y=>x.b≠y.b)->K (p9 vs) own3 G):St C n fr own G (ge C P fn (t8 C K) .ret):=
 fun a w rl hmk=>⟨rl.df.trans hmk,_,vi hr rl.fr rl.h,_,own3,G,J,(rl.h.perm hp).drop hs,hk ((rl.h.perm hp).drop hs).nd⟩
def WL(hsl:gH G s' w es)(hl:IsLs G l es)(ho:dm s l)(h2:nhi<=l.length)(hm1:nhi<=mx')(hm2:mx'<=w.c):Is G (.sl (l.take nhi)) (.slice w.a nhi mx'):=by
 have hn:=hsl.len;have hcap:=hsl.cap;have hll:=hl.len;have e9: ∀s,nB w.a w.n w.c 0 nhi mx' s= .slice w.a nhi mx':=by
  intro s;unfold nB
  cases w.a with
  |none=>simp
  |some ad=>simp[Addr.add]
 rcases A' hsl hl ho with he|he
 .subst he
  have:l=[]:=cJ (by rw[<-hll];rfl);subst this;have e1:nhi=0:=by simp at h2;exact h2
  subst e1;refine il.2 ⟨s,⟨_,0,mx'⟩,[],J,⟨J,bK _, .inl J⟩,by simpa using IsLs.nil⟩
 .subst he
  have k:=hsl.sub 0 nhi mx' (bK _) m5 hm1 hm2;have k2:=il.2 ⟨s',⟨_,_,_⟩,_,J,k,(hl.take nhi).drop 0⟩;rw[iW] at k2;have e:=e9 s';unfold nB at e;revert k2;simp only[] at*;intro k2
  first|exact e▸k2|(simp at e k2⊢;first|exact k2|(cases hw:w.a<;>simp_all [Addr.add]))
end
end Go.Sx
end
section
namespace Go.Sx
open Go Go.Proofs
variable {P:Program}{T:TT}{GB G:Gh}{C:aG}{n e s by_ d nm sz j len b nlo nhi:Nat}{lk:LK}{bk:BM}{ρ:NE}{ov B ov' own':List aA}{a a':Act}{w w':World}{dst ag:Option Nat}{t t' ty' ty:TypeId}{pos:String}{af:Array Edge}{x y mx:Operand}{k k':IntKind}{l ds ds2 ds':List DV}{i:TI}{lo lo':Bool}{c z v d' u:DV}{K:Act->World->Prop}{f:FX}{vs rest m':List Value}
section
variable {gd:Option (Nat×Bool)}
def aKq[hT:cD P t e s by_]{d:DV}{i:Int}(hx:evD lk x=some (.sl l))(hy:aP lk y=some (.d (.v (.int k i))))(h0:0<=i)(he:l[i.toNat]? =some d)(hd:(d.okc&&Nat.beq d.cells.length s)=true):
  cg P GB C n lk bk ⟨dst, .indexAddr t x y,ty',pos,af,gd⟩ (.ep d.cells) [] []:= .yd fun ρ G ov a w r=>by
 simp only[bR] at hd;obtain⟨hd,hs⟩:=hd;obtain⟨u,h1,h2⟩:=r.evD hx;obtain⟨q,g1,g2⟩:=r.ev hy;rw[dl] at g2;subst g2;obtain⟨s',z,es,rfl,hsl,hl⟩:=il.1 h2;obtain⟨v,h3,h4⟩:=hl.get he;obtain⟨h5,h6⟩:=aS.1 h3;have hc:=(h4.cells hd).1.len;replace hs:=bQ hs;rcases hsl.mem with h|⟨b,off,cs,ha,hg,hcs⟩
 .rw[h] at h5;simp at h5
 .have h7:=hcs i.toNat h5
  rw[h6] at h7;have h8:=CO h7;have:s'=s:=by omega
  subst this;rw[ha] at h1;have hn:=hsl.len;refine⟨.pointer (some ⟨b,off+i.toNat*s',none⟩),⟨b,_,cs,aH v,J,hg,?_,(h4.cells hd).1⟩,wK h1 g1 h0 m5⟩;rw[<-hc,h8];exact h7
def BZ(ag:Option Nat)(cs:List DV)(j:Nat):Option DV:=match ag with
 |some k=>match takeD cs j k with
  |some l=>some (.ag l)
  |none=>none
 |none=>cs[j]?
def aKN{k:Nat}{d:DV}(hi:f8 P t=some i)(ha:i.ag=some ag)(hx:aP lk x=some (.be nm sz k j))(hb:bk nm=some (.b ty sz ds lo))(he:ds[k]? =some d)(hd:d.okc=true)(hl:BZ ag d.cells j=some c):
  cg P GB C n lk bk ⟨dst, .load t x,ty',pos,af,gd⟩ (.d c) [] []:= .x1 hx fun ρ G ov a w y _ r h1 h2=>by
 obtain⟨b,hwb,rfl⟩:=h2;obtain⟨B,hB,hmem⟩:=r.row (y:= .nilFunc) hb;obtain⟨b',m,rest,lo',l0,e1,rfl,h3,h4⟩:=hB.elem he hd;simp only[] at e1 h3;rw[hwb] at e1;cases e1;have oat:jw ov b (m++rest) ty lo':=⟨hmem _ aQ⟩
 cases ag with
 |some k'=>
  have:=yG hi ha;simp only[BZ] at hl;split at hl<;>cases hl;rename_i hl;obtain⟨l',h5,h6⟩:=h4.takeD hl;exact⟨.agg ⟨l'⟩,eD.2 ⟨l',J,h6⟩,EB h1 (Rb h3 h5)⟩
 |none=>
  have:=xt hi ha;simp only[BZ] at hl;obtain⟨l',h5,h6⟩:=h4.get hl;have hj:j<sz:=by
   have:=CO h3;have h7:=(aS.1 h5).1;omega
  exact⟨l',h6,pP h1 (by rw[KW h3 hj];exact h5)⟩
def dO.toBk{x:SV}(h:dO G ⟨x,s,ty,ds,lo⟩ B)(e:ρ nm=x):l8 ρ G nm (.b ty s ds lo) B:=by
 obtain⟨vs,h1,h2,h3,h4⟩:=h;exact⟨vs,by rw[e];exact h1,h2,h3,h4⟩
theorem okK{p:Prop}(h:p:=by show _=_;simp):p:=h
def ce.newRow(r:ce GB C n lk bk ρ G ov a w){z:SV}(hf:kH [d] (some d) lk bk)(hB:dO G ⟨z,s,ty,ds,true⟩ B)(hos: ∀o∈B,o∈ov')
  (hov: ∀m B',m≠d->bk m=some B'-> ∀o∈ov,(ρ m).a=some ⟨o.b,0,none⟩->o∈ov'/\z.a≠some ⟨o.b,0,none⟩)
  (hk:SX GB C n (fq lk (some d) (.rw d)) (Sx.upB bk [(d,some (.b ty s ds true))]) K)(rl:iw C n (Sx.put (cI a) (some d) (.slice z.a z.n z.c)) ov' G a' w'):K a' w':=
 hk.run _ _ _ a' w' (r.new' (x:=z) (f:= .rw d) (y:= .slice z.a z.n z.c) hf (b9.refl _) rl.h (hB.toBk vb) hos hov okK (kd rl))
def nF(i:TI):Option DV:=match i.z with
 |some z=>match jP z with
  |some zs=>bif i.za then(bif zs.all DV.flat then some (.ag zs) else none) else(match zs with
   |[d]=>bif d.flat then some d else none
   |_=>none)
  |none=>none
 |none=>none
def arl{d:DV}(h:d.flat=true):d.cells=[d]/\d.okc=true:=by
 cases d<;>first|exact⟨J,h⟩|cases h
theorem yf{d:DV}(hi:f8 P e=some i)(h:nF i=some d): ∃v,ie P e v/\(∀G,Is G d v)/\d.okc=true:=by
 obtain⟨j,hj,hij⟩:=rp hi;unfold nF at h;split at h<;>try (cases h;done)
 rename_i z hz;split at h<;>try (cases h;done)
 rename_i zs hzs;obtain⟨v,h1,h2⟩:=Br hi hz;have h3: ∀G,IsLs G zs (aH v):=fun G=>ti (h2 (fun _=>⟨none,0,0⟩) G) hzs;have hzv:j.zero=some v:=by have:=h1.inf;rw[hj] at this;simpa using this
 have hza:i.za=HK (some v):=by rw[hij,<-hzv]
 cases hb:i.za with
 |true=>
  rw[hb] at h hza
  cases hc:zs.all DV.flat with
  |false=>rw[hc] at h;cases h
  |true=>
   rw[hc] at h;cases h
   cases v<;>first|(cases hza;done)|skip
   rename_i cs;exact⟨_,h1,fun G=>eD.2 ⟨cs.toList,vb,h3 G⟩,hc⟩
 |false=>
  rw[hb,cond_false] at h;rw[hb] at hza;split at h<;>try (cases h;done)
  rename_i u
  cases hc:u.flat with
  |false=>rw[hc] at h;cases h
  |true=>
   rw[hc] at h;cases h;have hv:aH v=[v]:=by cases v<;>first|rfl|(cases hza;done)
   refine⟨v,h1,fun G=>?_,(arl hc).2⟩;have:=h3 G;rw[hv] at this;exact this.uncons.1
def WX{l:Int}[hT:cD P t e s by_](hi:f8 P e=some i)(hz:nF i=some z)(hs:Nat.beq z.cells.length s=true)(hx:aP lk x=some (.d (.v (.int k l))))(hy:aP lk y=some (.d (.v (.int k' l))))(h0:0<=l)(hb:by_*l<=140737488355328)(hl:l<=1152921504606846976)(hds:List.replicate l.toNat z=ds):
  cg P GB C n lk bk ⟨some d, .makeSlice t x y,ty',pos,af,gd⟩ (.rw d) [(d,some (.b e s ds true))] [d]:=by
 intro hd tl tb K s1 s2 hf hk;refine⟨fun ρ G ov a w r Q=>?_⟩;subst hds;obtain⟨v,hz1,hz2,hz3⟩:=yf hi hz;obtain⟨q1,p1,p2⟩:=(r.mono s1 s2).ev hx;obtain⟨q2,p3,p4⟩:=(r.mono s1 s2).ev hy;rw[dl] at p2 p4;subst p2 p4;have c1:=((hz2 G).cells hz3).1.len;replace hs:=bQ hs;have e1: ∀u∈List.replicate l.toNat v,(aH u).length=s:=fun u hu=>by rw[mM hu,c1,hs]
 refine HD p1 p3 h0 hb hl (by rw[c1,hs]) hd (fun b a' w' rl=>?_) a w Q ⟨r.h,r.sz,dh a,r.df⟩;have hnd:=(bU.1 rl.h.nd).1;refine r.newRow (z:=⟨some ⟨b,0,none⟩,l.toNat,l.toNat⟩) (B:=[⟨b,du v l.toNat,e,true⟩]) hf ⟨List.replicate l.toNat v, .inr ⟨b,[],true,vb,by rw[XS,fT],fC _ e1,by rw[fC _ e1];simp,vb⟩,Tn (hz2 G) _,e1,fun _ o ho=>by rw[aY.1 ho]⟩
  (fun o ho=>by rw[aY.1 ho];exact aQ) (fun m B' _ _ o ho _=>⟨aJ _ ho,fun e'=>?_⟩) hk rl
 cases e';exact hnd o ho J
def xy(lk:LK):Nat->List (Nat×Operand)->Option (List DV)
 |_,[]=>some []
 |j,(i,x)::r=>match evD lk x,xy lk (j+1) r with
  |some d,some l=>bif Nat.beq i j then some (d::l) else none
  |_,_=>none
def Sh(r:ce GB C n lk bk ρ G ov a w){zv:Value}(hz:(aH zv).length=s): ∀(ps:List (Nat×Operand)) (j:Nat) (pre:List Value) (ds:List DV),xy lk j ps=some ds->pre.length=j*s->(∀d∈ds,d.okc=true/\d.cells.length=s)->
  ∃vs,wN (cI a) s (pre++du zv ps.length) ps=some (pre++aF vs)/\IsLs G ds vs/\(∀v∈vs,(aH v).length=s)/\vs.length=ps.length
 |[],j,pre,ds,e,hp,hd=>by
  simp only[xy] at e;cases e;exact⟨[],by simp[wN,du,aF], .nil,vb,J⟩
 |(i,x)::ps,j,pre,ds,e,hp,hd=>by
  simp only[xy] at e;split at e
  .rename_i d l hx hl
   cases hb:Nat.beq i j with
   |false=>rw[hb] at e;cases e
   |true=>
    rw[hb] at e
    cases e
    have:=bQ hb;subst this;obtain⟨y,hy,hy'⟩:=r.evD hx;obtain⟨k1,k2⟩:=hd d aQ;have c1:=(hy'.cells k1).1.len;have hov:cP (pre++du zv (ps.length+1)) (i*s) (aH y)=(pre++aH y)++du zv ps.length:=by
     rw[auR,<-hp,Mi _ _ _ _ (by rw[c1,k2,hz]),dK]
    obtain⟨vs,h1,h2,h3,h4⟩:=Sh r hz ps (i+1) (pre++aH y) l hl (by rw[aU,c1,k2,hp,gK]) (fun d hd'=>hd d (aJ _ hd'));refine⟨y::vs,?_, .cons hy' h2,fun v hv=>?_,by simp[h4]⟩
    .simp only[wN,hy,aN]
     rw[if_pos ⟨by rw[c1,k2],by rw[aU,oP,hz,hp,gK];omega⟩,hov,h1];simp[aF]
    .rcases aV.1 hv with rfl|hv
     .rw[c1,k2]
     .exact h3 v hv
  .cases e
def Nk{parts:Array (Nat×Operand)}[hT:cD P t e s by_](hi:f8 P e=some i)(hz:nF i=some z)(hs:Nat.beq z.cells.length s=true)(hb:xy lk 0 parts.toList=some ds)(hok:CN s ds=true)(hlen:Nat.beq parts.toList.length len=true)(hsm:Nat.ble (len*s) 1000=true)(hs0:Nat.blt 0 (len*s)=true):
  cg P GB C n lk bk ⟨some d, .buildSlice t len parts,ty',pos,af,gd⟩ (.rw d) [(d,some (.b e s ds true))] [d]:=by
 intro hd tl tb K s1 s2 hf hk;refine⟨fun ρ G ov a w r Q=>?_⟩;obtain⟨v,hz1,hz2,hz3⟩:=yf hi hz;have c1:=((hz2 G).cells hz3).1.len;replace hs:=bQ hs;have hlen':=bQ hlen;obtain⟨vs,h1,h2,h3,h4⟩:=Sh (r.mono s1 s2) (s:=s) (zv:=v) (by rw[c1,hs]) parts.toList 0 [] ds hb vb (CQ hok);rw[kQ,kQ] at h1;refine Nt (z:=v) (out:=aF vs) (by rw[c1,hs]) (by rw[<-hlen'];exact h1) hsm hs0 hd (fun b a' w' rl=>?_) a w Q ⟨r.h,r.sz,dh a,r.df⟩;have hnd:=(bU.1 rl.h.nd).1;have hvl:vs.length=len:=by rw[h4,hlen']
 refine r.newRow (z:=⟨some ⟨b,0,none⟩,len,len⟩) (B:=[⟨b,aF vs,e,true⟩]) hf ⟨vs, .inr ⟨b,[],true,by rw[hvl],by rw[fT],fC _ h3,by rw[fC _ h3,hvl];simp,by rw[hvl];exact bW _⟩,h2,h3,fun _ o ho=>by rw[aY.1 ho]⟩
  (fun o ho=>by rw[aY.1 ho];exact aQ) (fun m B' _ _ o ho _=>⟨aJ _ ho,fun e'=>?_⟩) hk rl
 cases e';exact hnd o ho J
def WF[hT:cD P t e s by_]:cg P GB C n lk bk ⟨some d, .buildSlice t 0 #[],ty',pos,af,gd⟩ (.rw d) [(d,some (.b e s [] true))] [d]:=by
 intro hd tl tb K s1 s2 hf hk;refine⟨fun ρ G ov a w r Q=>?_⟩;refine N2 hd (fun b a' w' rl=>?_) a w Q ⟨r.h,r.sz,dh a,r.df⟩;have hnd:=(bU.1 rl.h.nd).1;refine r.newRow (z:=⟨some ⟨b,0,none⟩,0,0⟩) (B:=[⟨b,[],e,true⟩]) hf ⟨[], .inr ⟨b,[],true,J,by simp[aF],by simp[aF],by simp[aF],vb⟩, .nil,vb,fun _ o ho=>by rw[aY.1 ho]⟩
  (fun o ho=>by rw[aY.1 ho];exact aQ) (fun m B' _ _ o ho _=>⟨aJ _ ho,fun e'=>?_⟩) hk rl
 cases e';exact hnd o ho J
def cg.frz{o:Oper}{B:Bk}(hd:o.dst=some d)(h:cg P GB C n lk bk o f [(d,some B)] [d])
  (hz: ∀lk bk ρ G ov a w,ce GB C n lk bk ρ G ov a w->bk d=some B-> ∃G' ov',b9 G G'/\bP C ov' G' w/\(∀o∈ov,(ρ d).a≠some ⟨o.b,0,none⟩->o∈ov')/\ ∀y,cp ρ G f y->Is G' v y):cg P GB C n lk bk o (.d v) [(d,none)] [d]:=by
 intro hd' tl tb K s1 s2 hf hk;refine h hd' tl tb K s1 s2 hf ?_;rw[hd] at hk⊢;refine⟨fun ρ G ov a w r=>?_⟩;have hbd:Sx.upB tb [(d,some B)] d=some B:=by simp[Sx.upB]
 obtain⟨G',ov',h1,h2,h3,h4⟩:=hz _ _ ρ G ov a w r hbd;refine hk.run ρ G' ov' a w ⟨r.gb.trans h1,h2,r.sz,r.df,fun k g e=>?_,fun m B' e=>?_,fun m m' B1 B2 e e'=>?_,r.fxd⟩
 .by_cases hk:k=d
  .subst hk
   simp only[fq,if_true] at e;cases e;obtain⟨y,g1,g2⟩:=r.fx k f (by simp[fq]);exact⟨y,g1,h4 y g2⟩
  .simp only[fq,hk,if_false] at e
   obtain⟨y,g1,g2⟩:=r.fx k g (by simp[fq,hk,e]);exact⟨y,g1,g2.up h1⟩
 .simp only[Sx.upB] at e
  split at e
  .cases e
  .rename_i hm
   have e':Sx.upB tb [(d,some B)] m=some B':=by simp[Sx.upB,hm,e]
   obtain⟨os,g1,g2⟩:=r.bx m B' e';exact⟨os,g1.up h1,fun o ho=>h3 o (g2 o ho) fun hc=>r.dj m d B' B e' hbd hm _ (g1.blk ho) hc⟩
 .simp only[Sx.upB] at e e'
  split at e
  .cases e
  .rename_i hm
   split at e'
   .cases e'
   .rename_i hm'
    exact r.dj m m' B1 B2 (by simp[Sx.upB,hm,e]) (by simp[Sx.upB,hm',e'])
def cg.frzRow{o:Oper}{d:Nat}{ty:TypeId}{s:Nat}{ds:List DV}(hd:o.dst=some d)(h:cg P GB C n lk bk o (.rw d) [(d,some (.b ty s ds true))] [d]):cg P GB C n lk bk o (.d (.sl ds)) [(d,none)] [d]:=
 h.frz hd fun _ _ _ _ _ _ _ r hb=>r.frzRow hb
def Wg(e:aP lk x=some f)(hc:f.okc=true)(hn:y5 f d=true)(hl:jP f.cells=some l):cg P GB C n lk bk ⟨some d, .box t x,ty',pos,af,gd⟩ (.d (.pt l)) [(d,none)] [d]:=
 (SO e hc hn).frz J fun _ _ _ _ _ _ _ r hb=>r.frzVar hb hl
def q8(lk:LK)(bk:BM)(s:Nat)(y:Operand):Option (List DV):=match aP lk y with
 |some (.rw nm)=>match bk nm with
  |some (.b _ s' ds _)=>bif Nat.beq s' s then some ds else none
  |_=>none
 |some f=>match kr f with
  |some (.sl l)=>some l
  |_=>none
 |none=>none
theorem okm{p:Prop}(h:p:=by rw[aU];omega):p:=h
def Bt(r:ce GB C n lk bk ρ G ov a w)(h:q8 lk bk s y=some ds)(hk:dm s ds):
  ∃(z:SV) (vs:List Value),aE (cI a) y=some (.slice z.a z.n z.c)/\z.n=vs.length/\IsLs G ds vs/\(∀v∈vs,(aH v).length=s)/\(∀v∈aF vs,Sx.flat v=true)/\nI P C ov G s z.n (.slice z.a z.n z.c) (aF vs):=by
 have hfl: ∀vs:List Value,IsLs G ds vs->(∀v∈vs,(aH v).length=s)/\ ∀v∈aF vs,Sx.flat v=true:=by
  intro vs hl;refine⟨fun v hv=>?_,fun v hv=>?_⟩
  .obtain⟨d,hd,h3⟩:=hl.all v hv
   obtain⟨k1,k2⟩:=hk d hd;rw[(h3.cells k1).1.len,k2]
  .simp only[aF,List.mem_flatten,aT] at hv
   obtain⟨l,⟨u,hu,rfl⟩,hv⟩:=hv;obtain⟨d,hd,h3⟩:=hl.all u hu;exact(h3.cells (hk d hd).1).2 v hv
 unfold q8 at h;split at h
 .rename_i nm hy
  split at h<;>try (cases h;done)
  rename_i ty s' ds' lo hb
  cases hs:Nat.beq s' s with
  |false=>rw[hs] at h;cases h
  |true=>
   rw[hs] at h;cases h
   cases bQ hs
   obtain⟨u,h1,h2⟩:=r.ev hy
   cases h2
   obtain⟨B,⟨vs,hB,hv,hs,_⟩,hmem⟩:=r.row (y:= .nilFunc) hb;obtain⟨f1,f2⟩:=hfl _ hv;refine⟨ρ nm,vs,h1,hB.len,hv,f1,f2,?_⟩;rcases hB with⟨e1,e2,e3⟩|⟨b,rest,lo',h3,h4,h5,h6,h7⟩
   .simp only[] at e2
    subst e1;rw[e2];exact wi
   .simp only[] at h3 h4 h5 h6 h7
    have oat:jw ov b (aF vs++rest) ty lo':=⟨hmem _ (by rw[h4];exact aQ)⟩;rw[show(ρ nm).a=some ⟨b,0,none⟩ by rw[h3],show(ρ nm).n=vs.length by rw[h3]];refine z' oat ?_;rw[l5 _ _ _ okm,iW,fV m5,bM m5]
 .rename_i f _ hy
  split at h<;>cases h;rename_i hd;obtain⟨u,h3,h4⟩:=r.ev hy;obtain⟨s',z,es,rfl,hsl,hl⟩:=il.1 (nO h4 hd);obtain⟨f1,f2⟩:=hfl _ hl;refine⟨z,es,h3,hsl.len,hl,f1,f2,?_⟩;rcases A' hsl hl hk with he|he
  .subst he
   rw[hsl.len];exact wi
  .subst he;exact YA hsl
 .cases h
def aFq[hT:cD P t e s by_][hN:kz P t'](hi:f8 P e=some i)(hz:nF i=some z)(hs:Nat.beq z.cells.length s=true)(hx:aP lk x=some (.rw nm))(hb:bk nm=some (.b e s ds true))(hy:q8 lk bk s y=some ds2)(hk2:dm s ds2)
  (hby:Nat.blt 0 by_=true)(hbd:(ds.length+ds2.length)*by_<=140737488355328)(hnd:Nat.beq nm d=false)(hds:ds++ds2=ds'):
  cg P GB C n lk bk ⟨some d, .call ⟨.builtin .append, #[x,y], #[t,t']⟩,ty',pos,af,gd⟩ (.rw d) [(nm,none),(d,some (.b e s ds' true))] [d]:=by
 intro hd tl tb K s1 s2 hf hk;refine⟨fun ρ G ov a w r Q=>?_⟩;subst hds;have r1:=r.mono s1 s2;obtain⟨v,hz1,hz2,hz3⟩:=yf hi hz;have cz:=((hz2 G).cells hz3).1.len;replace hs:=bQ hs;rw[lY] at hby
 have hne:nm≠d:=fun e=>by subst e;simp at hnd
 obtain⟨u,hx',hx2⟩:=r1.ev hx
 cases hx2
 obtain⟨B,⟨vs,hB,hv,hvs,hlo⟩,hBo⟩:=r1.row (y:= .nilFunc) hb;simp only[] at hB hv hvs;obtain⟨w2,us,hy',h2,h3,h4,h5,h6⟩:=Bt (P:=P) r1 hy hk2;have hus:(aF us).length=us.length*s:=fC us h4;have hbd':(vs.length+us.length)*by_<=140737488355328:=by rw[hv.len,h3.len];exact hbd
 have hall: ∀v∈vs++us,(aH v).length=s:=fun v hv=>by
  rcases aL.1 hv with hv|hv
  .exact hvs v hv
  .exact h4 v hv
 have rd:=r.dropB nm;have hf':kH [d] (some d) tl (Sx.upB tb [(nm,none)]):=fun m hm=>by
  obtain⟨g1,g2⟩:=hf m hm;refine⟨g1,fun k B' hk e=>g2 k B' hk ?_⟩;simp only[Sx.upB] at e;split at e
  .cases e
  .exact e
 have hbk: ∀m B',(Sx.upB tb [(nm,none)]) m=some B'->m≠nm/\tb m=some B':=fun m B' e=>by
  simp only[Sx.upB] at e;split at e
  .cases e
  .exact⟨v7,e⟩
 have hfin: ∀(b:Nat) (cap':Nat) (rest':List Value) (ov1:List aA) a' w',vs.length+us.length<=cap'->rest'.length+(vs.length+us.length)*s=cap'*s->(∀o∈ov,(ρ nm).a≠some ⟨o.b,0,none⟩->o∈ov1)->
   iw C n (put (cI a) (some d) (.slice (some ⟨b,0,none⟩) (vs.length+us.length) cap')) (⟨b,aF (vs++us)++rest',e,true⟩::ov1) G a' w'->K a' w':=by
  intro b cap' rest' ov1 a' w' hc hr ho1 rl;have hnd':=(bU.1 rl.h.nd).1;refine rd.newRow (z:=⟨some ⟨b,0,none⟩,vs.length+us.length,cap'⟩) (B:=[⟨b,aF (vs++us)++rest',e,true⟩]) hf' ⟨vs++us, .inr ⟨b,rest',true,vb,J,fC _ hall,?_,by simpa using hc⟩,hv.app h3,hall,fun _ o ho=>by rw[aY.1 ho]⟩
   (fun o ho=>by rw[aY.1 ho];exact aQ) (fun m B' hm e o ho hmo=>?_) hk rl
  .rw[fC _ hall,aU]
   simp only[];omega
  .obtain⟨h7,h8⟩:=hbk m B' e
   have ho2:=ho1 o ho fun hc=>r.dj m nm B' _ h8 (s2 _ _ hb) h7 _ hmo hc;exact⟨aJ _ ho2,fun e'=>by cases e';exact hnd' o ho2 J⟩
 rcases hB with⟨e1,e2,e3⟩|⟨b,rest,lo',k3,k4,k5,k6,k7⟩
 .subst e1
  rw[e2] at hx';by_cases hne:us=[]
  .subst hne
   have:ds2=[]:=cJ (by rw[<-h3.len];rfl);subst this;rw[h2] at hy';refine TO hx' hy' hd (fun a' w' rl=>?_) a w Q ⟨r.h,r.sz,dh a,r.df⟩;refine rd.newRow (z:=⟨none,0,0⟩) (B:=[]) hf' ⟨[], .inl ⟨J,J,J⟩,by simpa using hv,vb,fun _ o ho=>by cases ho⟩ (fun o ho=>by cases ho) (fun m B' hm e o ho hmo=>⟨ho,fun e'=>by cases e'⟩) hk rl
  .have hup:0<us.length:=nU.2 hne
   rw[h2] at hy' h6;refine Dc (z:=v) (xs:=[]) (ys:=aF us) hx' hy' wi h6 (by show(0:Nat)<0+us.length;omega) hby (by simpa using hbd') hd (fun b cap' hc a' w' rl=>?_) a w Q ⟨r.h,r.sz,dh a,r.df⟩;exact hfin b cap' (du v (cap'-us.length)) ov a' w' (by simpa using hc) (by rw[oP,cz,hs,<-dV];simp at hc⊢;congr 1;omega) (fun o ho _=>ho) (by simpa using rl)
 .have hl:=hlo J
  subst k4;have hlo':lo'=true:=hl _ aQ;subst hlo';have ha:(ρ nm).a=some ⟨b,0,none⟩:=by rw[k3]
  have hn:(ρ nm).n=vs.length:=by rw[k3]
  rw[ha,hn] at hx';rw[h2] at hy' h6;obtain⟨ov1,o1,o2⟩:=ki.of_mem (hBo _ aQ);refine RA (z:=v) (xs:=aF vs) (ys:=aF us) (rest:=rest) (own1:=ov1) hx' hy' o1 k5 k6 k7 h6 hus h5 hby hbd' (by rw[cz,hs]) hd (fun b' cap' rest' hc hr a' w' rl=>?_) a w Q ⟨r.h,r.sz,dh a,r.df⟩;rw[<-nA] at rl;exact hfin b' cap' rest' ov1 a' w' hc hr (fun o ho hne=>o2 o ho fun e'=>hne (by rw[ha,e'])) rl
end
section
variable {gd:Option (Nat×Bool)}
def KY{cs:List Value}{i:Nat}{v':Value}(hil:i<vs.length)(hvs: ∀v∈vs,(aH v).length=sz)(hv':aH v'=cP (aH vs[i]) j cs)(hj:j+cs.length<=sz):cP (aF vs++rest) (i*sz+j) cs=aF (vs.set i v')++rest:=by
 have hm:(aH vs[i]).length=sz:=hvs _ (cK hil);have hl':(aH v').length=sz:=by rw[hv',AN,hm]
 rw[<-axu (rest:=rest) (u:=v') vs i hil hvs hl',hv'];have hlv:=fC vs hvs;have hle:i*sz+sz<=vs.length*sz:=by rw[<-gK];exact bS _ hil
 generalize hmm:aH vs[i]=m at*;have hX:aF vs++rest=(aF vs).take (i*sz)++(m++((aF vs).drop (i*sz+sz)++rest)):=by
  have t1:=JB (rest:=rest) hvs hil;rw[hmm] at t1;obtain⟨_,t2⟩:=Bb t1;have t3:m=((aF vs).drop (i*sz)).take sz:=by
   have:m=((aF vs++rest).drop (i*sz)).take sz:=t2;rw[this,kV m5,fV (by rw[gT];omega)]
  rw[t3]
  conv=>lhs;rw[<-kR (i*sz) (aF vs),<-kR sz ((aF vs).drop (i*sz)),uZ]
  simp[dK]
 have hP:((aF vs).take (i*sz)).length=i*sz:=by rw[bL];omega
 generalize (aF vs).take (i*sz)=A at hX hP;generalize (aF vs).drop (i*sz+sz)++rest=Z at hX;rw[hX,<-hP,Mi A m Z (cP m j cs) (by rw[AN])];rw[qj _ m j m5,qj _ _ _ okF];rw[List.take_append,bM m5,Nat.add_sub_cancel_left,fV m5];rw[nN,iL m5,kQ,show A.length+j+cs.length-A.length=j+cs.length by omega,kV m5];simp[dK]
def DB(ag:Option Nat)(d:DV)(j:Nat)(u:DV):Option DV:=match d with
 | .ag l=>match ag with
  |some k=>bif u.okc&&(Nat.beq u.cells.length k&&Nat.ble (j+k) l.length) then some (.ag (DX l j u.cells)) else none
  |none=>bif u.flat&&Nat.blt j l.length then some (.ag (l.set j u)) else none
 |d=>match ag with
  |some _=>none
  |none=>bif d.flat&&(u.flat&&Nat.beq j 0) then some u else none
def ce.wroteRow(r:ce GB C n lk bk ρ G ov a w)(hb:bk nm=some (.b ty sz ds lo))(ha:(ρ nm).a=some ⟨b,0,none⟩)(hB:dO G ⟨ρ nm,sz,ty,ds',lo⟩ [⟨b,m',ty,lo'⟩])
  (h1:⟨b,m',ty,lo'⟩∈own')(h2: ∀o∈ov,o.b≠b->o∈own')(hk:SX GB C n (fq lk dst .un) (Sx.upB bk [(nm,some (.b ty sz ds' lo))]) K)(rl:iw C n (Sx.put (cI a) dst undef) own' G a' w'):K a' w':=by
 have r2:=r.upB (G':=G) (ov':=own') (w':=w') (B':= .b ty sz ds' lo) (b9.refl _) rl.h (hB.toBk J) (fun o ho=>by rw[aY.1 ho];exact h1) (fun o ho hne=>h2 o ho fun e=>hne (by rw[ha,e])) ⟨_,hb⟩;exact hk.run _ _ _ a' w' (r2.put J (kd rl))
def SW(cs:List Value)(o:Nat)(v:Value):cP cs o [v]=cs.set o v:=rfl
def aKw{k:Nat}{d:DV}(hi:f8 P t=some i)(ha:i.ag=some ag)(hx:aP lk x=some (.be nm sz k j))(hb:bk nm=some (.b ty sz ds lo))(hy:evD lk y=some u)(he:ds[k]? =some d)(hl:DB ag d j u=some d')(hds:ds.set k d'=ds'):
  cg P GB C n lk bk ⟨dst, .store t x y,ty',pos,af,gd⟩ .un [(nm,some (.b ty sz ds' lo))] []:=by
 intro hd tl tb K s1 s2 hf hk;refine⟨fun ρ G ov a w r Q=>?_⟩;subst hds;have r1:=r.mono s1 s2;obtain⟨y',h1,h2⟩:=r1.evD hy;obtain⟨x',h3,b,hwb,rfl⟩:=r1.ev hx;obtain⟨B,hB,hBo⟩:=r1.row (y:= .nilFunc) hb;obtain⟨b',vs,rest,lo',e1,rfl,hv,hvs,hil,hup⟩:=hB.upd he;rw[hwb] at e1;cases e1;obtain⟨v,g1,g2⟩:=hv.get he;obtain⟨g3,g4⟩:=aS.1 g1;have hlv:=fC vs hvs;have hle:k*sz+sz<=vs.length*sz:=by rw[<-gK];exact bS _ hil
 have hml:(aH v).length=sz:=hvs _ (aW g1)
 cases ag with
 |some q=>
  have:=yG hi ha;unfold DB at hl;split at hl
  .rename_i l
   simp only at hl
   cases hc:(u.okc&&(Nat.beq u.cells.length q&&Nat.ble (j+q) l.length)) with
   |false=>rw[hc] at hl;cases hl
   |true=>
    rw[hc] at hl;cases hl;simp only[bR,Nat.ble_eq] at hc;obtain⟨c1,c2,c3⟩:=hc;replace c2:=bQ c2;obtain⟨c4,c5⟩:=h2.cells c1;obtain⟨m,rfl,hm⟩:=eD.1 g2;have hcl:(aH y').length=q:=by rw[c4.len,c2]
    have hmd:=hm.len;have hsz:m.length=sz:=hml;have key:=hup (.agg ⟨cP m j (aH y')⟩) (.ag (DX l j u.cells)) (eD.2 ⟨_,J,hm.ov c4⟩) (by show(cP m j (aH y')).length=sz;rw[AN,hsz]);have hov:=KY (rest:=rest) (v':= .agg ⟨cP m j (aH y')⟩) (cs:=aH y') (j:=j) hil hvs (by rw[g4];rfl) m5;obtain⟨own',u1,u2,u3⟩:=i9.of_mem (cs':=cP (aF vs++rest) (k*sz+j) (aH y')) (hBo _ aQ);refine FF h3 h1 u1 hcl okm (dW.2 c5) hd (fun a' w' rl=>?_) a w Q ⟨r.h,r.sz,dh a,r.df⟩;rw[hov] at u2;exact r.wroteRow (s2 _ _ hb) hwb key u2 u3 hk rl
  .simp at hl
 |none=>
  have:=xt hi ha;unfold DB at hl;split at hl
  .rename_i l
   simp only at hl
   cases hc:(u.flat&&Nat.blt j l.length) with
   |false=>rw[hc] at hl;cases hl
   |true=>
    rw[hc] at hl;cases hl;simp only[bR,lY] at hc;obtain⟨c1,c2⟩:=hc;have hfl:=h2.flat c1;have hcl:=Ap hfl;obtain⟨m,rfl,hm⟩:=eD.1 g2;have hmd:=hm.len;have hsz:m.length=sz:=hml;have key:=hup (.agg ⟨m.set j y'⟩) (.ag (l.set j u)) (eD.2 ⟨_,J,hm.set j h2⟩) (by show(m.set j y').length=sz;rw[bZ,hsz]);have hov:=KY (rest:=rest) (v':= .agg ⟨m.set j y'⟩) (cs:=[y']) (j:=j) hil hvs (by rw[g4];rfl) omg;rw[SW] at hov;obtain⟨own',u1,u2,u3⟩:=i9.of_mem (cs':=(aF vs++rest).set (k*sz+j) y') (hBo _ aQ);refine vS h3 h1 u1 okm hfl hd (fun a' w' rl=>?_) a w Q ⟨r.h,r.sz,dh a,r.df⟩;rw[hov] at u2;exact r.wroteRow (s2 _ _ hb) hwb key u2 u3 hk rl
  .rename_i hna
   simp only at hl
   cases hc:(d.flat&&(u.flat&&Nat.beq j 0)) with
   |false=>rw[hc] at hl;cases hl
   |true=>
    rw[hc] at hl;cases hl;simp only[bR] at hc;obtain⟨c0,c1,c2⟩:=hc
    cases bQ c2
    have hfl:=h2.flat c1;have hcl:=Ap hfl;have hvl:=Ap (g2.flat c0);have h1z:1=sz:=by rw[<-hml,hvl];rfl
    have key:=hup y' d' h2 (by rw[hcl,<-h1z];rfl);have hov:=KY (rest:=rest) (v':=y') (cs:=[y']) (j:=0) hil hvs (by rw[g4,hvl,hcl];rfl) omg;rw[SW] at hov;obtain⟨own',u1,u2,u3⟩:=i9.of_mem (cs':=(aF vs++rest).set (k*sz+0) y') (hBo _ aQ);refine vS h3 h1 u1 okm hfl hd (fun a' w' rl=>?_) a w Q ⟨r.h,r.sz,dh a,r.df⟩;rw[hov] at u2;exact r.wroteRow (s2 _ _ hb) hwb key u2 u3 hk rl
def n9(lk:LK)(dflt:Nat):Option Operand->Option Int
 |none=>some (dflt:Nat)
 |some o=>match aP lk o with
  |some (.d (.v (.int .i64 i)))=>some i
  |_=>none
def XI{lo hi:Option Operand}[hT:cD P t e s by_](hx:evD lk x=some (.sl l))(ho:dm s l)(hlo:n9 lk 0 lo=some (nlo:Int))(hhi:n9 lk l.length hi=some (nhi:Int))(h1:nlo<=nhi)(h2:nhi<=l.length):
  cg P GB C n lk bk ⟨dst, .slice t x lo hi none,ty',pos,af,gd⟩ (.d (.sl ((l.take nhi).drop nlo))) [] []:= .yd fun ρ G ov a w r=>by
 obtain⟨u,h3,h4⟩:=r.evD hx;obtain⟨s',z,es,rfl,hsl,hl⟩:=il.1 h4;have hn:=hsl.len;have hcap:=hsl.cap;have hll:=hl.len;have key: ∀mx',nhi<=mx'->mx'<=z.c->Is G (.sl ((l.take nhi).drop nlo)) (nB z.a z.n z.c nlo nhi mx' s):=by
  intro mx' hm1 hm2;rcases A' hsl hl ho with he|he
  .subst he
   have:l=[]:=cJ (by rw[<-hll];rfl);subst this;have e1:nhi=0:=by simp at h2;exact h2
   have e2:nlo=0:=by omega
   subst e1 e2;refine il.2 ⟨s,⟨_,0,mx'⟩,[],J,⟨J,bK _, .inl J⟩,by simpa using IsLs.nil⟩
  .subst he
   refine il.2 ⟨s',⟨_,_,_⟩,_,J,hsl.sub nlo nhi mx' h1 m5 hm1 hm2,(hl.take nhi).drop nlo⟩
 have bnd: ∀{o:Operand} {d:Nat} {i:Int},n9 lk d (some o)=some i->aE (cI a) o=some (.int .i64 i):=fun{o d i} h=>by
  simp only[n9] at h;split at h<;>cases h;rename_i he;obtain⟨q,g1,g2⟩:=r.ev he;rw[dl] at g2;subst g2;exact g1
 match lo,hi,hlo,hhi with
 |none,none,hlo,hhi=>
  simp only[n9,Option.some.injEq] at hlo hhi;have e1:nlo=0:=by omega
  have e2:nhi=l.length:=by omega
  subst e1 e2;refine⟨_,key z.c m5 (bW _),?_⟩;intro a w0 hf hh;simp only[execOp,bC hf h3,rR];have h9:=Ci (P:=P) (t:=t) (ad:=z.a) (len:=z.n) (cap:=z.c) w0 (lo:=none) (hi:=none) (mx:=none) (l:=0) (h:=l.length) (m:=z.c) (fun w0=>by
   simp[Instr.sliceBounds,Result.andThen,run_pure];omega)
  exact dq h9
 |none,some o2,hlo,hhi=>
  simp only[n9,Option.some.injEq] at hlo;have e1:nlo=0:=by omega
  subst e1;refine⟨_,key z.c m5 (bW _),?_⟩;have h9:=DD (P:=P) (C:=C) (own:=ov) (G:=G) (t:=t) (dst:=dst) (ty':=ty') (pos:=pos) (af:=af) (gd:=gd) h3 (bnd hhi);have e9:nB z.a z.n z.c 0 nhi z.c s= .slice z.a nhi z.c:=by
   unfold nB
   cases z.a with
   |none=>simp
   |some ad=>simp[Addr.add]
  rw[e9];simpa using h9
 |some o1,none,hlo,hhi=>
  simp only[n9,Option.some.injEq] at hhi;have e2:nhi=l.length:=by omega
  subst e2;refine⟨_,key z.c m5 (bW _),?_⟩;have h9:=Du (P:=P) (C:=C) (own:=ov) (G:=G) (t:=t) (dst:=dst) (ty':=ty') (pos:=pos) (af:=af) (gd:=gd) h3 (bnd hlo);have e9:z.n=l.length:=by omega
  rw[cX,e9] at h9;rw[e9];exact h9
 |some o1,some o2,hlo,hhi=>
  refine⟨_,key z.c m5 (bW _),?_⟩;have h9:=amJ (P:=P) (C:=C) (own:=ov) (G:=G) (t:=t) (dst:=dst) (ty':=ty') (pos:=pos) (af:=af) (gd:=gd) h3 (bnd hlo) (bnd hhi) m5 m5 m5;simpa using h9
def WH{hi:Operand}[hT:cD P t e s by_](hx:evD lk x=some (.sl l))(ho:dm s l)(hhi:n9 lk 0 (some hi)=some (nhi:Int))(hmx:n9 lk 0 (some mx)=some (nhi:Int))(h2:nhi<=l.length):
  cg P GB C n lk bk ⟨dst, .slice t x none (some hi) (some mx),ty',pos,af,gd⟩ (.ct (l.take nhi)) [] []:= .yd fun ρ G ov a w r=>by
 obtain⟨u,h3,h4⟩:=r.evD hx;obtain⟨s',z,es,rfl,hsl,hl⟩:=il.1 h4;have hn:=hsl.len;have hcap:=hsl.cap;have hll:=hl.len;have bnd: ∀{o:Operand} {d:Nat} {i:Int},n9 lk d (some o)=some i->aE (cI a) o=some (.int .i64 i):=fun{o d i} h=>by
  simp only[n9] at h;split at h<;>cases h;rename_i he;obtain⟨q,g1,g2⟩:=r.ev he;rw[dl] at g2;subst g2;exact g1
 refine⟨.slice z.a nhi nhi,⟨⟨_,_,J⟩,WL hsl hl ho h2 (bW _) m5⟩,?_⟩;have h9:=auV (P:=P) (C:=C) (own:=ov) (G:=G) (t:=t) (dst:=dst) (ty':=ty') (pos:=pos) (af:=af) (gd:=gd) h3 (bnd hhi) (bnd hmx) m5 (Int.le_refl _) m5;simpa using h9
def UN[hT:cD P t e s by_][hN:kz P t'](hi:f8 P e=some i)(hz:nF i=some z)(hs:Nat.beq z.cells.length s=true)(hx:aP lk x=some (.ct ds)\/(aP lk x=some .nl/\ds=[]))(ox:dm s ds)(hy:q8 lk bk s y=some ds2)(hk2:dm s ds2)(hne:0<ds2.length)
  (hby:Nat.blt 0 by_=true)(hbd:(ds.length+ds2.length)*by_<=140737488355328)(hds:ds++ds2=ds'):
  cg P GB C n lk bk ⟨some d, .call ⟨.builtin .append, #[x,y], #[t,t']⟩,ty',pos,af,gd⟩ (.rw d) [(d,some (.b e s ds' true))] [d]:=by
 intro hd tl tb K s1 s2 hf hk;refine⟨fun ρ G ov a w r Q=>?_⟩;subst hds;have r1:=r.mono s1 s2;obtain⟨v,hz1,hz2,hz3⟩:=yf hi hz;have cz:=((hz2 G).cells hz3).1.len;replace hs:=bQ hs;rw[lY] at hby
 obtain⟨w2,us,h1,h2,h3,h4,h5,h6⟩:=Bt (P:=P) r1 hy hk2;have hxs:q8 lk bk s x=some ds:=by
  unfold q8;rcases hx with hx|⟨hx,rfl⟩<;>rw[hx]<;>rfl
 obtain⟨w1,vs,g1,g2,g3,g4,g5,g6⟩:=Bt (P:=P) r1 hxs ox;have hc1:w1.c=w1.n:=by
  rcases hx with hx|⟨hx,rfl⟩
  .obtain⟨y1,k1,⟨a1,n1,rfl⟩,_⟩:=r1.ev hx
   rw[k1] at g1;simp only[Option.some.injEq,Value.slice.injEq] at g1;omega
  .obtain⟨y1,k1,k2⟩:=r1.ev hx
   cases k2
   rw[k1] at g1;simp only[Option.some.injEq,Value.slice.injEq] at g1;omega
 have hl3:=h3.len;have hl4:=g3.len;have hall: ∀v∈vs++us,(aH v).length=s:=fun v hv=>by
  rcases aL.1 hv with hv|hv
  .exact g4 v hv
  .exact h4 v hv
 refine Dc (z:=v) (xs:=aF vs) (ys:=aF us) (ad:=w1.a) (len:=w1.n) (cap:=w1.c) g1 h1 g6 h6 m5 hby (by rw[g2,h2,hl3,hl4];exact hbd) hd (fun b cap' hc a' w' rl=>?_) a w Q ⟨r.h,r.sz,dh a,r.df⟩;rw[<-nA] at rl;have hnd':=(bU.1 rl.h.nd).1;refine r.newRow (z:=⟨some ⟨b,0,none⟩,w1.n+w2.n,cap'⟩) (B:=[⟨b,aF (vs++us)++du v (cap'-(w1.n+w2.n)),e,true⟩]) hf ⟨vs++us, .inr ⟨b,_,true,by simp[g2,h2],J,fC _ hall,?_,by simpa[g2,h2] using hc⟩,g3.app h3,hall,fun _ o ho=>by rw[aY.1 ho]⟩
  (fun o ho=>by rw[aY.1 ho];exact aQ) (fun m B' hm e o ho _=>⟨aJ _ ho,fun e'=>by cases e';exact hnd' o ho J⟩) hk rl
 rw[fC _ hall,aU,oP,cz,hs,<-dV,g2,h2];congr 1;rw[g2,h2] at hc;dsimp only;omega
end
end Go.Sx
end
