import Derived.Test.YtjpdfobnjmflkaaGreatDoorMk5
set_option linter.all false
set_option maxRecDepth 100000
section
namespace Go.Sx
open Go
def tt:TT:=[
 (2,⟨.int .i64,1,some [.d (.v (.int .i64 0))],false⟩),
 (3,⟨.int .i64,1,some [.d (.v (.int .i64 0))],false⟩),
 (4,⟨.bl,1,some [.ff],false⟩),
 (5,⟨.int .u8,1,some [.d (.v (.int .u8 0))],false⟩),
 (9,⟨.sc,1,some [.d (.v (.string ⟨#[]⟩))],false⟩),
 (20,⟨.fc,1,some [.d (.v (.nilIface))],false⟩),
 (22,⟨.sl 3 1 8,1,some [.nl],false⟩),
 (23,⟨.pt,1,some [.d (.v (.pointer none))],false⟩),
 (25,⟨.pt,1,some [.d (.v (.pointer none))],false⟩),
 (27,⟨.sl 53 6 112,1,some [.nl],false⟩),
 (29,⟨.sl 105 8 112,1,some [.nl],false⟩),
 (31,⟨.st [(0,3,1),(1,29,1)],2,some [.d (.v (.int .i64 0)), .nl],true⟩),
 (33,⟨.fc,1,some [.d (.v (.nilIface))],false⟩),
 (37,⟨.sl 79 6 112,1,some [.nl],false⟩),
 (43,⟨.sl 55 6 96,1,some [.nl],false⟩),
 (45,⟨.sl 208 1 4,1,some [.nl],false⟩),
 (46,⟨.sl 208 1 4,1,some [.nl],false⟩),
 (48,⟨.st [(0,4,1),(1,46,1)],2,some [.ff, .nl],true⟩),
 (50,⟨.st [(0,48,2),(2,46,1)],3,some [.ff, .nl, .nl],true⟩),
 (53,⟨.st [(0,50,3),(3,50,3)],6,some [.ff, .nl, .nl, .ff, .nl, .nl],true⟩),
 (55,⟨.st [(0,48,2),(2,48,2),(4,48,2)],6,some [.ff, .nl, .ff, .nl, .ff, .nl],true⟩),
 (59,⟨.sl 103 6 96,1,some [.nl],false⟩),
 (61,⟨.st [(0,59,1)],1,some [.nl],true⟩),
 (73,⟨.sl 208 1 4,1,some [.nl],false⟩),
 (75,⟨.st [(0,4,1),(1,73,1)],2,some [.ff, .nl],true⟩),
 (77,⟨.st [(0,75,2),(2,73,1)],3,some [.ff, .nl, .nl],true⟩),
 (79,⟨.st [(0,77,3),(3,77,3)],6,some [.ff, .nl, .nl, .ff, .nl, .nl],true⟩),
 (84,⟨.st [(0,22,1),(1,3,1)],2,some [.nl, .d (.v (.int .i64 0))],true⟩),
 (89,⟨.st [(0,4,1),(1,4,1),(2,55,6),(8,25,1),(9,25,1)],10,some [.ff, .ff, .ff, .nl, .ff, .nl, .ff, .nl, .d (.v (.pointer none)), .d (.v (.pointer none))],true⟩),
 (93,⟨.sl 79 6 112,1,some [.nl],false⟩),
 (95,⟨.o,1,some [.d (.v (.nilFunc))],false⟩),
 (103,⟨.st [(0,75,2),(2,75,2),(4,75,2)],6,some [.ff, .nl, .ff, .nl, .ff, .nl],true⟩),
 (105,⟨.st [(0,103,6),(6,3,1),(7,3,1)],8,some [.ff, .nl, .ff, .nl, .ff, .nl, .d (.v (.int .i64 0)), .d (.v (.int .i64 0))],true⟩),
 (107,⟨.sl 43 1 24,1,some [.nl],false⟩),
 (115,⟨.int .u64,1,some [.d (.v (.int .u64 0))],false⟩),
 (119,⟨.sl 213 9 72,1,some [.nl],false⟩),
 (122,⟨.sl 160 6 48,1,some [.nl],false⟩),
 (123,⟨.sl 160 6 48,1,some [.nl],false⟩),
 (126,⟨.sl 220 17 128,1,some [.nl],false⟩),
 (127,⟨.sl 220 17 128,1,some [.nl],false⟩),
 (134,⟨.st [(0,50,3),(3,50,3),(6,4,1),(7,4,1)],8,some [.ff, .nl, .nl, .ff, .nl, .nl, .ff, .ff],true⟩),
 (152,⟨.pt,1,some [.d (.v (.pointer none))],false⟩),
 (156,⟨.pt,1,some [.d (.v (.pointer none))],false⟩),
 (158,⟨.st [(0,2,1),(1,2,1),(2,156,1)],3,some [.d (.v (.int .i64 0)), .d (.v (.int .i64 0)), .d (.v (.pointer none))],true⟩),
 (160,⟨.st [(0,158,3),(3,158,3)],6,some [.d (.v (.int .i64 0)), .d (.v (.int .i64 0)), .d (.v (.pointer none)), .d (.v (.int .i64 0)), .d (.v (.int .i64 0)), .d (.v (.pointer none))],true⟩),
 (166,⟨.sl 27 1 24,1,some [.nl],false⟩),
 (168,⟨.st [(0,166,1),(1,3,1),(2,43,1)],3,some [.nl, .d (.v (.int .i64 0)), .nl],true⟩),
 (170,⟨.sl 93 1 24,1,some [.nl],false⟩),
 (173,⟨.sl 95 1 8,1,some [.nl],false⟩),
 (177,⟨.sl 152 1 8,1,some [.nl],false⟩),
 (178,⟨.sl 127 1 24,1,some [.nl],false⟩),
 (186,⟨.sl 4 1 1,1,some [.nl],false⟩),
 (193,⟨.sl 196 2 32,1,some [.nl],false⟩),
 (196,⟨.st [(0,43,1),(1,4,1)],2,some [.nl, .ff],true⟩),
 (208,⟨.int .u32,1,some [.d (.v (.int .u32 0))],false⟩),
 (209,⟨.int .u64,1,some [.d (.v (.int .u64 0))],false⟩),
 (213,⟨.st [(0,158,3),(3,158,3),(6,158,3)],9,some [.d (.v (.int .i64 0)), .d (.v (.int .i64 0)), .d (.v (.pointer none)), .d (.v (.int .i64 0)), .d (.v (.int .i64 0)), .d (.v (.pointer none)), .d (.v (.int .i64 0)), .d (.v (.int .i64 0)), .d (.v (.pointer none))],true⟩),
 (218,⟨.st [(0,158,3),(3,158,3),(6,4,1),(7,4,1)],8,some [.d (.v (.int .i64 0)), .d (.v (.int .i64 0)), .d (.v (.pointer none)), .d (.v (.int .i64 0)), .d (.v (.int .i64 0)), .d (.v (.pointer none)), .ff, .ff],true⟩),
 (220,⟨.st [(0,213,9),(9,218,8)],17,some [.d (.v (.int .i64 0)), .d (.v (.int .i64 0)), .d (.v (.pointer none)), .d (.v (.int .i64 0)), .d (.v (.int .i64 0)), .d (.v (.pointer none)), .d (.v (.int .i64 0)), .d (.v (.int .i64 0)), .d (.v (.pointer none)), .d (.v (.int .i64 0)), .d (.v (.int .i64 0)), .d (.v (.pointer none)), .d (.v (.int .i64 0)), .d (.v (.int .i64 0)), .d (.v (.pointer none)), .ff, .ff],true⟩),
 (228,⟨.o,12,some [.d (.v (.int .i64 0)), .d (.v (.int .i64 0)), .d (.v (.pointer none)), .d (.v (.int .i64 0)), .d (.v (.int .i64 0)), .d (.v (.pointer none)), .d (.v (.int .i64 0)), .d (.v (.int .i64 0)), .d (.v (.pointer none)), .d (.v (.int .i64 0)), .d (.v (.int .i64 0)), .d (.v (.pointer none))],true⟩),
 (251,⟨.sl 33 1 16,1,some [.nl],false⟩),
 (256,⟨.pt,1,some [.d (.v (.pointer none))],false⟩),
 (258,⟨.st [(0,29,1),(1,186,1),(2,3,1),(3,4,1)],4,some [.nl, .nl, .d (.v (.int .i64 0)), .ff],true⟩),
 (269,⟨.sl 274 14 216,1,some [.nl],false⟩),
 (274,⟨.st [(0,55,6),(6,134,8)],14,some [.ff, .nl, .ff, .nl, .ff, .nl, .ff, .nl, .nl, .ff, .nl, .nl, .ff, .ff],true⟩),
 (277,⟨.st [(0,213,9),(9,152,1),(10,152,1),(11,4,1)],12,some [.d (.v (.int .i64 0)), .d (.v (.int .i64 0)), .d (.v (.pointer none)), .d (.v (.int .i64 0)), .d (.v (.int .i64 0)), .d (.v (.pointer none)), .d (.v (.int .i64 0)), .d (.v (.int .i64 0)), .d (.v (.pointer none)), .d (.v (.pointer none)), .d (.v (.pointer none)), .ff],true⟩),
 (278,⟨.sl 281 2 32,1,some [.nl],false⟩),
 (281,⟨.st [(0,127,1),(1,152,1)],2,some [.nl, .d (.v (.pointer none))],true⟩),
 (285,⟨.sl 50 3 56,1,some [.nl],false⟩),
 (299,⟨.pt,1,some [.d (.v (.pointer none))],false⟩),
 (301,⟨.st [(0,33,1),(1,3,1),(2,3,1),(3,9,1)],4,some [.d (.v (.nilIface)), .d (.v (.int .i64 0)), .d (.v (.int .i64 0)), .d (.v (.string ⟨#[]⟩))],true⟩),
 (316,⟨.sl 158 3 24,1,some [.nl],false⟩),
 (331,⟨.st [(0,75,2),(2,73,1)],3,some [.ff, .nl, .nl],true⟩),
 (381,⟨.o,2,some [.nl, .nl],true⟩),
 (382,⟨.sl 134 8 120,1,some [.nl],false⟩),
 (399,⟨.int .i64,1,some [.d (.v (.int .i64 0))],false⟩),
 (417,⟨.int .u64,1,some [.d (.v (.int .u64 0))],false⟩),
 (421,⟨.pt,1,some [.d (.v (.pointer none))],false⟩),
 (431,⟨.o,32,some (List.replicate 32 (.d (.v (.int .u8 0)))),true⟩),
 (432,⟨.o,64,some (List.replicate 64 (.d (.v (.int .u8 0)))),true⟩),
 (433,⟨.pt,1,some [.d (.v (.pointer none))],false⟩),
 (458,⟨.st [(0,9,1)],1,some [.d (.v (.string ⟨#[]⟩))],true⟩)]
def et:lP Go.Proofs.Tryz.prog tt:=lP.of (by kernel_rfl)
end Go.Sx
end
section
namespace Go.Sx
open Go Go.Proofs Tryz
variable {GB G:Gh}{fr fr' fr1 fr2:aC}{cf cf' cf1 cf2:Cf}{vc vc' vc1 vc2:List Prop}{o:Oper}{q m d:Nat}{ds:List DV}{ρ:NE}{a:Act}{f:FuncId}{fb:Func}{c fo:Operand}{rv r1 r2:DV}{p:Prop}{x y:Code}{b:Bool}{e:Exit}{lk:LK}{bk:BM}{args:Array Operand}
def rx:Nat->List DV->aC
 |_,[]=>[]
 |i,v::t=>(i, .d v)::rx (i+1) t
class Fu where n:Nat
instance fu0:Fu:=⟨400⟩
section
variable {C:aF}{n:Nat}{Q0:Exit->Act->World->Prop}{own own':aI}{ops:Array Oper}{r:List Oper}{K:List Kt}
def fB(h:go tt n q [] fr own cf=⟨vc,fr',own',cf'⟩)(hv:ak vc)(k:av prog GB C n Q0 fr' own' cf'):av prog GB C n Q0 fr own cf:=by
 have:=(iG (GB:=GB) (C:=C) (Q0:=Q0) et follows q [] fr own cf (by rw[h];exact hv)).2;rw[h] at this;exact this k
def gx[fu:Fu](h:go tt n fu.n [] fr own cf=⟨vc,fr',own',cf'⟩)(k:av prog GB C n Q0 fr' own' cf')(hv:ak vc:=by first|exact trivial|(simp only[ak];kernel_rfl)|(simp only[ak];omega)|(simp only[ak,aX,bQ,aS];omega)):av prog GB C n Q0 fr own cf:=fB h hv k
def M8: ∀{ds:List DV} {vs:List Value} {ρ:NE} {G:Gh} (i:Nat),IsLs G ds vs-> ∀k f,aO (rx i ds) k=some f-> ∃y,(∃j,k=i+j/\vs[j]? =some y)/\bP ρ G f y
 |[],vs,ρ,G,i,h,k,f,e=>by cases e
 |d::t,vs,ρ,G,i,h,k,f,e=>by
  obtain⟨y,m,rfl,h1,h2⟩:=bi.1 h;simp only[rx] at e;rw[jP] at e;split at e
  .cases e;rename_i hk;exact⟨y,⟨0,hk,rfl⟩,h1⟩
  .obtain⟨u,⟨j,hj,hu⟩,h3⟩:=M8 (i+1) h2 k f e
   exact⟨u,⟨j+1,by omega,by simpa using hu⟩,h3⟩
def ze{vs:List Value}(h:IsLs G ds vs)(hf:kB (mO 0 vs) a)(k:Nat)(f:FX)(e:aO (rx 0 ds) k=some f): ∃y,a.tmps[k]? =some y/\bP ρ G f y:=by
 obtain⟨y,⟨j,hj,hy⟩,h1⟩:=M8 (ρ:=ρ) 0 h k f e;refine⟨y,hf k y ?_,h1⟩;rw[hj];exact uY vs 0 j y hy
def fn[fu:Fu]{c:Code}(hf:prog.funcs[f]? =some fb)(hb:fb.body=some c)(hn:(fb.name== "runtime.NumGoroutine")=false)(hm:fb.ntmps=m)(hlen:Nat.ble ds.length m=true)
  (hgo:go tt m fu.n [] (rx 0 ds) [] (.code c [])=⟨vc,fr,own,cf⟩)(k: ∀C:aF,av prog GB C m (eg C prog fb (lB C (fun v G'=>Is G' rv v))) fr own cf)
  (hv:ak vc:=by first|exact trivial|(simp only[ak];kernel_rfl)|(simp only[ak];omega)|(simp only[ak,aX,bQ,aS];omega)):PF GB prog f ds rv:=by
 intro G vs hg hvs;refine Fn.introR hf hb hn hm (by rw[hvs.len];exact hlen) fun C _ _ hrd hfx=>?_;intro a w rl;refine si hrd ?_;have h:=fB (GB:=GB) (C:=C) (Q0:=eg C prog fb (lB C (fun v G'=>Is G' rv v))) hgo hv (k C);exact h.run (fun _=>⟨none,0,0⟩) G [] a w ⟨hg,rl.h,rl.sz,rl.df,(fun k f e=>ze hvs rl.fr k f e),(fun nm B e=>by cases e),(fun nm nm' B B' e=>by cases e),fun nm p _ _ e=>by rw[hfx] at e;cases e⟩
def av.cond{c:Operand}{x y:Code}{b:Bool}{f:FX}(hc:bh (aO fr) c=some f)(hb:tC f=some b)(h1:b=true->av prog GB C n Q0 fr own (.code x K))(h2:b=false->av prog GB C n Q0 fr own (.code y K)):av prog GB C n Q0 fr own (.code (.cond c x y) K):=SX.cond hc hb h1 h2
variable {own1 own2:aI}
def br[fu1:Fu][fu2:Fu]{hp:Decidable p}(hc:bh (aO fr) c=some (.pr p hp))(g1:go tt n fu1.n [] fr own (.code x K)=⟨vc1,fr1,own1,cf1⟩)(g2:go tt n fu2.n [] fr own (.code y K)=⟨vc2,fr2,own2,cf2⟩)
  (k1:p->av prog GB C n Q0 fr1 own1 cf1)(k2: ¬p->av prog GB C n Q0 fr2 own2 cf2)
  (v1:p->ak vc1:=by intro;first|exact trivial|(simp only[ak];omega)|(simp only[ak,aX,bQ,aS];omega))(v2: ¬p->ak vc2:=by intro;first|exact trivial|(simp only[ak];omega)|(simp only[ak,aX,bQ,aS];omega)):av prog GB C n Q0 fr own (.code (.cond c x y) K):=
 .cond hc J (fun h=>fB g1 (v1 (of_decide_eq_true h)) (k1 (of_decide_eq_true h))) (fun h=>fB g2 (v2 (of_decide_eq_false h)) (k2 (of_decide_eq_false h)))
def bd[fu1:Fu][fu2:Fu]{hp:Decidable p}(hc:bh (aO fr) c=some (.d (.v (.bool (@decide p hp)))))(g1:go tt n fu1.n [] fr own (.code x K)=⟨vc1,fr1,own1,cf1⟩)(g2:go tt n fu2.n [] fr own (.code y K)=⟨vc2,fr2,own2,cf2⟩)
  (k1:p->av prog GB C n Q0 fr1 own1 cf1)(k2: ¬p->av prog GB C n Q0 fr2 own2 cf2)
  (v1:p->ak vc1:=by intro;first|exact trivial|(simp only[ak];omega)|(simp only[ak,aX,bQ,aS];omega))(v2: ¬p->ak vc2:=by intro;first|exact trivial|(simp only[ak];omega)|(simp only[ak,aX,bQ,aS];omega)):av prog GB C n Q0 fr own (.code (.cond c x y) K):=
 .cond hc J (fun h=>fB g1 (v1 (of_decide_eq_true h)) (k1 (of_decide_eq_true h))) (fun h=>fB g2 (v2 (of_decide_eq_false h)) (k2 (of_decide_eq_false h)))
def bb[fu1:Fu][fu2:Fu](hc:bh (aO fr) c=some (.d (.v (.bool b))))(g1:go tt n fu1.n [] fr own (.code x K)=⟨vc1,fr1,own1,cf1⟩)(g2:go tt n fu2.n [] fr own (.code y K)=⟨vc2,fr2,own2,cf2⟩)
  (k1:b=true->av prog GB C n Q0 fr1 own1 cf1)(k2:b=false->av prog GB C n Q0 fr2 own2 cf2)
  (v1:b=true->ak vc1:=by intro;first|exact trivial|(simp only[ak];omega)|(simp only[ak,aX,bQ,aS];omega))(v2:b=false->ak vc2:=by intro;first|exact trivial|(simp only[ak];omega)|(simp only[ak,aX,bQ,aS];omega)):av prog GB C n Q0 fr own (.code (.cond c x y) K):=
 .cond hc J (fun h=>fB g1 (v1 h) (k1 h)) (fun h=>fB g2 (v2 h) (k2 h))
def mo{f g:FX}(hl:aO fr d=some f)(hi: ∀ρ G y,bP ρ G f y->bP ρ G g y){Φ:Act->World->Prop}(h:SX GB C n (aO ((d,g)::fr)) (bt own) Φ):SX GB C n (aO fr) (bt own) Φ:=by
 refine⟨fun ρ G ov a w r=>h.run ρ G ov a w ⟨r.gb,r.h,r.sz,r.df,fun k f' e=>?_,r.bx,r.dj,r.fxd⟩⟩;rw[jP] at e;split at e
 .cases e;rename_i hk;subst hk
  obtain⟨y,h1,h2⟩:=r.fx _ _ hl;exact⟨y,h1,hi _ _ _ h2⟩
 .exact r.fx k f' e
def aj(d:Nat){f:FX}(g:FX)(hl:aO fr d=some f)(e:f=g)(h:av prog GB C n Q0 ((d,g)::fr) own cf):av prog GB C n Q0 fr own cf:=by
 have hs:aO ((d,g)::fr)=aO fr:=by
  funext k;rw[jP];split
  .rename_i hk;rw[hk,hl,e]
  .rfl
 cases cf with
 |dr id ops fr0 own0 us r K=>exact fun D=>h ⟨D.pre,by rw[hs];exact D.st,D.snd⟩
 |_=>unfold av at h⊢;rw[hs] at h;exact h
def kT(d:Nat){hp:Decidable p}(hl:aO fr d=some (.pr p hp))(h:p)(k:av prog GB C n Q0 ((d, .tt)::fr) own (.ops ops r K)):av prog GB C n Q0 fr own (.ops ops r K):=
 mo hl (fun _ _ _ e=>by rw[show _=_ from e,decide_eq_true h];exact J) k
def kF(d:Nat){hp:Decidable p}(hl:aO fr d=some (.pr p hp))(h: ¬p)(k:av prog GB C n Q0 ((d, .ff)::fr) own (.ops ops r K)):av prog GB C n Q0 fr own (.ops ops r K):=
 mo hl (fun _ _ _ e=>by rw[show _=_ from e,decide_eq_false h];exact J) k
def Wz(d:Nat)(hl:aO fr d=some .nl)(h:av prog GB C n Q0 ((d, .d (.sl []))::fr) own (.ex e K)):av prog GB C n Q0 fr own (.ex e K):=
 mo (g:= .d (.sl [])) hl (fun ρ G y hy=>(show Is G (.sl []) y from l8 (ρ:=ρ) (f:= .nl) hy J)) h
def PF.to{P:Program}(h:PF GB P f ds r1)(e:r1=r2):PF GB P f ds r2:=e▸h
def cs[fu1:Fu][fu2:Fu](d:Nat){hp:Decidable p}(hl:aO fr d=some (.pr p hp))(g1:go tt n fu1.n [] ((d, .tt)::fr) own (.ops ops r K)=⟨vc1,fr1,own1,cf1⟩)(g2:go tt n fu2.n [] ((d, .ff)::fr) own (.ops ops r K)=⟨vc2,fr2,own2,cf2⟩)
  (k1:p->av prog GB C n Q0 fr1 own1 cf1)(k2: ¬p->av prog GB C n Q0 fr2 own2 cf2)
  (v1:p->ak vc1:=by intro;first|exact trivial|(simp only[ak];omega)|(simp only[ak,aX,bQ,aS];omega))(v2: ¬p->ak vc2:=by intro;first|exact trivial|(simp only[ak];omega)|(simp only[ak,aX,bQ,aS];omega)):av prog GB C n Q0 fr own (.ops ops r K):=by
 by_cases h:p
 .exact mo hl (fun _ _ _ e=>by rw[show _=_ from e,decide_eq_true h];exact J) (fB g1 (v1 h) (k1 h))
 .exact mo hl (fun _ _ _ e=>by rw[show _=_ from e,decide_eq_false h];exact J) (fB g2 (v2 h) (k2 h))
def iF[fu1:Fu][fu2:Fu](d:Nat)(hl:aO fr d=some (.d (.v (.bool b))))(g1:go tt n fu1.n [] ((d, .tt)::fr) own (.ops ops r K)=⟨vc1,fr1,own1,cf1⟩)(g2:go tt n fu2.n [] ((d, .ff)::fr) own (.ops ops r K)=⟨vc2,fr2,own2,cf2⟩)
  (k1:b=true->av prog GB C n Q0 fr1 own1 cf1)(k2:b=false->av prog GB C n Q0 fr2 own2 cf2)
  (v1:b=true->ak vc1:=by intro;first|exact trivial|(simp only[ak];omega)|(simp only[ak,aX,bQ,aS];omega))(v2:b=false->ak vc2:=by intro;first|exact trivial|(simp only[ak];omega)|(simp only[ak,aX,bQ,aS];omega)):av prog GB C n Q0 fr own (.ops ops r K):=by
 cases h:b with
 |true=>exact mo hl (fun _ G _ e=>by rw[(aH (G:=G)).1 e,h];exact J) (fB g1 (v1 h) (k1 h))
 |false=>exact mo hl (fun _ G _ e=>by rw[(aH (G:=G)).1 e,h];exact J) (fB g2 (v2 h) (k2 h))
def HQ:Cf->Option (Array Oper×Oper)
 | .ops ops (o::_) _=>some (ops,o)
 | .dr _ ops _ _ _ (o::_) _=>some (ops,o)
 |_=>none
def b9(fr:aC):Cf->LK
 | .dr _ ops _ _ _ (o::_) _=>lj (A7 ops o) (aO fr)
 |_=>aO fr
def iH(fr:aC)(own:aI):Cf->BM
 | .dr _ ops _ _ _ (o::_) _=>lj (Fp o fr (A7 ops o)) (bt own)
 |_=>bt own
def pk:y4:=⟨[False],[],[], .ex .normal []⟩
def cH(T:TT)(n q:Nat)(fr:aC)(own:aI)(cf:Cf)(f:FX)(bl:List (Nat×Option Bk))(nw:List Nat):y4:=match cf with
 | .ops ops (o::r) K=>bif uP nw o.dst fr own&&ce n o.dst then qH own bl fun own'=>wY fr o.dst f fun fr'=>go T n q [] fr' own' (.ops ops r K) else pk
 | .dr id ops fr0 own0 us (o::r) K=>bif ce n o.dst then kP (A7 ops o) fun rs=>kP (Fp o fr rs) fun rn=>qH own bl fun own'=>kP (us++[⟨rs,o.dst,f,rn,bl,nw⟩]) fun us'=>wY fr o.dst f fun fr'=>go T n q [] fr' own' (.dr id ops fr0 own0 us' r K) else pk
 |_=>pk
def vJ(ops:Array Oper)(lk:LK):Option (Nat×Bool)->Bool
 |none=>true
 |some (j,b)=>match ops[j]? with
  |some oj=>match oj.dst with
   |some d=>match lk d with
    |some .tt=>b
    |some .ff=>!b
    |_=>false
   |none=>false
  |none=>false
def CW(h:vJ ops lk o.guard=true): ∀ρ G ov a w,bH GB C n lk bk ρ G ov a w->Region.wanted o (yielded ops a.tmps)=true:=fun ρ G ov a w r=>by
 unfold Region.wanted;unfold vJ at h;split at h
 .rename_i e;rw[e]
 .rename_i j b e
  rw[e];split at h<;>try (cases h;done)
  rename_i oj hj;split at h<;>try (cases h;done)
  rename_i d hd;split at h<;>try (cases h;done)
  .rename_i hl
   obtain⟨y,h1,h2⟩:=Bz r hj hd hl
   cases h1;simp only[h2];subst h;rfl
  .rename_i hl
   obtain⟨y,h1,h2⟩:=Bz r hj hd hl
   cases h1;simp only[h2];cases b<;>first|rfl|(simp at h)
def uo{f:FX}{bl:List (Nat×Option Bk)}{nw:List Nat}(hh:HQ cf=some (ops,o))(hg:vJ ops (b9 fr cf) o.guard=true)(h:b7 prog GB C n (b9 fr cf) (iH fr own cf) o f bl nw)
  (hgo:cH tt n q fr own cf f bl nw=⟨vc,fr',own',cf'⟩)(hv:ak vc)(k:av prog GB C n Q0 fr' own' cf'):av prog GB C n Q0 fr own cf:=by
 obtain⟨dst,op,ty,pos,af,gd⟩:=o
 cases cf with
 |ops ops' r K=>
  cases r with
  |nil=>cases hh
  |cons o' r=>
   cases hh
   unfold cH at hgo
   cases hc:(uP nw dst fr own&&ce n dst) with
   |false=>simp only[hc,cond_false,pk] at hgo;cases hgo;exact absurd hv (fun x=>x)
   |true=>
    simp only[hc,cond_true] at hgo;simp only[wo,Bt] at hgo;simp only[bK] at hc;exact SX.op (h.toS hc.2 (CW hg)) (AH hc.1) (fB hgo hv k)
 |dr id ops' fr0 own0 us r K=>
  cases r with
  |nil=>cases hh
  |cons o' r=>
   cases hh
   unfold cH at hgo
   cases hc:ce n dst with
   |false=>simp only[hc,cond_false,pk] at hgo;cases hgo;exact absurd hv (fun x=>x)
   |true=>
    simp only[hc,cond_true,s9] at hgo;simp only[wo,Bt] at hgo;intro D;exact fB hgo hv k (D.push (h.toS hc (CW hg)))
 |_=>cases hh
def uA(lk:LK)(fo:Operand)(args:Array Operand):Option (FuncId×List DV):=match bh lk fo with
 |some (.d (.v (.func (.func f) ⟨[]⟩ ⟨[]⟩)))=>match evDs lk args.toList with
  |some ds=>some (f,ds)
  |none=>none
 |_=>none
def D1(h:uA lk fo args=some (f,ds)):bh lk fo=some (.d (.v (.func (.func f) #[] #[])))/\evDs lk args.toList=some ds:=by
 unfold uA at h;split at h<;>try (cases h;done)
 rename_i h1;split at h<;>cases h;rename_i h2;exact⟨h1,h2⟩
def Lr{tys:Array TypeId}{dst:Option Nat}{ty:TypeId}{pos:String}{af:Array Edge}{gd:Option (Nat×Bool)}(ha:uA lk fo args=some (f,ds))(hF:PF GB prog f ds rv):
  b7 prog GB C n lk bk ⟨dst, .call ⟨.value fo,args,tys⟩,ty,pos,af,gd⟩ (.d rv) [] []:=by
 intro hd tl tb K' s1 s2 hf hk;refine⟨fun ρ G ov a w r Q=>?_⟩;obtain⟨h1,h2⟩:=D1 ha;obtain⟨y,hy,hy'⟩:=(r.mono s1 s2).ev h1;rw[(aH (G:=G)).1 hy'] at hy;obtain⟨vs,h3,h4⟩:=(r.mono s1 s2).evDs h2;refine zC hy h3 (hF G vs r.gb h4) hd (fun v G' hG hK a' w' rl=>?_) a w Q ⟨r.h,r.sz,cB a,r.df⟩;exact hk.run ρ G' ov a' w' ⟨r.gb.trans hG.le,rl.h,rl.sz,rl.df,(jb rl).fx (fun k g _ e=>by obtain⟨u,h5,h6⟩:=r.fx k g e;exact⟨u,h5,h6.up hG.le⟩) hK,
  fun nm B e=>by obtain⟨os,h5,h6⟩:=r.bx nm B e;exact⟨os,h5.up hG.le,h6⟩,r.dj,r.fxd⟩
def rj(T:TT)(fr:aC)(own:aI):List ResultVar->Option (List DV)
 |[]=>some []
 | .tmp t::rs=>match aO fr t with
  |some f=>match jm f with
   |some d=>match rj T fr own rs with
    |some l=>some (d::l)
    |none=>none
   |none=>none
  |none=>none
 | .cell a t::rs=>match aO fr a with
  |some (.ov nm 0)=>match dO T t with
   |some i=>match bt own nm with
    |some (.o _ cs _)=>match i.ag with
     |some (some k)=>match takeX cs 0 k with
      |some c=>match iI c with
       |some d=>match rj T fr own rs with
        |some l=>some (.ag d::l)
        |none=>none
       |none=>none
      |none=>none
     |some none=>match cs[0]? with
      |some c=>match jm c with
       |some d=>match rj T fr own rs with
        |some l=>some (d::l)
        |none=>none
       |none=>none
      |none=>none
     |none=>none
    |_=>none
   |none=>none
  |_=>none
def Ff{ov:List aA}{w:World}(h:bH GB C n (aO fr) (bt own) ρ G ov a w): ∀{rs:List ResultVar} {ds:List DV},rj tt fr own rs=some ds-> ∃vs,jE prog (co a) ov rs vs/\IsLs G ds vs:=by
 intro rs
 induction rs with
 |nil=>intro ds e;cases e;exact⟨[], .nil, .nil⟩
 |cons x rs ih=>
  intro ds e
  cases x with
  |tmp t=>
   simp only[rj] at e;split at e<;>try (cases e;done)
   rename_i f hf;split at e<;>try (cases e;done)
   rename_i d hd;split at e<;>cases e;rename_i l hl;obtain⟨vs,h1,h2⟩:=ih hl;obtain⟨y,h3,h4⟩:=h.fx t f hf;exact⟨y::vs, .tmp (CI h3) h1, .cons (l8 h4 hd) h2⟩
  |cell t ty=>
   simp only[rj] at e;split at e<;>try (cases e;done)
   rename_i nm hf;split at e<;>try (cases e;done)
   rename_i i hi;split at e<;>try (cases e;done)
   rename_i hb;obtain⟨y,h3,h4⟩:=h.fx t _ hf;obtain⟨b,m,rfl,h5,h6,h7⟩:=h.own h4 hb;have oat:iB ov b m _ _:=⟨h7⟩;split at e<;>try (cases e;done)
   .rename_i k ha
    split at e<;>try (cases e;done)
    rename_i c hc;split at e<;>try (cases e;done)
    rename_i d hd;split at e<;>cases e;rename_i l hl;obtain⟨vs,h1,h2⟩:=ih hl;obtain⟨l',h8,h9⟩:=h6.takeX hc;exact⟨.agg ⟨l'⟩::vs, .agg (CI h3) oat (x6 (et _ _ hi) ha) h8 h1, .cons (en.2 ⟨l',J,rA h9 hd⟩) h2⟩
   .rename_i ha
    split at e<;>try (cases e;done)
    rename_i c hc;split at e<;>try (cases e;done)
    rename_i d hd;split at e<;>cases e;rename_i l hl;obtain⟨vs,h1,h2⟩:=ih hl;obtain⟨l',h8,h9⟩:=h6.get hc;exact⟨l'::vs, .sc (CI h3) oat (vR (et _ _ hi) ha) h8 h1, .cons (l8 h9 hd) h2⟩
def Cx:Exit->Bool
 | .ret=>true
 | .normal=>true
 |_=>false
def rz(hr:rj tt fr own fb.results.toList=some ds)(hd:eG ds=rv)(he:Cx e=true:=by rfl):av prog GB C n (eg C prog fb (lB C (fun v G'=>Is G' rv v))) fr own (.ex e []):=by
 refine⟨fun ρ G ov a w r=>?_⟩;obtain⟨vs,h1,h2⟩:=Ff r hr;have hk:Is G rv (nv vs):=hd▸EC h2
 cases e with
 |ret=>exact zD (C:=C) (n:=n) (fr:=co a) (own:=ov) (G:=G) (K:=fun v G'=>Is G' rv v) h1 hk a w ⟨r.h,r.sz,cB a,r.df⟩
 |normal=>exact Qt (C:=C) (n:=n) (fr:=co a) (own:=ov) (G:=G) (K:=fun v G'=>Is G' rv v) h1 hk a w ⟨r.h,r.sz,cB a,r.df⟩
 |_=>cases he
end
end Go.Sx
end
section
namespace Go.Sx
open Go
variable {GB G:Gh}{n e s by_ cap2 i:Nat}{t t' ty' ty:TypeId}{ds:List DV}{ov B:List aA}{w:SV}{es rest:List Value}{ad2:Option Addr}
section
variable {P:Program}{C:aF}{E:uG}{fr fr':mj}{own own':List kl}{bs bs' bs1:List jg}{ops:Array Oper}{Q:Exit->Act->World->Prop}{r:List Oper}{Φ:Act->World->Prop}
variable {dst:Option Nat}{pos:String}{af:Array Edge}{gd:Option (Nat×Bool)}{x y z:Operand}
abbrev SV.f (w:SV):FV:= .d (.v (.slice w.a w.n w.c))
def S4(z:Value)(k:Nat):aE (List.replicate k z)=dm z k:=by unfold aE dm;rw[List.map_replicate]
def Lf{G:Gh}{d:DV}{y:Value}(h:Is G d y): ∀k:Nat,IsLs G (List.replicate k d) (List.replicate k y)
 |0=> .nil
 |k+1=> .cons h (Lf h k)
def OS(pre mid post vs:List Value)(h:vs.length=mid.length):cA (pre++(mid++post)) pre.length vs=pre++(vs++post):=by
 rw[pq _ _ _ (by simp;omega)];simp[h]
def Us(z:Value)(k:Nat):dm z (k+1)=aG z++dm z k:=by simp[dm,tJ]
def BS(s:Nat)(ds:List DV):Bool:=ds.all fun d=>d.okc&&Nat.beq d.cells.length s
def E9(h:BS s ds=true):cE s ds:=fun d hd=>by
 have:=dJ.1 h d hd;simp only[bK] at this;exact⟨this.1,aN this.2⟩
def MC{cs:List Value}{off s:Nat}: ∀(es:List Value),(∀i (h:i<es.length),cx cs (off+i*s) s=some (aG es[i]))->off<=cs.length->cx cs off (es.length*s)=some (aE es)
 |[],_,ho=>by
  rw[kH _ _ _ (by simpa using ho)];simp[aE]
 |v::t,h,ho=>by
  have h0:=h 0 (by simp);simp only[kK,gJ,oN] at h0;obtain⟨k1,k2⟩:=zi h0;have ih:=MC (off:=off+s) t (fun i hi=>by
   have:=h (i+1) (by simpa using hi);rw[fM,show off+(i*s+s)=off+s+i*s by omega] at this;simpa using this) (by omega)
  obtain⟨k3,k4⟩:=zi ih;rw[kH _ _ _ (by simp only[bZ,fM];omega)];congr 1;have e1:aE (v::t)=aG v++aE t:=by simp[aE]
  rw[e1,k2,k4,bZ,fM,kR (t.length*s) s,List.take_add,List.drop_drop]
def Zh(h:gg G s w es):mm P C ov G s w.n (.slice w.a w.n w.c) (aE es):=by
 rcases h.mem with he|⟨b,off,cs,ha,hg,hc⟩
 .subst he
  rw[h.len];exact tP
 .rw[ha]
  by_cases he:es=[]
  .subst he;rw[h.len];exact tP
  .have hp:0<es.length:=mZ.2 he
   have h0:=hc 0 hp;have:=(zi h0).1;rw[h.len];exact ME hg (MC es hc (by omega))
def akG[hT:cw P t e s by_][hN:jn P t']{w:World}:(Builtin.append_ #[t,t'] ty' #[.slice none 0 0, .slice ad2 0 cap2]).run P w= .ok (.slice none 0 0) w:=by
 obtain⟨d,hd1⟩:=hN.un;obtain⟨i,hi,his,hib⟩:=hT.info;have h0:(Builtin.firstCells i.size 0 (.slice ad2 0 cap2)).run P w= .ok #[] w:=by
  cases ad2 with
  |none=>rfl
  |some a=>unfold Builtin.firstCells loadCells;simp[loadCellsFrom,run_pure]
 simp[Builtin.append_,run_underlying hT.un,run_underlying hd1,sizeOf,typeInfo,hi,Builtin.lenOf,h0]
def P4[hT:cw P t e s by_][hN:jn P t']{fr:Fr}{own:List aA}(hx:aB fr x=some (.slice none 0 0))(hy:aB fr y=some (.slice ad2 0 cap2))(hd:ce n dst=true)
  (h:St C n (put fr dst (.slice none 0 0)) own G Φ):Ch P C n fr own G ⟨dst, .call ⟨.builtin .append, #[x,y], #[t,t']⟩,ty',pos,af,gd⟩ Φ:=by
 intro a w Q rl;refine kr (v:= .slice none 0 0) (w':=w) ?_ (h _ _ (rl.put _ hd));simp only[execOp,resolve,iT,bU,iZ,bB rl.fr hx,bB rl.fr hy];exact c6 akG
def dw.upd{lo:Bool}(h:dw G ⟨w,s,ty,ds,lo⟩ B){d:DV}(hi:ds[i]? =some d):
  ∃b vs rest lo',w.a=some ⟨b,0,none⟩/\B=[⟨b,aE vs++rest,ty,lo'⟩]/\IsLs G ds vs/\(∀v∈vs,(aG v).length=s)/\i<vs.length/\
   ∀u d',Is G d' u->(aG u).length=s->dw G ⟨w,s,ty,ds.set i d',lo⟩ [⟨b,aE (vs.set i u)++rest,ty,lo'⟩]:=by
 obtain⟨vs,hB,hv,hs,hlo⟩:=h;obtain⟨v,h1,h2⟩:=hv.get hi;obtain⟨hi',_⟩:=aR.1 h1;rcases hB with⟨e,_,_⟩|⟨b,rest,lo',h3,h4,h5,h6,h7⟩
 .rw[e] at h1;simp at h1
 .refine⟨b,vs,rest,lo',by simp only[] at h3;rw[h3],h4,hv,hs,hi',fun u d' hu hul=>?_⟩
  have hall: ∀x∈vs.set i u,(aG x).length=s:=fun x hx=>by
   rcases qQ hx with h'|rfl
   .exact hs x h'
   .exact hul
  refine⟨vs.set i u, .inr ⟨b,rest,lo',by simpa using h3,J,eD _ hall,?_,by simpa using h7⟩,hv.set i hu,hall,fun hl o ho=>?_⟩
  .rw[eD _ hall,bQ,<-h5];exact h6
  .have:=hlo hl
   rw[h4] at this;rw[aU.1 ho];have h9:=this ⟨b,aE vs++rest,ty,lo'⟩ aQ;exact h9
def Xu{u:Value}(vs:List Value)(i:Nat)(h:i<vs.length)(hs: ∀v∈vs,(aG v).length=s)(hu:(aG u).length=s):cA (aE vs++rest) (i*s) (aG u)=aE (vs.set i u)++rest:=by
 have hl:=eD vs hs;have hle:i*s+s<=vs.length*s:=by rw[<-fM];exact bS _ h
 rw[pq _ _ _ (by rw[hu,aY];omega),hu,gX (by omega),lQ (by omega),Fq vs i hs (by omega),<-fM,EP vs (i+1) hs h,
  List.set_eq_take_append_cons_drop,if_pos h,show vs.take i++u::vs.drop (i+1)=vs.take i++([u]++vs.drop (i+1)) from J,n7,n7,vG]
 simp
end
end Go.Sx
end
section
namespace Go.Sx
open Go Go.Proofs Tryz
variable {GB G G':Gh}{n nm s k:Nat}{fr' fr1 kf:aC}{own' own1 ko:aI}{α X:Type}{f:FX}{row:Bool}{l ds:List DV}{ρ:NE}{ov ov':List aA}{a:Act}{w:World}{lk:LK}{bk:BM}{ty:TypeId}{c d:Code}
section
variable {C:aF}{Q0:Exit->Act->World->Prop}{fr:aC}{own:aI}{cf cf':Cf}{vc vc':List Prop}{ops:Array Oper}{r:List Oper}{o:Oper}{K:List Kt}
def nF(row:Bool)(nm:Nat)(l:List DV):FX->FX
 | .rw m=>bif Nat.beq m nm then(bif row then .d (.sl l) else .no) else .rw m
 | .ov m off=>bif Nat.beq m nm then(bif row then .no else(match off with
  |0=> .d (.pt l)
  |_+1=> .no)) else .ov m off
 | .be m s i j=>bif Nat.beq m nm then .no else .be m s i j
 | .rs m s i j=>bif Nat.beq m nm then .no else .rs m s i j
 | .bx tp pre m post=>bif Nat.beq m nm then(bif row then(match tp with
  |true=> .d (.tp (pre++ .sl l::post))
  |false=> .d (.ag (pre++ .sl l::post))) else .no) else .bx tp pre m post
 |f=>f
def z'(f:FX)(k:FX->α):α:=match f with
 | .d x=>k (.d x)
 | .rw m=>k (.rw m)
 | .ov a b=>k (.ov a b)
 | .be a b c d=>k (.be a b c d)
 | .rs a b c d=>k (.rs a b c d)
 |f=>k f
def Ek{k:FX->α}:z' f k=k f:=by cases f<;>rfl
def AF{α:Type}(row:Bool)(nm:Nat)(l:List DV):aC->(aC->α)->α
 |[],k=>k []
 |(j,f)::t,k=>AF row nm l t fun t'=>z' (nF row nm l f) fun f'=>k ((j,f')::t')
def Ce{α:Type}(row:Bool)(nm:Nat)(l:List DV):List FX->(List FX->α)->α
 |[],k=>k []
 |f::t,k=>Ce row nm l t fun t'=>z' (nF row nm l f) fun f'=>k (f'::t')
def Au{α:Type}(row:Bool)(nm:Nat)(l:List DV):aI->(aI->α)->α
 |[],k=>k []
 |(j,B)::t,k=>Au row nm l t fun t'=>bif Nat.beq j nm then k ((j,none)::t') else match B with
  |some (.o ty cs lo)=>Ce row nm l cs fun cs'=>k ((j,some (.o ty cs' lo))::t')
  |B=>k ((j,B)::t')
def uL(row:Bool)(nm:Nat)(l:List DV):Option Bk->Option Bk
 |some (.o ty cs lo)=>some (.o ty (cs.map (nF row nm l)) lo)
 |B=>B
def Sw{α:Type}{row:Bool}{nm:Nat}{l:List DV}: ∀{cs:List FX} {k:List FX->α},Ce row nm l cs k=k (cs.map (nF row nm l))
 |[],k=>rfl
 |f::t,k=>by simp only[Ce,Ek];rw[Sw];rfl
def Jw{α:Type}{row:Bool}{nm:Nat}{l:List DV}: ∀{fr:aC} {k:aC->α},AF row nm l fr k=k (fr.map fun e=>(e.1,nF row nm l e.2))
 |[],k=>rfl
 |(j,f)::t,k=>by simp only[AF,Ek];rw[Jw];rfl
def GV{α:Type}{row:Bool}{nm:Nat}{l:List DV}: ∀{own:aI} {k:aI->α},Au row nm l own k=k (own.map fun e=>(e.1,bif Nat.beq e.1 nm then none else uL row nm l e.2))
 |[],k=>rfl
 |(j,B)::t,k=>by
  simp only[Au,GV (own:=t),bU]
  cases Nat.beq j nm with
  |true=>rfl
  |false=>
   cases B with
   |none=>rfl
   |some B=>cases B<;>simp only[cond_false,Sw,uL]
def B7{g:FX->FX}: ∀{fr:aC} {k:Nat},aO (fr.map fun e=>(e.1,g e.2)) k=(aO fr k).map g
 |[],k=>rfl
 |(j,f)::t,k=>by
  simp only[bU];rw[jP,jP,B7 (fr:=t)];split<;>rfl
def SC{row:Bool}{nm:Nat}{l:List DV}: ∀{own:aI} {k:Nat},bt (own.map fun e=>(e.1,bif Nat.beq e.1 nm then none else uL row nm l e.2)) k=if k=nm then none else uL row nm l (bt own k)
 |[],k=>by simp[bt,uL]
 |(j,B)::t,k=>by
  simp only[bU];rw[iO,iO,SC (own:=t)];by_cases h:k=j
  .subst h
   simp only[if_true];by_cases e:k=nm
   .subst e;simp
   .have:Nat.beq k nm=false:=by
     cases hb:Nat.beq k nm with
     |false=>rfl
     |true=>exact absurd (aN hb) e
    simp[this,e]
  .simp[h]
structure As where
 fr:aC
 own:aI
def Bh(fr:aC)(own:aI)(nm:Nat):Option As:=match bt own nm with
 |some (.b _ _ ds true)=>AF true nm ds fr fun fr'=>Au true nm ds own fun own'=>some ⟨fr',own'⟩
 |some (.o _ cs true)=>match iI cs with
  |some l=>AF false nm l fr fun fr'=>Au false nm l own fun own'=>some ⟨fr',own'⟩
  |none=>none
 |_=>none
def jq.of_mem{o:aA}: ∀{own:List aA},o∈own-> ∃own',jq own o own'/\ ∀x∈own,x.b≠o.b->x∈own'
 |[],h=>by cases h
 |x::t,h=>by
  rcases aW.1 h with rfl|h
  .exact⟨t, .hd ..,fun y hy hb=>(aW.1 hy).elim (fun e=>absurd (by rw[e]) hb) id⟩
  .obtain⟨own',h1,h2⟩:=jq.of_mem h
   exact⟨x::own', .tl _ _ _ _ h1,fun y hy hb=>(aW.1 hy).elim (fun e=>by rw[e];exact aQ) (fun e=>aJ _ (h2 y e hb))⟩
def Me{y:Value}(hg:bI G G')(h:bP ρ G f y)(hr:row=true-> ∀y,bP ρ G (.rw nm) y->Is G' (.sl l) y)(ho:row=false-> ∀y,bP ρ G (.ov nm 0) y->Is G' (.pt l) y):bP ρ G' (nF row nm l f) y:=by
 cases f with
 |rw m=>
  simp only[nF]
  cases hb:Nat.beq m nm with
  |false=>exact h.up hg
  |true=>
   cases aN hb
   cases row with
   |true=>exact hr J y h
   |false=>trivial
 |ov m off=>
  simp only[nF]
  cases hb:Nat.beq m nm with
  |false=>exact h.up hg
  |true=>
   cases aN hb
   cases row with
   |true=>trivial
   |false=>cases off with
    |zero=>exact ho J y h
    |succ=>trivial
 |be m s i j=>
  simp only[nF]
  cases hb:Nat.beq m nm with
  |false=>exact h.up hg
  |true=>trivial
 |rs m s i j=>
  simp only[nF]
  cases hb:Nat.beq m nm with
  |false=>exact h.up hg
  |true=>trivial
 |bx tp pre m post=>
  simp only[nF]
  cases hb:Nat.beq m nm with
  |false=>exact h.up hg
  |true=>
   cases aN hb
   cases row with
   |false=>trivial
   |true=>
    obtain⟨m1,m2,e,h1,h2⟩:=h;have hl:=(h1.up hg).app (.cons (hr J _ J) (h2.up hg))
    cases tp with
    |true=>exact lv.2 ⟨_,e,hl⟩
    |false=>exact en.2 ⟨_,e,hl⟩
 |_=>exact h.up hg
def P'{row:Bool}{nm:Nat}{l:List DV}{ρ:NE}{G G':Gh}(hg:bI G G')(hr:row=true-> ∀y,bP ρ G (.rw nm) y->Is G' (.sl l) y)(ho:row=false-> ∀y,bP ρ G (.ov nm 0) y->Is G' (.pt l) y): ∀{cs:List FX} {m:List Value},de ρ G cs m->de ρ G' (cs.map (nF row nm l)) m
 |[],m,h=>h
 |f::t,m,⟨y,q,e,h1,h2⟩=>⟨y,q,e,Me hg h1 hr ho,P' hg hr ho h2⟩
def bH.frz(h:bH GB C n (aO fr) (bt own) ρ G ov a w)(hg:bI G G')(hh:bF C ov' G' w)(hv: ∀o∈ov,(ρ nm).a≠some ⟨o.b,0,none⟩->o∈ov'){B0:Bk}(hb:bt own nm=some B0)
  (hr:row=true-> ∀y,bP ρ G (.rw nm) y->Is G' (.sl l) y)(ho:row=false-> ∀y,bP ρ G (.ov nm 0) y->Is G' (.pt l) y):
  bH GB C n (aO (fr.map fun e=>(e.1,nF row nm l e.2))) (bt (own.map fun e=>(e.1,bif Nat.beq e.1 nm then none else uL row nm l e.2))) ρ G' ov' a w:=by
 have inv: ∀m B,bt (own.map fun e=>(e.1,bif Nat.beq e.1 nm then none else uL row nm l e.2)) m=some B->m≠nm/\ ∃B1,bt own m=some B1/\uL row nm l (some B1)=some B:=fun m B e=>by
  rw[SC] at e;split at e
  .cases e
  .rename_i hm
   refine⟨hm,?_⟩
   cases hl:bt own m with
   |none=>rw[hl] at e;cases e
   |some B1=>rw[hl] at e;exact⟨B1,J,e⟩
 refine⟨h.gb.trans hg,hh,h.sz,h.df,fun k f e=>?_,fun m B e=>?_,fun m m' B B' e e'=>?_,h.fxd⟩
 .rw[B7] at e
  cases hf:aO fr k with
  |none=>rw[hf] at e;cases e
  |some g=>
   rw[hf] at e;cases e;obtain⟨y,h1,h2⟩:=h.fx k g hf;exact⟨y,h1,Me hg h2 hr ho⟩
 .obtain⟨hm,B1,h1,h2⟩:=inv m B e
  obtain⟨os,h3,h4⟩:=h.bx m B1 h1;refine⟨os,?_,fun o ho'=>hv o (h4 o ho') fun hc=>h.dj m nm B1 B0 h1 hb hm _ (h3.blk ho') hc⟩
  cases B1 with
  |b=>cases h2;exact h3.up hg
  |c=>cases h2;exact h3.up hg
  |o ty cs lo=>cases h2;obtain⟨b,q,h5,h6,h7⟩:=h3;exact⟨b,q,h5,h6,P' hg hr ho h7⟩
 .obtain⟨_,B1,h1,_⟩:=inv m B e
  obtain⟨_,B2,h2,_⟩:=inv m' B' e';exact h.dj m m' B1 B2 h1 h2
def bH.frzRow(r:bH GB C n lk bk ρ G ov a w)(hb:bk nm=some (.b ty s ds true)):
  ∃G' ov',bI G G'/\bF C ov' G' w/\(∀o∈ov,(ρ nm).a≠some ⟨o.b,0,none⟩->o∈ov')/\ ∀y,bP ρ G (.rw nm) y->Is G' (.sl ds) y:=by
 obtain⟨B,⟨vs,hB,hv,hs,hlo⟩,hBo⟩:=r.row (y:= .nilFunc) hb;rcases hB with⟨e1,e2,e3⟩|⟨b,rest,lo',e2,e3,h5,h6,h7⟩
 .subst e1
  have ed:ds=[]:=cV (by rw[<-hv.len];rfl);subst ed;simp only at e2;refine⟨G,ov,bI.refl _,r.h,fun o ho _=>ho,fun y hy=>?_⟩;rw[show y=_ from hy,e2];exact gv.2 ⟨0,⟨none,0,0⟩,[],J, .nil G 0, .nil⟩
 .subst e3
  have hl:=hlo J _ aQ;simp only at hl;subst hl;obtain⟨ov',o1,o2⟩:=jq.of_mem (hBo _ aQ);obtain⟨f1,f2⟩:=r.h.freeze o1;simp only at e2;refine⟨_,ov',f2,f1,fun o ho hne=>o2 o ho fun e=>hne (by rw[e2,e]),fun y hy=>?_⟩;rw[show y=_ from hy,e2];exact gv.2 ⟨s,⟨some ⟨b,0,none⟩,vs.length,_⟩,vs,J,gg.of_flat hs (if_pos J) h7,hv.up f2⟩
def bH.frzVar{cs:List FX}(r:bH GB C n lk bk ρ G ov a w)(hb:bk nm=some (.o ty cs true))(hl:iI cs=some l):
  ∃G' ov',bI G G'/\bF C ov' G' w/\(∀o∈ov,(ρ nm).a≠some ⟨o.b,0,none⟩->o∈ov')/\ ∀y,bP ρ G (.ov nm 0) y->Is G' (.pt l) y:=by
 obtain⟨os,⟨b,m,h3,rfl,h4⟩,h5⟩:=r.bx _ _ hb;obtain⟨ov',o1,o2⟩:=jq.of_mem (h5 _ aQ);obtain⟨f1,f2⟩:=r.h.freeze o1;refine⟨_,ov',f2,f1,fun o ho hne=>o2 o ho fun e=>hne (by rw[h3,e]),fun y hy=>?_⟩;obtain⟨b',h6,rfl⟩:=hy;rw[h3] at h6;cases h6;exact lA.2 ⟨b,m,J,if_pos J,(rA h4 hl).up f2⟩
def Jo{Φ:Act->World->Prop}{R:As}(h:Bh fr own nm=some R)(hk:SX GB C n (aO R.fr) (bt R.own) Φ):SX GB C n (aO fr) (bt own) Φ:=by
 refine⟨fun ρ G ov a w r=>?_⟩;unfold Bh at h;split at h<;>try (cases h;done)
 .rename_i ty s ds hb
  rw[Jw,GV] at h;cases h;obtain⟨G',ov',h1,h2,h3,h4⟩:=r.frzRow hb;exact hk.run ρ G' ov' a w (r.frz (row:=true) h1 h2 h3 hb (fun _=>h4) (fun e=>by cases e))
 .rename_i ty cs hb
  split at h<;>try (cases h;done)
  rename_i l hl;rw[Jw,GV] at h;cases h;obtain⟨G',ov',h1,h2,h3,h4⟩:=r.frzVar hb hl;exact hk.run ρ G' ov' a w (r.frz (row:=false) h1 h2 h3 hb (fun e=>by cases e) (fun _=>h4))
def fz[fu:Fu](nm:Nat)(h:Bh fr own nm=some ⟨fr1,own1⟩)(hgo:go tt n fu.n [] fr1 own1 (.ops ops r K)=⟨vc,fr',own',cf'⟩)(k:av prog GB C n Q0 fr' own' cf')(hv:ak vc:=by first|exact trivial|(simp only[ak];kernel_rfl)|(simp only[ak];omega)|(simp only[ak,aX,bQ,aS];omega)):av prog GB C n Q0 fr own (.ops ops r K):=
 Jo h (fB hgo hv k)
def gp(nm:Nat){e:Exit}(h:Bh fr own nm=some ⟨fr1,own1⟩)(k:av prog GB C n Q0 fr1 own1 (.ex e K)):av prog GB C n Q0 fr own (.ex e K):=Jo h k
def nC(nm:Nat)(h:Bh fr own nm=some ⟨fr1,own1⟩)(k:av prog GB C n Q0 fr1 own1 (.code c K)):av prog GB C n Q0 fr own (.code c K):=Jo h k
def vo:aC->aC->Prop
 |[],_=>True
 |(k,v)::t,fr=>aO fr k=some v/\vo t fr
def wk:aI->aI->Prop
 |[],_=>True
 |(k,v)::t,own=>bt own k=v/\wk t own
def vP: ∀{f:aC},vo f fr->jw (aO f) (aO fr)
 |[],_,k,x,h=>by cases h
 |(j,v)::t,h,k,x,e=>by
  rw[jP] at e;split at e
  .cases e;rename_i hk;rw[hk];exact h.1
  .exact vP h.2 k x e
def ug: ∀{f:aI},wk f own->jw (bt f) (bt own)
 |[],_,k,x,h=>by cases h
 |(j,v)::t,h,k,x,e=>by
  rw[iO] at e;split at e
  .rename_i hk;rw[hk,h.1,e]
  .exact ug h.2 k x e
def oO{q:IntKind}{a b:Int}(h:aO fr k=some (.d (.v (.int q a))))(e:a=b):aO fr k=some (.d (.v (.int q b))):=e▸h
def Iv(GB:Gh)(C:aF)(n:Nat)(F:X->aC)(O:X->aI)(I:X->Prop)(a:Act)(w:World):Prop:=
 ∃x ρ G ov,I x/\bH GB C n (aO (F x)) (bt (O x)) ρ G ov a w
def If:List Oper->List Nat->List Nat
 |[],l=>l
 |o::r,l=>match o.dst with
  |some d=>d::If r l
  |none=>If r l
def uU:Code->List Nat->List Nat
 | .region _ ops _,l=>If ops.toList l
 | .seq a b,l=>uU a (uU b l)
 | .cond _ a b,l=>uU a (uU b l)
 | .block _ a,l=>uU a l
 | .loop a,l=>uU a l
 | .scope a,l=>uU a l
 |_,l=>l
def Gn{α:Type}:List Nat->aC->(aC->α)->α
 |_,[],k=>k []
 |l,(j,f)::t,k=>bif tI l j then Gn l t k else Gn (j::l) t fun t'=>k ((j,f)::t')
def Cp{α:Type}:List Nat->aI->(aI->α)->α
 |_,[],k=>k []
 |l,(j,B)::t,k=>bif tI l j then Cp l t k else match B with
  |some B=>Cp l t fun t'=>k ((j,some B)::t')
  |none=>Cp l t k
structure Kp where
 fr:aC
 own:aI
def keep(c:Code)(uf uo:List Nat)(fr:aC)(own:aI):Kp:=kP (uU c uo) fun m=>kP (uf++m) fun m'=>Gn m' fr fun fr'=>Cp m own fun own'=>⟨fr',own'⟩
def lp[fu:Fu](U:X->aC)(V:X->aI)(I:X->Prop)(μ:X->Nat)(x0:X){cf':X->Cf}{fr':X->aC}{own':X->aI}{vc:X->List Prop}(hkp:keep c ((U x0).map (·.1)) ((V x0).map (·.1)) fr own=⟨kf,ko⟩)(hI:I x0)
  (hgo: ∀x,go tt n fu.n [] (U x++kf) (V x++ko) (.code c (.ag (Iv GB C n (fun y=>U y++kf) (fun y=>V y++ko) (fun y=>I y/\μ y<μ x))::K))=⟨vc x,fr' x,own' x,cf' x⟩)
  (round: ∀x,I x->av prog GB C n Q0 (fr' x) (own' x) (cf' x))(hF:vo (U x0++kf) fr:=by repeat (first|exact trivial|refine And.intro J ?_|refine And.intro (oO J (by first|omega|(dsimp only;omega))) ?_|refine And.intro (oO J (by simp)) ?_))(hO:wk (V x0++ko) own:=by repeat (first|exact trivial|refine And.intro J ?_))
  (hv: ∀x,I x->ak (vc x):=by intros;first|exact trivial|(simp only[ak];kernel_rfl)|(simp only[ak];omega)|(simp only[ak,aX,bQ,aS];omega)):av prog GB C n Q0 fr own (.code (.loop c) K):=by
 refine⟨fun ρ G ov a w r=>?_⟩;have r0:=r.mono (vP hF) (ug hO);intro b k cs hro hb hrm;have key: ∀m a w,(∃x ρ G ov,I x/\μ x=m/\bH GB C n (aO (U x++kf)) (bt (V x++ko)) ρ G ov a w)->
   ∃e a' w',cQ C.rd prog Q0 K e a' w'/\ArrivesIn (Machine.fenced prog (FW C.rd)) prog (lone (b.atR a (.code c:: .inLoop c::k)) cs w) b k cs e a' w':=by
  intro m
  induction m using Nat.strongRecOn with
  |_ m ih=>
   intro a w ⟨x,ρ,G,ov,hx,hm,hr⟩;have h1:=fB (GB:=GB) (C:=C) (Q0:=Q0) (hgo x) (hv x hx) (round x hx);obtain⟨e,a₁,w₁,hq,harr⟩:=h1.run ρ G ov a w hr b (.inLoop c::k) cs hro hb hrm
   cases e with
   |normal=>
    obtain⟨x',ρ',G',ov',⟨hx',hlt⟩,hr'⟩:=hq;obtain⟨e₂,a₂,w₂,hq₂,harr₂⟩:=ih (μ x') (hm▸hlt) a₁ w₁ ⟨x',ρ',G',ov',hx',rfl,hr'⟩;exact⟨e₂,a₂,w₂,hq₂, .of_steps (StepsIn.trans harr (.one (fenced_calm hb hrm J) stepR_inLoop)) harr₂⟩
   |exit id=>exact⟨_,a₁,w₁,hq, .pass (x:= .inLoop c) J (fun _ _=> .inl (by simp)) harr⟩
   |goto l=>exact⟨_,a₁,w₁,hq, .pass (x:= .inLoop c) J (fun _ _=> .inl (by simp)) harr⟩
   |ret=>exact⟨_,a₁,w₁,hq, .pass (x:= .inLoop c) J (fun _ _=> .inl (by simp)) harr⟩
   |panic ch=>exact⟨_,a₁,w₁,hq, .pass (x:= .inLoop c) J (fun _ _=> .inl (by simp)) harr⟩
   |outgrown=>exact⟨_,a₁,w₁,hq, .pass (x:= .inLoop c) J (fun _ _=> .inl (by simp)) harr⟩
 obtain⟨e,a',w',q,rr⟩:=key (μ x0) a w ⟨x0,ρ,G,ov,hI,rfl,r0⟩;exact⟨e,a',w',q, .of_steps (.one (fenced_calm hb hrm J) stepR_loop) rr⟩
def at_{F:X->aC}{O:X->aI}{I:X->Prop}(x:X)(hI:I x)(hF:vo (F x) fr:=by repeat (first|exact trivial|refine And.intro J ?_|refine And.intro (oO J (by first|omega|(dsimp only;omega))) ?_|refine And.intro (oO J (by simp)) ?_))(hO:wk (O x) own:=by repeat (first|exact trivial|refine And.intro J ?_)):av prog GB C n Q0 fr own (.ex .normal (.ag (Iv GB C n F O I)::K)):=
 ⟨fun ρ G ov a w r=>⟨x,ρ,G,ov,hI,r.mono (vP hF) (ug hO)⟩⟩
def mg[fu:Fu](U:X->aC)(V:X->aI)(I:X->Prop){cf':X->Cf}{fr':X->aC}{own':X->aI}{vc:X->List Prop}(u0 v0:List Nat)(hkp:keep c u0 v0 fr own=⟨kf,ko⟩)
  (h1:av prog GB C n Q0 fr own (.code c (.ag (Iv GB C n (fun y=>U y++kf) (fun y=>V y++ko) I)::K)))
  (hgo: ∀x,go tt n fu.n [] (U x++kf) (V x++ko) (.code d K)=⟨vc x,fr' x,own' x,cf' x⟩)(k: ∀x,I x->av prog GB C n Q0 (fr' x) (own' x) (cf' x))(hv: ∀x,I x->ak (vc x):=by intros;first|exact trivial|(simp only[ak];kernel_rfl)|(simp only[ak];omega)|(simp only[ak,aX,bQ,aS];omega)):av prog GB C n Q0 fr own (.code c (.sq d::K)):=by
 refine SX.imp h1 fun a w h=>YU h ?_;intro e a w h
 cases e with
 |normal=>
  obtain⟨x,ρ,G,ov,hI,hr⟩:=h;have:=fB (GB:=GB) (C:=C) (Q0:=Q0) (hgo x) (hv x hI) (k x hI);exact this.run ρ G ov a w hr
 |_=>exact h
end
end Go.Sx
end
section
namespace Go.Sx
open Go
variable {P:Program}{ops:Array Oper}{Q:Exit->Act->World->Prop}{GB G:Gh}{C:aF}{n e s by_ s' nhi mx':Nat}{fr fr':mj}{own' own0 own1 own1':List kl}{bs bs0 bs1 bs1' bs':List jg}{E:uG}{r:List Oper}{Φ:Act->World->Prop}{dst:Option Nat}{t t' ty' ty:TypeId}{pos:String}{af:Array Edge}{x y z:Operand}{w:SV}{ds l:List DV}{vs es:List Value}
section
variable {S:World->Prop}{π₂:List (Nat×Bool)}
end
section
variable {own:List kl}{fd:List FD}{π π₂:List (Nat×Bool)}
structure SR (GB:Gh) (C:aF) (n:Nat) (fr:mj) (own0:List kl) (bs0:List jg) (own1:List kl) (bs1:List jg) (fd:List FD) (K:List Nat->(World->Prop)->Act->World->Prop):Prop where
 run: ∀G frv o0 o1,bI GB G->Cz G fr frv->OB G own0 bs0 o0->OB G own1 bs1 o1-> ∀fs:Fs,St C n (frv++Jk fd fs) (o1++(o0++GC fd fs)) G (K (MW fd fs) (HS C o0 G))
instance {GB:Gh} {C:aF} {n:Nat} {fr:mj} {own0:List kl} {bs0:List jg} {own1:List kl} {bs1:List jg} {fd:List FD} {K:List Nat->(World->Prop)->Act->World->Prop}:CoeFun (SR GB C n fr own0 bs0 own1 bs1 fd K) (fun _=> ∀G frv o0 o1,bI GB G->Cz G fr frv->OB G own0 bs0 o0->OB G own1 bs1 o1-> ∀fs:Fs,St C n (frv++Jk fd fs) (o1++(o0++GC fd fs)) G (K (MW fd fs) (HS C o0 G))):=⟨SR.run⟩
end
section
variable {own:List kl}
variable {gd:Option (Nat×Bool)}
def PB(GB:Gh)(P:Program)(f:FuncId)(mk:SV->List DV)(s:Nat)(ty:TypeId)(dsi:List DV)(mkr:SV->DV)(dso:List DV):Prop:=
 ∀G w vs B,bI GB G->dw G ⟨w,s,ty,dsi,false⟩ B->IsLs G (mk w) vs->gt P f vs B G (fun v own' G'=> ∃w',Is G' (mkr w') v/\dw G' ⟨w',s,ty,dso,false⟩ own')
def dw.asB{G:Gh}{w:SV}{ty:TypeId}{ds:List DV}{lo:Bool}{B:List aA}(h:dw G ⟨w,s,ty,ds,lo⟩ B):dw G ⟨w,s,ty,ds,false⟩ (Sx.asB B):=by
 obtain⟨vs,h1,h2,h3,h4⟩:=h;exact⟨vs,h1.asB,h2,h3,fun h=>by cases h⟩
def dw.weak{lo:Bool}{B:List aA}(h:dw G ⟨w,s,ty,ds,lo⟩ B):dw G ⟨w,s,ty,ds,false⟩ B:=by
 obtain⟨vs,h1,h2,h3,h4⟩:=h;exact⟨vs,h1,h2,h3,fun h=>by cases h⟩
end
section
variable {own:List kl}
variable {gd:Option (Nat×Bool)}
def PN(GB:Gh)(P:Program)(f:FuncId)(ds:List DV)(ty:TypeId)(ι:Type)(cs:ι->List DV):Prop:=
 ∀G vs,bI GB G->IsLs G ds vs->gt P f vs [] G (fun v own' G'=> ∃x b m,v= .pointer (some ⟨b,0,none⟩)/\own'=[⟨b,m,ty,true⟩]/\IsLs G' (cs x) m)
end
section
variable {own:List kl}
def Bx(GB:Gh)(P:Program)(f:FuncId)(ds:List DV)(b:Nat)(ty:TypeId)(cs:List DV)(s:Nat)(ty2:TypeId)(ι:Type)(rows:ι->List DV)(cs':ι->List DV):Prop:=
 ∀G vs m lo,bI GB G->IsLs G ds vs->IsLs G cs m->gt P f vs [⟨b,m,ty,lo⟩] G (fun v own' G'=> ∃x w m' B,v= .slice w.a w.n w.c/\own'=⟨b,m',ty,false⟩::B/\IsLs G' (cs' x) m'/\dw G' ⟨w,s,ty2,rows x,true⟩ B/\ ∀o∈B,b≠o.b)
variable {gd:Option (Nat×Bool)}
def LG{fr:Fr}{own:List aA}{fn:Func}{K:Value->List aA->Gh->Prop}(hr:jE P fr own fn.results.toList vs)(own2 own3:List aA)(hp:own.Perm own2)(hs:own3.Sublist own2)(hk:own3.Pairwise (fun x y=>x.b≠y.b)->K (nv vs) own3 G):St C n fr own G (eg C P fn (qj C K) .ret):=
 fun a w rl hmk=>⟨rl.df.trans hmk,_,sA hr rl.fr rl.h,_,own3,G,J,(rl.h.perm hp).drop hs,hk ((rl.h.perm hp).drop hs).nd⟩
def Z7(hsl:gg G s' w es)(hl:IsLs G l es)(ho:cE s l)(h2:nhi<=l.length)(hm1:nhi<=mx')(hm2:mx'<=w.c):Is G (.sl (l.take nhi)) (.slice w.a nhi mx'):=by
 have hn:=hsl.len;have hcap:=hsl.cap;have hll:=hl.len;have e9: ∀s,mI w.a w.n w.c 0 nhi mx' s= .slice w.a nhi mx':=by
  intro s;unfold mI
  cases w.a with
  |none=>simp
  |some ad=>simp[Addr.add]
 rcases By hsl hl ho with he|he
 .subst he
  have:l=[]:=cV (by rw[<-hll];rfl);subst this;have e1:nhi=0:=by simp at h2;exact h2
  subst e1;refine gv.2 ⟨s,⟨_,0,mx'⟩,[],J,⟨J,aM _, .inl J⟩,by simpa using IsLs.nil⟩
 .subst he
  have k:=hsl.sub 0 nhi mx' (aM _) (by omega) hm1 hm2;have k2:=gv.2 ⟨s',⟨_,_,_⟩,_,J,k,(hl.take nhi).drop 0⟩;rw[iX] at k2;have e:=e9 s';unfold mI at e;revert k2;simp only[] at*;intro k2
  first|exact e▸k2|(simp at e k2⊢;first|exact k2|(cases hw:w.a<;>simp_all [Addr.add]))
end
end Go.Sx
end
section
namespace Go.Sx
open Go Go.Proofs
variable {P:Program}{T:TT}{GB G:Gh}{C:aF}{n e s by_ d nm sz j len b nlo nhi:Nat}{lk:LK}{bk:BM}{ρ:NE}{ov B ov' own':List aA}{a a':Act}{w w':World}{dst ag:Option Nat}{t t' ty' ty:TypeId}{pos:String}{af:Array Edge}{x y mx:Operand}{k k':IntKind}{l ds ds2 ds':List DV}{i:TI}{lo lo':Bool}{c z v d' u:DV}{K:Act->World->Prop}{f:FX}{vs rest m':List Value}
section
variable {gd:Option (Nat×Bool)}
def WT[hT:cw P t e s by_]{d:DV}{i:Int}(hx:evD lk x=some (.sl l))(hy:bh lk y=some (.d (.v (.int k i))))(h0:0<=i)(he:l[i.toNat]? =some d)(hd:(d.okc&&Nat.beq d.cells.length s)=true):
  b7 P GB C n lk bk ⟨dst, .indexAddr t x y,ty',pos,af,gd⟩ (.ep d.cells) [] []:= .yd fun ρ G ov a w r=>by
 simp only[bK] at hd;obtain⟨hd,hs⟩:=hd;obtain⟨u,h1,h2⟩:=r.evD hx;obtain⟨q,g1,g2⟩:=r.ev hy;rw[c7] at g2;subst g2;obtain⟨s',z,es,rfl,hsl,hl⟩:=gv.1 h2;obtain⟨v,h3,h4⟩:=hl.get he;obtain⟨h5,h6⟩:=aR.1 h3;have hc:=(h4.cells hd).1.len;replace hs:=aN hs;rcases hsl.mem with h|⟨b,off,cs,ha,hg,hcs⟩
 .rw[h] at h5;simp at h5
 .have h7:=hcs i.toNat h5
  rw[h6] at h7;have h8:=CH h7;have:s'=s:=by omega
  subst this;rw[ha] at h1;have hn:=hsl.len;refine⟨.pointer (some ⟨b,off+i.toNat*s',none⟩),⟨b,_,cs,aG v,J,hg,?_,(h4.cells hd).1⟩,vw h1 g1 h0 (by omega)⟩;rw[<-hc,h8];exact h7
def AK(ag:Option Nat)(cs:List DV)(j:Nat):Option DV:=match ag with
 |some k=>match takeD cs j k with
  |some l=>some (.ag l)
  |none=>none
 |none=>cs[j]?
def aFy{k:Nat}{d:DV}(hi:eH P t=some i)(ha:i.ag=some ag)(hx:bh lk x=some (.be nm sz k j))(hb:bk nm=some (.b ty sz ds lo))(he:ds[k]? =some d)(hd:d.okc=true)(hl:AK ag d.cells j=some c):
  b7 P GB C n lk bk ⟨dst, .load t x,ty',pos,af,gd⟩ (.d c) [] []:= .x1 hx fun ρ G ov a w y _ r h1 h2=>by
 obtain⟨b,hwb,rfl⟩:=h2;obtain⟨B,hB,hmem⟩:=r.row (y:= .nilFunc) hb;obtain⟨b',m,rest,lo',l0,e1,rfl,h3,h4⟩:=hB.elem he hd;simp only[] at e1 h3;rw[hwb] at e1;cases e1;have oat:iB ov b (m++rest) ty lo':=⟨hmem _ aQ⟩
 cases ag with
 |some k'=>
  have:=x6 hi ha;simp only[AK] at hl;split at hl<;>cases hl;rename_i hl;obtain⟨l',h5,h6⟩:=h4.takeD hl;exact⟨.agg ⟨l'⟩,en.2 ⟨l',J,h6⟩,BV h1 (Og h3 h5)⟩
 |none=>
  have:=vR hi ha;simp only[AK] at hl;obtain⟨l',h5,h6⟩:=h4.get hl;have hj:j<sz:=by
   have:=CH h3;have h7:=(aR.1 h5).1;omega
  exact⟨l',h6,n8 h1 (by rw[I5 h3 hj];exact h5)⟩
def dw.toBk{x:SV}(h:dw G ⟨x,s,ty,ds,lo⟩ B)(e:ρ nm=x):kG ρ G nm (.b ty s ds lo) B:=by
 obtain⟨vs,h1,h2,h3,h4⟩:=h;exact⟨vs,by rw[e];exact h1,h2,h3,h4⟩
def bH.newRow(r:bH GB C n lk bk ρ G ov a w){z:SV}(hf:jp [d] (some d) lk bk)(hB:dw G ⟨z,s,ty,ds,true⟩ B)(hos: ∀o∈B,o∈ov')
  (hov: ∀m B',m≠d->bk m=some B'-> ∀o∈ov,(ρ m).a=some ⟨o.b,0,none⟩->o∈ov'/\z.a≠some ⟨o.b,0,none⟩)
  (hk:SX GB C n (d8 lk (some d) (.rw d)) (Sx.upB bk [(d,some (.b ty s ds true))]) K)(rl:gq C n (Sx.put (co a) (some d) (.slice z.a z.n z.c)) ov' G a' w'):K a' w':=
 hk.run _ _ _ a' w' (r.new' (x:=z) (f:= .rw d) (y:= .slice z.a z.n z.c) hf (bI.refl _) rl.h (hB.toBk (by simp)) hos hov (by show _=_;simp) (jb rl))
def nq(i:TI):Option DV:=match i.z with
 |some z=>match iI z with
  |some zs=>bif i.za then(bif zs.all DV.flat then some (.ag zs) else none) else(match zs with
   |[d]=>bif d.flat then some d else none
   |_=>none)
  |none=>none
 |none=>none
def Xj{d:DV}(h:d.flat=true):d.cells=[d]/\d.okc=true:=by
 cases d<;>first|exact⟨J,h⟩|cases h
theorem yp{d:DV}(hi:eH P e=some i)(h:nq i=some d): ∃v,gj P e v/\(∀G,Is G d v)/\d.okc=true:=by
 obtain⟨j,hj,hij⟩:=qm hi;unfold nq at h;split at h<;>try (cases h;done)
 rename_i z hz;split at h<;>try (cases h;done)
 rename_i zs hzs;obtain⟨v,h1,h2⟩:=AO hi hz;have h3: ∀G,IsLs G zs (aG v):=fun G=>rA (h2 (fun _=>⟨none,0,0⟩) G) hzs;have hzv:j.zero=some v:=by have:=h1.inf;rw[hj] at this;simpa using this
 have hza:i.za=FR (some v):=by rw[hij,<-hzv]
 cases hb:i.za with
 |true=>
  rw[hb] at h hza
  cases hc:zs.all DV.flat with
  |false=>rw[hc] at h;cases h
  |true=>
   rw[hc] at h;cases h
   cases v<;>first|(cases hza;done)|skip
   rename_i cs;exact⟨_,h1,fun G=>en.2 ⟨cs.toList,by simp,h3 G⟩,hc⟩
 |false=>
  rw[hb,cond_false] at h;rw[hb] at hza;split at h<;>try (cases h;done)
  rename_i u
  cases hc:u.flat with
  |false=>rw[hc] at h;cases h
  |true=>
   rw[hc] at h;cases h;have hv:aG v=[v]:=by cases v<;>first|rfl|(cases hza;done)
   refine⟨v,h1,fun G=>?_,(Xj hc).2⟩;have:=h3 G;rw[hv] at this;exact this.uncons.1
def aCP{l:Int}[hT:cw P t e s by_](hi:eH P e=some i)(hz:nq i=some z)(hs:Nat.beq z.cells.length s=true)(hx:bh lk x=some (.d (.v (.int k l))))(hy:bh lk y=some (.d (.v (.int k' l))))(h0:0<=l)(hb:by_*l<=140737488355328)(hl:l<=1152921504606846976)(hds:List.replicate l.toNat z=ds):
  b7 P GB C n lk bk ⟨some d, .makeSlice t x y,ty',pos,af,gd⟩ (.rw d) [(d,some (.b e s ds true))] [d]:=by
 intro hd tl tb K s1 s2 hf hk;refine⟨fun ρ G ov a w r Q=>?_⟩;subst hds;obtain⟨v,hz1,hz2,hz3⟩:=yp hi hz;obtain⟨q1,p1,p2⟩:=(r.mono s1 s2).ev hx;obtain⟨q2,p3,p4⟩:=(r.mono s1 s2).ev hy;rw[c7] at p2 p4;subst p2 p4;have c1:=((hz2 G).cells hz3).1.len;replace hs:=aN hs;have e1: ∀u∈List.replicate l.toNat v,(aG u).length=s:=fun u hu=>by rw[List.eq_of_mem_replicate hu,c1,hs]
 refine F0 p1 p3 h0 hb hl (by rw[c1,hs]) hd (fun b a' w' rl=>?_) a w Q ⟨r.h,r.sz,cB a,r.df⟩;have hnd:=(bL.1 rl.h.nd).1;refine r.newRow (z:=⟨some ⟨b,0,none⟩,l.toNat,l.toNat⟩) (B:=[⟨b,dm v l.toNat,e,true⟩]) hf ⟨List.replicate l.toNat v, .inr ⟨b,[],true,by simp,by rw[S4,fW],eD _ e1,by rw[eD _ e1];simp,by simp⟩,Lf (hz2 G) _,e1,fun _ o ho=>by rw[aU.1 ho]⟩
  (fun o ho=>by rw[aU.1 ho];exact aQ) (fun m B' _ _ o ho _=>⟨aJ _ ho,fun e'=>?_⟩) hk rl
 cases e';exact hnd o ho J
def wn(lk:LK):Nat->List (Nat×Operand)->Option (List DV)
 |_,[]=>some []
 |j,(i,x)::r=>match evD lk x,wn lk (j+1) r with
  |some d,some l=>bif Nat.beq i j then some (d::l) else none
  |_,_=>none
def Mv(r:bH GB C n lk bk ρ G ov a w){zv:Value}(hz:(aG zv).length=s): ∀(ps:List (Nat×Operand)) (j:Nat) (pre:List Value) (ds:List DV),wn lk j ps=some ds->pre.length=j*s->(∀d∈ds,d.okc=true/\d.cells.length=s)->
  ∃vs,vn (co a) s (pre++dm zv ps.length) ps=some (pre++aE vs)/\IsLs G ds vs/\(∀v∈vs,(aG v).length=s)/\vs.length=ps.length
 |[],j,pre,ds,e,hp,hd=>by
  simp only[wn] at e;cases e;exact⟨[],by simp[vn,dm,aE], .nil,by simp,J⟩
 |(i,x)::ps,j,pre,ds,e,hp,hd=>by
  simp only[wn] at e;split at e
  .rename_i d l hx hl
   cases hb:Nat.beq i j with
   |false=>rw[hb] at e;cases e
   |true=>
    rw[hb] at e
    cases e
    have:=aN hb;subst this;obtain⟨y,hy,hy'⟩:=r.evD hx;obtain⟨k1,k2⟩:=hd d aQ;have c1:=(hy'.cells k1).1.len;have hov:cA (pre++dm zv (ps.length+1)) (i*s) (aG y)=(pre++aG y)++dm zv ps.length:=by
     rw[Us,<-hp,OS _ _ _ _ (by rw[c1,k2,hz]),dV]
    obtain⟨vs,h1,h2,h3,h4⟩:=Mv r hz ps (i+1) (pre++aG y) l hl (by rw[aY,c1,k2,hp,fM]) (fun d hd'=>hd d (aJ _ hd'));refine⟨y::vs,?_, .cons hy' h2,fun v hv=>?_,by simp[h4]⟩
    .simp only[vn,hy,bZ]
     rw[if_pos ⟨by rw[c1,k2],by rw[aY,oh,hz,hp,fM];omega⟩,hov,h1];simp[aE]
    .rcases aW.1 hv with rfl|hv
     .rw[c1,k2]
     .exact h3 v hv
  .cases e
def PE{parts:Array (Nat×Operand)}[hT:cw P t e s by_](hi:eH P e=some i)(hz:nq i=some z)(hs:Nat.beq z.cells.length s=true)(hb:wn lk 0 parts.toList=some ds)(hok:BS s ds=true)(hlen:Nat.beq parts.toList.length len=true)(hsm:Nat.ble (len*s) 1000=true)(hs0:Nat.blt 0 (len*s)=true):
  b7 P GB C n lk bk ⟨some d, .buildSlice t len parts,ty',pos,af,gd⟩ (.rw d) [(d,some (.b e s ds true))] [d]:=by
 intro hd tl tb K s1 s2 hf hk;refine⟨fun ρ G ov a w r Q=>?_⟩;obtain⟨v,hz1,hz2,hz3⟩:=yp hi hz;have c1:=((hz2 G).cells hz3).1.len;replace hs:=aN hs;have hlen':=aN hlen;obtain⟨vs,h1,h2,h3,h4⟩:=Mv (r.mono s1 s2) (s:=s) (zv:=v) (by rw[c1,hs]) parts.toList 0 [] ds hb (by simp) (E9 hok);rw[jM,jM] at h1;refine RY (z:=v) (out:=aE vs) (by rw[c1,hs]) (by rw[<-hlen'];exact h1) hsm hs0 hd (fun b a' w' rl=>?_) a w Q ⟨r.h,r.sz,cB a,r.df⟩;have hnd:=(bL.1 rl.h.nd).1;have hvl:vs.length=len:=by rw[h4,hlen']
 refine r.newRow (z:=⟨some ⟨b,0,none⟩,len,len⟩) (B:=[⟨b,aE vs,e,true⟩]) hf ⟨vs, .inr ⟨b,[],true,by rw[hvl],by rw[fW],eD _ h3,by rw[eD _ h3,hvl];simp,by rw[hvl];exact bW _⟩,h2,h3,fun _ o ho=>by rw[aU.1 ho]⟩
  (fun o ho=>by rw[aU.1 ho];exact aQ) (fun m B' _ _ o ho _=>⟨aJ _ ho,fun e'=>?_⟩) hk rl
 cases e';exact hnd o ho J
def Vo[hT:cw P t e s by_]:b7 P GB C n lk bk ⟨some d, .buildSlice t 0 #[],ty',pos,af,gd⟩ (.rw d) [(d,some (.b e s [] true))] [d]:=by
 intro hd tl tb K s1 s2 hf hk;refine⟨fun ρ G ov a w r Q=>?_⟩;refine PS hd (fun b a' w' rl=>?_) a w Q ⟨r.h,r.sz,cB a,r.df⟩;have hnd:=(bL.1 rl.h.nd).1;refine r.newRow (z:=⟨some ⟨b,0,none⟩,0,0⟩) (B:=[⟨b,[],e,true⟩]) hf ⟨[], .inr ⟨b,[],true,J,by simp[aE],by simp[aE],by simp[aE],by simp⟩, .nil,by simp,fun _ o ho=>by rw[aU.1 ho]⟩
  (fun o ho=>by rw[aU.1 ho];exact aQ) (fun m B' _ _ o ho _=>⟨aJ _ ho,fun e'=>?_⟩) hk rl
 cases e';exact hnd o ho J
def b7.frz{o:Oper}{B:Bk}(hd:o.dst=some d)(h:b7 P GB C n lk bk o f [(d,some B)] [d])
  (hz: ∀lk bk ρ G ov a w,bH GB C n lk bk ρ G ov a w->bk d=some B-> ∃G' ov',bI G G'/\bF C ov' G' w/\(∀o∈ov,(ρ d).a≠some ⟨o.b,0,none⟩->o∈ov')/\ ∀y,bP ρ G f y->Is G' v y):b7 P GB C n lk bk o (.d v) [(d,none)] [d]:=by
 intro hd' tl tb K s1 s2 hf hk;refine h hd' tl tb K s1 s2 hf ?_;rw[hd] at hk⊢;refine⟨fun ρ G ov a w r=>?_⟩;have hbd:Sx.upB tb [(d,some B)] d=some B:=by simp[Sx.upB]
 obtain⟨G',ov',h1,h2,h3,h4⟩:=hz _ _ ρ G ov a w r hbd;refine hk.run ρ G' ov' a w ⟨r.gb.trans h1,h2,r.sz,r.df,fun k g e=>?_,fun m B' e=>?_,fun m m' B1 B2 e e'=>?_,r.fxd⟩
 .by_cases hk:k=d
  .subst hk
   simp only[d8,if_true] at e;cases e;obtain⟨y,g1,g2⟩:=r.fx k f (by simp[d8]);exact⟨y,g1,h4 y g2⟩
  .simp only[d8,hk,if_false] at e
   obtain⟨y,g1,g2⟩:=r.fx k g (by simp[d8,hk,e]);exact⟨y,g1,g2.up h1⟩
 .simp only[Sx.upB] at e
  split at e
  .cases e
  .rename_i hm
   have e':Sx.upB tb [(d,some B)] m=some B':=by simp[Sx.upB,hm,e]
   obtain⟨os,g1,g2⟩:=r.bx m B' e';exact⟨os,g1.up h1,fun o ho=>h3 o (g2 o ho) fun hc=>r.dj m d B' B e' hbd hm _ (g1.blk ho) hc⟩
 .simp only[Sx.upB] at e e'
  split at e
  .cases e
  .rename_i hm
   split at e'
   .cases e'
   .rename_i hm'
    exact r.dj m m' B1 B2 (by simp[Sx.upB,hm,e]) (by simp[Sx.upB,hm',e'])
def b7.frzRow{o:Oper}{d:Nat}{ty:TypeId}{s:Nat}{ds:List DV}(hd:o.dst=some d)(h:b7 P GB C n lk bk o (.rw d) [(d,some (.b ty s ds true))] [d]):b7 P GB C n lk bk o (.d (.sl ds)) [(d,none)] [d]:=
 h.frz hd fun _ _ _ _ _ _ _ r hb=>r.frzRow hb
def VM(e:bh lk x=some f)(hc:f.okc=true)(hn:wX f d=true)(hl:iI f.cells=some l):b7 P GB C n lk bk ⟨some d, .box t x,ty',pos,af,gd⟩ (.d (.pt l)) [(d,none)] [d]:=
 (PA e hc hn).frz J fun _ _ _ _ _ _ _ r hb=>r.frzVar hb hl
def pD(lk:LK)(bk:BM)(s:Nat)(y:Operand):Option (List DV):=match bh lk y with
 |some (.rw nm)=>match bk nm with
  |some (.b _ s' ds _)=>bif Nat.beq s' s then some ds else none
  |_=>none
 |some f=>match jm f with
  |some (.sl l)=>some l
  |_=>none
 |none=>none
def Ba(r:bH GB C n lk bk ρ G ov a w)(h:pD lk bk s y=some ds)(hk:cE s ds):
  ∃(z:SV) (vs:List Value),aB (co a) y=some (.slice z.a z.n z.c)/\z.n=vs.length/\IsLs G ds vs/\(∀v∈vs,(aG v).length=s)/\(∀v∈aE vs,Sx.flat v=true)/\mm P C ov G s z.n (.slice z.a z.n z.c) (aE vs):=by
 have hfl: ∀vs:List Value,IsLs G ds vs->(∀v∈vs,(aG v).length=s)/\ ∀v∈aE vs,Sx.flat v=true:=by
  intro vs hl;refine⟨fun v hv=>?_,fun v hv=>?_⟩
  .obtain⟨d,hd,h3⟩:=hl.all v hv
   obtain⟨k1,k2⟩:=hk d hd;rw[(h3.cells k1).1.len,k2]
  .simp only[aE,List.mem_flatten,aT] at hv
   obtain⟨l,⟨u,hu,rfl⟩,hv⟩:=hv;obtain⟨d,hd,h3⟩:=hl.all u hu;exact(h3.cells (hk d hd).1).2 v hv
 unfold pD at h;split at h
 .rename_i nm hy
  split at h<;>try (cases h;done)
  rename_i ty s' ds' lo hb
  cases hs:Nat.beq s' s with
  |false=>rw[hs] at h;cases h
  |true=>
   rw[hs] at h;cases h
   cases aN hs
   obtain⟨u,h1,h2⟩:=r.ev hy
   cases h2
   obtain⟨B,⟨vs,hB,hv,hs,_⟩,hmem⟩:=r.row (y:= .nilFunc) hb;obtain⟨f1,f2⟩:=hfl _ hv;refine⟨ρ nm,vs,h1,hB.len,hv,f1,f2,?_⟩;rcases hB with⟨e1,e2,e3⟩|⟨b,rest,lo',h3,h4,h5,h6,h7⟩
   .simp only[] at e2
    subst e1;rw[e2];exact tP
   .simp only[] at h3 h4 h5 h6 h7
    have oat:iB ov b (aE vs++rest) ty lo':=⟨hmem _ (by rw[h4];exact aQ)⟩;rw[show(ρ nm).a=some ⟨b,0,none⟩ by rw[h3],show(ρ nm).n=vs.length by rw[h3]];refine zg oat ?_;rw[kH _ _ _ (by rw[aY];omega),iX,gX (by omega),cX (by omega)]
 .rename_i f _ hy
  split at h<;>cases h;rename_i hd;obtain⟨u,h3,h4⟩:=r.ev hy;obtain⟨s',z,es,rfl,hsl,hl⟩:=gv.1 (l8 h4 hd);obtain⟨f1,f2⟩:=hfl _ hl;refine⟨z,es,h3,hsl.len,hl,f1,f2,?_⟩;rcases By hsl hl hk with he|he
  .subst he
   rw[hsl.len];exact tP
  .subst he;exact Zh hsl
 .cases h
def aBi[hT:cw P t e s by_][hN:jn P t'](hi:eH P e=some i)(hz:nq i=some z)(hs:Nat.beq z.cells.length s=true)(hx:bh lk x=some (.rw nm))(hb:bk nm=some (.b e s ds true))(hy:pD lk bk s y=some ds2)(hk2:cE s ds2)
  (hby:Nat.blt 0 by_=true)(hbd:(ds.length+ds2.length)*by_<=140737488355328)(hnd:Nat.beq nm d=false)(hds:ds++ds2=ds'):
  b7 P GB C n lk bk ⟨some d, .call ⟨.builtin .append, #[x,y], #[t,t']⟩,ty',pos,af,gd⟩ (.rw d) [(nm,none),(d,some (.b e s ds' true))] [d]:=by
 intro hd tl tb K s1 s2 hf hk;refine⟨fun ρ G ov a w r Q=>?_⟩;subst hds;have r1:=r.mono s1 s2;obtain⟨v,hz1,hz2,hz3⟩:=yp hi hz;have cz:=((hz2 G).cells hz3).1.len;replace hs:=aN hs;rw[kL] at hby
 have hne:nm≠d:=fun e=>by subst e;simp at hnd
 obtain⟨u,hx',hx2⟩:=r1.ev hx
 cases hx2
 obtain⟨B,⟨vs,hB,hv,hvs,hlo⟩,hBo⟩:=r1.row (y:= .nilFunc) hb;simp only[] at hB hv hvs;obtain⟨w2,us,hy',h2,h3,h4,h5,h6⟩:=Ba (P:=P) r1 hy hk2;have hus:(aE us).length=us.length*s:=eD us h4;have hbd':(vs.length+us.length)*by_<=140737488355328:=by rw[hv.len,h3.len];exact hbd
 have hall: ∀v∈vs++us,(aG v).length=s:=fun v hv=>by
  rcases bJ.1 hv with hv|hv
  .exact hvs v hv
  .exact h4 v hv
 have rd:=r.dropB nm;have hf':jp [d] (some d) tl (Sx.upB tb [(nm,none)]):=fun m hm=>by
  obtain⟨g1,g2⟩:=hf m hm;refine⟨g1,fun k B' hk e=>g2 k B' hk ?_⟩;simp only[Sx.upB] at e;split at e
  .cases e
  .exact e
 have hbk: ∀m B',(Sx.upB tb [(nm,none)]) m=some B'->m≠nm/\tb m=some B':=fun m B' e=>by
  simp only[Sx.upB] at e;split at e
  .cases e
  .exact⟨by assumption,e⟩
 have hfin: ∀(b:Nat) (cap':Nat) (rest':List Value) (ov1:List aA) a' w',vs.length+us.length<=cap'->rest'.length+(vs.length+us.length)*s=cap'*s->(∀o∈ov,(ρ nm).a≠some ⟨o.b,0,none⟩->o∈ov1)->
   gq C n (put (co a) (some d) (.slice (some ⟨b,0,none⟩) (vs.length+us.length) cap')) (⟨b,aE (vs++us)++rest',e,true⟩::ov1) G a' w'->K a' w':=by
  intro b cap' rest' ov1 a' w' hc hr ho1 rl;have hnd':=(bL.1 rl.h.nd).1;refine rd.newRow (z:=⟨some ⟨b,0,none⟩,vs.length+us.length,cap'⟩) (B:=[⟨b,aE (vs++us)++rest',e,true⟩]) hf' ⟨vs++us, .inr ⟨b,rest',true,by simp,J,eD _ hall,?_,by simpa using hc⟩,hv.app h3,hall,fun _ o ho=>by rw[aU.1 ho]⟩
   (fun o ho=>by rw[aU.1 ho];exact aQ) (fun m B' hm e o ho hmo=>?_) hk rl
  .rw[eD _ hall,aY]
   simp only[];omega
  .obtain⟨h7,h8⟩:=hbk m B' e
   have ho2:=ho1 o ho fun hc=>r.dj m nm B' _ h8 (s2 _ _ hb) h7 _ hmo hc;exact⟨aJ _ ho2,fun e'=>by cases e';exact hnd' o ho2 J⟩
 rcases hB with⟨e1,e2,e3⟩|⟨b,rest,lo',k3,k4,k5,k6,k7⟩
 .subst e1
  rw[e2] at hx';by_cases hne:us=[]
  .subst hne
   have:ds2=[]:=cV (by rw[<-h3.len];rfl);subst this;rw[h2] at hy';refine P4 hx' hy' hd (fun a' w' rl=>?_) a w Q ⟨r.h,r.sz,cB a,r.df⟩;refine rd.newRow (z:=⟨none,0,0⟩) (B:=[]) hf' ⟨[], .inl ⟨J,J,J⟩,by simpa using hv,by simp,fun _ o ho=>by cases ho⟩ (fun o ho=>by cases ho) (fun m B' hm e o ho hmo=>⟨ho,fun e'=>by cases e'⟩) hk rl
  .have hup:0<us.length:=mZ.2 hne
   rw[h2] at hy' h6;refine ES (z:=v) (xs:=[]) (ys:=aE us) hx' hy' tP h6 (by show(0:Nat)<0+us.length;omega) hby (by simpa using hbd') hd (fun b cap' hc a' w' rl=>?_) a w Q ⟨r.h,r.sz,cB a,r.df⟩;exact hfin b cap' (dm v (cap'-us.length)) ov a' w' (by simpa using hc) (by rw[oh,cz,hs,<-dY];simp at hc⊢;congr 1;omega) (fun o ho _=>ho) (by simpa using rl)
 .have hl:=hlo J
  subst k4;have hlo':lo'=true:=hl _ aQ;subst hlo';have ha:(ρ nm).a=some ⟨b,0,none⟩:=by rw[k3]
  have hn:(ρ nm).n=vs.length:=by rw[k3]
  rw[ha,hn] at hx';rw[h2] at hy' h6;obtain⟨ov1,o1,o2⟩:=jq.of_mem (hBo _ aQ);refine Nb (z:=v) (xs:=aE vs) (ys:=aE us) (rest:=rest) (own1:=ov1) hx' hy' o1 k5 k6 k7 h6 hus h5 hby hbd' (by rw[cz,hs]) hd (fun b' cap' rest' hc hr a' w' rl=>?_) a w Q ⟨r.h,r.sz,cB a,r.df⟩;rw[<-n7] at rl;exact hfin b' cap' rest' ov1 a' w' hc hr (fun o ho hne=>o2 o ho fun e'=>hne (by rw[ha,e'])) rl
end
section
variable {gd:Option (Nat×Bool)}
def IH{cs:List Value}{i:Nat}{v':Value}(hil:i<vs.length)(hvs: ∀v∈vs,(aG v).length=sz)(hv':aG v'=cA (aG vs[i]) j cs)(hj:j+cs.length<=sz):cA (aE vs++rest) (i*sz+j) cs=aE (vs.set i v')++rest:=by
 have hm:(aG vs[i]).length=sz:=hvs _ (dX hil);have hl':(aG v').length=sz:=by rw[hv',AG,hm]
 rw[<-Xu (rest:=rest) (u:=v') vs i hil hvs hl',hv'];have hlv:=eD vs hvs;have hle:i*sz+sz<=vs.length*sz:=by rw[<-fM];exact bS _ hil
 generalize hmm:aG vs[i]=m at*;have hX:aE vs++rest=(aE vs).take (i*sz)++(m++((aE vs).drop (i*sz+sz)++rest)):=by
  have t1:=Iy (rest:=rest) hvs hil;rw[hmm] at t1;obtain⟨_,t2⟩:=zi t1;have t3:m=((aE vs).drop (i*sz)).take sz:=by
   have:m=((aE vs++rest).drop (i*sz)).take sz:=t2;rw[this,lQ (by omega),gX (by rw[gV];omega)]
  rw[t3]
  conv=>lhs;rw[<-kX (i*sz) (aE vs),<-kX sz ((aE vs).drop (i*sz)),List.drop_drop]
  simp[dV]
 have hP:((aE vs).take (i*sz)).length=i*sz:=by rw[bT];omega
 generalize (aE vs).take (i*sz)=A at hX hP;generalize (aE vs).drop (i*sz+sz)++rest=Z at hX;rw[hX,<-hP,OS A m Z (cA m j cs) (by rw[AG])];rw[pq _ m j (by omega),pq _ _ _ (by simp only[aY];omega)];rw[List.take_append,cX (by omega),Nat.add_sub_cancel_left,gX (by omega)];rw[nK,iY (by omega),jM,show A.length+j+cs.length-A.length=j+cs.length by omega,lQ (by omega)];simp[dV]
def Ep(ag:Option Nat)(d:DV)(j:Nat)(u:DV):Option DV:=match d with
 | .ag l=>match ag with
  |some k=>bif u.okc&&(Nat.beq u.cells.length k&&Nat.ble (j+k) l.length) then some (.ag (Fm l j u.cells)) else none
  |none=>bif u.flat&&Nat.blt j l.length then some (.ag (l.set j u)) else none
 |d=>match ag with
  |some _=>none
  |none=>bif d.flat&&(u.flat&&Nat.beq j 0) then some u else none
def bH.wroteRow(r:bH GB C n lk bk ρ G ov a w)(hb:bk nm=some (.b ty sz ds lo))(ha:(ρ nm).a=some ⟨b,0,none⟩)(hB:dw G ⟨ρ nm,sz,ty,ds',lo⟩ [⟨b,m',ty,lo'⟩])
  (h1:⟨b,m',ty,lo'⟩∈own')(h2: ∀o∈ov,o.b≠b->o∈own')(hk:SX GB C n (d8 lk dst .un) (Sx.upB bk [(nm,some (.b ty sz ds' lo))]) K)(rl:gq C n (Sx.put (co a) dst undef) own' G a' w'):K a' w':=by
 have r2:=r.upB (G':=G) (ov':=own') (w':=w') (B':= .b ty sz ds' lo) (bI.refl _) rl.h (hB.toBk J) (fun o ho=>by rw[aU.1 ho];exact h1) (fun o ho hne=>h2 o ho fun e=>hne (by rw[ha,e])) ⟨_,hb⟩;exact hk.run _ _ _ a' w' (r2.put J (jb rl))
def KY(cs:List Value)(o:Nat)(v:Value):cA cs o [v]=cs.set o v:=rfl
def Xm{k:Nat}{d:DV}(hi:eH P t=some i)(ha:i.ag=some ag)(hx:bh lk x=some (.be nm sz k j))(hb:bk nm=some (.b ty sz ds lo))(hy:evD lk y=some u)(he:ds[k]? =some d)(hl:Ep ag d j u=some d')(hds:ds.set k d'=ds'):
  b7 P GB C n lk bk ⟨dst, .store t x y,ty',pos,af,gd⟩ .un [(nm,some (.b ty sz ds' lo))] []:=by
 intro hd tl tb K s1 s2 hf hk;refine⟨fun ρ G ov a w r Q=>?_⟩;subst hds;have r1:=r.mono s1 s2;obtain⟨y',h1,h2⟩:=r1.evD hy;obtain⟨x',h3,b,hwb,rfl⟩:=r1.ev hx;obtain⟨B,hB,hBo⟩:=r1.row (y:= .nilFunc) hb;obtain⟨b',vs,rest,lo',e1,rfl,hv,hvs,hil,hup⟩:=hB.upd he;rw[hwb] at e1;cases e1;obtain⟨v,g1,g2⟩:=hv.get he;obtain⟨g3,g4⟩:=aR.1 g1;have hlv:=eD vs hvs;have hle:k*sz+sz<=vs.length*sz:=by rw[<-fM];exact bS _ hil
 have hml:(aG v).length=sz:=hvs _ (aK g1)
 cases ag with
 |some q=>
  have:=x6 hi ha;unfold Ep at hl;split at hl
  .rename_i l
   simp only at hl
   cases hc:(u.okc&&(Nat.beq u.cells.length q&&Nat.ble (j+q) l.length)) with
   |false=>rw[hc] at hl;cases hl
   |true=>
    rw[hc] at hl;cases hl;simp only[bK,Nat.ble_eq] at hc;obtain⟨c1,c2,c3⟩:=hc;replace c2:=aN c2;obtain⟨c4,c5⟩:=h2.cells c1;obtain⟨m,rfl,hm⟩:=en.1 g2;have hcl:(aG y').length=q:=by rw[c4.len,c2]
    have hmd:=hm.len;have hsz:m.length=sz:=hml;have key:=hup (.agg ⟨cA m j (aG y')⟩) (.ag (Fm l j u.cells)) (en.2 ⟨_,J,hm.ov c4⟩) (by show(cA m j (aG y')).length=sz;rw[AG,hsz]);have hov:=IH (rest:=rest) (v':= .agg ⟨cA m j (aG y')⟩) (cs:=aG y') (j:=j) hil hvs (by rw[g4];rfl) (by omega);obtain⟨own',u1,u2,u3⟩:=ik.of_mem (cs':=cA (aE vs++rest) (k*sz+j) (aG y')) (hBo _ aQ);refine Dg h3 h1 u1 hcl (by rw[aY];omega) (dJ.2 c5) hd (fun a' w' rl=>?_) a w Q ⟨r.h,r.sz,cB a,r.df⟩;rw[hov] at u2;exact r.wroteRow (s2 _ _ hb) hwb key u2 u3 hk rl
  .simp at hl
 |none=>
  have:=vR hi ha;unfold Ep at hl;split at hl
  .rename_i l
   simp only at hl
   cases hc:(u.flat&&Nat.blt j l.length) with
   |false=>rw[hc] at hl;cases hl
   |true=>
    rw[hc] at hl;cases hl;simp only[bK,kL] at hc;obtain⟨c1,c2⟩:=hc;have hfl:=h2.flat c1;have hcl:=zo hfl;obtain⟨m,rfl,hm⟩:=en.1 g2;have hmd:=hm.len;have hsz:m.length=sz:=hml;have key:=hup (.agg ⟨m.set j y'⟩) (.ag (l.set j u)) (en.2 ⟨_,J,hm.set j h2⟩) (by show(m.set j y').length=sz;rw[bQ,hsz]);have hov:=IH (rest:=rest) (v':= .agg ⟨m.set j y'⟩) (cs:=[y']) (j:=j) hil hvs (by rw[g4];rfl) (by simp;omega);rw[KY] at hov;obtain⟨own',u1,u2,u3⟩:=ik.of_mem (cs':=(aE vs++rest).set (k*sz+j) y') (hBo _ aQ);refine ur h3 h1 u1 (by rw[aY];omega) hfl hd (fun a' w' rl=>?_) a w Q ⟨r.h,r.sz,cB a,r.df⟩;rw[hov] at u2;exact r.wroteRow (s2 _ _ hb) hwb key u2 u3 hk rl
  .rename_i hna
   simp only at hl
   cases hc:(d.flat&&(u.flat&&Nat.beq j 0)) with
   |false=>rw[hc] at hl;cases hl
   |true=>
    rw[hc] at hl;cases hl;simp only[bK] at hc;obtain⟨c0,c1,c2⟩:=hc
    cases aN c2
    have hfl:=h2.flat c1;have hcl:=zo hfl;have hvl:=zo (g2.flat c0);have h1z:1=sz:=by rw[<-hml,hvl];rfl
    have key:=hup y' d' h2 (by rw[hcl,<-h1z];rfl);have hov:=IH (rest:=rest) (v':=y') (cs:=[y']) (j:=0) hil hvs (by rw[g4,hvl,hcl];rfl) (by simp;omega);rw[KY] at hov;obtain⟨own',u1,u2,u3⟩:=ik.of_mem (cs':=(aE vs++rest).set (k*sz+0) y') (hBo _ aQ);refine ur h3 h1 u1 (by rw[aY];omega) hfl hd (fun a' w' rl=>?_) a w Q ⟨r.h,r.sz,cB a,r.df⟩;rw[hov] at u2;exact r.wroteRow (s2 _ _ hb) hwb key u2 u3 hk rl
def ma(lk:LK)(dflt:Nat):Option Operand->Option Int
 |none=>some (dflt:Nat)
 |some o=>match bh lk o with
  |some (.d (.v (.int .i64 i)))=>some i
  |_=>none
def UJ{lo hi:Option Operand}[hT:cw P t e s by_](hx:evD lk x=some (.sl l))(ho:cE s l)(hlo:ma lk 0 lo=some (nlo:Int))(hhi:ma lk l.length hi=some (nhi:Int))(h1:nlo<=nhi)(h2:nhi<=l.length):
  b7 P GB C n lk bk ⟨dst, .slice t x lo hi none,ty',pos,af,gd⟩ (.d (.sl ((l.take nhi).drop nlo))) [] []:= .yd fun ρ G ov a w r=>by
 obtain⟨u,h3,h4⟩:=r.evD hx;obtain⟨s',z,es,rfl,hsl,hl⟩:=gv.1 h4;have hn:=hsl.len;have hcap:=hsl.cap;have hll:=hl.len;have key: ∀mx',nhi<=mx'->mx'<=z.c->Is G (.sl ((l.take nhi).drop nlo)) (mI z.a z.n z.c nlo nhi mx' s):=by
  intro mx' hm1 hm2;rcases By hsl hl ho with he|he
  .subst he
   have:l=[]:=cV (by rw[<-hll];rfl);subst this;have e1:nhi=0:=by simp at h2;exact h2
   have e2:nlo=0:=by omega
   subst e1 e2;refine gv.2 ⟨s,⟨_,0,mx'⟩,[],J,⟨J,aM _, .inl J⟩,by simpa using IsLs.nil⟩
  .subst he
   refine gv.2 ⟨s',⟨_,_,_⟩,_,J,hsl.sub nlo nhi mx' h1 (by omega) hm1 hm2,(hl.take nhi).drop nlo⟩
 have bnd: ∀{o:Operand} {d:Nat} {i:Int},ma lk d (some o)=some i->aB (co a) o=some (.int .i64 i):=fun{o d i} h=>by
  simp only[ma] at h;split at h<;>cases h;rename_i he;obtain⟨q,g1,g2⟩:=r.ev he;rw[c7] at g2;subst g2;exact g1
 match lo,hi,hlo,hhi with
 |none,none,hlo,hhi=>
  simp only[ma,Option.some.injEq] at hlo hhi;have e1:nlo=0:=by omega
  have e2:nhi=l.length:=by omega
  subst e1 e2;refine⟨_,key z.c (by omega) (bW _),?_⟩;intro a w0 hf hh;simp only[execOp,bB hf h3,qM];have h9:=BF (P:=P) (t:=t) (ad:=z.a) (len:=z.n) (cap:=z.c) w0 (lo:=none) (hi:=none) (mx:=none) (l:=0) (h:=l.length) (m:=z.c) (fun w0=>by
   simp[Instr.sliceBounds,Result.andThen,run_pure];omega)
  exact c6 h9
 |none,some o2,hlo,hhi=>
  simp only[ma,Option.some.injEq] at hlo;have e1:nlo=0:=by omega
  subst e1;refine⟨_,key z.c (by omega) (bW _),?_⟩;have h9:=EM (P:=P) (C:=C) (own:=ov) (G:=G) (t:=t) (dst:=dst) (ty':=ty') (pos:=pos) (af:=af) (gd:=gd) h3 (bnd hhi);have e9:mI z.a z.n z.c 0 nhi z.c s= .slice z.a nhi z.c:=by
   unfold mI
   cases z.a with
   |none=>simp
   |some ad=>simp[Addr.add]
  rw[e9];simpa using h9
 |some o1,none,hlo,hhi=>
  simp only[ma,Option.some.injEq] at hhi;have e2:nhi=l.length:=by omega
  subst e2;refine⟨_,key z.c (by omega) (bW _),?_⟩;have h9:=IP (P:=P) (C:=C) (own:=ov) (G:=G) (t:=t) (dst:=dst) (ty':=ty') (pos:=pos) (af:=af) (gd:=gd) h3 (bnd hlo);have e9:z.n=l.length:=by omega
  rw[bM,e9] at h9;rw[e9];exact h9
 |some o1,some o2,hlo,hhi=>
  refine⟨_,key z.c (by omega) (bW _),?_⟩;have h9:=amb (P:=P) (C:=C) (own:=ov) (G:=G) (t:=t) (dst:=dst) (ty':=ty') (pos:=pos) (af:=af) (gd:=gd) h3 (bnd hlo) (bnd hhi) (by omega) (by omega) (by omega);simpa using h9
def aDW{hi:Operand}[hT:cw P t e s by_](hx:evD lk x=some (.sl l))(ho:cE s l)(hhi:ma lk 0 (some hi)=some (nhi:Int))(hmx:ma lk 0 (some mx)=some (nhi:Int))(h2:nhi<=l.length):
  b7 P GB C n lk bk ⟨dst, .slice t x none (some hi) (some mx),ty',pos,af,gd⟩ (.ct (l.take nhi)) [] []:= .yd fun ρ G ov a w r=>by
 obtain⟨u,h3,h4⟩:=r.evD hx;obtain⟨s',z,es,rfl,hsl,hl⟩:=gv.1 h4;have hn:=hsl.len;have hcap:=hsl.cap;have hll:=hl.len;have bnd: ∀{o:Operand} {d:Nat} {i:Int},ma lk d (some o)=some i->aB (co a) o=some (.int .i64 i):=fun{o d i} h=>by
  simp only[ma] at h;split at h<;>cases h;rename_i he;obtain⟨q,g1,g2⟩:=r.ev he;rw[c7] at g2;subst g2;exact g1
 refine⟨.slice z.a nhi nhi,⟨⟨_,_,J⟩,Z7 hsl hl ho h2 (bW _) (by omega)⟩,?_⟩;have h9:=UV (P:=P) (C:=C) (own:=ov) (G:=G) (t:=t) (dst:=dst) (ty':=ty') (pos:=pos) (af:=af) (gd:=gd) h3 (bnd hhi) (bnd hmx) (by omega) (Int.le_refl _) (by omega);simpa using h9
def MX[hT:cw P t e s by_][hN:jn P t'](hi:eH P e=some i)(hz:nq i=some z)(hs:Nat.beq z.cells.length s=true)(hx:bh lk x=some (.ct ds)\/(bh lk x=some .nl/\ds=[]))(ox:cE s ds)(hy:pD lk bk s y=some ds2)(hk2:cE s ds2)(hne:0<ds2.length)
  (hby:Nat.blt 0 by_=true)(hbd:(ds.length+ds2.length)*by_<=140737488355328)(hds:ds++ds2=ds'):
  b7 P GB C n lk bk ⟨some d, .call ⟨.builtin .append, #[x,y], #[t,t']⟩,ty',pos,af,gd⟩ (.rw d) [(d,some (.b e s ds' true))] [d]:=by
 intro hd tl tb K s1 s2 hf hk;refine⟨fun ρ G ov a w r Q=>?_⟩;subst hds;have r1:=r.mono s1 s2;obtain⟨v,hz1,hz2,hz3⟩:=yp hi hz;have cz:=((hz2 G).cells hz3).1.len;replace hs:=aN hs;rw[kL] at hby
 obtain⟨w2,us,h1,h2,h3,h4,h5,h6⟩:=Ba (P:=P) r1 hy hk2;have hxs:pD lk bk s x=some ds:=by
  unfold pD;rcases hx with hx|⟨hx,rfl⟩<;>rw[hx]<;>rfl
 obtain⟨w1,vs,g1,g2,g3,g4,g5,g6⟩:=Ba (P:=P) r1 hxs ox;have hc1:w1.c=w1.n:=by
  rcases hx with hx|⟨hx,rfl⟩
  .obtain⟨y1,k1,⟨a1,n1,rfl⟩,_⟩:=r1.ev hx
   rw[k1] at g1;simp only[Option.some.injEq,Value.slice.injEq] at g1;omega
  .obtain⟨y1,k1,k2⟩:=r1.ev hx
   cases k2
   rw[k1] at g1;simp only[Option.some.injEq,Value.slice.injEq] at g1;omega
 have hl3:=h3.len;have hl4:=g3.len;have hall: ∀v∈vs++us,(aG v).length=s:=fun v hv=>by
  rcases bJ.1 hv with hv|hv
  .exact g4 v hv
  .exact h4 v hv
 refine ES (z:=v) (xs:=aE vs) (ys:=aE us) (ad:=w1.a) (len:=w1.n) (cap:=w1.c) g1 h1 g6 h6 (by omega) hby (by rw[g2,h2,hl3,hl4];exact hbd) hd (fun b cap' hc a' w' rl=>?_) a w Q ⟨r.h,r.sz,cB a,r.df⟩;rw[<-n7] at rl;have hnd':=(bL.1 rl.h.nd).1;refine r.newRow (z:=⟨some ⟨b,0,none⟩,w1.n+w2.n,cap'⟩) (B:=[⟨b,aE (vs++us)++dm v (cap'-(w1.n+w2.n)),e,true⟩]) hf ⟨vs++us, .inr ⟨b,_,true,by simp[g2,h2],J,eD _ hall,?_,by simpa[g2,h2] using hc⟩,g3.app h3,hall,fun _ o ho=>by rw[aU.1 ho]⟩
  (fun o ho=>by rw[aU.1 ho];exact aQ) (fun m B' hm e o ho _=>⟨aJ _ ho,fun e'=>by cases e';exact hnd' o ho J⟩) hk rl
 rw[eD _ hall,aY,oh,cz,hs,<-dY,g2,h2];congr 1;rw[g2,h2] at hc;dsimp only;omega
end
end Go.Sx
end
