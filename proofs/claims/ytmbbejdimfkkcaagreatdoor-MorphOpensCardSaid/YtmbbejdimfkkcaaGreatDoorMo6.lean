import Derived.Test.YtmbbejdimfkkcaaGreatDoorMo5
set_option linter.all false
set_option maxRecDepth 100000
section
namespace Go.Sx
open Go
def tt:TT:=[
 (2,⟨.int .i64,1,some [.d (.v (.int .i64 0))],false⟩),
 (3,⟨.int .i64,1,some [.d (.v (.int .i64 0))],false⟩),
 (4,⟨.bl,1,some [.ff],false⟩),
 (5,⟨.int .u8,1,some [.d (.v (.int .u8 0))],false⟩),
 (9,⟨.sc,1,some [.d (.v (.string ⟨#[]⟩))],false⟩),
 (22,⟨.sl 3 1 8,1,some [.nl],false⟩),
 (23,⟨.pt,1,some [.d (.v (.pointer none))],false⟩),
 (25,⟨.pt,1,some [.d (.v (.pointer none))],false⟩),
 (27,⟨.sl 63 6 112,1,some [.nl],false⟩),
 (29,⟨.sl 94 8 112,1,some [.nl],false⟩),
 (31,⟨.st [(0,3,1),(1,29,1)],2,some [.d (.v (.int .i64 0)), .nl],true⟩),
 (34,⟨.fc,1,some [.d (.v (.nilIface))],false⟩),
 (37,⟨.sl 79 6 112,1,some [.nl],false⟩),
 (46,⟨.st [(0,22,1),(1,3,1)],2,some [.nl, .d (.v (.int .i64 0))],true⟩),
 (49,⟨.sl 245 1 4,1,some [.nl],false⟩),
 (50,⟨.sl 245 1 4,1,some [.nl],false⟩),
 (52,⟨.st [(0,4,1),(1,50,1)],2,some [.ff, .nl],true⟩),
 (54,⟨.st [(0,52,2),(2,52,2),(4,52,2)],6,some [.ff, .nl, .ff, .nl, .ff, .nl],true⟩),
 (58,⟨.st [(0,4,1),(1,4,1),(2,54,6),(8,25,1),(9,25,1)],10,some [.ff, .ff, .ff, .nl, .ff, .nl, .ff, .nl, .d (.v (.pointer none)), .d (.v (.pointer none))],true⟩),
 (61,⟨.st [(0,52,2),(2,50,1)],3,some [.ff, .nl, .nl],true⟩),
 (63,⟨.st [(0,61,3),(3,61,3)],6,some [.ff, .nl, .nl, .ff, .nl, .nl],true⟩),
 (70,⟨.sl 79 6 112,1,some [.nl],false⟩),
 (72,⟨.o,1,some [.d (.v (.nilFunc))],false⟩),
 (73,⟨.sl 245 1 4,1,some [.nl],false⟩),
 (75,⟨.st [(0,4,1),(1,73,1)],2,some [.ff, .nl],true⟩),
 (77,⟨.st [(0,75,2),(2,73,1)],3,some [.ff, .nl, .nl],true⟩),
 (79,⟨.st [(0,77,3),(3,77,3)],6,some [.ff, .nl, .nl, .ff, .nl, .nl],true⟩),
 (81,⟨.pt,1,some [.d (.v (.pointer none))],false⟩),
 (83,⟨.st [(0,81,1),(1,81,1)],2,some [.d (.v (.pointer none)), .d (.v (.pointer none))],true⟩),
 (92,⟨.st [(0,75,2),(2,75,2),(4,75,2)],6,some [.ff, .nl, .ff, .nl, .ff, .nl],true⟩),
 (94,⟨.st [(0,92,6),(6,3,1),(7,3,1)],8,some [.ff, .nl, .ff, .nl, .ff, .nl, .d (.v (.int .i64 0)), .d (.v (.int .i64 0))],true⟩),
 (96,⟨.sl 98 1 24,1,some [.nl],false⟩),
 (98,⟨.sl 54 6 96,1,some [.nl],false⟩),
 (108,⟨.sl 27 1 24,1,some [.nl],false⟩),
 (110,⟨.st [(0,108,1),(1,3,1),(2,98,1)],3,some [.nl, .d (.v (.int .i64 0)), .nl],true⟩),
 (112,⟨.sl 70 1 24,1,some [.nl],false⟩),
 (118,⟨.sl 72 1 8,1,some [.nl],false⟩),
 (121,⟨.sl 199 6 48,1,some [.nl],false⟩),
 (122,⟨.sl 199 6 48,1,some [.nl],false⟩),
 (130,⟨.sl 81 1 8,1,some [.nl],false⟩),
 (131,⟨.sl 134 1 24,1,some [.nl],false⟩),
 (133,⟨.sl 209 17 128,1,some [.nl],false⟩),
 (134,⟨.sl 209 17 128,1,some [.nl],false⟩),
 (141,⟨.sl 4 1 1,1,some [.nl],false⟩),
 (149,⟨.sl 152 2 32,1,some [.nl],false⟩),
 (152,⟨.st [(0,98,1),(1,4,1)],2,some [.nl, .ff],true⟩),
 (169,⟨.sl 176 14 216,1,some [.nl],false⟩),
 (174,⟨.st [(0,61,3),(3,61,3),(6,4,1),(7,4,1)],8,some [.ff, .nl, .nl, .ff, .nl, .nl, .ff, .ff],true⟩),
 (176,⟨.st [(0,54,6),(6,174,8)],14,some [.ff, .nl, .ff, .nl, .ff, .nl, .ff, .nl, .nl, .ff, .nl, .nl, .ff, .ff],true⟩),
 (180,⟨.int .u64,1,some [.d (.v (.int .u64 0))],false⟩),
 (184,⟨.pt,1,some [.d (.v (.pointer none))],false⟩),
 (186,⟨.st [(0,29,1),(1,141,1),(2,3,1),(3,4,1)],4,some [.nl, .nl, .d (.v (.int .i64 0)), .ff],true⟩),
 (189,⟨.pt,1,some [.d (.v (.pointer none))],false⟩),
 (191,⟨.st [(0,2,1),(1,2,1),(2,189,1)],3,some [.d (.v (.int .i64 0)), .d (.v (.int .i64 0)), .d (.v (.pointer none))],true⟩),
 (193,⟨.st [(0,191,3),(3,191,3),(6,191,3)],9,some [.d (.v (.int .i64 0)), .d (.v (.int .i64 0)), .d (.v (.pointer none)), .d (.v (.int .i64 0)), .d (.v (.int .i64 0)), .d (.v (.pointer none)), .d (.v (.int .i64 0)), .d (.v (.int .i64 0)), .d (.v (.pointer none))],true⟩),
 (195,⟨.st [(0,193,9),(9,81,1),(10,81,1),(11,4,1)],12,some [.d (.v (.int .i64 0)), .d (.v (.int .i64 0)), .d (.v (.pointer none)), .d (.v (.int .i64 0)), .d (.v (.int .i64 0)), .d (.v (.pointer none)), .d (.v (.int .i64 0)), .d (.v (.int .i64 0)), .d (.v (.pointer none)), .d (.v (.pointer none)), .d (.v (.pointer none)), .ff],true⟩),
 (199,⟨.st [(0,191,3),(3,191,3)],6,some [.d (.v (.int .i64 0)), .d (.v (.int .i64 0)), .d (.v (.pointer none)), .d (.v (.int .i64 0)), .d (.v (.int .i64 0)), .d (.v (.pointer none))],true⟩),
 (201,⟨.sl 204 2 32,1,some [.nl],false⟩),
 (204,⟨.st [(0,134,1),(1,81,1)],2,some [.nl, .d (.v (.pointer none))],true⟩),
 (205,⟨.sl 193 9 72,1,some [.nl],false⟩),
 (207,⟨.st [(0,191,3),(3,191,3),(6,4,1),(7,4,1)],8,some [.d (.v (.int .i64 0)), .d (.v (.int .i64 0)), .d (.v (.pointer none)), .d (.v (.int .i64 0)), .d (.v (.int .i64 0)), .d (.v (.pointer none)), .ff, .ff],true⟩),
 (209,⟨.st [(0,193,9),(9,207,8)],17,some [.d (.v (.int .i64 0)), .d (.v (.int .i64 0)), .d (.v (.pointer none)), .d (.v (.int .i64 0)), .d (.v (.int .i64 0)), .d (.v (.pointer none)), .d (.v (.int .i64 0)), .d (.v (.int .i64 0)), .d (.v (.pointer none)), .d (.v (.int .i64 0)), .d (.v (.int .i64 0)), .d (.v (.pointer none)), .d (.v (.int .i64 0)), .d (.v (.int .i64 0)), .d (.v (.pointer none)), .ff, .ff],true⟩),
 (217,⟨.o,12,some [.d (.v (.int .i64 0)), .d (.v (.int .i64 0)), .d (.v (.pointer none)), .d (.v (.int .i64 0)), .d (.v (.int .i64 0)), .d (.v (.pointer none)), .d (.v (.int .i64 0)), .d (.v (.int .i64 0)), .d (.v (.pointer none)), .d (.v (.int .i64 0)), .d (.v (.int .i64 0)), .d (.v (.pointer none))],true⟩),
 (228,⟨.sl 61 3 56,1,some [.nl],false⟩),
 (245,⟨.int .u32,1,some [.d (.v (.int .u32 0))],false⟩),
 (246,⟨.int .u64,1,some [.d (.v (.int .u64 0))],false⟩),
 (259,⟨.pt,1,some [.d (.v (.pointer none))],false⟩),
 (261,⟨.st [(0,34,1),(1,3,1),(2,3,1),(3,9,1)],4,some [.d (.v (.nilIface)), .d (.v (.int .i64 0)), .d (.v (.int .i64 0)), .d (.v (.string ⟨#[]⟩))],true⟩),
 (272,⟨.sl 191 3 24,1,some [.nl],false⟩),
 (288,⟨.st [(0,75,2),(2,73,1)],3,some [.ff, .nl, .nl],true⟩),
 (306,⟨.o,2,some [.nl, .nl],true⟩),
 (307,⟨.sl 174 8 120,1,some [.nl],false⟩),
 (382,⟨.o,32,some (List.replicate 32 (.d (.v (.int .u8 0)))),true⟩),
 (383,⟨.o,64,some (List.replicate 64 (.d (.v (.int .u8 0)))),true⟩),
 (384,⟨.pt,1,some [.d (.v (.pointer none))],false⟩),
 (401,⟨.st [(0,9,1)],1,some [.d (.v (.string ⟨#[]⟩))],true⟩)]
def fi:nq Go.Proofs.Tryz.prog tt:=nq.of omd
end Go.Sx
end
section
namespace Go.Sx
open Go Go.Proofs Tryz
def sD:Nat->List DV->aF
 |_,[]=>[]
 |i,v::t=>(i, .d v)::sD (i+1) t
class Fu where n:Nat
instance fu0:Fu:=⟨400⟩
section
variable {GB:Gh} {C:aH} {n:Nat} {Q0:Exit->Act->World->Prop} {fr fr':aF} {own own':bh} {cf cf':Cf} {vc vc':List Prop} {ops:Array Oper} {r:List Oper} {o:Oper} {K:List Kt}
def gn{q:Nat}(h:go tt n q [] fr own cf=⟨vc,fr',own',cf'⟩)(hv:ak vc)(k:av prog GB C n Q0 fr' own' cf'):av prog GB C n Q0 fr own cf:=by
 have:=(jm (GB:=GB) (C:=C) (Q0:=Q0) fi follows q [] fr own cf (by rw[h];exact hv)).2;rw[h] at this;exact this k
def gx[fu:Fu](h:go tt n fu.n [] fr own cf=⟨vc,fr',own',cf'⟩)(k:av prog GB C n Q0 fr' own' cf')(hv:ak vc:=by first|exact trivial|(simp only[ak];kernel_rfl)|(simp only[ak];omega)|(simp only[ak,aX,bJ,aM];omega)):av prog GB C n Q0 fr own cf:=gn h hv k
def Sp: ∀{ds:List DV} {vs:List Value} {ρ:NE} {G:Gh} (i:Nat),IsLs G ds vs-> ∀k f,bi (sD i ds) k=some f-> ∃y,(∃j,k=i+j/\vs[j]? =some y)/\ce ρ G f y
 |[],vs,ρ,G,i,h,k,f,e=>by cases e
 |d::t,vs,ρ,G,i,h,k,f,e=>by
  obtain⟨y,m,rfl,h1,h2⟩:=bA.1 h;simp only[sD] at e;rw[kH] at e;split at e
  .cases e;rename_i hk;exact⟨y,⟨0,hk,rfl⟩,h1⟩
  .obtain⟨u,⟨j,hj,hu⟩,h3⟩:=Sp (i+1) h2 k f e
   exact⟨u,⟨j+1,we,by simpa using hu⟩,h3⟩
def A7{ds:List DV}{vs:List Value}{ρ:NE}{G:Gh}{a:Act}(h:IsLs G ds vs)(hf:ma (oc 0 vs) a)(k:Nat)(f:FX)(e:bi (sD 0 ds) k=some f): ∃y,a.tmps[k]? =some y/\ce ρ G f y:=by
 obtain⟨y,⟨j,hj,hy⟩,h1⟩:=Sp (ρ:=ρ) 0 h k f e;refine⟨y,hf k y ?_,h1⟩;rw[hj];exact zy vs 0 j y hy
theorem okE{p:Prop}(h:p:=by rw[hvs.len];exact hlen):p:=h
def fn[fu:Fu]{f:FuncId}{fb:Func}{c:Code}{m:Nat}{ds:List DV}{rv:DV}(hf:prog.funcs[f]? =some fb)(hb:fb.body=some c)(hn:(fb.name== "runtime.NumGoroutine")=false)(hm:fb.ntmps=m)(hlen:Nat.ble ds.length m=true)
  (hgo:go tt m fu.n [] (sD 0 ds) [] (.code c [])=⟨vc,fr,own,cf⟩)(k: ∀C:aH,av prog GB C m (fC C prog fb (mD C (fun v G'=>Is G' rv v))) fr own cf)
  (hv:ak vc:=by first|exact trivial|(simp only[ak];kernel_rfl)|(simp only[ak];omega)|(simp only[ak,aX,bJ,aM];omega)):PF GB prog f ds rv:=by
 intro G vs hg hvs;refine Fn.introR hf hb hn hm okE fun C _ _ hrd hfx=>?_;intro a w rl;refine wh hrd ?_;have h:=gn (GB:=GB) (C:=C) (Q0:=fC C prog fb (mD C (fun v G'=>Is G' rv v))) hgo hv (k C);exact h.run (fun _=>⟨none,0,0⟩) G [] a w ⟨hg,rl.h,rl.sz,rl.df,(fun k f e=>A7 hvs rl.fr k f e),(fun nm B e=>by cases e),(fun nm nm' B B' e=>by cases e),fun nm p _ _ e=>by rw[hfx] at e;cases e⟩
def av.cond{c:Operand}{x y:Code}{b:Bool}{f:FX}(hc:bt (bi fr) c=some f)(hb:ud f=some b)(h1:b=true->av prog GB C n Q0 fr own (.code x K))(h2:b=false->av prog GB C n Q0 fr own (.code y K)):av prog GB C n Q0 fr own (.code (.cond c x y) K):=SX.cond hc hb h1 h2
variable {fr1 fr2:aF} {own1 own2:bh} {cf1 cf2:Cf} {vc1 vc2:List Prop}
def br[fu1:Fu][fu2:Fu]{p:Prop}{hp:Decidable p}{c:Operand}{x y:Code}(hc:bt (bi fr) c=some (.pr p hp))(g1:go tt n fu1.n [] fr own (.code x K)=⟨vc1,fr1,own1,cf1⟩)(g2:go tt n fu2.n [] fr own (.code y K)=⟨vc2,fr2,own2,cf2⟩)
  (k1:p->av prog GB C n Q0 fr1 own1 cf1)(k2: ¬p->av prog GB C n Q0 fr2 own2 cf2)
  (v1:p->ak vc1:=by intro;first|exact trivial|(simp only[ak];omega)|(simp only[ak,aX,bJ,aM];omega))(v2: ¬p->ak vc2:=by intro;first|exact trivial|(simp only[ak];omega)|(simp only[ak,aX,bJ,aM];omega)):av prog GB C n Q0 fr own (.code (.cond c x y) K):=
 .cond hc J (fun h=>gn g1 (v1 (of_decide_eq_true h)) (k1 (of_decide_eq_true h))) (fun h=>gn g2 (v2 (of_decide_eq_false h)) (k2 (of_decide_eq_false h)))
def bd[fu1:Fu][fu2:Fu]{p:Prop}{hp:Decidable p}{c:Operand}{x y:Code}(hc:bt (bi fr) c=some (.d (.v (.bool (@decide p hp)))))(g1:go tt n fu1.n [] fr own (.code x K)=⟨vc1,fr1,own1,cf1⟩)(g2:go tt n fu2.n [] fr own (.code y K)=⟨vc2,fr2,own2,cf2⟩)
  (k1:p->av prog GB C n Q0 fr1 own1 cf1)(k2: ¬p->av prog GB C n Q0 fr2 own2 cf2)
  (v1:p->ak vc1:=by intro;first|exact trivial|(simp only[ak];omega)|(simp only[ak,aX,bJ,aM];omega))(v2: ¬p->ak vc2:=by intro;first|exact trivial|(simp only[ak];omega)|(simp only[ak,aX,bJ,aM];omega)):av prog GB C n Q0 fr own (.code (.cond c x y) K):=
 .cond hc J (fun h=>gn g1 (v1 (of_decide_eq_true h)) (k1 (of_decide_eq_true h))) (fun h=>gn g2 (v2 (of_decide_eq_false h)) (k2 (of_decide_eq_false h)))
def bb[fu1:Fu][fu2:Fu]{b:Bool}{c:Operand}{x y:Code}(hc:bt (bi fr) c=some (.d (.v (.bool b))))(g1:go tt n fu1.n [] fr own (.code x K)=⟨vc1,fr1,own1,cf1⟩)(g2:go tt n fu2.n [] fr own (.code y K)=⟨vc2,fr2,own2,cf2⟩)
  (k1:b=true->av prog GB C n Q0 fr1 own1 cf1)(k2:b=false->av prog GB C n Q0 fr2 own2 cf2)
  (v1:b=true->ak vc1:=by intro;first|exact trivial|(simp only[ak];omega)|(simp only[ak,aX,bJ,aM];omega))(v2:b=false->ak vc2:=by intro;first|exact trivial|(simp only[ak];omega)|(simp only[ak,aX,bJ,aM];omega)):av prog GB C n Q0 fr own (.code (.cond c x y) K):=
 .cond hc J (fun h=>gn g1 (v1 h) (k1 h)) (fun h=>gn g2 (v2 h) (k2 h))
def oq{d:Nat}{f g:FX}(hl:bi fr d=some f)(hi: ∀ρ G y,ce ρ G f y->ce ρ G g y){Φ:Act->World->Prop}(h:SX GB C n (bi ((d,g)::fr)) (bC own) Φ):SX GB C n (bi fr) (bC own) Φ:=by
 refine⟨fun ρ G ov a w r=>h.run ρ G ov a w ⟨r.gb,r.h,r.sz,r.df,fun k f' e=>?_,r.bx,r.dj,r.fxd⟩⟩;rw[kH] at e;split at e
 .cases e;rename_i hk;subst hk
  obtain⟨y,h1,h2⟩:=r.fx _ _ hl;exact⟨y,h1,hi _ _ _ h2⟩
 .exact r.fx k f' e
def aj(d:Nat){f:FX}(g:FX)(hl:bi fr d=some f)(e:f=g)(h:av prog GB C n Q0 ((d,g)::fr) own cf):av prog GB C n Q0 fr own cf:=by
 have hs:bi ((d,g)::fr)=bi fr:=by
  funext k;rw[kH];split
  .rename_i hk;rw[hk,hl,e]
  .rfl
 cases cf with
 |dr id ops fr0 own0 us r K=>exact fun D=>h ⟨D.pre,by rw[hs];exact D.st,D.snd⟩
 |_=>unfold av at h⊢;rw[hs] at h;exact h
def kT(d:Nat){p:Prop}{hp:Decidable p}(hl:bi fr d=some (.pr p hp))(h:p)(k:av prog GB C n Q0 ((d, .tt)::fr) own (.ops ops r K)):av prog GB C n Q0 fr own (.ops ops r K):=
 oq hl (fun _ _ _ e=>by rw[show _=_ from e,decide_eq_true h];exact J) k
def kF(d:Nat){p:Prop}{hp:Decidable p}(hl:bi fr d=some (.pr p hp))(h: ¬p)(k:av prog GB C n Q0 ((d, .ff)::fr) own (.ops ops r K)):av prog GB C n Q0 fr own (.ops ops r K):=
 oq hl (fun _ _ _ e=>by rw[show _=_ from e,decide_eq_false h];exact J) k
def nlD(d:Nat)(hl:bi fr d=some .nl){e:Exit}(h:av prog GB C n Q0 ((d, .d (.sl []))::fr) own (.ex e K)):av prog GB C n Q0 fr own (.ex e K):=
 oq (g:= .d (.sl [])) hl (fun ρ G y hy=>(show Is G (.sl []) y from mI (ρ:=ρ) (f:= .nl) hy J)) h
def PF.to{f:FuncId}{ds:List DV}{r1 r2:DV}{P:Program}(h:PF GB P f ds r1)(e:r1=r2):PF GB P f ds r2:=e▸h
def cs[fu1:Fu][fu2:Fu](d:Nat){p:Prop}{hp:Decidable p}(hl:bi fr d=some (.pr p hp))(g1:go tt n fu1.n [] ((d, .tt)::fr) own (.ops ops r K)=⟨vc1,fr1,own1,cf1⟩)(g2:go tt n fu2.n [] ((d, .ff)::fr) own (.ops ops r K)=⟨vc2,fr2,own2,cf2⟩)
  (k1:p->av prog GB C n Q0 fr1 own1 cf1)(k2: ¬p->av prog GB C n Q0 fr2 own2 cf2)
  (v1:p->ak vc1:=by intro;first|exact trivial|(simp only[ak];omega)|(simp only[ak,aX,bJ,aM];omega))(v2: ¬p->ak vc2:=by intro;first|exact trivial|(simp only[ak];omega)|(simp only[ak,aX,bJ,aM];omega)):av prog GB C n Q0 fr own (.ops ops r K):=by
 by_cases h:p
 .exact oq hl (fun _ _ _ e=>by rw[show _=_ from e,decide_eq_true h];exact J) (gn g1 (v1 h) (k1 h))
 .exact oq hl (fun _ _ _ e=>by rw[show _=_ from e,decide_eq_false h];exact J) (gn g2 (v2 h) (k2 h))
def ja[fu1:Fu][fu2:Fu](d:Nat){b:Bool}(hl:bi fr d=some (.d (.v (.bool b))))(g1:go tt n fu1.n [] ((d, .tt)::fr) own (.ops ops r K)=⟨vc1,fr1,own1,cf1⟩)(g2:go tt n fu2.n [] ((d, .ff)::fr) own (.ops ops r K)=⟨vc2,fr2,own2,cf2⟩)
  (k1:b=true->av prog GB C n Q0 fr1 own1 cf1)(k2:b=false->av prog GB C n Q0 fr2 own2 cf2)
  (v1:b=true->ak vc1:=by intro;first|exact trivial|(simp only[ak];omega)|(simp only[ak,aX,bJ,aM];omega))(v2:b=false->ak vc2:=by intro;first|exact trivial|(simp only[ak];omega)|(simp only[ak,aX,bJ,aM];omega)):av prog GB C n Q0 fr own (.ops ops r K):=by
 cases h:b with
 |true=>exact oq hl (fun _ G _ e=>by rw[(aP (G:=G)).1 e,h];exact J) (gn g1 (v1 h) (k1 h))
 |false=>exact oq hl (fun _ G _ e=>by rw[(aP (G:=G)).1 e,h];exact J) (gn g2 (v2 h) (k2 h))
def IG:Cf->Option (Array Oper×Oper)
 | .ops ops (o::_) _=>some (ops,o)
 | .dr _ ops _ _ _ (o::_) _=>some (ops,o)
 |_=>none
def ck(fr:aF):Cf->LK
 | .dr _ ops _ _ _ (o::_) _=>my (De ops o) (bi fr)
 |_=>bi fr
def jo(fr:aF)(own:bh):Cf->BM
 | .dr _ ops _ _ _ (o::_) _=>my (Gq o fr (De ops o)) (bC own)
 |_=>bC own
def qe:Bd:=⟨[False],[],[], .ex .normal []⟩
def c6(T:TT)(n q:Nat)(fr:aF)(own:bh)(cf:Cf)(f:FX)(bl:List (Nat×Option Bk))(nw:List Nat):Bd:=match cf with
 | .ops ops (o::r) K=>bif vv nw o.dst fr own&&co n o.dst then r9 own bl fun own'=>Bw fr o.dst f fun fr'=>go T n q [] fr' own' (.ops ops r K) else qe
 | .dr id ops fr0 own0 us (o::r) K=>bif co n o.dst then l8 (De ops o) fun rs=>l8 (Gq o fr rs) fun rn=>r9 own bl fun own'=>l8 (us++[⟨rs,o.dst,f,rn,bl,nw⟩]) fun us'=>Bw fr o.dst f fun fr'=>go T n q [] fr' own' (.dr id ops fr0 own0 us' r K) else qe
 |_=>qe
def xu(ops:Array Oper)(lk:LK):Option (Nat×Bool)->Bool
 |none=>true
 |some (j,b)=>match ops[j]? with
  |some oj=>match oj.dst with
   |some d=>match lk d with
    |some .tt=>b
    |some .ff=>!b
    |_=>false
   |none=>false
  |none=>false
def Hy{lk:LK}{bk:BM}{o:Oper}(h:xu ops lk o.guard=true): ∀ρ G ov a w,bP GB C n lk bk ρ G ov a w->Region.wanted o (yielded ops a.tmps)=true:=fun ρ G ov a w r=>by
 unfold Region.wanted;unfold xu at h;split at h
 .rename_i e;rw[e]
 .rename_i j b e
  rw[e];split at h<;>try (cases h;done)
  rename_i oj hj;split at h<;>try (cases h;done)
  rename_i d hd;split at h<;>try (cases h;done)
  .rename_i hl
   obtain⟨y,h1,h2⟩:=Ci r hj hd hl
   cases h1;simp only[h2];subst h;rfl
  .rename_i hl
   obtain⟨y,h1,h2⟩:=Ci r hj hd hl
   cases h1;simp only[h2];cases b<;>first|rfl|(simp at h)
def uo{q:Nat}{f:FX}{bl:List (Nat×Option Bk)}{nw:List Nat}(hh:IG cf=some (ops,o))(hg:xu ops (ck fr cf) o.guard=true)(h:b9 prog GB C n (ck fr cf) (jo fr own cf) o f bl nw)
  (hgo:c6 tt n q fr own cf f bl nw=⟨vc,fr',own',cf'⟩)(hv:ak vc)(k:av prog GB C n Q0 fr' own' cf'):av prog GB C n Q0 fr own cf:=by
 obtain⟨dst,op,ty,pos,af,gd⟩:=o
 cases cf with
 |ops ops' r K=>
  cases r with
  |nil=>cases hh
  |cons o' r=>
   cases hh
   unfold c6 at hgo
   cases hc:(vv nw dst fr own&&co n dst) with
   |false=>simp only[hc,cond_false,qe] at hgo;cases hgo;exact absurd hv (fun x=>x)
   |true=>
    simp only[hc,cond_true] at hgo;simp only[yb,Dn] at hgo;simp only[bT] at hc;exact SX.op (h.toS hc.2 (Hy hg)) (Ck hc.1) (gn hgo hv k)
 |dr id ops' fr0 own0 us r K=>
  cases r with
  |nil=>cases hh
  |cons o' r=>
   cases hh
   unfold c6 at hgo
   cases hc:co n dst with
   |false=>simp only[hc,cond_false,qe] at hgo;cases hgo;exact absurd hv (fun x=>x)
   |true=>
    simp only[hc,cond_true,uh] at hgo;simp only[yb,Dn] at hgo;intro D;exact gn hgo hv k (D.push (h.toS hc (Hy hg)))
 |_=>cases hh
def vk(lk:LK)(fo:Operand)(args:Array Operand):Option (FuncId×List DV):=match bt lk fo with
 |some (.d (.v (.func (.func f) ⟨[]⟩ ⟨[]⟩)))=>match evDs lk args.toList with
  |some ds=>some (f,ds)
  |none=>none
 |_=>none
def Ge{lk:LK}{fo:Operand}{args:Array Operand}{f:FuncId}{ds:List DV}(h:vk lk fo args=some (f,ds)):bt lk fo=some (.d (.v (.func (.func f) #[] #[])))/\evDs lk args.toList=some ds:=by
 unfold vk at h;split at h<;>try (cases h;done)
 rename_i h1;split at h<;>cases h;rename_i h2;exact⟨h1,h2⟩
def Pr{lk:LK}{bk:BM}{fo:Operand}{args:Array Operand}{tys:Array TypeId}{f:FuncId}{ds:List DV}{rv:DV}{dst:Option Nat}{ty:TypeId}{pos:String}{af:Array Edge}{gd:Option (Nat×Bool)}(ha:vk lk fo args=some (f,ds))(hF:PF GB prog f ds rv):
  b9 prog GB C n lk bk ⟨dst, .call ⟨.value fo,args,tys⟩,ty,pos,af,gd⟩ (.d rv) [] []:=by
 intro hd tl tb K' s1 s2 hf hk;refine⟨fun ρ G ov a w r Q=>?_⟩;obtain⟨h1,h2⟩:=Ge ha;obtain⟨y,hy,hy'⟩:=(r.mono s1 s2).ev h1;rw[(aP (G:=G)).1 hy'] at hy;obtain⟨vs,h3,h4⟩:=(r.mono s1 s2).evDs h2;refine zC hy h3 (hF G vs r.gb h4) hd (fun v G' hG hK a' w' rl=>?_) a w Q ⟨r.h,r.sz,c7 a,r.df⟩;exact hk.run ρ G' ov a' w' ⟨r.gb.trans hG.le,rl.h,rl.sz,rl.df,(kj rl).fx (fun k g _ e=>by obtain⟨u,h5,h6⟩:=r.fx k g e;exact⟨u,h5,h6.up hG.le⟩) hK,
  fun nm B e=>by obtain⟨os,h5,h6⟩:=r.bx nm B e;exact⟨os,h5.up hG.le,h6⟩,r.dj,r.fxd⟩
def sh(T:TT)(fr:aF)(own:bh):List ResultVar->Option (List DV)
 |[]=>some []
 | .tmp t::rs=>match bi fr t with
  |some f=>match ki f with
   |some d=>match sh T fr own rs with
    |some l=>some (d::l)
    |none=>none
   |none=>none
  |none=>none
 | .cell a t::rs=>match bi fr a with
  |some (.ov nm 0)=>match eo T t with
   |some i=>match bC own nm with
    |some (.o _ cs _)=>match i.ag with
     |some (some k)=>match takeX cs 0 k with
      |some c=>match jz c with
       |some d=>match sh T fr own rs with
        |some l=>some (.ag d::l)
        |none=>none
       |none=>none
      |none=>none
     |some none=>match cs[0]? with
      |some c=>match ki c with
       |some d=>match sh T fr own rs with
        |some l=>some (d::l)
        |none=>none
       |none=>none
      |none=>none
     |none=>none
    |_=>none
   |none=>none
  |_=>none
def EL{ρ:NE}{G:Gh}{ov:List aA}{a:Act}{w:World}(h:bP GB C n (bi fr) (bC own) ρ G ov a w): ∀{rs:List ResultVar} {ds:List DV},sh tt fr own rs=some ds-> ∃vs,ku prog (cG a) ov rs vs/\IsLs G ds vs:=by
 intro rs
 induction rs with
 |nil=>intro ds e;cases e;exact⟨[], .nil, .nil⟩
 |cons x rs ih=>
  intro ds e
  cases x with
  |tmp t=>
   simp only[sh] at e;split at e<;>try (cases e;done)
   rename_i f hf;split at e<;>try (cases e;done)
   rename_i d hd;split at e<;>cases e;rename_i l hl;obtain⟨vs,h1,h2⟩:=ih hl;obtain⟨y,h3,h4⟩:=h.fx t f hf;exact⟨y::vs, .tmp (D7 h3) h1, .cons (mI h4 hd) h2⟩
  |cell t ty=>
   simp only[sh] at e;split at e<;>try (cases e;done)
   rename_i nm hf;split at e<;>try (cases e;done)
   rename_i i hi;split at e<;>try (cases e;done)
   rename_i hb;obtain⟨y,h3,h4⟩:=h.fx t _ hf;obtain⟨b,m,rfl,h5,h6,h7⟩:=h.own h4 hb;have oat:jc ov b m _ _:=⟨h7⟩;split at e<;>try (cases e;done)
   .rename_i k ha
    split at e<;>try (cases e;done)
    rename_i c hc;split at e<;>try (cases e;done)
    rename_i d hd;split at e<;>cases e;rename_i l hl;obtain⟨vs,h1,h2⟩:=ih hl;obtain⟨l',h8,h9⟩:=h6.takeX hc;exact⟨.agg ⟨l'⟩::vs, .agg (D7 h3) oat (BR (fi _ _ hi) ha) h8 h1, .cons (eH.2 ⟨l',J,tr h9 hd⟩) h2⟩
   .rename_i ha
    split at e<;>try (cases e;done)
    rename_i c hc;split at e<;>try (cases e;done)
    rename_i d hd;split at e<;>cases e;rename_i l hl;obtain⟨vs,h1,h2⟩:=ih hl;obtain⟨l',h8,h9⟩:=h6.get hc;exact⟨l'::vs, .sc (D7 h3) oat (ye (fi _ _ hi) ha) h8 h1, .cons (mI h9 hd) h2⟩
def Ev:Exit->Bool
 | .ret=>true
 | .normal=>true
 |_=>false
def rz{fb:Func}{e:Exit}{ds:List DV}{rv:DV}(hr:sh tt fr own fb.results.toList=some ds)(hd:fy ds=rv)(he:Ev e=true:=by rfl):av prog GB C n (fC C prog fb (mD C (fun v G'=>Is G' rv v))) fr own (.ex e []):=by
 refine⟨fun ρ G ov a w r=>?_⟩;obtain⟨vs,h1,h2⟩:=EL r hr;have hk:Is G rv (pf vs):=hd▸Ea h2
 cases e with
 |ret=>exact zD (C:=C) (n:=n) (fr:=cG a) (own:=ov) (G:=G) (K:=fun v G'=>Is G' rv v) h1 hk a w ⟨r.h,r.sz,c7 a,r.df⟩
 |normal=>exact N0 (C:=C) (n:=n) (fr:=cG a) (own:=ov) (G:=G) (K:=fun v G'=>Is G' rv v) h1 hk a w ⟨r.h,r.sz,c7 a,r.df⟩
 |_=>cases he
end
end Go.Sx
end
section
namespace Go.Sx
open Go
section
variable {P:Program} {GB:Gh} {C:aH} {n:Nat} {E:wz} {fr fr':nk} {own own':List kP} {bs bs' bs1:List jw} {ops:Array Oper} {Q:Exit->Act->World->Prop} {r:List Oper} {Φ:Act->World->Prop}
variable {dst:Option Nat} {t t' ty':TypeId} {pos:String} {af:Array Edge} {gd:Option (Nat×Bool)} {x y z:Operand} {e s by_:Nat}
abbrev SV.f (w:SV):FV:= .d (.v (.slice w.a w.n w.c))
def Zk(z:Value)(k:Nat):aI (List.replicate k z)=dH z k:=by unfold aI dH;rw[List.map_replicate]
def TM{G:Gh}{d:DV}{y:Value}(h:Is G d y): ∀k:Nat,IsLs G (List.replicate k d) (List.replicate k y)
 |0=> .nil
 |k+1=> .cons h (TM h k)
def UG(pre mid post vs:List Value)(h:vs.length=mid.length):cH (pre++(mid++post)) pre.length vs=pre++(vs++post):=by
 rw[rO _ _ _ omq];simp[h]
def auk(z:Value)(k:Nat):dH z (k+1)=aO z++dH z k:=by simp[dH,tN]
def Ey(s:Nat)(ds:List DV):Bool:=ds.all fun d=>d.okc&&Nat.beq d.cells.length s
def F3{ds:List DV}(h:Ey s ds=true):cO s ds:=fun d hd=>by
 have:=dV.1 h d hd;simp only[bT] at this;exact⟨this.1,bX this.2⟩
def Qc{cs:List Value}{off s:Nat}: ∀(es:List Value),(∀i (h:i<es.length),cF cs (off+i*s) s=some (aO es[i]))->off<=cs.length->cF cs off (es.length*s)=some (aI es)
 |[],_,ho=>by
  rw[mi _ _ _ okz];simp[aI]
 |v::t,h,ho=>by
  have h0:=h 0 omc;simp only[kL,gV,pW] at h0;obtain⟨k1,k2⟩:=Dq h0;have ih:=Qc (off:=off+s) t (fun i hi=>by
   have:=h (i+1) omU;rw[fS,show off+(i*s+s)=off+s+i*s by omega] at this;simpa using this) we
  obtain⟨k3,k4⟩:=Dq ih;rw[mi _ _ _ (by simp only[aS,fS];omega)];congr 1;have e1:aI (v::t)=aO v++aI t:=by simp[aI]
  rw[e1,k2,k4,aS,fS,lJ (t.length*s) s,List.take_add,List.drop_drop]
def Y1{ov:List aA}{G:Gh}{w:SV}{es:List Value}(h:gt G s w es):ng P C ov G s w.n (.slice w.a w.n w.c) (aI es):=by
 rcases h.mem with he|⟨b,off,cs,ha,hg,hc⟩
 .subst he
  rw[h.len];exact ww
 .rw[ha]
  by_cases he:es=[]
  .subst he;rw[h.len];exact ww
  .have hp:0<es.length:=mU.2 he
   have h0:=hc 0 hp;have:=(Dq h0).1;rw[h.len];exact Sk hg (Qc es hc we)
def Wh[hT:cE P t e s by_][hN:kd P t']{w:World}{ad2:Option Addr}{cap2:Nat}:(Builtin.append_ #[t,t'] ty' #[.slice none 0 0, .slice ad2 0 cap2]).run P w= .ok (.slice none 0 0) w:=by
 obtain⟨d,hd1⟩:=hN.un;obtain⟨i,hi,his,hib⟩:=hT.info;have h0:(Builtin.firstCells i.size 0 (.slice ad2 0 cap2)).run P w= .ok #[] w:=by
  cases ad2 with
  |none=>rfl
  |some a=>unfold Builtin.firstCells loadCells;simp[loadCellsFrom,run_pure]
 simp[Builtin.append_,run_underlying hT.un,run_underlying hd1,sizeOf,typeInfo,hi,Builtin.lenOf,h0]
def Q1[hT:cE P t e s by_][hN:kd P t']{fr:Fr}{own:List aA}{G:Gh}{ad2:Option Addr}{cap2:Nat}(hx:aE fr x=some (.slice none 0 0))(hy:aE fr y=some (.slice ad2 0 cap2))(hd:co n dst=true)
  (h:St C n (put fr dst (.slice none 0 0)) own G Φ):Ch P C n fr own G ⟨dst, .call ⟨.builtin .append, #[x,y], #[t,t']⟩,ty',pos,af,gd⟩ Φ:=by
 intro a w Q rl;refine lw (v:= .slice none 0 0) (w':=w) ?_ (h _ _ (rl.put _ hd));simp only[execOp,resolve,jZ,bY,iU,bF rl.fr hx,bF rl.fr hy];exact dh Wh
def eg.upd{G:Gh}{w:SV}{s:Nat}{ty:TypeId}{ds:List DV}{lo:Bool}{B:List aA}(h:eg G ⟨w,s,ty,ds,lo⟩ B){i:Nat}{d:DV}(hi:ds[i]? =some d):
  ∃b vs rest lo',w.a=some ⟨b,0,none⟩/\B=[⟨b,aI vs++rest,ty,lo'⟩]/\IsLs G ds vs/\(∀v∈vs,(aO v).length=s)/\i<vs.length/\
   ∀u d',Is G d' u->(aO u).length=s->eg G ⟨w,s,ty,ds.set i d',lo⟩ [⟨b,aI (vs.set i u)++rest,ty,lo'⟩]:=by
 obtain⟨vs,hB,hv,hs,hlo⟩:=h;obtain⟨v,h1,h2⟩:=hv.get hi;obtain⟨hi',_⟩:=aR.1 h1;rcases hB with⟨e,_,_⟩|⟨b,rest,lo',h3,h4,h5,h6,h7⟩
 .rw[e] at h1;simp at h1
 .refine⟨b,vs,rest,lo',by simp only[] at h3;rw[h3],h4,hv,hs,hi',fun u d' hu hul=>?_⟩
  have hall: ∀x∈vs.set i u,(aO x).length=s:=fun x hx=>by
   rcases List.mem_or_eq_of_mem_set hx with h'|rfl
   .exact hs x h'
   .exact hul
  refine⟨vs.set i u, .inr ⟨b,rest,lo',by simpa using h3,J,fp _ hall,?_,by simpa using h7⟩,hv.set i hu,hall,fun hl o ho=>?_⟩
  .rw[fp _ hall,bJ,<-h5];exact h6
  .have:=hlo hl
   rw[h4] at this;rw[aT.1 ho];have h9:=this ⟨b,aI vs++rest,ty,lo'⟩ aQ;exact h9
def avM{s:Nat}{rest:List Value}{u:Value}(vs:List Value)(i:Nat)(h:i<vs.length)(hs: ∀v∈vs,(aO v).length=s)(hu:(aO u).length=s):cH (aI vs++rest) (i*s) (aO u)=aI (vs.set i u)++rest:=by
 have hl:=fp vs hs;have hle:i*s+s<=vs.length*s:=by rw[<-fS];exact bW _ h
 rw[rO _ _ _ (by rw[hu,aY];omega),hu,gT we,lU we,JM vs i hs we,<-fS,F' vs (i+1) hs h,
  List.set_eq_take_append_cons_drop,if_pos h,show vs.take i++u::vs.drop (i+1)=vs.take i++([u]++vs.drop (i+1)) from J,pq,pq,xw]
 simp
end
end Go.Sx
end
section
namespace Go.Sx
open Go Go.Proofs Tryz
section
variable {GB:Gh} {C:aH} {n:Nat} {Q0:Exit->Act->World->Prop} {fr fr':aF} {own own':bh} {cf cf':Cf} {vc vc':List Prop} {ops:Array Oper} {r:List Oper} {o:Oper} {K:List Kt}
def pG(row:Bool)(nm:Nat)(l:List DV):FX->FX
 | .rw m=>bif Nat.beq m nm then(bif row then .d (.sl l) else .no) else .rw m
 | .ov m off=>bif Nat.beq m nm then(bif row then .no else(match off with
  |0=> .d (.pt l)
  |_+1=> .no)) else .ov m off
 | .be m s i j=>bif Nat.beq m nm then .no else .be m s i j
 | .rs m s i j=>bif Nat.beq m nm then .no else .rs m s i j
 | .bx tp pre m post=>bif Nat.beq m nm then(bif row then(match tp with
  |true=> .d (.tp (pre++ .sl l::post))
  |false=> .d (.ag (pre++ .sl l::post))) else .no) else .bx tp pre m post
 |f=>f
def CP{α:Type}(f:FX)(k:FX->α):α:=match f with
 | .d x=>k (.d x)
 | .rw m=>k (.rw m)
 | .ov a b=>k (.ov a b)
 | .be a b c d=>k (.be a b c d)
 | .rs a b c d=>k (.rs a b c d)
 |f=>k f
def GJ{α:Type}{f:FX}{k:FX->α}:CP f k=k f:=by cases f<;>rfl
def BX{α:Type}(row:Bool)(nm:Nat)(l:List DV):aF->(aF->α)->α
 |[],k=>k []
 |(j,f)::t,k=>BX row nm l t fun t'=>CP (pG row nm l f) fun f'=>k ((j,f')::t')
def E2{α:Type}(row:Bool)(nm:Nat)(l:List DV):List FX->(List FX->α)->α
 |[],k=>k []
 |f::t,k=>E2 row nm l t fun t'=>CP (pG row nm l f) fun f'=>k (f'::t')
def CH{α:Type}(row:Bool)(nm:Nat)(l:List DV):bh->(bh->α)->α
 |[],k=>k []
 |(j,B)::t,k=>CH row nm l t fun t'=>bif Nat.beq j nm then k ((j,none)::t') else match B with
  |some (.o ty cs lo)=>E2 row nm l cs fun cs'=>k ((j,some (.o ty cs' lo))::t')
  |B=>k ((j,B)::t')
def vM(row:Bool)(nm:Nat)(l:List DV):Option Bk->Option Bk
 |some (.o ty cs lo)=>some (.o ty (cs.map (pG row nm l)) lo)
 |B=>B
def Pv{α:Type}{row:Bool}{nm:Nat}{l:List DV}: ∀{cs:List FX} {k:List FX->α},E2 row nm l cs k=k (cs.map (pG row nm l))
 |[],k=>rfl
 |f::t,k=>by simp only[E2,GJ];rw[Pv];rfl
def LR{α:Type}{row:Bool}{nm:Nat}{l:List DV}: ∀{fr:aF} {k:aF->α},BX row nm l fr k=k (fr.map fun e=>(e.1,pG row nm l e.2))
 |[],k=>rfl
 |(j,f)::t,k=>by simp only[BX,GJ];rw[LR];rfl
def MO{α:Type}{row:Bool}{nm:Nat}{l:List DV}: ∀{own:bh} {k:bh->α},CH row nm l own k=k (own.map fun e=>(e.1,bif Nat.beq e.1 nm then none else vM row nm l e.2))
 |[],k=>rfl
 |(j,B)::t,k=>by
  simp only[CH,MO (own:=t),bY]
  cases Nat.beq j nm with
  |true=>rfl
  |false=>
   cases B with
   |none=>rfl
   |some B=>cases B<;>simp only[cond_false,Pv,vM]
def En{g:FX->FX}: ∀{fr:aF} {k:Nat},bi (fr.map fun e=>(e.1,g e.2)) k=(bi fr k).map g
 |[],k=>rfl
 |(j,f)::t,k=>by
  simp only[bY];rw[kH,kH,En (fr:=t)];split<;>rfl
def Vw{row:Bool}{nm:Nat}{l:List DV}: ∀{own:bh} {k:Nat},bC (own.map fun e=>(e.1,bif Nat.beq e.1 nm then none else vM row nm l e.2)) k=if k=nm then none else vM row nm l (bC own k)
 |[],k=>by simp[bC,vM]
 |(j,B)::t,k=>by
  simp only[bY];rw[jO,jO,Vw (own:=t)];by_cases h:k=j
  .subst h
   simp only[if_true];by_cases e:k=nm
   .subst e;simp
   .have:Nat.beq k nm=false:=by
     cases hb:Nat.beq k nm with
     |false=>rfl
     |true=>exact absurd (bX hb) e
    simp[this,e]
  .simp[h]
structure C9 where
 fr:aF
 own:bh
def DP(fr:aF)(own:bh)(nm:Nat):Option C9:=match bC own nm with
 |some (.b _ _ ds true)=>BX true nm ds fr fun fr'=>CH true nm ds own fun own'=>some ⟨fr',own'⟩
 |some (.o _ cs true)=>match jz cs with
  |some l=>BX false nm l fr fun fr'=>CH false nm l own fun own'=>some ⟨fr',own'⟩
  |none=>none
 |_=>none
def kn.of_mem{o:aA}: ∀{own:List aA},o∈own-> ∃own',kn own o own'/\ ∀x∈own,x.b≠o.b->x∈own'
 |[],h=>by cases h
 |x::t,h=>by
  rcases aW.1 h with rfl|h
  .exact⟨t, .hd ..,fun y hy hb=>(aW.1 hy).elim (fun e=>absurd okJ hb) id⟩
  .obtain⟨own',h1,h2⟩:=kn.of_mem h
   exact⟨x::own', .tl _ _ _ _ h1,fun y hy hb=>(aW.1 hy).elim (fun e=>by rw[e];exact aQ) (fun e=>aJ _ (h2 y e hb))⟩
def Pt{row:Bool}{nm:Nat}{l:List DV}{ρ:NE}{G G':Gh}{f:FX}{y:Value}(hg:b7 G G')(h:ce ρ G f y)(hr:row=true-> ∀y,ce ρ G (.rw nm) y->Is G' (.sl l) y)(ho:row=false-> ∀y,ce ρ G (.ov nm 0) y->Is G' (.pt l) y):ce ρ G' (pG row nm l f) y:=by
 cases f with
 |rw m=>
  simp only[pG]
  cases hb:Nat.beq m nm with
  |false=>exact h.up hg
  |true=>
   cases bX hb
   cases row with
   |true=>exact hr J y h
   |false=>trivial
 |ov m off=>
  simp only[pG]
  cases hb:Nat.beq m nm with
  |false=>exact h.up hg
  |true=>
   cases bX hb
   cases row with
   |true=>trivial
   |false=>cases off with
    |zero=>exact ho J y h
    |succ=>trivial
 |be m s i j=>
  simp only[pG]
  cases hb:Nat.beq m nm with
  |false=>exact h.up hg
  |true=>trivial
 |rs m s i j=>
  simp only[pG]
  cases hb:Nat.beq m nm with
  |false=>exact h.up hg
  |true=>trivial
 |bx tp pre m post=>
  simp only[pG]
  cases hb:Nat.beq m nm with
  |false=>exact h.up hg
  |true=>
   cases bX hb
   cases row with
   |false=>trivial
   |true=>
    obtain⟨m1,m2,e,h1,h2⟩:=h;have hl:=(h1.up hg).app (.cons (hr J _ J) (h2.up hg))
    cases tp with
    |true=>exact mm.2 ⟨_,e,hl⟩
    |false=>exact eH.2 ⟨_,e,hl⟩
 |_=>exact h.up hg
def OZ{row:Bool}{nm:Nat}{l:List DV}{ρ:NE}{G G':Gh}(hg:b7 G G')(hr:row=true-> ∀y,ce ρ G (.rw nm) y->Is G' (.sl l) y)(ho:row=false-> ∀y,ce ρ G (.ov nm 0) y->Is G' (.pt l) y): ∀{cs:List FX} {m:List Value},dB ρ G cs m->dB ρ G' (cs.map (pG row nm l)) m
 |[],m,h=>h
 |f::t,m,⟨y,q,e,h1,h2⟩=>⟨y,q,e,Pt hg h1 hr ho,OZ hg hr ho h2⟩
def bP.frz{ρ:NE}{G G':Gh}{ov ov':List aA}{a:Act}{w:World}{row:Bool}{nm:Nat}{l:List DV}(h:bP GB C n (bi fr) (bC own) ρ G ov a w)(hg:b7 G G')(hh:bI C ov' G' w)(hv: ∀o∈ov,(ρ nm).a≠some ⟨o.b,0,none⟩->o∈ov'){B0:Bk}(hb:bC own nm=some B0)
  (hr:row=true-> ∀y,ce ρ G (.rw nm) y->Is G' (.sl l) y)(ho:row=false-> ∀y,ce ρ G (.ov nm 0) y->Is G' (.pt l) y):
  bP GB C n (bi (fr.map fun e=>(e.1,pG row nm l e.2))) (bC (own.map fun e=>(e.1,bif Nat.beq e.1 nm then none else vM row nm l e.2))) ρ G' ov' a w:=by
 have inv: ∀m B,bC (own.map fun e=>(e.1,bif Nat.beq e.1 nm then none else vM row nm l e.2)) m=some B->m≠nm/\ ∃B1,bC own m=some B1/\vM row nm l (some B1)=some B:=fun m B e=>by
  rw[Vw] at e;split at e
  .cases e
  .rename_i hm
   refine⟨hm,?_⟩
   cases hl:bC own m with
   |none=>rw[hl] at e;cases e
   |some B1=>rw[hl] at e;exact⟨B1,J,e⟩
 refine⟨h.gb.trans hg,hh,h.sz,h.df,fun k f e=>?_,fun m B e=>?_,fun m m' B B' e e'=>?_,h.fxd⟩
 .rw[En] at e
  cases hf:bi fr k with
  |none=>rw[hf] at e;cases e
  |some g=>
   rw[hf] at e;cases e;obtain⟨y,h1,h2⟩:=h.fx k g hf;exact⟨y,h1,Pt hg h2 hr ho⟩
 .obtain⟨hm,B1,h1,h2⟩:=inv m B e
  obtain⟨os,h3,h4⟩:=h.bx m B1 h1;refine⟨os,?_,fun o ho'=>hv o (h4 o ho') fun hc=>h.dj m nm B1 B0 h1 hb hm _ (h3.blk ho') hc⟩
  cases B1 with
  |b=>cases h2;exact h3.up hg
  |c=>cases h2;exact h3.up hg
  |p=>cases h2;exact h3.up hg
  |o ty cs lo=>cases h2;obtain⟨b,q,h5,h6,h7⟩:=h3;exact⟨b,q,h5,h6,OZ hg hr ho h7⟩
 .obtain⟨_,B1,h1,_⟩:=inv m B e
  obtain⟨_,B2,h2,_⟩:=inv m' B' e';exact h.dj m m' B1 B2 h1 h2
def bP.frzRow{lk:LK}{bk:BM}{ρ:NE}{G:Gh}{ov:List aA}{a:Act}{w:World}{nm:Nat}{ty:TypeId}{s:Nat}{ds:List DV}(r:bP GB C n lk bk ρ G ov a w)(hb:bk nm=some (.b ty s ds true)):
  ∃G' ov',b7 G G'/\bI C ov' G' w/\(∀o∈ov,(ρ nm).a≠some ⟨o.b,0,none⟩->o∈ov')/\ ∀y,ce ρ G (.rw nm) y->Is G' (.sl ds) y:=by
 obtain⟨B,⟨vs,hB,hv,hs,hlo⟩,hBo⟩:=r.row (y:= .nilFunc) hb;rcases hB with⟨e1,e2,e3⟩|⟨b,rest,lo',e2,e3,h5,h6,h7⟩
 .subst e1
  have ed:ds=[]:=cY (by rw[<-hv.len];rfl);subst ed;simp only at e2;refine⟨G,ov,b7.refl _,r.h,fun o ho _=>ho,fun y hy=>?_⟩;rw[show y=_ from hy,e2];exact ie.2 ⟨0,⟨none,0,0⟩,[],J, .nil G 0, .nil⟩
 .subst e3
  have hl:=hlo J _ aQ;simp only at hl;subst hl;obtain⟨ov',o1,o2⟩:=kn.of_mem (hBo _ aQ);obtain⟨f1,f2⟩:=r.h.freeze o1;simp only at e2;refine⟨_,ov',f2,f1,fun o ho hne=>o2 o ho fun e=>hne (by rw[e2,e]),fun y hy=>?_⟩;rw[show y=_ from hy,e2];exact ie.2 ⟨s,⟨some ⟨b,0,none⟩,vs.length,_⟩,vs,J,gt.of_flat hs (if_pos J) h7,hv.up f2⟩
def bP.frzVar{lk:LK}{bk:BM}{ρ:NE}{G:Gh}{ov:List aA}{a:Act}{w:World}{nm:Nat}{ty:TypeId}{cs:List FX}{l:List DV}(r:bP GB C n lk bk ρ G ov a w)(hb:bk nm=some (.o ty cs true))(hl:jz cs=some l):
  ∃G' ov',b7 G G'/\bI C ov' G' w/\(∀o∈ov,(ρ nm).a≠some ⟨o.b,0,none⟩->o∈ov')/\ ∀y,ce ρ G (.ov nm 0) y->Is G' (.pt l) y:=by
 obtain⟨os,⟨b,m,h3,rfl,h4⟩,h5⟩:=r.bx _ _ hb;obtain⟨ov',o1,o2⟩:=kn.of_mem (h5 _ aQ);obtain⟨f1,f2⟩:=r.h.freeze o1;refine⟨_,ov',f2,f1,fun o ho hne=>o2 o ho fun e=>hne (by rw[h3,e]),fun y hy=>?_⟩;obtain⟨b',h6,rfl⟩:=hy;rw[h3] at h6;cases h6;exact mF.2 ⟨b,m,J,if_pos J,(tr h4 hl).up f2⟩
def M'{nm:Nat}{Φ:Act->World->Prop}{R:C9}(h:DP fr own nm=some R)(hk:SX GB C n (bi R.fr) (bC R.own) Φ):SX GB C n (bi fr) (bC own) Φ:=by
 refine⟨fun ρ G ov a w r=>?_⟩;unfold DP at h;split at h<;>try (cases h;done)
 .rename_i ty s ds hb
  rw[LR,MO] at h;cases h;obtain⟨G',ov',h1,h2,h3,h4⟩:=r.frzRow hb;exact hk.run ρ G' ov' a w (r.frz (row:=true) h1 h2 h3 hb (fun _=>h4) (fun e=>by cases e))
 .rename_i ty cs hb
  split at h<;>try (cases h;done)
  rename_i l hl;rw[LR,MO] at h;cases h;obtain⟨G',ov',h1,h2,h3,h4⟩:=r.frzVar hb hl;exact hk.run ρ G' ov' a w (r.frz (row:=false) h1 h2 h3 hb (fun e=>by cases e) (fun _=>h4))
def fz[fu:Fu](nm:Nat){fr1:aF}{own1:bh}(h:DP fr own nm=some ⟨fr1,own1⟩)(hgo:go tt n fu.n [] fr1 own1 (.ops ops r K)=⟨vc,fr',own',cf'⟩)(k:av prog GB C n Q0 fr' own' cf')(hv:ak vc:=by first|exact trivial|(simp only[ak];kernel_rfl)|(simp only[ak];omega)|(simp only[ak,aX,bJ,aM];omega)):av prog GB C n Q0 fr own (.ops ops r K):=
 M' h (gn hgo hv k)
def gw(nm:Nat){fr1:aF}{own1:bh}{e:Exit}(h:DP fr own nm=some ⟨fr1,own1⟩)(k:av prog GB C n Q0 fr1 own1 (.ex e K)):av prog GB C n Q0 fr own (.ex e K):=M' h k
def nj(nm:Nat){fr1:aF}{own1:bh}{c:Code}(h:DP fr own nm=some ⟨fr1,own1⟩)(k:av prog GB C n Q0 fr1 own1 (.code c K)):av prog GB C n Q0 fr own (.code c K):=M' h k
def xe:aF->aF->Prop
 |[],_=>True
 |(k,v)::t,fr=>bi fr k=some v/\xe t fr
def yz:bh->bh->Prop
 |[],_=>True
 |(k,v)::t,own=>bC own k=v/\yz t own
def zi: ∀{f:aF},xe f fr->ks (bi f) (bi fr)
 |[],_,k,x,h=>by cases h
 |(j,v)::t,h,k,x,e=>by
  rw[kH] at e;split at e
  .cases e;rename_i hk;rw[hk];exact h.1
  .exact zi h.2 k x e
def vq: ∀{f:bh},yz f own->ks (bC f) (bC own)
 |[],_,k,x,h=>by cases h
 |(j,v)::t,h,k,x,e=>by
  rw[jO] at e;split at e
  .rename_i hk;rw[hk,h.1,e]
  .exact vq h.2 k x e
def qq{k:Nat}{q:IntKind}{a b:Int}(h:bi fr k=some (.d (.v (.int q a))))(e:a=b):bi fr k=some (.d (.v (.int q b))):=e▸h
def Ix(GB:Gh)(C:aH)(n:Nat){X:Type}(F:X->aF)(O:X->bh)(I:X->Prop)(a:Act)(w:World):Prop:=
 ∃x ρ G ov,I x/\bP GB C n (bi (F x)) (bC (O x)) ρ G ov a w
def Kw:List Oper->List Nat->List Nat
 |[],l=>l
 |o::r,l=>match o.dst with
  |some d=>d::Kw r l
  |none=>Kw r l
def wi:Code->List Nat->List Nat
 | .region _ ops _,l=>Kw ops.toList l
 | .seq a b,l=>wi a (wi b l)
 | .cond _ a b,l=>wi a (wi b l)
 | .block _ a,l=>wi a l
 | .loop a,l=>wi a l
 | .scope a,l=>wi a l
 |_,l=>l
def KS{α:Type}:List Nat->aF->(aF->α)->α
 |_,[],k=>k []
 |l,(j,f)::t,k=>bif xl l j then KS l t k else KS (j::l) t fun t'=>k ((j,f)::t')
def Hr{α:Type}:List Nat->bh->(bh->α)->α
 |_,[],k=>k []
 |l,(j,B)::t,k=>bif xl l j then Hr l t k else match B with
  |some B=>Hr l t fun t'=>k ((j,some B)::t')
  |none=>Hr l t k
structure Kp where
 fr:aF
 own:bh
def keep(c:Code)(uf uo:List Nat)(fr:aF)(own:bh):Kp:=l8 (wi c uo) fun m=>l8 (uf++m) fun m'=>KS m' fr fun fr'=>Hr m own fun own'=>⟨fr',own'⟩
theorem okk{p:Prop}(h:p:=by first|omega|(dsimp only;omega)):p:=h
def lp[fu:Fu]{c:Code}{X:Type}(U:X->aF)(V:X->bh)(I:X->Prop)(μ:X->Nat)(x0:X){kf:aF}{ko:bh}{cf':X->Cf}{fr':X->aF}{own':X->bh}{vc:X->List Prop}(hkp:keep c ((U x0).map (·.1)) ((V x0).map (·.1)) fr own=⟨kf,ko⟩)(hI:I x0)
  (hgo: ∀x,go tt n fu.n [] (U x++kf) (V x++ko) (.code c (.ag (Ix GB C n (fun y=>U y++kf) (fun y=>V y++ko) (fun y=>I y/\μ y<μ x))::K))=⟨vc x,fr' x,own' x,cf' x⟩)
  (round: ∀x,I x->av prog GB C n Q0 (fr' x) (own' x) (cf' x))(hF:xe (U x0++kf) fr:=by repeat (first|exact trivial|refine And.intro J ?_|refine And.intro (qq J okk) ?_|refine And.intro (qq J omc) ?_))(hO:yz (V x0++ko) own:=by repeat (first|exact trivial|refine And.intro J ?_))
  (hv: ∀x,I x->ak (vc x):=by intros;first|exact trivial|(simp only[ak];kernel_rfl)|(simp only[ak];omega)|(simp only[ak,aX,bJ,aM];omega)):av prog GB C n Q0 fr own (.code (.loop c) K):=by
 refine⟨fun ρ G ov a w r=>?_⟩;have r0:=r.mono (zi hF) (vq hO);intro b k cs hro hb hrm;have key: ∀m a w,(∃x ρ G ov,I x/\μ x=m/\bP GB C n (bi (U x++kf)) (bC (V x++ko)) ρ G ov a w)->
   ∃e a' w',cQ C.rd prog Q0 K e a' w'/\ArrivesIn (Machine.fenced prog (FW C.rd)) prog (lone (b.atR a (.code c:: .inLoop c::k)) cs w) b k cs e a' w':=by
  intro m
  induction m using Nat.strongRecOn with
  |_ m ih=>
   intro a w ⟨x,ρ,G,ov,hx,hm,hr⟩;have h1:=gn (GB:=GB) (C:=C) (Q0:=Q0) (hgo x) (hv x hx) (round x hx);obtain⟨e,a₁,w₁,hq,harr⟩:=h1.run ρ G ov a w hr b (.inLoop c::k) cs hro hb hrm
   cases e with
   |normal=>
    obtain⟨x',ρ',G',ov',⟨hx',hlt⟩,hr'⟩:=hq;obtain⟨e₂,a₂,w₂,hq₂,harr₂⟩:=ih (μ x') (hm▸hlt) a₁ w₁ ⟨x',ρ',G',ov',hx',rfl,hr'⟩;exact⟨e₂,a₂,w₂,hq₂, .of_steps (StepsIn.trans harr (.one (fenced_calm hb hrm J) stepR_inLoop)) harr₂⟩
   |exit id=>exact⟨_,a₁,w₁,hq, .pass (x:= .inLoop c) J (fun _ _=> .inl omc) harr⟩
   |goto l=>exact⟨_,a₁,w₁,hq, .pass (x:= .inLoop c) J (fun _ _=> .inl omc) harr⟩
   |ret=>exact⟨_,a₁,w₁,hq, .pass (x:= .inLoop c) J (fun _ _=> .inl omc) harr⟩
   |panic ch=>exact⟨_,a₁,w₁,hq, .pass (x:= .inLoop c) J (fun _ _=> .inl omc) harr⟩
   |outgrown=>exact⟨_,a₁,w₁,hq, .pass (x:= .inLoop c) J (fun _ _=> .inl omc) harr⟩
 obtain⟨e,a',w',q,rr⟩:=key (μ x0) a w ⟨x0,ρ,G,ov,hI,rfl,r0⟩;exact⟨e,a',w',q, .of_steps (.one (fenced_calm hb hrm J) stepR_loop) rr⟩
def at_{X:Type}{F:X->aF}{O:X->bh}{I:X->Prop}(x:X)(hI:I x)(hF:xe (F x) fr:=by repeat (first|exact trivial|refine And.intro J ?_|refine And.intro (qq J okk) ?_|refine And.intro (qq J omc) ?_))(hO:yz (O x) own:=by repeat (first|exact trivial|refine And.intro J ?_)):av prog GB C n Q0 fr own (.ex .normal (.ag (Ix GB C n F O I)::K)):=
 ⟨fun ρ G ov a w r=>⟨x,ρ,G,ov,hI,r.mono (zi hF) (vq hO)⟩⟩
def mg[fu:Fu]{c d:Code}{X:Type}(U:X->aF)(V:X->bh)(I:X->Prop){kf:aF}{ko:bh}{cf':X->Cf}{fr':X->aF}{own':X->bh}{vc:X->List Prop}(u0 v0:List Nat)(hkp:keep c u0 v0 fr own=⟨kf,ko⟩)
  (h1:av prog GB C n Q0 fr own (.code c (.ag (Ix GB C n (fun y=>U y++kf) (fun y=>V y++ko) I)::K)))
  (hgo: ∀x,go tt n fu.n [] (U x++kf) (V x++ko) (.code d K)=⟨vc x,fr' x,own' x,cf' x⟩)(k: ∀x,I x->av prog GB C n Q0 (fr' x) (own' x) (cf' x))(hv: ∀x,I x->ak (vc x):=by intros;first|exact trivial|(simp only[ak];kernel_rfl)|(simp only[ak];omega)|(simp only[ak,aX,bJ,aM];omega)):av prog GB C n Q0 fr own (.code c (.sq d::K)):=by
 refine SX.imp h1 fun a w h=>aBB h ?_;intro e a w h
 cases e with
 |normal=>
  obtain⟨x,ρ,G,ov,hI,hr⟩:=h;have:=gn (GB:=GB) (C:=C) (Q0:=Q0) (hgo x) (hv x hI) (k x hI);exact this.run ρ G ov a w hr
 |_=>exact h
end
end Go.Sx
end
section
namespace Go.Sx
open Go
section
variable {P:Program} {ops:Array Oper} {Q:Exit->Act->World->Prop} {S:World->Prop} {π₂:List (Nat×Bool)}
end
section
variable {P:Program} {GB:Gh} {C:aH} {n:Nat} {fr fr':nk} {own own' own0 own1 own1':List kP} {bs bs0 bs1 bs1':List jw} {ops:Array Oper} {Q:Exit->Act->World->Prop} {fd:List FD} {π π₂:List (Nat×Bool)}
structure SR (GB:Gh) (C:aH) (n:Nat) (fr:nk) (own0:List kP) (bs0:List jw) (own1:List kP) (bs1:List jw) (fd:List FD) (K:List Nat->(World->Prop)->Act->World->Prop):Prop where
 run: ∀G frv o0 o1,b7 GB G->GR G fr frv->OB G own0 bs0 o0->OB G own1 bs1 o1-> ∀fs:Fs,St C n (frv++I' fd fs) (o1++(o0++Mj fd fs)) G (K (Rq fd fs) (HS C o0 G))
instance {GB:Gh} {C:aH} {n:Nat} {fr:nk} {own0:List kP} {bs0:List jw} {own1:List kP} {bs1:List jw} {fd:List FD} {K:List Nat->(World->Prop)->Act->World->Prop}:CoeFun (SR GB C n fr own0 bs0 own1 bs1 fd K) (fun _=> ∀G frv o0 o1,b7 GB G->GR G fr frv->OB G own0 bs0 o0->OB G own1 bs1 o1-> ∀fs:Fs,St C n (frv++I' fd fs) (o1++(o0++Mj fd fs)) G (K (Rq fd fs) (HS C o0 G))):=⟨SR.run⟩
end
section
variable {P:Program} {GB:Gh} {C:aH} {n:Nat} {E:wz} {fr fr':nk} {own own':List kP} {bs bs' bs1:List jw} {ops:Array Oper} {Q:Exit->Act->World->Prop} {r:List Oper} {Φ:Act->World->Prop}
variable {dst:Option Nat} {t t' ty':TypeId} {pos:String} {af:Array Edge} {gd:Option (Nat×Bool)} {x y z:Operand} {e s by_:Nat}
def PB(GB:Gh)(P:Program)(f:FuncId)(mk:SV->List DV)(s:Nat)(ty:TypeId)(dsi:List DV)(mkr:SV->DV)(dso:List DV):Prop:=
 ∀G w vs B,b7 GB G->eg G ⟨w,s,ty,dsi,false⟩ B->IsLs G (mk w) vs->iD P f vs B G (fun v own' G'=> ∃w',Is G' (mkr w') v/\eg G' ⟨w',s,ty,dso,false⟩ own')
def eg.asB{G:Gh}{w:SV}{ty:TypeId}{ds:List DV}{lo:Bool}{B:List aA}(h:eg G ⟨w,s,ty,ds,lo⟩ B):eg G ⟨w,s,ty,ds,false⟩ (Sx.asB B):=by
 obtain⟨vs,h1,h2,h3,h4⟩:=h;exact⟨vs,h1.asB,h2,h3,fun h=>by cases h⟩
def eg.weak{G:Gh}{w:SV}{ty:TypeId}{ds:List DV}{lo:Bool}{B:List aA}(h:eg G ⟨w,s,ty,ds,lo⟩ B):eg G ⟨w,s,ty,ds,false⟩ B:=by
 obtain⟨vs,h1,h2,h3,h4⟩:=h;exact⟨vs,h1,h2,h3,fun h=>by cases h⟩
end
section
variable {P:Program} {GB:Gh} {C:aH} {n:Nat} {E:wz} {fr fr':nk} {own own':List kP} {bs bs' bs1:List jw} {ops:Array Oper} {Q:Exit->Act->World->Prop} {r:List Oper} {Φ:Act->World->Prop}
variable {dst:Option Nat} {t t' ty':TypeId} {pos:String} {af:Array Edge} {gd:Option (Nat×Bool)} {x y z:Operand} {e s by_:Nat}
def PN(GB:Gh)(P:Program)(f:FuncId)(ds:List DV)(ty:TypeId)(ι:Type)(cs:ι->List DV):Prop:=
 ∀G vs,b7 GB G->IsLs G ds vs->iD P f vs [] G (fun v own' G'=> ∃x b m,v= .pointer (some ⟨b,0,none⟩)/\own'=[⟨b,m,ty,true⟩]/\IsLs G' (cs x) m)
end
section
variable {P:Program} {GB:Gh} {C:aH} {n:Nat} {fr:nk} {own:List kP} {bs:List jw}
variable {dst:Option Nat} {t t' ty':TypeId} {pos:String} {af:Array Edge} {gd:Option (Nat×Bool)} {x y z:Operand}
def Xt{fr:Fr}{own:List aA}{G:Gh}{fn:Func}{K:Value->List aA->Gh->Prop}{vs:List Value}(hr:ku P fr own fn.results.toList vs)(own2 own3:List aA)(hp:own.Perm own2)(hs:own3.Sublist own2)(hk:own3.Pairwise (fun x y=>x.b≠y.b)->K (pf vs) own3 G):St C n fr own G (fC C P fn (sF C K) .ret):=
 fun a w rl hmk=>⟨rl.df.trans hmk,_,uA hr rl.fr rl.h,_,own3,G,J,(rl.h.perm hp).drop hs,hk ((rl.h.perm hp).drop hs).nd⟩
variable {e s by_:Nat}
def avY{G:Gh}{l:List DV}{w:SV}{es:List Value}{s' nhi mx':Nat}(hsl:gt G s' w es)(hl:IsLs G l es)(ho:cO s l)(h2:nhi<=l.length)(hm1:nhi<=mx')(hm2:mx'<=w.c):Is G (.sl (l.take nhi)) (.slice w.a nhi mx'):=by
 have hn:=hsl.len;have hcap:=hsl.cap;have hll:=hl.len;have e9: ∀s,nP w.a w.n w.c 0 nhi mx' s= .slice w.a nhi mx':=by
  intro s;unfold nP
  cases w.a with
  |none=>simp
  |some ad=>simp[Addr.add]
 rcases DY hsl hl ho with he|he
 .subst he
  have:l=[]:=cY (by rw[<-hll];rfl);subst this;have e1:nhi=0:=by simp at h2;exact h2
  subst e1;refine ie.2 ⟨s,⟨_,0,mx'⟩,[],J,⟨J,aN _, .inl J⟩,by simpa using IsLs.nil⟩
 .subst he
  have k:=hsl.sub 0 nhi mx' (aN _) we hm1 hm2;have k2:=ie.2 ⟨s',⟨_,_,_⟩,_,J,k,(hl.take nhi).drop 0⟩;rw[iS] at k2;have e:=e9 s';unfold nP at e;revert k2;simp only[] at*;intro k2
  first|exact e▸k2|(simp at e k2⊢;first|exact k2|(cases hw:w.a<;>simp_all [Addr.add]))
end
end Go.Sx
end
section
namespace Go.Sx
open Go Go.Proofs
section
variable {P:Program} {T:TT} {GB:Gh} {C:aH} {n:Nat} {lk:LK} {bk:BM} {ρ:NE} {G:Gh} {ov:List aA} {a:Act} {w:World}
variable {dst:Option Nat} {t t' ty':TypeId} {pos:String} {af:Array Edge} {gd:Option (Nat×Bool)} {x y:Operand} {e s by_:Nat}
def aJc[hT:cE P t e s by_]{k:IntKind}{l:List DV}{d:DV}{i:Int}(hx:evD lk x=some (.sl l))(hy:bt lk y=some (.d (.v (.int k i))))(h0:0<=i)(he:l[i.toNat]? =some d)(hd:(d.okc&&Nat.beq d.cells.length s)=true):
  b9 P GB C n lk bk ⟨dst, .indexAddr t x y,ty',pos,af,gd⟩ (.ep d.cells) [] []:= .yd fun ρ G ov a w r=>by
 simp only[bT] at hd;obtain⟨hd,hs⟩:=hd;obtain⟨u,h1,h2⟩:=r.evD hx;obtain⟨q,g1,g2⟩:=r.ev hy;rw[dl] at g2;subst g2;obtain⟨s',z,es,rfl,hsl,hl⟩:=ie.1 h2;obtain⟨v,h3,h4⟩:=hl.get he;obtain⟨h5,h6⟩:=aR.1 h3;have hc:=(h4.cells hd).1.len;replace hs:=bX hs;rcases hsl.mem with h|⟨b,off,cs,ha,hg,hcs⟩
 .rw[h] at h5;simp at h5
 .have h7:=hcs i.toNat h5
  rw[h6] at h7;have h8:=Gw h7;have:s'=s:=by omega
  subst this;rw[ha] at h1;have hn:=hsl.len;refine⟨.pointer (some ⟨b,off+i.toNat*s',none⟩),⟨b,_,cs,aO v,J,hg,?_,(h4.cells hd).1⟩,xz h1 g1 h0 we⟩;rw[<-hc,h8];exact h7
def Cs(ag:Option Nat)(cs:List DV)(j:Nat):Option DV:=match ag with
 |some k=>match takeD cs j k with
  |some l=>some (.ag l)
  |none=>none
 |none=>cs[j]?
def Zw{i:TI}{ag:Option Nat}{nm sz k j:Nat}{ty:TypeId}{ds:List DV}{lo:Bool}{d c:DV}(hi:fq P t=some i)(ha:i.ag=some ag)(hx:bt lk x=some (.be nm sz k j))(hb:bk nm=some (.b ty sz ds lo))(he:ds[k]? =some d)(hd:d.okc=true)(hl:Cs ag d.cells j=some c):
  b9 P GB C n lk bk ⟨dst, .load t x,ty',pos,af,gd⟩ (.d c) [] []:= .x1 hx fun ρ G ov a w y _ r h1 h2=>by
 obtain⟨b,hwb,rfl⟩:=h2;obtain⟨B,hB,hmem⟩:=r.row (y:= .nilFunc) hb;obtain⟨b',m,rest,lo',l0,e1,rfl,h3,h4⟩:=hB.elem he hd;simp only[] at e1 h3;rw[hwb] at e1;cases e1;have oat:jc ov b (m++rest) ty lo':=⟨hmem _ aQ⟩
 cases ag with
 |some k'=>
  have:=BR hi ha;simp only[Cs] at hl;split at hl<;>cases hl;rename_i hl;obtain⟨l',h5,h6⟩:=h4.takeD hl;exact⟨.agg ⟨l'⟩,eH.2 ⟨l',J,h6⟩,D6 h1 (O3 h3 h5)⟩
 |none=>
  have:=ye hi ha;simp only[Cs] at hl;obtain⟨l',h5,h6⟩:=h4.get hl;have hj:j<sz:=by
   have:=Gw h3;have h7:=(aR.1 h5).1;omega
  exact⟨l',h6,pp h1 (by rw[JD h3 hj];exact h5)⟩
def eg.toBk{nm:Nat}{s:Nat}{ty:TypeId}{ds:List DV}{lo:Bool}{B:List aA}{x:SV}(h:eg G ⟨x,s,ty,ds,lo⟩ B)(e:ρ nm=x):mc ρ G nm (.b ty s ds lo) B:=by
 obtain⟨vs,h1,h2,h3,h4⟩:=h;exact⟨vs,by rw[e];exact h1,h2,h3,h4⟩
theorem okV{p:Prop}(h:p:=by show _=_;simp):p:=h
def bP.newRow(r:bP GB C n lk bk ρ G ov a w){d:Nat}{z:SV}{ty:TypeId}{s:Nat}{ds:List DV}{B ov':List aA}{K:Act->World->Prop}{a':Act}{w':World}(hf:kE [d] (some d) lk bk)(hB:eg G ⟨z,s,ty,ds,true⟩ B)(hos: ∀o∈B,o∈ov')
  (hov: ∀m B',m≠d->bk m=some B'-> ∀o∈ov,(ρ m).a=some ⟨o.b,0,none⟩->o∈ov'/\z.a≠some ⟨o.b,0,none⟩)
  (hk:SX GB C n (eD lk (some d) (.rw d)) (Sx.upB bk [(d,some (.b ty s ds true))]) K)(rl:io C n (Sx.put (cG a) (some d) (.slice z.a z.n z.c)) ov' G a' w'):K a' w':=
 hk.run _ _ _ a' w' (r.new' (x:=z) (f:= .rw d) (y:= .slice z.a z.n z.c) hf (b7.refl _) rl.h (hB.toBk omc) hos hov okV (kj rl))
def po(i:TI):Option DV:=match i.z with
 |some z=>match jz z with
  |some zs=>bif i.za then(bif zs.all DV.flat then some (.ag zs) else none) else(match zs with
   |[d]=>bif d.flat then some d else none
   |_=>none)
  |none=>none
 |none=>none
def arG{d:DV}(h:d.flat=true):d.cells=[d]/\d.okc=true:=by
 cases d<;>first|exact⟨J,h⟩|cases h
theorem AB{i:TI}{d:DV}(hi:fq P e=some i)(h:po i=some d): ∃v,gA P e v/\(∀G,Is G d v)/\d.okc=true:=by
 obtain⟨j,hj,hij⟩:=rF hi;unfold po at h;split at h<;>try (cases h;done)
 rename_i z hz;split at h<;>try (cases h;done)
 rename_i zs hzs;obtain⟨v,h1,h2⟩:=Di hi hz;have h3: ∀G,IsLs G zs (aO v):=fun G=>tr (h2 (fun _=>⟨none,0,0⟩) G) hzs;have hzv:j.zero=some v:=by have:=h1.inf;rw[hj] at this;simpa using this
 have hza:i.za=HZ (some v):=by rw[hij,<-hzv]
 cases hb:i.za with
 |true=>
  rw[hb] at h hza
  cases hc:zs.all DV.flat with
  |false=>rw[hc] at h;cases h
  |true=>
   rw[hc] at h;cases h
   cases v<;>first|(cases hza;done)|skip
   rename_i cs;exact⟨_,h1,fun G=>eH.2 ⟨cs.toList,omc,h3 G⟩,hc⟩
 |false=>
  rw[hb,cond_false] at h;rw[hb] at hza;split at h<;>try (cases h;done)
  rename_i u
  cases hc:u.flat with
  |false=>rw[hc] at h;cases h
  |true=>
   rw[hc] at h;cases h;have hv:aO v=[v]:=by cases v<;>first|rfl|(cases hza;done)
   refine⟨v,h1,fun G=>?_,(arG hc).2⟩;have:=h3 G;rw[hv] at this;exact this.uncons.1
def XD{d:Nat}{i:TI}{z:DV}{k k':IntKind}{l:Int}{ds:List DV}[hT:cE P t e s by_](hi:fq P e=some i)(hz:po i=some z)(hs:Nat.beq z.cells.length s=true)(hx:bt lk x=some (.d (.v (.int k l))))(hy:bt lk y=some (.d (.v (.int k' l))))(h0:0<=l)(hb:by_*l<=140737488355328)(hl:l<=1152921504606846976)(hds:List.replicate l.toNat z=ds):
  b9 P GB C n lk bk ⟨some d, .makeSlice t x y,ty',pos,af,gd⟩ (.rw d) [(d,some (.b e s ds true))] [d]:=by
 intro hd tl tb K s1 s2 hf hk;refine⟨fun ρ G ov a w r Q=>?_⟩;subst hds;obtain⟨v,hz1,hz2,hz3⟩:=AB hi hz;obtain⟨q1,p1,p2⟩:=(r.mono s1 s2).ev hx;obtain⟨q2,p3,p4⟩:=(r.mono s1 s2).ev hy;rw[dl] at p2 p4;subst p2 p4;have c1:=((hz2 G).cells hz3).1.len;replace hs:=bX hs;have e1: ∀u∈List.replicate l.toNat v,(aO u).length=s:=fun u hu=>by rw[List.eq_of_mem_replicate hu,c1,hs]
 refine JS p1 p3 h0 hb hl (by rw[c1,hs]) hd (fun b a' w' rl=>?_) a w Q ⟨r.h,r.sz,c7 a,r.df⟩;have hnd:=(cZ.1 rl.h.nd).1;refine r.newRow (z:=⟨some ⟨b,0,none⟩,l.toNat,l.toNat⟩) (B:=[⟨b,dH v l.toNat,e,true⟩]) hf ⟨List.replicate l.toNat v, .inr ⟨b,[],true,omc,by rw[Zk,fR],fp _ e1,by rw[fp _ e1];simp,omc⟩,TM (hz2 G) _,e1,fun _ o ho=>by rw[aT.1 ho]⟩
  (fun o ho=>by rw[aT.1 ho];exact aQ) (fun m B' _ _ o ho _=>⟨aJ _ ho,fun e'=>?_⟩) hk rl
 cases e';exact hnd o ho J
def y5(lk:LK):Nat->List (Nat×Operand)->Option (List DV)
 |_,[]=>some []
 |j,(i,x)::r=>match evD lk x,y5 lk (j+1) r with
  |some d,some l=>bif Nat.beq i j then some (d::l) else none
  |_,_=>none
def O5(r:bP GB C n lk bk ρ G ov a w){zv:Value}(hz:(aO zv).length=s): ∀(ps:List (Nat×Operand)) (j:Nat) (pre:List Value) (ds:List DV),y5 lk j ps=some ds->pre.length=j*s->(∀d∈ds,d.okc=true/\d.cells.length=s)->
  ∃vs,vT (cG a) s (pre++dH zv ps.length) ps=some (pre++aI vs)/\IsLs G ds vs/\(∀v∈vs,(aO v).length=s)/\vs.length=ps.length
 |[],j,pre,ds,e,hp,hd=>by
  simp only[y5] at e;cases e;exact⟨[],by simp[vT,dH,aI], .nil,omc,J⟩
 |(i,x)::ps,j,pre,ds,e,hp,hd=>by
  simp only[y5] at e;split at e
  .rename_i d l hx hl
   cases hb:Nat.beq i j with
   |false=>rw[hb] at e;cases e
   |true=>
    rw[hb] at e
    cases e
    have:=bX hb;subst this;obtain⟨y,hy,hy'⟩:=r.evD hx;obtain⟨k1,k2⟩:=hd d aQ;have c1:=(hy'.cells k1).1.len;have hov:cH (pre++dH zv (ps.length+1)) (i*s) (aO y)=(pre++aO y)++dH zv ps.length:=by
     rw[auk,<-hp,UG _ _ _ _ (by rw[c1,k2,hz]),dT]
    obtain⟨vs,h1,h2,h3,h4⟩:=O5 r hz ps (i+1) (pre++aO y) l hl (by rw[aY,c1,k2,hp,fS]) (fun d hd'=>hd d (aJ _ hd'));refine⟨y::vs,?_, .cons hy' h2,fun v hv=>?_,by simp[h4]⟩
    .simp only[vT,hy,aS]
     rw[if_pos ⟨by rw[c1,k2],by rw[aY,pA,hz,hp,fS];omega⟩,hov,h1];simp[aI]
    .rcases aW.1 hv with rfl|hv
     .rw[c1,k2]
     .exact h3 v hv
  .cases e
def Rp{d:Nat}{i:TI}{z:DV}{len:Nat}{parts:Array (Nat×Operand)}{ds:List DV}[hT:cE P t e s by_](hi:fq P e=some i)(hz:po i=some z)(hs:Nat.beq z.cells.length s=true)(hb:y5 lk 0 parts.toList=some ds)(hok:Ey s ds=true)(hlen:Nat.beq parts.toList.length len=true)(hsm:Nat.ble (len*s) 1000=true)(hs0:Nat.blt 0 (len*s)=true):
  b9 P GB C n lk bk ⟨some d, .buildSlice t len parts,ty',pos,af,gd⟩ (.rw d) [(d,some (.b e s ds true))] [d]:=by
 intro hd tl tb K s1 s2 hf hk;refine⟨fun ρ G ov a w r Q=>?_⟩;obtain⟨v,hz1,hz2,hz3⟩:=AB hi hz;have c1:=((hz2 G).cells hz3).1.len;replace hs:=bX hs;have hlen':=bX hlen;obtain⟨vs,h1,h2,h3,h4⟩:=O5 (r.mono s1 s2) (s:=s) (zv:=v) (by rw[c1,hs]) parts.toList 0 [] ds hb omc (F3 hok);rw[kV,kV] at h1;refine U9 (z:=v) (out:=aI vs) (by rw[c1,hs]) (by rw[<-hlen'];exact h1) hsm hs0 hd (fun b a' w' rl=>?_) a w Q ⟨r.h,r.sz,c7 a,r.df⟩;have hnd:=(cZ.1 rl.h.nd).1;have hvl:vs.length=len:=by rw[h4,hlen']
 refine r.newRow (z:=⟨some ⟨b,0,none⟩,len,len⟩) (B:=[⟨b,aI vs,e,true⟩]) hf ⟨vs, .inr ⟨b,[],true,by rw[hvl],by rw[fR],fp _ h3,by rw[fp _ h3,hvl];simp,by rw[hvl];exact bV _⟩,h2,h3,fun _ o ho=>by rw[aT.1 ho]⟩
  (fun o ho=>by rw[aT.1 ho];exact aQ) (fun m B' _ _ o ho _=>⟨aJ _ ho,fun e'=>?_⟩) hk rl
 cases e';exact hnd o ho J
def aDT{d:Nat}[hT:cE P t e s by_]:b9 P GB C n lk bk ⟨some d, .buildSlice t 0 #[],ty',pos,af,gd⟩ (.rw d) [(d,some (.b e s [] true))] [d]:=by
 intro hd tl tb K s1 s2 hf hk;refine⟨fun ρ G ov a w r Q=>?_⟩;refine PL hd (fun b a' w' rl=>?_) a w Q ⟨r.h,r.sz,c7 a,r.df⟩;have hnd:=(cZ.1 rl.h.nd).1;refine r.newRow (z:=⟨some ⟨b,0,none⟩,0,0⟩) (B:=[⟨b,[],e,true⟩]) hf ⟨[], .inr ⟨b,[],true,J,by simp[aI],by simp[aI],by simp[aI],omc⟩, .nil,omc,fun _ o ho=>by rw[aT.1 ho]⟩
  (fun o ho=>by rw[aT.1 ho];exact aQ) (fun m B' _ _ o ho _=>⟨aJ _ ho,fun e'=>?_⟩) hk rl
 cases e';exact hnd o ho J
def b9.frz{o:Oper}{d:Nat}{B:Bk}{f:FX}{v:DV}(hd:o.dst=some d)(h:b9 P GB C n lk bk o f [(d,some B)] [d])
  (hz: ∀lk bk ρ G ov a w,bP GB C n lk bk ρ G ov a w->bk d=some B-> ∃G' ov',b7 G G'/\bI C ov' G' w/\(∀o∈ov,(ρ d).a≠some ⟨o.b,0,none⟩->o∈ov')/\ ∀y,ce ρ G f y->Is G' v y):b9 P GB C n lk bk o (.d v) [(d,none)] [d]:=by
 intro hd' tl tb K s1 s2 hf hk;refine h hd' tl tb K s1 s2 hf ?_;rw[hd] at hk⊢;refine⟨fun ρ G ov a w r=>?_⟩;have hbd:Sx.upB tb [(d,some B)] d=some B:=by simp[Sx.upB]
 obtain⟨G',ov',h1,h2,h3,h4⟩:=hz _ _ ρ G ov a w r hbd;refine hk.run ρ G' ov' a w ⟨r.gb.trans h1,h2,r.sz,r.df,fun k g e=>?_,fun m B' e=>?_,fun m m' B1 B2 e e'=>?_,r.fxd⟩
 .by_cases hk:k=d
  .subst hk
   simp only[eD,if_true] at e;cases e;obtain⟨y,g1,g2⟩:=r.fx k f (by simp[eD]);exact⟨y,g1,h4 y g2⟩
  .simp only[eD,hk,if_false] at e
   obtain⟨y,g1,g2⟩:=r.fx k g (by simp[eD,hk,e]);exact⟨y,g1,g2.up h1⟩
 .simp only[Sx.upB] at e
  split at e
  .cases e
  .rename_i hm
   have e':Sx.upB tb [(d,some B)] m=some B':=by simp[Sx.upB,hm,e]
   obtain⟨os,g1,g2⟩:=r.bx m B' e';exact⟨os,g1.up h1,fun o ho=>h3 o (g2 o ho) fun hc=>r.dj m d B' B e' hbd hm _ (g1.blk ho) hc⟩
 .simp only[Sx.upB] at e e'
  split at e
  .cases e
  .rename_i hm
   split at e'
   .cases e'
   .rename_i hm'
    exact r.dj m m' B1 B2 (by simp[Sx.upB,hm,e]) (by simp[Sx.upB,hm',e'])
def b9.frzRow{o:Oper}{d:Nat}{ty:TypeId}{s:Nat}{ds:List DV}(hd:o.dst=some d)(h:b9 P GB C n lk bk o (.rw d) [(d,some (.b ty s ds true))] [d]):b9 P GB C n lk bk o (.d (.sl ds)) [(d,none)] [d]:=
 h.frz hd fun _ _ _ _ _ _ _ r hb=>r.frzRow hb
def aFm{d:Nat}{f:FX}{l:List DV}(e:bt lk x=some f)(hc:f.okc=true)(hn:Bx f d=true)(hl:jz f.cells=some l):b9 P GB C n lk bk ⟨some d, .box t x,ty',pos,af,gd⟩ (.d (.pt l)) [(d,none)] [d]:=
 (U0 e hc hn).frz J fun _ _ _ _ _ _ _ r hb=>r.frzVar hb hl
def qP(lk:LK)(bk:BM)(s:Nat)(y:Operand):Option (List DV):=match bt lk y with
 |some (.rw nm)=>match bk nm with
  |some (.b _ s' ds _)=>bif Nat.beq s' s then some ds else none
  |_=>none
 |some f=>match ki f with
  |some (.sl l)=>some l
  |_=>none
 |none=>none
theorem oky{p:Prop}(h:p:=by rw[aY];omega):p:=h
def C8{ds:List DV}(r:bP GB C n lk bk ρ G ov a w)(h:qP lk bk s y=some ds)(hk:cO s ds):
  ∃(z:SV) (vs:List Value),aE (cG a) y=some (.slice z.a z.n z.c)/\z.n=vs.length/\IsLs G ds vs/\(∀v∈vs,(aO v).length=s)/\(∀v∈aI vs,Sx.flat v=true)/\ng P C ov G s z.n (.slice z.a z.n z.c) (aI vs):=by
 have hfl: ∀vs:List Value,IsLs G ds vs->(∀v∈vs,(aO v).length=s)/\ ∀v∈aI vs,Sx.flat v=true:=by
  intro vs hl;refine⟨fun v hv=>?_,fun v hv=>?_⟩
  .obtain⟨d,hd,h3⟩:=hl.all v hv
   obtain⟨k1,k2⟩:=hk d hd;rw[(h3.cells k1).1.len,k2]
  .simp only[aI,List.mem_flatten,aU] at hv
   obtain⟨l,⟨u,hu,rfl⟩,hv⟩:=hv;obtain⟨d,hd,h3⟩:=hl.all u hu;exact(h3.cells (hk d hd).1).2 v hv
 unfold qP at h;split at h
 .rename_i nm hy
  split at h<;>try (cases h;done)
  rename_i ty s' ds' lo hb
  cases hs:Nat.beq s' s with
  |false=>rw[hs] at h;cases h
  |true=>
   rw[hs] at h;cases h
   cases bX hs
   obtain⟨u,h1,h2⟩:=r.ev hy
   cases h2
   obtain⟨B,⟨vs,hB,hv,hs,_⟩,hmem⟩:=r.row (y:= .nilFunc) hb;obtain⟨f1,f2⟩:=hfl _ hv;refine⟨ρ nm,vs,h1,hB.len,hv,f1,f2,?_⟩;rcases hB with⟨e1,e2,e3⟩|⟨b,rest,lo',h3,h4,h5,h6,h7⟩
   .simp only[] at e2
    subst e1;rw[e2];exact ww
   .simp only[] at h3 h4 h5 h6 h7
    have oat:jc ov b (aI vs++rest) ty lo':=⟨hmem _ (by rw[h4];exact aQ)⟩;rw[show(ρ nm).a=some ⟨b,0,none⟩ by rw[h3],show(ρ nm).n=vs.length by rw[h3]];refine Ao oat ?_;rw[mi _ _ _ oky,iS,gT we,bM we]
 .rename_i f _ hy
  split at h<;>cases h;rename_i hd;obtain⟨u,h3,h4⟩:=r.ev hy;obtain⟨s',z,es,rfl,hsl,hl⟩:=ie.1 (mI h4 hd);obtain⟨f1,f2⟩:=hfl _ hl;refine⟨z,es,h3,hsl.len,hl,f1,f2,?_⟩;rcases DY hsl hl hk with he|he
  .subst he
   rw[hsl.len];exact ww
  .subst he;exact Y1 hsl
 .cases h
def YO{d nm:Nat}{i:TI}{z:DV}{ds ds2:List DV}[hT:cE P t e s by_][hN:kd P t'](hi:fq P e=some i)(hz:po i=some z)(hs:Nat.beq z.cells.length s=true)(hx:bt lk x=some (.rw nm))(hb:bk nm=some (.b e s ds true))(hy:qP lk bk s y=some ds2)(hk2:cO s ds2)
  (hby:Nat.blt 0 by_=true)(hbd:(ds.length+ds2.length)*by_<=140737488355328)(hnd:Nat.beq nm d=false){ds':List DV}(hds:ds++ds2=ds'):
  b9 P GB C n lk bk ⟨some d, .call ⟨.builtin .append, #[x,y], #[t,t']⟩,ty',pos,af,gd⟩ (.rw d) [(nm,none),(d,some (.b e s ds' true))] [d]:=by
 intro hd tl tb K s1 s2 hf hk;refine⟨fun ρ G ov a w r Q=>?_⟩;subst hds;have r1:=r.mono s1 s2;obtain⟨v,hz1,hz2,hz3⟩:=AB hi hz;have cz:=((hz2 G).cells hz3).1.len;replace hs:=bX hs;rw[lV] at hby
 have hne:nm≠d:=fun e=>by subst e;simp at hnd
 obtain⟨u,hx',hx2⟩:=r1.ev hx
 cases hx2
 obtain⟨B,⟨vs,hB,hv,hvs,hlo⟩,hBo⟩:=r1.row (y:= .nilFunc) hb;simp only[] at hB hv hvs;obtain⟨w2,us,hy',h2,h3,h4,h5,h6⟩:=C8 (P:=P) r1 hy hk2;have hus:(aI us).length=us.length*s:=fp us h4;have hbd':(vs.length+us.length)*by_<=140737488355328:=by rw[hv.len,h3.len];exact hbd
 have hall: ∀v∈vs++us,(aO v).length=s:=fun v hv=>by
  rcases bZ.1 hv with hv|hv
  .exact hvs v hv
  .exact h4 v hv
 have rd:=r.dropB nm;have hf':kE [d] (some d) tl (Sx.upB tb [(nm,none)]):=fun m hm=>by
  obtain⟨g1,g2⟩:=hf m hm;refine⟨g1,fun k B' hk e=>g2 k B' hk ?_⟩;simp only[Sx.upB] at e;split at e
  .cases e
  .exact e
 have hbk: ∀m B',(Sx.upB tb [(nm,none)]) m=some B'->m≠nm/\tb m=some B':=fun m B' e=>by
  simp only[Sx.upB] at e;split at e
  .cases e
  .exact⟨ome,e⟩
 have hfin: ∀(b:Nat) (cap':Nat) (rest':List Value) (ov1:List aA) a' w',vs.length+us.length<=cap'->rest'.length+(vs.length+us.length)*s=cap'*s->(∀o∈ov,(ρ nm).a≠some ⟨o.b,0,none⟩->o∈ov1)->
   io C n (put (cG a) (some d) (.slice (some ⟨b,0,none⟩) (vs.length+us.length) cap')) (⟨b,aI (vs++us)++rest',e,true⟩::ov1) G a' w'->K a' w':=by
  intro b cap' rest' ov1 a' w' hc hr ho1 rl;have hnd':=(cZ.1 rl.h.nd).1;refine rd.newRow (z:=⟨some ⟨b,0,none⟩,vs.length+us.length,cap'⟩) (B:=[⟨b,aI (vs++us)++rest',e,true⟩]) hf' ⟨vs++us, .inr ⟨b,rest',true,omc,J,fp _ hall,?_,by simpa using hc⟩,hv.app h3,hall,fun _ o ho=>by rw[aT.1 ho]⟩
   (fun o ho=>by rw[aT.1 ho];exact aQ) (fun m B' hm e o ho hmo=>?_) hk rl
  .rw[fp _ hall,aY]
   simp only[];omega
  .obtain⟨h7,h8⟩:=hbk m B' e
   have ho2:=ho1 o ho fun hc=>r.dj m nm B' _ h8 (s2 _ _ hb) h7 _ hmo hc;exact⟨aJ _ ho2,fun e'=>by cases e';exact hnd' o ho2 J⟩
 rcases hB with⟨e1,e2,e3⟩|⟨b,rest,lo',k3,k4,k5,k6,k7⟩
 .subst e1
  rw[e2] at hx';by_cases hne:us=[]
  .subst hne
   have:ds2=[]:=cY (by rw[<-h3.len];rfl);subst this;rw[h2] at hy';refine Q1 hx' hy' hd (fun a' w' rl=>?_) a w Q ⟨r.h,r.sz,c7 a,r.df⟩;refine rd.newRow (z:=⟨none,0,0⟩) (B:=[]) hf' ⟨[], .inl ⟨J,J,J⟩,by simpa using hv,omc,fun _ o ho=>by cases ho⟩ (fun o ho=>by cases ho) (fun m B' hm e o ho hmo=>⟨ho,fun e'=>by cases e'⟩) hk rl
  .have hup:0<us.length:=mU.2 hne
   rw[h2] at hy' h6;refine EZ (z:=v) (xs:=[]) (ys:=aI us) hx' hy' ww h6 (by show(0:Nat)<0+us.length;omega) hby (by simpa using hbd') hd (fun b cap' hc a' w' rl=>?_) a w Q ⟨r.h,r.sz,c7 a,r.df⟩;exact hfin b cap' (dH v (cap'-us.length)) ov a' w' (by simpa using hc) (by rw[pA,cz,hs,<-dS];simp at hc⊢;congr 1;omega) (fun o ho _=>ho) (by simpa using rl)
 .have hl:=hlo J
  subst k4;have hlo':lo'=true:=hl _ aQ;subst hlo';have ha:(ρ nm).a=some ⟨b,0,none⟩:=by rw[k3]
  have hn:(ρ nm).n=vs.length:=by rw[k3]
  rw[ha,hn] at hx';rw[h2] at hy' h6;obtain⟨ov1,o1,o2⟩:=kn.of_mem (hBo _ aQ);refine QM (z:=v) (xs:=aI vs) (ys:=aI us) (rest:=rest) (own1:=ov1) hx' hy' o1 k5 k6 k7 h6 hus h5 hby hbd' (by rw[cz,hs]) hd (fun b' cap' rest' hc hr a' w' rl=>?_) a w Q ⟨r.h,r.sz,c7 a,r.df⟩;rw[<-pq] at rl;exact hfin b' cap' rest' ov1 a' w' hc hr (fun o ho hne=>o2 o ho fun e'=>hne (by rw[ha,e'])) rl
end
section
variable {P:Program} {T:TT} {GB:Gh} {C:aH} {n:Nat} {lk:LK} {bk:BM} {ρ:NE} {G:Gh} {ov:List aA} {a:Act} {w:World}
variable {dst:Option Nat} {t t' ty':TypeId} {pos:String} {af:Array Edge} {gd:Option (Nat×Bool)} {x y:Operand} {e s by_:Nat}
def Ie{vs:List Value}{rest cs:List Value}{i sz j:Nat}{v':Value}(hil:i<vs.length)(hvs: ∀v∈vs,(aO v).length=sz)(hv':aO v'=cH (aO vs[i]) j cs)(hj:j+cs.length<=sz):cH (aI vs++rest) (i*sz+j) cs=aI (vs.set i v')++rest:=by
 have hm:(aO vs[i]).length=sz:=hvs _ (dQ hil);have hl':(aO v').length=sz:=by rw[hv',Da,hm]
 rw[<-avM (rest:=rest) (u:=v') vs i hil hvs hl',hv'];have hlv:=fp vs hvs;have hle:i*sz+sz<=vs.length*sz:=by rw[<-fS];exact bW _ hil
 generalize hmm:aO vs[i]=m at*;have hX:aI vs++rest=(aI vs).take (i*sz)++(m++((aI vs).drop (i*sz+sz)++rest)):=by
  have t1:=Lt (rest:=rest) hvs hil;rw[hmm] at t1;obtain⟨_,t2⟩:=Dq t1;have t3:m=((aI vs).drop (i*sz)).take sz:=by
   have:m=((aI vs++rest).drop (i*sz)).take sz:=t2;rw[this,lU we,gT (by rw[gM];omega)]
  rw[t3]
  conv=>lhs;rw[<-kR (i*sz) (aI vs),<-kR sz ((aI vs).drop (i*sz)),List.drop_drop]
  simp[dT]
 have hP:((aI vs).take (i*sz)).length=i*sz:=by rw[bL];omega
 generalize (aI vs).take (i*sz)=A at hX hP;generalize (aI vs).drop (i*sz+sz)++rest=Z at hX;rw[hX,<-hP,UG A m Z (cH m j cs) (by rw[Da])];rw[rO _ m j we,rO _ _ _ okQ];rw[List.take_append,bM we,Nat.add_sub_cancel_left,gT we];rw[nU,jQ we,kV,show A.length+j+cs.length-A.length=j+cs.length by omega,lU we];simp[dT]
def Ho(ag:Option Nat)(d:DV)(j:Nat)(u:DV):Option DV:=match d with
 | .ag l=>match ag with
  |some k=>bif u.okc&&(Nat.beq u.cells.length k&&Nat.ble (j+k) l.length) then some (.ag (E6 l j u.cells)) else none
  |none=>bif u.flat&&Nat.blt j l.length then some (.ag (l.set j u)) else none
 |d=>match ag with
  |some _=>none
  |none=>bif d.flat&&(u.flat&&Nat.beq j 0) then some u else none
def bP.wroteRow{nm b:Nat}{ty:TypeId}{sz:Nat}{ds ds':List DV}{lo lo':Bool}{m':List Value}{own':List aA}(r:bP GB C n lk bk ρ G ov a w)(hb:bk nm=some (.b ty sz ds lo))(ha:(ρ nm).a=some ⟨b,0,none⟩)(hB:eg G ⟨ρ nm,sz,ty,ds',lo⟩ [⟨b,m',ty,lo'⟩])
  (h1:⟨b,m',ty,lo'⟩∈own')(h2: ∀o∈ov,o.b≠b->o∈own'){K:Act->World->Prop}(hk:SX GB C n (eD lk dst .un) (Sx.upB bk [(nm,some (.b ty sz ds' lo))]) K){a':Act}{w':World}(rl:io C n (Sx.put (cG a) dst undef) own' G a' w'):K a' w':=by
 have r2:=r.upB (G':=G) (ov':=own') (w':=w') (B':= .b ty sz ds' lo) (b7.refl _) rl.h (hB.toBk J) (fun o ho=>by rw[aT.1 ho];exact h1) (fun o ho hne=>h2 o ho fun e=>hne (by rw[ha,e])) ⟨_,hb⟩;exact hk.run _ _ _ a' w' (r2.put J (kj rl))
def Sl(cs:List Value)(o:Nat)(v:Value):cH cs o [v]=cs.set o v:=rfl
def aGX{i:TI}{ag:Option Nat}{nm sz k j:Nat}{ty:TypeId}{ds ds':List DV}{lo:Bool}{d d' u:DV}(hi:fq P t=some i)(ha:i.ag=some ag)(hx:bt lk x=some (.be nm sz k j))(hb:bk nm=some (.b ty sz ds lo))(hy:evD lk y=some u)(he:ds[k]? =some d)(hl:Ho ag d j u=some d')(hds:ds.set k d'=ds'):
  b9 P GB C n lk bk ⟨dst, .store t x y,ty',pos,af,gd⟩ .un [(nm,some (.b ty sz ds' lo))] []:=by
 intro hd tl tb K s1 s2 hf hk;refine⟨fun ρ G ov a w r Q=>?_⟩;subst hds;have r1:=r.mono s1 s2;obtain⟨y',h1,h2⟩:=r1.evD hy;obtain⟨x',h3,b,hwb,rfl⟩:=r1.ev hx;obtain⟨B,hB,hBo⟩:=r1.row (y:= .nilFunc) hb;obtain⟨b',vs,rest,lo',e1,rfl,hv,hvs,hil,hup⟩:=hB.upd he;rw[hwb] at e1;cases e1;obtain⟨v,g1,g2⟩:=hv.get he;obtain⟨g3,g4⟩:=aR.1 g1;have hlv:=fp vs hvs;have hle:k*sz+sz<=vs.length*sz:=by rw[<-fS];exact bW _ hil
 have hml:(aO v).length=sz:=hvs _ (aK g1)
 cases ag with
 |some q=>
  have:=BR hi ha;unfold Ho at hl;split at hl
  .rename_i l
   simp only at hl
   cases hc:(u.okc&&(Nat.beq u.cells.length q&&Nat.ble (j+q) l.length)) with
   |false=>rw[hc] at hl;cases hl
   |true=>
    rw[hc] at hl;cases hl;simp only[bT,Nat.ble_eq] at hc;obtain⟨c1,c2,c3⟩:=hc;replace c2:=bX c2;obtain⟨c4,c5⟩:=h2.cells c1;obtain⟨m,rfl,hm⟩:=eH.1 g2;have hcl:(aO y').length=q:=by rw[c4.len,c2]
    have hmd:=hm.len;have hsz:m.length=sz:=hml;have key:=hup (.agg ⟨cH m j (aO y')⟩) (.ag (E6 l j u.cells)) (eH.2 ⟨_,J,hm.ov c4⟩) (by show(cH m j (aO y')).length=sz;rw[Da,hsz]);have hov:=Ie (rest:=rest) (v':= .agg ⟨cH m j (aO y')⟩) (cs:=aO y') (j:=j) hil hvs (by rw[g4];rfl) we;obtain⟨own',u1,u2,u3⟩:=iE.of_mem (cs':=cH (aI vs++rest) (k*sz+j) (aO y')) (hBo _ aQ);refine Fd h3 h1 u1 hcl oky (dV.2 c5) hd (fun a' w' rl=>?_) a w Q ⟨r.h,r.sz,c7 a,r.df⟩;rw[hov] at u2;exact r.wroteRow (s2 _ _ hb) hwb key u2 u3 hk rl
  .simp at hl
 |none=>
  have:=ye hi ha;unfold Ho at hl;split at hl
  .rename_i l
   simp only at hl
   cases hc:(u.flat&&Nat.blt j l.length) with
   |false=>rw[hc] at hl;cases hl
   |true=>
    rw[hc] at hl;cases hl;simp only[bT,lV] at hc;obtain⟨c1,c2⟩:=hc;have hfl:=h2.flat c1;have hcl:=Co hfl;obtain⟨m,rfl,hm⟩:=eH.1 g2;have hmd:=hm.len;have hsz:m.length=sz:=hml;have key:=hup (.agg ⟨m.set j y'⟩) (.ag (l.set j u)) (eH.2 ⟨_,J,hm.set j h2⟩) (by show(m.set j y').length=sz;rw[bJ,hsz]);have hov:=Ie (rest:=rest) (v':= .agg ⟨m.set j y'⟩) (cs:=[y']) (j:=j) hil hvs (by rw[g4];rfl) omq;rw[Sl] at hov;obtain⟨own',u1,u2,u3⟩:=iE.of_mem (cs':=(aI vs++rest).set (k*sz+j) y') (hBo _ aQ);refine vD h3 h1 u1 oky hfl hd (fun a' w' rl=>?_) a w Q ⟨r.h,r.sz,c7 a,r.df⟩;rw[hov] at u2;exact r.wroteRow (s2 _ _ hb) hwb key u2 u3 hk rl
  .rename_i hna
   simp only at hl
   cases hc:(d.flat&&(u.flat&&Nat.beq j 0)) with
   |false=>rw[hc] at hl;cases hl
   |true=>
    rw[hc] at hl;cases hl;simp only[bT] at hc;obtain⟨c0,c1,c2⟩:=hc
    cases bX c2
    have hfl:=h2.flat c1;have hcl:=Co hfl;have hvl:=Co (g2.flat c0);have h1z:1=sz:=by rw[<-hml,hvl];rfl
    have key:=hup y' d' h2 (by rw[hcl,<-h1z];rfl);have hov:=Ie (rest:=rest) (v':=y') (cs:=[y']) (j:=0) hil hvs (by rw[g4,hvl,hcl];rfl) omq;rw[Sl] at hov;obtain⟨own',u1,u2,u3⟩:=iE.of_mem (cs':=(aI vs++rest).set (k*sz+0) y') (hBo _ aQ);refine vD h3 h1 u1 oky hfl hd (fun a' w' rl=>?_) a w Q ⟨r.h,r.sz,c7 a,r.df⟩;rw[hov] at u2;exact r.wroteRow (s2 _ _ hb) hwb key u2 u3 hk rl
def ni(lk:LK)(dflt:Nat):Option Operand->Option Int
 |none=>some (dflt:Nat)
 |some o=>match bt lk o with
  |some (.d (.v (.int .i64 i)))=>some i
  |_=>none
def aGJ{l:List DV}{lo hi:Option Operand}{nlo nhi:Nat}[hT:cE P t e s by_](hx:evD lk x=some (.sl l))(ho:cO s l)(hlo:ni lk 0 lo=some (nlo:Int))(hhi:ni lk l.length hi=some (nhi:Int))(h1:nlo<=nhi)(h2:nhi<=l.length):
  b9 P GB C n lk bk ⟨dst, .slice t x lo hi none,ty',pos,af,gd⟩ (.d (.sl ((l.take nhi).drop nlo))) [] []:= .yd fun ρ G ov a w r=>by
 obtain⟨u,h3,h4⟩:=r.evD hx;obtain⟨s',z,es,rfl,hsl,hl⟩:=ie.1 h4;have hn:=hsl.len;have hcap:=hsl.cap;have hll:=hl.len;have key: ∀mx',nhi<=mx'->mx'<=z.c->Is G (.sl ((l.take nhi).drop nlo)) (nP z.a z.n z.c nlo nhi mx' s):=by
  intro mx' hm1 hm2;rcases DY hsl hl ho with he|he
  .subst he
   have:l=[]:=cY (by rw[<-hll];rfl);subst this;have e1:nhi=0:=by simp at h2;exact h2
   have e2:nlo=0:=by omega
   subst e1 e2;refine ie.2 ⟨s,⟨_,0,mx'⟩,[],J,⟨J,aN _, .inl J⟩,by simpa using IsLs.nil⟩
  .subst he
   refine ie.2 ⟨s',⟨_,_,_⟩,_,J,hsl.sub nlo nhi mx' h1 we hm1 hm2,(hl.take nhi).drop nlo⟩
 have bnd: ∀{o:Operand} {d:Nat} {i:Int},ni lk d (some o)=some i->aE (cG a) o=some (.int .i64 i):=fun{o d i} h=>by
  simp only[ni] at h;split at h<;>cases h;rename_i he;obtain⟨q,g1,g2⟩:=r.ev he;rw[dl] at g2;subst g2;exact g1
 match lo,hi,hlo,hhi with
 |none,none,hlo,hhi=>
  simp only[ni,Option.some.injEq] at hlo hhi;have e1:nlo=0:=by omega
  have e2:nhi=l.length:=by omega
  subst e1 e2;refine⟨_,key z.c we (bV _),?_⟩;intro a w0 hf hh;simp only[execOp,bF hf h3,rY];have h9:=Dt (P:=P) (t:=t) (ad:=z.a) (len:=z.n) (cap:=z.c) w0 (lo:=none) (hi:=none) (mx:=none) (l:=0) (h:=l.length) (m:=z.c) (fun w0=>by
   simp[Instr.sliceBounds,Result.andThen,run_pure];omega)
  exact dh h9
 |none,some o2,hlo,hhi=>
  simp only[ni,Option.some.injEq] at hlo;have e1:nlo=0:=by omega
  subst e1;refine⟨_,key z.c we (bV _),?_⟩;have h9:=Hl (P:=P) (C:=C) (own:=ov) (G:=G) (t:=t) (dst:=dst) (ty':=ty') (pos:=pos) (af:=af) (gd:=gd) h3 (bnd hhi);have e9:nP z.a z.n z.c 0 nhi z.c s= .slice z.a nhi z.c:=by
   unfold nP
   cases z.a with
   |none=>simp
   |some ad=>simp[Addr.add]
  rw[e9];simpa using h9
 |some o1,none,hlo,hhi=>
  simp only[ni,Option.some.injEq] at hhi;have e2:nhi=l.length:=by omega
  subst e2;refine⟨_,key z.c we (bV _),?_⟩;have h9:=Lo (P:=P) (C:=C) (own:=ov) (G:=G) (t:=t) (dst:=dst) (ty':=ty') (pos:=pos) (af:=af) (gd:=gd) h3 (bnd hlo);have e9:z.n=l.length:=by omega
  rw[cK,e9] at h9;rw[e9];exact h9
 |some o1,some o2,hlo,hhi=>
  refine⟨_,key z.c we (bV _),?_⟩;have h9:=XY (P:=P) (C:=C) (own:=ov) (G:=G) (t:=t) (dst:=dst) (ty':=ty') (pos:=pos) (af:=af) (gd:=gd) h3 (bnd hlo) (bnd hhi) we we we;simpa using h9
def aGr{l:List DV}{hi mx:Operand}{nhi:Nat}[hT:cE P t e s by_](hx:evD lk x=some (.sl l))(ho:cO s l)(hhi:ni lk 0 (some hi)=some (nhi:Int))(hmx:ni lk 0 (some mx)=some (nhi:Int))(h2:nhi<=l.length):
  b9 P GB C n lk bk ⟨dst, .slice t x none (some hi) (some mx),ty',pos,af,gd⟩ (.ct (l.take nhi)) [] []:= .yd fun ρ G ov a w r=>by
 obtain⟨u,h3,h4⟩:=r.evD hx;obtain⟨s',z,es,rfl,hsl,hl⟩:=ie.1 h4;have hn:=hsl.len;have hcap:=hsl.cap;have hll:=hl.len;have bnd: ∀{o:Operand} {d:Nat} {i:Int},ni lk d (some o)=some i->aE (cG a) o=some (.int .i64 i):=fun{o d i} h=>by
  simp only[ni] at h;split at h<;>cases h;rename_i he;obtain⟨q,g1,g2⟩:=r.ev he;rw[dl] at g2;subst g2;exact g1
 refine⟨.slice z.a nhi nhi,⟨⟨_,_,J⟩,avY hsl hl ho h2 (bV _) we⟩,?_⟩;have h9:=auS (P:=P) (C:=C) (own:=ov) (G:=G) (t:=t) (dst:=dst) (ty':=ty') (pos:=pos) (af:=af) (gd:=gd) h3 (bnd hhi) (bnd hmx) we (Int.le_refl _) we;simpa using h9
def OQ{d:Nat}{i:TI}{z:DV}{ds ds2:List DV}[hT:cE P t e s by_][hN:kd P t'](hi:fq P e=some i)(hz:po i=some z)(hs:Nat.beq z.cells.length s=true)(hx:bt lk x=some (.ct ds)\/(bt lk x=some .nl/\ds=[]))(ox:cO s ds)(hy:qP lk bk s y=some ds2)(hk2:cO s ds2)(hne:0<ds2.length)
  (hby:Nat.blt 0 by_=true)(hbd:(ds.length+ds2.length)*by_<=140737488355328){ds':List DV}(hds:ds++ds2=ds'):
  b9 P GB C n lk bk ⟨some d, .call ⟨.builtin .append, #[x,y], #[t,t']⟩,ty',pos,af,gd⟩ (.rw d) [(d,some (.b e s ds' true))] [d]:=by
 intro hd tl tb K s1 s2 hf hk;refine⟨fun ρ G ov a w r Q=>?_⟩;subst hds;have r1:=r.mono s1 s2;obtain⟨v,hz1,hz2,hz3⟩:=AB hi hz;have cz:=((hz2 G).cells hz3).1.len;replace hs:=bX hs;rw[lV] at hby
 obtain⟨w2,us,h1,h2,h3,h4,h5,h6⟩:=C8 (P:=P) r1 hy hk2;have hxs:qP lk bk s x=some ds:=by
  unfold qP;rcases hx with hx|⟨hx,rfl⟩<;>rw[hx]<;>rfl
 obtain⟨w1,vs,g1,g2,g3,g4,g5,g6⟩:=C8 (P:=P) r1 hxs ox;have hc1:w1.c=w1.n:=by
  rcases hx with hx|⟨hx,rfl⟩
  .obtain⟨y1,k1,⟨a1,n1,rfl⟩,_⟩:=r1.ev hx
   rw[k1] at g1;simp only[Option.some.injEq,Value.slice.injEq] at g1;omega
  .obtain⟨y1,k1,k2⟩:=r1.ev hx
   cases k2
   rw[k1] at g1;simp only[Option.some.injEq,Value.slice.injEq] at g1;omega
 have hl3:=h3.len;have hl4:=g3.len;have hall: ∀v∈vs++us,(aO v).length=s:=fun v hv=>by
  rcases bZ.1 hv with hv|hv
  .exact g4 v hv
  .exact h4 v hv
 refine EZ (z:=v) (xs:=aI vs) (ys:=aI us) (ad:=w1.a) (len:=w1.n) (cap:=w1.c) g1 h1 g6 h6 we hby (by rw[g2,h2,hl3,hl4];exact hbd) hd (fun b cap' hc a' w' rl=>?_) a w Q ⟨r.h,r.sz,c7 a,r.df⟩;rw[<-pq] at rl;have hnd':=(cZ.1 rl.h.nd).1;refine r.newRow (z:=⟨some ⟨b,0,none⟩,w1.n+w2.n,cap'⟩) (B:=[⟨b,aI (vs++us)++dH v (cap'-(w1.n+w2.n)),e,true⟩]) hf ⟨vs++us, .inr ⟨b,_,true,by simp[g2,h2],J,fp _ hall,?_,by simpa[g2,h2] using hc⟩,g3.app h3,hall,fun _ o ho=>by rw[aT.1 ho]⟩
  (fun o ho=>by rw[aT.1 ho];exact aQ) (fun m B' hm e o ho _=>⟨aJ _ ho,fun e'=>by cases e';exact hnd' o ho J⟩) hk rl
 rw[fp _ hall,aY,pA,cz,hs,<-dS,g2,h2];congr 1;rw[g2,h2] at hc;dsimp only;omega
end
end Go.Sx
end
