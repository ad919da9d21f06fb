import Derived.Test.YtidmgdlbilojcaaGreatDoorTi4
set_option linter.unusedSimpArgs false
set_option maxRecDepth 100000
set_option linter.unusedVariables false
section
namespace Go.Sx
open Go
def tt:TT:=[
 (2,⟨.int .i64,1,some [.d (.v (.int .i64 0))],false⟩),
 (3,⟨.int .i64,1,some [.d (.v (.int .i64 0))],false⟩),
 (4,⟨.bl,1,some [.ff],false⟩),
 (5,⟨.int .u8,1,some [.d (.v (.int .u8 0))],false⟩),
 (9,⟨.sc,1,some [.d (.v (.string ⟨#[]⟩))],false⟩),
 (20,⟨.fc,1,some [.d (.v (.nilIface))],false⟩),
 (22,⟨.sl 3 1 8,1,some [.nl],false⟩),
 (23,⟨.sl 182 8 112,1,some [.nl],false⟩),
 (25,⟨.st [(0,3,1),(1,23,1)],2,some [.d (.v (.int .i64 0)), .nl],true⟩),
 (27,⟨.pt,1,some [.d (.v (.pointer none))],false⟩),
 (28,⟨.pt,1,some [.d (.v (.pointer none))],false⟩),
 (31,⟨.sl 215 1 4,1,some [.nl],false⟩),
 (32,⟨.sl 215 1 4,1,some [.nl],false⟩),
 (34,⟨.st [(0,4,1),(1,32,1)],2,some [.ff, .nl],true⟩),
 (36,⟨.st [(0,34,2),(2,32,1)],3,some [.ff, .nl, .nl],true⟩),
 (38,⟨.fc,1,some [.d (.v (.nilIface))],false⟩),
 (41,⟨.sl 51 1 24,1,some [.nl],false⟩),
 (44,⟨.sl 215 1 4,1,some [.nl],false⟩),
 (46,⟨.st [(0,4,1),(1,44,1)],2,some [.ff, .nl],true⟩),
 (48,⟨.st [(0,46,2),(2,44,1)],3,some [.ff, .nl, .nl],true⟩),
 (49,⟨.sl 179 6 96,1,some [.nl],false⟩),
 (51,⟨.st [(0,49,1)],1,some [.nl],true⟩),
 (62,⟨.st [(0,48,3),(3,48,3)],6,some [.ff, .nl, .nl, .ff, .nl, .nl],true⟩),
 (63,⟨.sl 25 2 32,1,some [.nl],false⟩),
 (65,⟨.st [(0,36,3),(3,36,3)],6,some [.ff, .nl, .nl, .ff, .nl, .nl],true⟩),
 (72,⟨.sl 65 6 112,1,some [.nl],false⟩),
 (87,⟨.st [(0,22,1),(1,3,1)],2,some [.nl, .d (.v (.int .i64 0))],true⟩),
 (91,⟨.sl 103 1 24,1,some [.nl],false⟩),
 (94,⟨.pt,1,some [.d (.v (.pointer none))],false⟩),
 (96,⟨.st [(0,2,1),(1,2,1),(2,94,1)],3,some [.d (.v (.int .i64 0)), .d (.v (.int .i64 0)), .d (.v (.pointer none))],true⟩),
 (99,⟨.sl 106 2 32,1,some [.nl],false⟩),
 (102,⟨.sl 201 17 128,1,some [.nl],false⟩),
 (103,⟨.sl 201 17 128,1,some [.nl],false⟩),
 (104,⟨.pt,1,some [.d (.v (.pointer none))],false⟩),
 (106,⟨.st [(0,103,1),(1,104,1)],2,some [.nl, .d (.v (.pointer none))],true⟩),
 (108,⟨.st [(0,96,3),(3,96,3),(6,96,3)],9,some [.d (.v (.int .i64 0)), .d (.v (.int .i64 0)), .d (.v (.pointer none)), .d (.v (.int .i64 0)), .d (.v (.int .i64 0)), .d (.v (.pointer none)), .d (.v (.int .i64 0)), .d (.v (.int .i64 0)), .d (.v (.pointer none))],true⟩),
 (110,⟨.st [(0,108,9),(9,104,1),(10,104,1),(11,4,1)],12,some [.d (.v (.int .i64 0)), .d (.v (.int .i64 0)), .d (.v (.pointer none)), .d (.v (.int .i64 0)), .d (.v (.int .i64 0)), .d (.v (.pointer none)), .d (.v (.int .i64 0)), .d (.v (.int .i64 0)), .d (.v (.pointer none)), .d (.v (.pointer none)), .d (.v (.pointer none)), .ff],true⟩),
 (123,⟨.sl 130 1 24,1,some [.nl],false⟩),
 (124,⟨.sl 175 6 96,1,some [.nl],false⟩),
 (126,⟨.st [(0,123,1),(1,3,1),(2,124,1)],3,some [.nl, .d (.v (.int .i64 0)), .nl],true⟩),
 (130,⟨.sl 62 6 112,1,some [.nl],false⟩),
 (131,⟨.sl 160 1 24,1,some [.nl],false⟩),
 (146,⟨.st [(0,96,3),(3,96,3)],6,some [.d (.v (.int .i64 0)), .d (.v (.int .i64 0)), .d (.v (.pointer none)), .d (.v (.int .i64 0)), .d (.v (.int .i64 0)), .d (.v (.pointer none))],true⟩),
 (150,⟨.sl 155 1 24,1,some [.nl],false⟩),
 (154,⟨.sl 146 6 48,1,some [.nl],false⟩),
 (155,⟨.sl 146 6 48,1,some [.nl],false⟩),
 (160,⟨.sl 65 6 112,1,some [.nl],false⟩),
 (171,⟨.o,12,some [.d (.v (.int .i64 0)), .d (.v (.int .i64 0)), .d (.v (.pointer none)), .d (.v (.int .i64 0)), .d (.v (.int .i64 0)), .d (.v (.pointer none)), .d (.v (.int .i64 0)), .d (.v (.int .i64 0)), .d (.v (.pointer none)), .d (.v (.int .i64 0)), .d (.v (.int .i64 0)), .d (.v (.pointer none))],true⟩),
 (175,⟨.st [(0,46,2),(2,46,2),(4,46,2)],6,some [.ff, .nl, .ff, .nl, .ff, .nl],true⟩),
 (177,⟨.st [(0,4,1),(1,4,1),(2,175,6),(8,27,1),(9,27,1)],10,some [.ff, .ff, .ff, .nl, .ff, .nl, .ff, .nl, .d (.v (.pointer none)), .d (.v (.pointer none))],true⟩),
 (179,⟨.st [(0,34,2),(2,34,2),(4,34,2)],6,some [.ff, .nl, .ff, .nl, .ff, .nl],true⟩),
 (182,⟨.st [(0,179,6),(6,3,1),(7,3,1)],8,some [.ff, .nl, .ff, .nl, .ff, .nl, .d (.v (.int .i64 0)), .d (.v (.int .i64 0))],true⟩),
 (199,⟨.st [(0,96,3),(3,96,3),(6,4,1),(7,4,1)],8,some [.d (.v (.int .i64 0)), .d (.v (.int .i64 0)), .d (.v (.pointer none)), .d (.v (.int .i64 0)), .d (.v (.int .i64 0)), .d (.v (.pointer none)), .ff, .ff],true⟩),
 (201,⟨.st [(0,108,9),(9,199,8)],17,some [.d (.v (.int .i64 0)), .d (.v (.int .i64 0)), .d (.v (.pointer none)), .d (.v (.int .i64 0)), .d (.v (.int .i64 0)), .d (.v (.pointer none)), .d (.v (.int .i64 0)), .d (.v (.int .i64 0)), .d (.v (.pointer none)), .d (.v (.int .i64 0)), .d (.v (.int .i64 0)), .d (.v (.pointer none)), .d (.v (.int .i64 0)), .d (.v (.int .i64 0)), .d (.v (.pointer none)), .ff, .ff],true⟩),
 (203,⟨.sl 108 9 72,1,some [.nl],false⟩),
 (214,⟨.int .u64,1,some [.d (.v (.int .u64 0))],false⟩),
 (215,⟨.int .u32,1,some [.d (.v (.int .u32 0))],false⟩),
 (216,⟨.int .u64,1,some [.d (.v (.int .u64 0))],false⟩),
 (218,⟨.sl 225 14 216,1,some [.nl],false⟩),
 (223,⟨.st [(0,48,3),(3,48,3),(6,4,1),(7,4,1)],8,some [.ff, .nl, .nl, .ff, .nl, .nl, .ff, .ff],true⟩),
 (225,⟨.st [(0,175,6),(6,223,8)],14,some [.ff, .nl, .ff, .nl, .ff, .nl, .ff, .nl, .nl, .ff, .nl, .nl, .ff, .ff],true⟩),
 (227,⟨.o,9,some [.d (.v (.int .i64 0)), .d (.v (.int .i64 0)), .d (.v (.pointer none)), .d (.v (.int .i64 0)), .d (.v (.int .i64 0)), .d (.v (.pointer none)), .d (.v (.int .i64 0)), .d (.v (.int .i64 0)), .d (.v (.pointer none))],true⟩),
 (232,⟨.pt,1,some [.d (.v (.pointer none))],false⟩),
 (233,⟨.sl 4 1 1,1,some [.nl],false⟩),
 (235,⟨.st [(0,23,1),(1,233,1),(2,3,1),(3,4,1)],4,some [.nl, .nl, .d (.v (.int .i64 0)), .ff],true⟩),
 (251,⟨.sl 38 1 16,1,some [.nl],false⟩),
 (267,⟨.st [(0,34,2),(2,32,1)],3,some [.ff, .nl, .nl],true⟩),
 (347,⟨.o,2,some [.nl, .nl],true⟩),
 (348,⟨.sl 223 8 120,1,some [.nl],false⟩),
 (378,⟨.sl 48 3 56,1,some [.nl],false⟩),
 (383,⟨.sl 104 1 8,1,some [.nl],false⟩),
 (385,⟨.int .i64,1,some [.d (.v (.int .i64 0))],false⟩),
 (394,⟨.int .u64,1,some [.d (.v (.int .u64 0))],false⟩),
 (398,⟨.pt,1,some [.d (.v (.pointer none))],false⟩),
 (405,⟨.pt,1,some [.d (.v (.pointer none))],false⟩),
 (430,⟨.st [(0,9,1)],1,some [.d (.v (.string ⟨#[]⟩))],true⟩)]
theorem abM:TOK Go.Proofs.Tryz.prog tt:=TOK.of (by kernel_rfl)
end Go.Sx
end
section
namespace Go.Sx
open Go Go.Proofs Tryz
def akv:Nat→List DV→FrX
 |_,[]=>[]
 |i,v::t=>(i, .d v)::akv (i+1) t
class Fu where n:Nat
instance fu0:Fu:=⟨400⟩
section
variable {GB:Gh} {C:Ctx} {n:Nat} {Q0:Exit→Act→World→Prop} {fr fr':FrX} {own own':OwX} {cf cf':Cf} {vc vc':List Prop} {ops:Array Oper} {r:List Oper} {o:Oper} {K:List Kt}
theorem gx'{q:Nat}(h:go tt n q [] fr own cf=⟨vc,fr',own',cf'⟩)(hv:aaj vc)(k:CfS prog GB C n Q0 fr' own' cf'):CfS prog GB C n Q0 fr own cf:=by
 have:=(adY (GB:=GB) (C:=C) (Q0:=Q0) abM follows q [] fr own cf (by rw[h];exact hv)).2
 rw[h] at this
 exact this k
theorem gx[fu:Fu](h:go tt n fu.n [] fr own cf=⟨vc,fr',own',cf'⟩)(k:CfS prog GB C n Q0 fr' own' cf')(hv:aaj vc:=by first|exact trivial|(simp only[aaj];kernel_rfl)|(simp only[aaj];omega)|(simp only[aaj,aK,aN,aW];omega)):CfS prog GB C n Q0 fr own cf:=gx' h hv k
theorem aiI: ∀{ds:List DV} {vs:List Value} {ρ:NE} {G:Gh} (i:Nat),IsLs G ds vs→ ∀k f,aav (akv i ds) k=some f→ ∃y,(∃j,k=i+j∧vs[j]? =some y)∧IsX ρ G f y
 |[],vs,ρ,G,i,h,k,f,e=>by cases e
 |d::t,vs,ρ,G,i,h,k,f,e=>by
  obtain⟨y,m,rfl,h1,h2⟩:=aae.1 h
  simp only[akv] at e
  rw[abe] at e
  split at e
  ·cases e;rename_i hk;exact⟨y,⟨0,hk,rfl⟩,h1⟩
  ·obtain⟨u,⟨j,hj,hu⟩,h3⟩:=aiI (i+1) h2 k f e
   exact⟨u,⟨j+1,by omega,by simpa using hu⟩,h3⟩
theorem ave{ds:List DV}{vs:List Value}{ρ:NE}{G:Gh}{a:Act}(h:IsLs G ds vs)(hf:aoO (aht 0 vs) a)(k:Nat)(f:FX)(e:aav (akv 0 ds) k=some f): ∃y,a.tmps[k]? =some y∧IsX ρ G f y:=by
 obtain⟨y,⟨j,hj,hy⟩,h1⟩:=aiI (ρ:=ρ) 0 h k f e
 refine⟨y,hf k y ?_,h1⟩
 rw[hj];exact acD vs 0 j y hy
theorem fn[fu:Fu]{f:FuncId}{fb:Func}{c:Code}{m:Nat}{ds:List DV}{rv:DV}(hf:prog.funcs[f]? =some fb)(hb:fb.body=some c)(hn:(fb.name== "runtime.NumGoroutine")=false)(hm:fb.ntmps=m)(hlen:Nat.ble ds.length m=true)
  (hgo:go tt m fu.n [] (akv 0 ds) [] (.code c [])=⟨vc,fr,own,cf⟩)(k: ∀C:Ctx,CfS prog GB C m (adi C prog fb (amf C (fun v G'=>Is G' rv v))) fr own cf)
  (hv:aaj vc:=by first|exact trivial|(simp only[aaj];kernel_rfl)|(simp only[aaj];omega)|(simp only[aaj,aK,aN,aW];omega)):PF GB prog f ds rv:=by
 intro G vs hg hvs
 refine Fn.introR hf hb hn hm (by rw[hvs.len];exact hlen) fun C _ _ hrd hfx=>?_
 intro a w rl
 refine anM hrd ?_
 have h:=gx' (GB:=GB) (C:=C) (Q0:=adi C prog fb (amf C (fun v G'=>Is G' rv v))) hgo hv (k C)
 exact h.run (fun _=>⟨none,0,0⟩) G [] a w ⟨hg,rl.h,rl.sz,rl.df,(fun k f e=>ave hvs rl.fr k f e),(fun nm B e=>by cases e),(fun nm nm' B B' e=>by cases e),fun nm p _ _ e=>by rw[hfx] at e;cases e⟩
theorem CfS.cond{c:Operand}{x y:Code}{b:Bool}{f:FX}(hc:evX (aav fr) c=some f)(hb:toB f=some b)(h1:b=true→CfS prog GB C n Q0 fr own (.code x K))(h2:b=false→CfS prog GB C n Q0 fr own (.code y K)):CfS prog GB C n Q0 fr own (.code (.cond c x y) K):=SX.cond hc hb h1 h2
variable {fr1 fr2:FrX} {own1 own2:OwX} {cf1 cf2:Cf} {vc1 vc2:List Prop}
theorem br[fu1:Fu][fu2:Fu]{p:Prop}{hp:Decidable p}{c:Operand}{x y:Code}(hc:evX (aav fr) c=some (.pr p hp))(g1:go tt n fu1.n [] fr own (.code x K)=⟨vc1,fr1,own1,cf1⟩)(g2:go tt n fu2.n [] fr own (.code y K)=⟨vc2,fr2,own2,cf2⟩)
  (k1:p→CfS prog GB C n Q0 fr1 own1 cf1)(k2: ¬p→CfS prog GB C n Q0 fr2 own2 cf2)
  (v1:p→aaj vc1:=by intro;first|exact trivial|(simp only[aaj];omega)|(simp only[aaj,aK,aN,aW];omega))(v2: ¬p→aaj vc2:=by intro;first|exact trivial|(simp only[aaj];omega)|(simp only[aaj,aK,aN,aW];omega)):CfS prog GB C n Q0 fr own (.code (.cond c x y) K):=
 .cond hc rfl (fun h=>gx' g1 (v1 (of_decide_eq_true h)) (k1 (of_decide_eq_true h))) (fun h=>gx' g2 (v2 (of_decide_eq_false h)) (k2 (of_decide_eq_false h)))
theorem bd[fu1:Fu][fu2:Fu]{p:Prop}{hp:Decidable p}{c:Operand}{x y:Code}(hc:evX (aav fr) c=some (.d (.v (.bool (@decide p hp)))))(g1:go tt n fu1.n [] fr own (.code x K)=⟨vc1,fr1,own1,cf1⟩)(g2:go tt n fu2.n [] fr own (.code y K)=⟨vc2,fr2,own2,cf2⟩)
  (k1:p→CfS prog GB C n Q0 fr1 own1 cf1)(k2: ¬p→CfS prog GB C n Q0 fr2 own2 cf2)
  (v1:p→aaj vc1:=by intro;first|exact trivial|(simp only[aaj];omega)|(simp only[aaj,aK,aN,aW];omega))(v2: ¬p→aaj vc2:=by intro;first|exact trivial|(simp only[aaj];omega)|(simp only[aaj,aK,aN,aW];omega)):CfS prog GB C n Q0 fr own (.code (.cond c x y) K):=
 .cond hc rfl (fun h=>gx' g1 (v1 (of_decide_eq_true h)) (k1 (of_decide_eq_true h))) (fun h=>gx' g2 (v2 (of_decide_eq_false h)) (k2 (of_decide_eq_false h)))
theorem bb[fu1:Fu][fu2:Fu]{b:Bool}{c:Operand}{x y:Code}(hc:evX (aav fr) c=some (.d (.v (.bool b))))(g1:go tt n fu1.n [] fr own (.code x K)=⟨vc1,fr1,own1,cf1⟩)(g2:go tt n fu2.n [] fr own (.code y K)=⟨vc2,fr2,own2,cf2⟩)
  (k1:b=true→CfS prog GB C n Q0 fr1 own1 cf1)(k2:b=false→CfS prog GB C n Q0 fr2 own2 cf2)
  (v1:b=true→aaj vc1:=by intro;first|exact trivial|(simp only[aaj];omega)|(simp only[aaj,aK,aN,aW];omega))(v2:b=false→aaj vc2:=by intro;first|exact trivial|(simp only[aaj];omega)|(simp only[aaj,aK,aN,aW];omega)):CfS prog GB C n Q0 fr own (.code (.cond c x y) K):=
 .cond hc rfl (fun h=>gx' g1 (v1 h) (k1 h)) (fun h=>gx' g2 (v2 h) (k2 h))
theorem abJ{d:Nat}{f g:FX}(hl:aav fr d=some f)(hi: ∀ρ G y,IsX ρ G f y→IsX ρ G g y){Φ:Act→World→Prop}(h:SX GB C n (aav ((d,g)::fr)) (aaz own) Φ):SX GB C n (aav fr) (aaz own) Φ:=by
 refine⟨fun ρ G ov a w r=>h.run ρ G ov a w ⟨r.gb,r.h,r.sz,r.df,fun k f' e=>?_,r.bx,r.dj,r.fxd⟩⟩
 rw[abe] at e
 split at e
 ·cases e;rename_i hk;subst hk
  obtain⟨y,h1,h2⟩:=r.fx _ _ hl
  exact⟨y,h1,hi _ _ _ h2⟩
 ·exact r.fx k f' e
theorem eqF(d:Nat){f:FX}(g:FX)(hl:aav fr d=some f)(e:f=g)(h:CfS prog GB C n Q0 ((d,g)::fr) own cf):CfS prog GB C n Q0 fr own cf:=by
 have hs:aav ((d,g)::fr)=aav fr:=by
  funext k
  rw[abe]
  split
  ·rename_i hk;rw[hk,hl,e]
  ·rfl
 cases cf with
 |dr id ops fr0 own0 us r K=>exact fun D=>h ⟨D.pre,by rw[hs];exact D.st,D.snd⟩
 |_=>unfold CfS at h⊢;rw[hs] at h;exact h
theorem kT(d:Nat){p:Prop}{hp:Decidable p}(hl:aav fr d=some (.pr p hp))(h:p)(k:CfS prog GB C n Q0 ((d, .tt)::fr) own (.ops ops r K)):CfS prog GB C n Q0 fr own (.ops ops r K):=
 abJ hl (fun _ _ _ e=>by rw[show _=_ from e,decide_eq_true h];exact rfl) k
theorem kF(d:Nat){p:Prop}{hp:Decidable p}(hl:aav fr d=some (.pr p hp))(h: ¬p)(k:CfS prog GB C n Q0 ((d, .ff)::fr) own (.ops ops r K)):CfS prog GB C n Q0 fr own (.ops ops r K):=
 abJ hl (fun _ _ _ e=>by rw[show _=_ from e,decide_eq_false h];exact rfl) k
theorem nlD(d:Nat)(hl:aav fr d=some .nl){e:Exit}(h:CfS prog GB C n Q0 ((d, .d (.sl []))::fr) own (.ex e K)):CfS prog GB C n Q0 fr own (.ex e K):=
 abJ (g:= .d (.sl [])) hl (fun ρ G y hy=>(show Is G (.sl []) y from acE (ρ:=ρ) (f:= .nl) hy rfl)) h
theorem PF.to{f:FuncId}{ds:List DV}{r1 r2:DV}{P:Program}(h:PF GB P f ds r1)(e:r1=r2):PF GB P f ds r2:=e▸h
theorem cs[fu1:Fu][fu2:Fu](d:Nat){p:Prop}{hp:Decidable p}(hl:aav fr d=some (.pr p hp))(g1:go tt n fu1.n [] ((d, .tt)::fr) own (.ops ops r K)=⟨vc1,fr1,own1,cf1⟩)(g2:go tt n fu2.n [] ((d, .ff)::fr) own (.ops ops r K)=⟨vc2,fr2,own2,cf2⟩)
  (k1:p→CfS prog GB C n Q0 fr1 own1 cf1)(k2: ¬p→CfS prog GB C n Q0 fr2 own2 cf2)
  (v1:p→aaj vc1:=by intro;first|exact trivial|(simp only[aaj];omega)|(simp only[aaj,aK,aN,aW];omega))(v2: ¬p→aaj vc2:=by intro;first|exact trivial|(simp only[aaj];omega)|(simp only[aaj,aK,aN,aW];omega)):CfS prog GB C n Q0 fr own (.ops ops r K):=by
 by_cases h:p
 ·exact abJ hl (fun _ _ _ e=>by rw[show _=_ from e,decide_eq_true h];exact rfl) (gx' g1 (v1 h) (k1 h))
 ·exact abJ hl (fun _ _ _ e=>by rw[show _=_ from e,decide_eq_false h];exact rfl) (gx' g2 (v2 h) (k2 h))
theorem csb[fu1:Fu][fu2:Fu](d:Nat){b:Bool}(hl:aav fr d=some (.d (.v (.bool b))))(g1:go tt n fu1.n [] ((d, .tt)::fr) own (.ops ops r K)=⟨vc1,fr1,own1,cf1⟩)(g2:go tt n fu2.n [] ((d, .ff)::fr) own (.ops ops r K)=⟨vc2,fr2,own2,cf2⟩)
  (k1:b=true→CfS prog GB C n Q0 fr1 own1 cf1)(k2:b=false→CfS prog GB C n Q0 fr2 own2 cf2)
  (v1:b=true→aaj vc1:=by intro;first|exact trivial|(simp only[aaj];omega)|(simp only[aaj,aK,aN,aW];omega))(v2:b=false→aaj vc2:=by intro;first|exact trivial|(simp only[aaj];omega)|(simp only[aaj,aK,aN,aW];omega)):CfS prog GB C n Q0 fr own (.ops ops r K):=by
 cases h:b with
 |true=>exact abJ hl (fun _ G _ e=>by rw[(aa4 (G:=G)).1 e,h];exact rfl) (gx' g1 (v1 h) (k1 h))
 |false=>exact abJ hl (fun _ G _ e=>by rw[(aa4 (G:=G)).1 e,h];exact rfl) (gx' g2 (v2 h) (k2 h))
def hdC:Cf→Option (Array Oper×Oper)
 | .ops ops (o::_) _=>some (ops,o)
 | .dr _ ops _ _ _ (o::_) _=>some (ops,o)
 |_=>none
def lkC(fr:FrX):Cf→LK
 | .dr _ ops _ _ _ (o::_) _=>rsX (aiT ops o) (aav fr)
 |_=>aav fr
def bkC(fr:FrX)(own:OwX):Cf→BM
 | .dr _ ops _ _ _ (o::_) _=>rsX (aqx o fr (aiT ops o)) (aaz own)
 |_=>aaz own
def bad:Res:=⟨[False],[],[], .ex .normal []⟩
def goA(T:TT)(n q:Nat)(fr:FrX)(own:OwX)(cf:Cf)(f:FX)(bl:List (Nat×Option Bk))(nw:List Nat):Res:=match cf with
 | .ops ops (o::r) K=>bif ah0 nw o.dst fr own&&aaO n o.dst then ake own bl fun own'=>aCA fr o.dst f fun fr'=>go T n q [] fr' own' (.ops ops r K) else bad
 | .dr id ops fr0 own0 us (o::r) K=>bif aaO n o.dst then fcL (aiT ops o) fun rs=>fcL (aqx o fr rs) fun rn=>ake own bl fun own'=>fcL (us++[⟨rs,o.dst,f,rn,bl,nw⟩]) fun us'=>aCA fr o.dst f fun fr'=>go T n q [] fr' own' (.dr id ops fr0 own0 us' r K) else bad
 |_=>bad
def grd(ops:Array Oper)(lk:LK):Option (Nat×Bool)→Bool
 |none=>true
 |some (j,b)=>match ops[j]? with
  |some oj=>match oj.dst with
   |some d=>match lk d with
    |some .tt=>b
    |some .ff=>!b
    |_=>false
   |none=>false
  |none=>false
theorem atV{lk:LK}{bk:BM}{o:Oper}(h:grd ops lk o.guard=true): ∀ρ G ov a w,RlX GB C n lk bk ρ G ov a w→Region.wanted o (yielded ops a.tmps)=true:=fun ρ G ov a w r=>by
 unfold Region.wanted
 unfold grd at h
 split at h
 ·rename_i e;rw[e]
 ·rename_i j b e
  rw[e]
  split at h<;>try (cases h;done)
  rename_i oj hj
  split at h<;>try (cases h;done)
  rename_i d hd
  split at h<;>try (cases h;done)
  ·rename_i hl
   obtain⟨y,h1,h2⟩:=afg r hj hd hl
   cases h1;simp only[h2];subst h;rfl
  ·rename_i hl
   obtain⟨y,h1,h2⟩:=afg r hj hd hl
   cases h1;simp only[h2];cases b<;>first|rfl|(simp at h)
theorem uo{q:Nat}{f:FX}{bl:List (Nat×Option Bk)}{nw:List Nat}(hh:hdC cf=some (ops,o))(hg:grd ops (lkC fr cf) o.guard=true)(h:OpR prog GB C n (lkC fr cf) (bkC fr own cf) o f bl nw)
  (hgo:goA tt n q fr own cf f bl nw=⟨vc,fr',own',cf'⟩)(hv:aaj vc)(k:CfS prog GB C n Q0 fr' own' cf'):CfS prog GB C n Q0 fr own cf:=by
 obtain⟨dst,op,ty,pos,af,gd⟩:=o
 cases cf with
 |ops ops' r K=>
  cases r with
  |nil=>cases hh
  |cons o' r=>
   cases hh
   unfold goA at hgo
   cases hc:(ah0 nw dst fr own&&aaO n dst) with
   |false=>simp only[hc,cond_false,bad] at hgo;cases hgo;exact absurd hv (fun x=>x)
   |true=>
    simp only[hc,cond_true] at hgo
    simp only[aeM,aj3] at hgo
    simp only[cX] at hc
    exact SX.op (h.toS hc.2 (atV hg)) (afl hc.1) (gx' hgo hv k)
 |dr id ops' fr0 own0 us r K=>
  cases r with
  |nil=>cases hh
  |cons o' r=>
   cases hh
   unfold goA at hgo
   cases hc:aaO n dst with
   |false=>simp only[hc,cond_false,bad] at hgo;cases hgo;exact absurd hv (fun x=>x)
   |true=>
    simp only[hc,cond_true,ahl] at hgo
    simp only[aeM,aj3] at hgo
    intro D
    exact gx' hgo hv k (D.push (h.toS hc (atV hg)))
 |_=>cases hh
def amd(lk:LK)(fo:Operand)(args:Array Operand):Option (FuncId×List DV):=match evX lk fo with
 |some (.d (.v (.func (.func f) ⟨[]⟩ ⟨[]⟩)))=>match evDs lk args.toList with
  |some ds=>some (f,ds)
  |none=>none
 |_=>none
theorem alj{lk:LK}{fo:Operand}{args:Array Operand}{f:FuncId}{ds:List DV}(h:amd lk fo args=some (f,ds)):evX lk fo=some (.d (.v (.func (.func f) #[] #[])))∧evDs lk args.toList=some ds:=by
 unfold amd at h
 split at h<;>try (cases h;done)
 rename_i h1
 split at h<;>cases h
 rename_i h2
 exact⟨h1,h2⟩
theorem atp{lk:LK}{bk:BM}{fo:Operand}{args:Array Operand}{tys:Array TypeId}{f:FuncId}{ds:List DV}{rv:DV}{dst:Option Nat}{ty:TypeId}{pos:String}{af:Array Edge}{gd:Option (Nat×Bool)}(ha:amd lk fo args=some (f,ds))(hF:PF GB prog f ds rv):
  OpR prog GB C n lk bk ⟨dst, .call ⟨.value fo,args,tys⟩,ty,pos,af,gd⟩ (.d rv) [] []:=by
 intro hd tl tb K' s1 s2 hf hk
 refine⟨fun ρ G ov a w r Q=>?_⟩
 obtain⟨h1,h2⟩:=alj ha
 obtain⟨y,hy,hy'⟩:=(r.mono s1 s2).ev h1
 rw[(aa4 (G:=G)).1 hy'] at hy
 obtain⟨vs,h3,h4⟩:=(r.mono s1 s2).evDs h2
 refine zC hy h3 (hF G vs r.gb h4) hd (fun v G' hG hK a' w' rl=>?_) a w Q ⟨r.h,r.sz,aaN a,r.df⟩
 exact hk.run ρ G' ov a' w' ⟨r.gb.trans hG.le,rl.h,rl.sz,rl.df,(abk rl).fx (fun k g _ e=>by obtain⟨u,h5,h6⟩:=r.fx k g e;exact⟨u,h5,h6.up hG.le⟩) hK,
  fun nm B e=>by obtain⟨os,h5,h6⟩:=r.bx nm B e;exact⟨os,h5.up hG.le,h6⟩,r.dj,r.fxd⟩
theorem ca[fu:Fu]{fo:Operand}{args:Array Operand}{tys:Array TypeId}{f:FuncId}{ds:List DV}{rv:DV}{dst:Option Nat}{ty:TypeId}{pos:String}{af:Array Edge}{gd:Option (Nat×Bool)}(hh:hdC cf=some (ops,⟨dst, .call ⟨.value fo,args,tys⟩,ty,pos,af,gd⟩))
  (hg:grd ops (lkC fr cf) gd=true)(ha:amd (lkC fr cf) fo args=some (f,ds))(hF:PF GB prog f ds rv)(hgo:goA tt n fu.n fr own cf (.d rv) [] []=⟨vc,fr',own',cf'⟩)(k:CfS prog GB C n Q0 fr' own' cf')(hv:aaj vc:=by first|exact trivial|(simp only[aaj];kernel_rfl)|(simp only[aaj];omega)|(simp only[aaj,aK,aN,aW];omega)):CfS prog GB C n Q0 fr own cf:=
 uo hh hg (atp ha hF) hgo hv k
def awn(T:TT)(fr:FrX)(own:OwX):List ResultVar→Option (List DV)
 |[]=>some []
 | .tmp t::rs=>match aav fr t with
  |some f=>match aks f with
   |some d=>match awn T fr own rs with
    |some l=>some (d::l)
    |none=>none
   |none=>none
  |none=>none
 | .cell a t::rs=>match aav fr a with
  |some (.ov nm 0)=>match abi T t with
   |some i=>match aaz own nm with
    |some (.o _ cs _)=>match i.ag with
     |some (some k)=>match takeX cs 0 k with
      |some c=>match aej c with
       |some d=>match awn T fr own rs with
        |some l=>some (.ag d::l)
        |none=>none
       |none=>none
      |none=>none
     |some none=>match cs[0]? with
      |some c=>match aks c with
       |some d=>match awn T fr own rs with
        |some l=>some (d::l)
        |none=>none
       |none=>none
      |none=>none
     |none=>none
    |_=>none
   |none=>none
  |_=>none
theorem aot{ρ:NE}{G:Gh}{ov:List Own}{a:Act}{w:World}(h:RlX GB C n (aav fr) (aaz own) ρ G ov a w): ∀{rs:List ResultVar} {ds:List DV},awn tt fr own rs=some ds→ ∃vs,RVs prog (frA a) ov rs vs∧IsLs G ds vs:=by
 intro rs
 induction rs with
 |nil=>intro ds e;cases e;exact⟨[], .nil, .nil⟩
 |cons x rs ih=>
  intro ds e
  cases x with
  |tmp t=>
   simp only[awn] at e
   split at e<;>try (cases e;done)
   rename_i f hf
   split at e<;>try (cases e;done)
   rename_i d hd
   split at e<;>cases e
   rename_i l hl
   obtain⟨vs,h1,h2⟩:=ih hl
   obtain⟨y,h3,h4⟩:=h.fx t f hf
   exact⟨y::vs, .tmp (ait h3) h1, .cons (acE h4 hd) h2⟩
  |cell t ty=>
   simp only[awn] at e
   split at e<;>try (cases e;done)
   rename_i nm hf
   split at e<;>try (cases e;done)
   rename_i i hi
   split at e<;>try (cases e;done)
   rename_i hb
   obtain⟨y,h3,h4⟩:=h.fx t _ hf
   obtain⟨b,m,rfl,h5,h6,h7⟩:=h.own h4 hb
   have oat:OAt ov b m _ _:=⟨h7⟩
   split at e<;>try (cases e;done)
   ·rename_i k ha
    split at e<;>try (cases e;done)
    rename_i c hc
    split at e<;>try (cases e;done)
    rename_i d hd
    split at e<;>cases e
    rename_i l hl
    obtain⟨vs,h1,h2⟩:=ih hl
    obtain⟨l',h8,h9⟩:=h6.takeX hc
    exact⟨.agg ⟨l'⟩::vs, .agg (ait h3) oat (akl (abM _ _ hi) ha) h8 h1, .cons (abX.2 ⟨l',rfl,ac8 h9 hd⟩) h2⟩
   ·rename_i ha
    split at e<;>try (cases e;done)
    rename_i c hc
    split at e<;>try (cases e;done)
    rename_i d hd
    split at e<;>cases e
    rename_i l hl
    obtain⟨vs,h1,h2⟩:=ih hl
    obtain⟨l',h8,h9⟩:=h6.get hc
    exact⟨l'::vs, .sc (ait h3) oat (ajB (abM _ _ hi) ha) h8 h1, .cons (acE h9 hd) h2⟩
def aDR:Exit→Bool
 | .ret=>true
 | .normal=>true
 |_=>false
theorem rz{fb:Func}{e:Exit}{ds:List DV}{rv:DV}(hr:awn tt fr own fb.results.toList=some ds)(hd:aku ds=rv)(he:aDR e=true:=by rfl):CfS prog GB C n (adi C prog fb (amf C (fun v G'=>Is G' rv v))) fr own (.ex e []):=by
 refine⟨fun ρ G ov a w r=>?_⟩
 obtain⟨vs,h1,h2⟩:=aot r hr
 have hk:Is G rv (ab0 vs):=hd▸aou h2
 cases e with
 |ret=>exact zD (C:=C) (n:=n) (fr:=frA a) (own:=ov) (G:=G) (K:=fun v G'=>Is G' rv v) h1 hk a w ⟨r.h,r.sz,aaN a,r.df⟩
 |normal=>exact aqQ (C:=C) (n:=n) (fr:=frA a) (own:=ov) (G:=G) (K:=fun v G'=>Is G' rv v) h1 hk a w ⟨r.h,r.sz,aaN a,r.df⟩
 |_=>cases he
end
end Go.Sx
end
section
namespace Go.Sx
open Go
section
variable {P:Program} {GB:Gh} {C:Ctx} {n:Nat} {E:Ext} {fr fr':FrF} {own own':List adC} {bs bs' bs1:List aen} {ops:Array Oper} {Q:Exit→Act→World→Prop} {r:List Oper} {Φ:Act→World→Prop}
variable {dst:Option Nat} {t t' ty':TypeId} {pos:String} {af:Array Edge} {gd:Option (Nat×Bool)} {x y z:Operand} {e s by_:Nat}
class aJq (P:Program) (t:TypeId) (d:outParam DV):Prop where
 z: ∃z,TyZ P t z∧Is (fun _=>none) d z∧d.okc=true
abbrev SV.f (w:SV):FV:= .d (.v (.slice w.a w.n w.c))
theorem aiX(z:Value)(k:Nat):aak (List.replicate k z)=abo z k:=by unfold aak abo;rw[List.map_replicate]
theorem ahb{G:Gh}{d:DV}{y:Value}(h:Is G d y): ∀k:Nat,IsLs G (List.replicate k d) (List.replicate k y)
 |0=> .nil
 |k+1=> .cons h (ahb h k)
def aIi(fr:FrF):Nat→List (Nat×Operand)→Option (List DV)
 |_,[]=>some []
 |j,(i,x)::r=>match opD fr x,aIi fr (j+1) r with
  |some d,some l=>bif Nat.beq i j then some (d::l) else none
  |_,_=>none
theorem avA(pre mid post vs:List Value)(h:vs.length=mid.length):ovw (pre++(mid++post)) pre.length vs=pre++(vs++post):=by
 rw[acA _ _ _ (by simp;omega)]
 simp[h]
theorem arp(z:Value)(k:Nat):abo z (k+1)=aag z++abo z k:=by simp[abo,iV]
def ax9(s:Nat)(ds:List DV):Bool:=ds.all fun d=>d.okc&&Nat.beq d.cells.length s
theorem ahG{ds:List DV}(h:ax9 s ds=true):adn s ds:=fun d hd=>by
 have:=fK.1 h d hd
 simp only[cX] at this
 exact⟨this.1,aT this.2⟩
theorem anJ{cs:List Value}{off s:Nat}: ∀(es:List Value),(∀i (h:i<es.length),aa1 cs (off+i*s) s=some (aag es[i]))→off≤cs.length→aa1 cs off (es.length*s)=some (aak es)
 |[],_,ho=>by
  rw[abN _ _ _ (by simpa using ho)];simp[aak]
 |v::t,h,ho=>by
  have h0:=h 0 (by simp)
  simp only[lY,dY,oS] at h0
  obtain⟨k1,k2⟩:=ahh h0
  have ih:=anJ (off:=off+s) t (fun i hi=>by
   have:=h (i+1) (by simpa using hi)
   rw[iW,show off+(i*s+s)=off+s+i*s by omega] at this
   simpa using this) (by omega)
  obtain⟨k3,k4⟩:=ahh ih
  rw[abN _ _ _ (by simp only[bY,iW];omega)]
  congr 1
  have e1:aak (v::t)=aag v++aak t:=by simp[aak]
  rw[e1,k2,k4,bY,iW,kZ (t.length*s) s,List.take_add,sS]
theorem aDT{ov:List Own}{G:Gh}{w:SV}{es:List Value}(h:afs G s w es):Src P C ov G s w.n (.slice w.a w.n w.c) (aak es):=by
 rcases h.mem with he|⟨b,off,cs,ha,hg,hc⟩
 ·subst he
  rw[h.len]
  exact aeY
 ·rw[ha]
  by_cases he:es=[]
  ·subst he;rw[h.len];exact aeY
  ·have hp:0<es.length:=mQ.2 he
   have h0:=hc 0 hp
   have:=(ahh h0).1
   rw[h.len]
   exact azd hg (anJ es hc (by omega))
def aIU(fr:FrF)(bs:List aen)(s:Nat)(y:Operand)(ds:List DV):Prop:=
 (∃l,opD fr y=some (.sl l)∧l=ds∧adn s l)∨ ∃w ty lo,opF fr y=some w.f∧(⟨w,s,ty,ds,lo⟩:aen)∈bs∧adn s ds
theorem akb[hT:acJ P t e s by_][hN:TyN P t']{w:World}{ad2:Option Addr}{cap2:Nat}:(Builtin.append_ #[t,t'] ty' #[.slice none 0 0, .slice ad2 0 cap2]).run P w= .ok (.slice none 0 0) w:=by
 obtain⟨d,hd1⟩:=hN.un
 obtain⟨i,hi,his,hib⟩:=hT.info
 have h0:(Builtin.firstCells i.size 0 (.slice ad2 0 cap2)).run P w= .ok #[] w:=by
  cases ad2 with
  |none=>rfl
  |some a=>unfold Builtin.firstCells loadCells;simp[loadCellsFrom,run_pure]
 simp[Builtin.append_,run_underlying hT.un,run_underlying hd1,sizeOf,typeInfo,hi,Builtin.lenOf,h0]
theorem agH[hT:acJ P t e s by_][hN:TyN P t']{fr:Fr}{own:List Own}{G:Gh}{ad2:Option Addr}{cap2:Nat}(hx:opv fr x=some (.slice none 0 0))(hy:opv fr y=some (.slice ad2 0 cap2))(hd:aaO n dst=true)
  (h:St C n (put fr dst (.slice none 0 0)) own G Φ):Ch P C n fr own G ⟨dst, .call ⟨.builtin .append, #[x,y], #[t,t']⟩,ty',pos,af,gd⟩ Φ:=by
 intro a w Q rl
 refine abl (v:= .slice none 0 0) (w':=w) ?_ (h _ _ (rl.put _ hd))
 simp only[execOp,resolve,gW,cK,jV,aad rl.fr hx,aad rl.fr hy]
 exact aap akb
theorem abf.upd{G:Gh}{w:SV}{s:Nat}{ty:TypeId}{ds:List DV}{lo:Bool}{B:List Own}(h:abf G ⟨w,s,ty,ds,lo⟩ B){i:Nat}{d:DV}(hi:ds[i]? =some d):
  ∃b vs rest lo',w.a=some ⟨b,0,none⟩∧B=[⟨b,aak vs++rest,ty,lo'⟩]∧IsLs G ds vs∧(∀v∈vs,(aag v).length=s)∧i<vs.length∧
   ∀u d',Is G d' u→(aag u).length=s→abf G ⟨w,s,ty,ds.set i d',lo⟩ [⟨b,aak (vs.set i u)++rest,ty,lo'⟩]:=by
 obtain⟨vs,hB,hv,hs,hlo⟩:=h
 obtain⟨v,h1,h2⟩:=hv.get hi
 obtain⟨hi',_⟩:=aL.1 h1
 rcases hB with⟨e,_,_⟩|⟨b,rest,lo',h3,h4,h5,h6,h7⟩
 ·rw[e] at h1;simp at h1
 ·refine⟨b,vs,rest,lo',by simp only[] at h3;rw[h3],h4,hv,hs,hi',fun u d' hu hul=>?_⟩
  have hall: ∀x∈vs.set i u,(aag x).length=s:=fun x hx=>by
   rcases List.mem_or_eq_of_mem_set hx with h'|rfl
   ·exact hs x h'
   ·exact hul
  refine⟨vs.set i u, .inr ⟨b,rest,lo',by simpa using h3,rfl,aar _ hall,?_,by simpa using h7⟩,hv.set i hu,hall,fun hl o ho=>?_⟩
  ·rw[aar _ hall,aN,←h5];exact h6
  ·have:=hlo hl
   rw[h4] at this
   rw[aY.1 ho]
   have h9:=this ⟨b,aak vs++rest,ty,lo'⟩ aZ
   exact h9
theorem auA{s:Nat}{rest:List Value}{u:Value}(vs:List Value)(i:Nat)(h:i<vs.length)(hs: ∀v∈vs,(aag v).length=s)(hu:(aag u).length=s):ovw (aak vs++rest) (i*s) (aag u)=aak (vs.set i u)++rest:=by
 have hl:=aar vs hs
 have hle:i*s+s≤vs.length*s:=by rw[←iW];exact bW _ h
 rw[acA _ _ _ (by rw[hu,aV];omega),hu,dW (by omega),iS (by omega),afK vs i hs (by omega),←iW,afP vs (i+1) hs h,
  List.set_eq_take_append_cons_drop,if_pos h,show vs.take i++u::vs.drop (i+1)=vs.take i++([u]++vs.drop (i+1)) from rfl,ace,ace,ajA]
 simp
def reF(ks:List Nat)(f:FV)(fr:FrF):FrF:=ks.map (fun k=>(k,f))++fr
end
end Go.Sx
end
section
namespace Go.Sx
open Go Go.Proofs Tryz
section
variable {GB:Gh} {C:Ctx} {n:Nat} {Q0:Exit→Act→World→Prop} {fr fr':FrX} {own own':OwX} {cf cf':Cf} {vc vc':List Prop} {ops:Array Oper} {r:List Oper} {o:Oper} {K:List Kt}
def arI(row:Bool)(nm:Nat)(l:List DV):FX→FX
 | .rw m=>bif Nat.beq m nm then(bif row then .d (.sl l) else .no) else .rw m
 | .ov m off=>bif Nat.beq m nm then(bif row then .no else(match off with
  |0=> .d (.pt l)
  |_+1=> .no)) else .ov m off
 | .be m s i j=>bif Nat.beq m nm then .no else .be m s i j
 | .rs m s i j=>bif Nat.beq m nm then .no else .rs m s i j
 | .bx tp pre m post=>bif Nat.beq m nm then(bif row then(match tp with
  |true=> .d (.tp (pre++ .sl l::post))
  |false=> .d (.ag (pre++ .sl l::post))) else .no) else .bx tp pre m post
 |f=>f
def fcX{α:Type}(f:FX)(k:FX→α):α:=match f with
 | .d x=>k (.d x)
 | .rw m=>k (.rw m)
 | .ov a b=>k (.ov a b)
 | .be a b c d=>k (.be a b c d)
 | .rs a b c d=>k (.rs a b c d)
 |f=>k f
theorem arh{α:Type}{f:FX}{k:FX→α}:fcX f k=k f:=by cases f<;>rfl
def aDi{α:Type}(row:Bool)(nm:Nat)(l:List DV):FrX→(FrX→α)→α
 |[],k=>k []
 |(j,f)::t,k=>aDi row nm l t fun t'=>fcX (arI row nm l f) fun f'=>k ((j,f')::t')
def aFn{α:Type}(row:Bool)(nm:Nat)(l:List DV):List FX→(List FX→α)→α
 |[],k=>k []
 |f::t,k=>aFn row nm l t fun t'=>fcX (arI row nm l f) fun f'=>k (f'::t')
def aCR{α:Type}(row:Bool)(nm:Nat)(l:List DV):OwX→(OwX→α)→α
 |[],k=>k []
 |(j,B)::t,k=>aCR row nm l t fun t'=>bif Nat.beq j nm then k ((j,none)::t') else match B with
  |some (.o ty cs lo)=>aFn row nm l cs fun cs'=>k ((j,some (.o ty cs' lo))::t')
  |B=>k ((j,B)::t')
def aob(row:Bool)(nm:Nat)(l:List DV):Option Bk→Option Bk
 |some (.o ty cs lo)=>some (.o ty (cs.map (arI row nm l)) lo)
 |B=>B
theorem au5{α:Type}{row:Bool}{nm:Nat}{l:List DV}: ∀{cs:List FX} {k:List FX→α},aFn row nm l cs k=k (cs.map (arI row nm l))
 |[],k=>rfl
 |f::t,k=>by simp only[aFn,arh];rw[au5];rfl
theorem ao6{α:Type}{row:Bool}{nm:Nat}{l:List DV}: ∀{fr:FrX} {k:FrX→α},aDi row nm l fr k=k (fr.map fun e=>(e.1,arI row nm l e.2))
 |[],k=>rfl
 |(j,f)::t,k=>by simp only[aDi,arh];rw[ao6];rfl
theorem aoH{α:Type}{row:Bool}{nm:Nat}{l:List DV}: ∀{own:OwX} {k:OwX→α},aCR row nm l own k=k (own.map fun e=>(e.1,bif Nat.beq e.1 nm then none else aob row nm l e.2))
 |[],k=>rfl
 |(j,B)::t,k=>by
  simp only[aCR,aoH (own:=t),cK]
  cases Nat.beq j nm with
  |true=>rfl
  |false=>
   cases B with
   |none=>rfl
   |some B=>cases B<;>simp only[cond_false,au5,aob]
theorem alG{g:FX→FX}: ∀{fr:FrX} {k:Nat},aav (fr.map fun e=>(e.1,g e.2)) k=(aav fr k).map g
 |[],k=>rfl
 |(j,f)::t,k=>by
  simp only[cK]
  rw[abe,abe,alG (fr:=t)]
  split<;>rfl
theorem amF{row:Bool}{nm:Nat}{l:List DV}: ∀{own:OwX} {k:Nat},aaz (own.map fun e=>(e.1,bif Nat.beq e.1 nm then none else aob row nm l e.2)) k=if k=nm then none else aob row nm l (aaz own k)
 |[],k=>by simp[aaz,aob]
 |(j,B)::t,k=>by
  simp only[cK]
  rw[aaF,aaF,amF (own:=t)]
  by_cases h:k=j
  ·subst h
   simp only[if_true]
   by_cases e:k=nm
   ·subst e;simp
   ·have:Nat.beq k nm=false:=by
     cases hb:Nat.beq k nm with
     |false=>rfl
     |true=>exact absurd (aT hb) e
    simp[this,e]
  ·simp[h]
structure FzR where
 fr:FrX
 own:OwX
def fzA(fr:FrX)(own:OwX)(nm:Nat):Option FzR:=match aaz own nm with
 |some (.b _ _ ds true)=>aDi true nm ds fr fun fr'=>aCR true nm ds own fun own'=>some ⟨fr',own'⟩
 |some (.o _ cs true)=>match aej cs with
  |some l=>aDi false nm l fr fun fr'=>aCR false nm l own fun own'=>some ⟨fr',own'⟩
  |none=>none
 |_=>none
theorem alT.of_mem{o:Own}: ∀{own:List Own},o∈own→ ∃own',alT own o own'∧ ∀x∈own,x.b≠o.b→x∈own'
 |[],h=>by cases h
 |x::t,h=>by
  rcases aU.1 h with rfl|h
  ·exact⟨t, .hd ..,fun y hy hb=>(aU.1 hy).elim (fun e=>absurd (by rw[e]) hb) id⟩
  ·obtain⟨own',h1,h2⟩:=alT.of_mem h
   exact⟨x::own', .tl _ _ _ _ h1,fun y hy hb=>(aU.1 hy).elim (fun e=>by rw[e];exact aZ) (fun e=>aJ _ (h2 y e hb))⟩
theorem auX{row:Bool}{nm:Nat}{l:List DV}{ρ:NE}{G G':Gh}{f:FX}{y:Value}(hg:GLe G G')(h:IsX ρ G f y)(hr:row=true→ ∀y,IsX ρ G (.rw nm) y→Is G' (.sl l) y)(ho:row=false→ ∀y,IsX ρ G (.ov nm 0) y→Is G' (.pt l) y):IsX ρ G' (arI row nm l f) y:=by
 cases f with
 |rw m=>
  simp only[arI]
  cases hb:Nat.beq m nm with
  |false=>exact h.up hg
  |true=>
   cases aT hb
   cases row with
   |true=>exact hr rfl y h
   |false=>trivial
 |ov m off=>
  simp only[arI]
  cases hb:Nat.beq m nm with
  |false=>exact h.up hg
  |true=>
   cases aT hb
   cases row with
   |true=>trivial
   |false=>cases off with
    |zero=>exact ho rfl y h
    |succ=>trivial
 |be m s i j=>
  simp only[arI]
  cases hb:Nat.beq m nm with
  |false=>exact h.up hg
  |true=>trivial
 |rs m s i j=>
  simp only[arI]
  cases hb:Nat.beq m nm with
  |false=>exact h.up hg
  |true=>trivial
 |bx tp pre m post=>
  simp only[arI]
  cases hb:Nat.beq m nm with
  |false=>exact h.up hg
  |true=>
   cases aT hb
   cases row with
   |false=>trivial
   |true=>
    obtain⟨m1,m2,e,h1,h2⟩:=h
    have hl:=(h1.up hg).app (.cons (hr rfl _ rfl) (h2.up hg))
    cases tp with
    |true=>exact adS.2 ⟨_,e,hl⟩
    |false=>exact abX.2 ⟨_,e,hl⟩
 |_=>exact h.up hg
theorem auo{row:Bool}{nm:Nat}{l:List DV}{ρ:NE}{G G':Gh}(hg:GLe G G')(hr:row=true→ ∀y,IsX ρ G (.rw nm) y→Is G' (.sl l) y)(ho:row=false→ ∀y,IsX ρ G (.ov nm 0) y→Is G' (.pt l) y): ∀{cs:List FX} {m:List Value},adR ρ G cs m→adR ρ G' (cs.map (arI row nm l)) m
 |[],m,h=>h
 |f::t,m,⟨y,q,e,h1,h2⟩=>⟨y,q,e,auX hg h1 hr ho,auo hg hr ho h2⟩
theorem RlX.frz{ρ:NE}{G G':Gh}{ov ov':List Own}{a:Act}{w:World}{row:Bool}{nm:Nat}{l:List DV}(h:RlX GB C n (aav fr) (aaz own) ρ G ov a w)(hg:GLe G G')(hh:ab5 C ov' G' w)(hv: ∀o∈ov,(ρ nm).a≠some ⟨o.b,0,none⟩→o∈ov'){B0:Bk}(hb:aaz own nm=some B0)
  (hr:row=true→ ∀y,IsX ρ G (.rw nm) y→Is G' (.sl l) y)(ho:row=false→ ∀y,IsX ρ G (.ov nm 0) y→Is G' (.pt l) y):
  RlX GB C n (aav (fr.map fun e=>(e.1,arI row nm l e.2))) (aaz (own.map fun e=>(e.1,bif Nat.beq e.1 nm then none else aob row nm l e.2))) ρ G' ov' a w:=by
 have inv: ∀m B,aaz (own.map fun e=>(e.1,bif Nat.beq e.1 nm then none else aob row nm l e.2)) m=some B→m≠nm∧ ∃B1,aaz own m=some B1∧aob row nm l (some B1)=some B:=fun m B e=>by
  rw[amF] at e
  split at e
  ·cases e
  ·rename_i hm
   refine⟨hm,?_⟩
   cases hl:aaz own m with
   |none=>rw[hl] at e;cases e
   |some B1=>rw[hl] at e;exact⟨B1,rfl,e⟩
 refine⟨h.gb.trans hg,hh,h.sz,h.df,fun k f e=>?_,fun m B e=>?_,fun m m' B B' e e'=>?_,h.fxd⟩
 ·rw[alG] at e
  cases hf:aav fr k with
  |none=>rw[hf] at e;cases e
  |some g=>
   rw[hf] at e;cases e
   obtain⟨y,h1,h2⟩:=h.fx k g hf
   exact⟨y,h1,auX hg h2 hr ho⟩
 ·obtain⟨hm,B1,h1,h2⟩:=inv m B e
  obtain⟨os,h3,h4⟩:=h.bx m B1 h1
  refine⟨os,?_,fun o ho'=>hv o (h4 o ho') fun hc=>h.dj m nm B1 B0 h1 hb hm _ (h3.blk ho') hc⟩
  cases B1 with
  |b=>cases h2;exact h3.up hg
  |c=>cases h2;exact h3.up hg
  |o ty cs lo=>cases h2;obtain⟨b,q,h5,h6,h7⟩:=h3;exact⟨b,q,h5,h6,auo hg hr ho h7⟩
 ·obtain⟨_,B1,h1,_⟩:=inv m B e
  obtain⟨_,B2,h2,_⟩:=inv m' B' e'
  exact h.dj m m' B1 B2 h1 h2
theorem RlX.frzRow{lk:LK}{bk:BM}{ρ:NE}{G:Gh}{ov:List Own}{a:Act}{w:World}{nm:Nat}{ty:TypeId}{s:Nat}{ds:List DV}(r:RlX GB C n lk bk ρ G ov a w)(hb:bk nm=some (.b ty s ds true)):
  ∃G' ov',GLe G G'∧ab5 C ov' G' w∧(∀o∈ov,(ρ nm).a≠some ⟨o.b,0,none⟩→o∈ov')∧ ∀y,IsX ρ G (.rw nm) y→Is G' (.sl ds) y:=by
 obtain⟨B,⟨vs,hB,hv,hs,hlo⟩,hBo⟩:=r.row (y:= .nilFunc) hb
 rcases hB with⟨e1,e2,e3⟩|⟨b,rest,lo',e2,e3,h5,h6,h7⟩
 ·subst e1
  have ed:ds=[]:=bS (by rw[←hv.len];rfl)
  subst ed
  simp only at e2
  refine⟨G,ov,GLe.refl _,r.h,fun o ho _=>ho,fun y hy=>?_⟩
  rw[show y=_ from hy,e2]
  exact adx.2 ⟨0,⟨none,0,0⟩,[],rfl, .nil G 0, .nil⟩
 ·subst e3
  have hl:=hlo rfl _ aZ
  simp only at hl;subst hl
  obtain⟨ov',o1,o2⟩:=alT.of_mem (hBo _ aZ)
  obtain⟨f1,f2⟩:=r.h.freeze o1
  simp only at e2
  refine⟨_,ov',f2,f1,fun o ho hne=>o2 o ho fun e=>hne (by rw[e2,e]),fun y hy=>?_⟩
  rw[show y=_ from hy,e2]
  exact adx.2 ⟨s,⟨some ⟨b,0,none⟩,vs.length,_⟩,vs,rfl,afs.of_flat hs (if_pos rfl) h7,hv.up f2⟩
theorem RlX.frzVar{lk:LK}{bk:BM}{ρ:NE}{G:Gh}{ov:List Own}{a:Act}{w:World}{nm:Nat}{ty:TypeId}{cs:List FX}{l:List DV}(r:RlX GB C n lk bk ρ G ov a w)(hb:bk nm=some (.o ty cs true))(hl:aej cs=some l):
  ∃G' ov',GLe G G'∧ab5 C ov' G' w∧(∀o∈ov,(ρ nm).a≠some ⟨o.b,0,none⟩→o∈ov')∧ ∀y,IsX ρ G (.ov nm 0) y→Is G' (.pt l) y:=by
 obtain⟨os,⟨b,m,h3,rfl,h4⟩,h5⟩:=r.bx _ _ hb
 obtain⟨ov',o1,o2⟩:=alT.of_mem (h5 _ aZ)
 obtain⟨f1,f2⟩:=r.h.freeze o1
 refine⟨_,ov',f2,f1,fun o ho hne=>o2 o ho fun e=>hne (by rw[h3,e]),fun y hy=>?_⟩
 obtain⟨b',h6,rfl⟩:=hy
 rw[h3] at h6;cases h6
 exact alO.2 ⟨b,m,rfl,if_pos rfl,(ac8 h4 hl).up f2⟩
theorem aud{nm:Nat}{Φ:Act→World→Prop}{R:FzR}(h:fzA fr own nm=some R)(hk:SX GB C n (aav R.fr) (aaz R.own) Φ):SX GB C n (aav fr) (aaz own) Φ:=by
 refine⟨fun ρ G ov a w r=>?_⟩
 unfold fzA at h
 split at h<;>try (cases h;done)
 ·rename_i ty s ds hb
  rw[ao6,aoH] at h;cases h
  obtain⟨G',ov',h1,h2,h3,h4⟩:=r.frzRow hb
  exact hk.run ρ G' ov' a w (r.frz (row:=true) h1 h2 h3 hb (fun _=>h4) (fun e=>by cases e))
 ·rename_i ty cs hb
  split at h<;>try (cases h;done)
  rename_i l hl
  rw[ao6,aoH] at h;cases h
  obtain⟨G',ov',h1,h2,h3,h4⟩:=r.frzVar hb hl
  exact hk.run ρ G' ov' a w (r.frz (row:=false) h1 h2 h3 hb (fun e=>by cases e) (fun _=>h4))
theorem fz[fu:Fu](nm:Nat){fr1:FrX}{own1:OwX}(h:fzA fr own nm=some ⟨fr1,own1⟩)(hgo:go tt n fu.n [] fr1 own1 (.ops ops r K)=⟨vc,fr',own',cf'⟩)(k:CfS prog GB C n Q0 fr' own' cf')(hv:aaj vc:=by first|exact trivial|(simp only[aaj];kernel_rfl)|(simp only[aaj];omega)|(simp only[aaj,aK,aN,aW];omega)):CfS prog GB C n Q0 fr own (.ops ops r K):=
 aud h (gx' hgo hv k)
theorem fzE(nm:Nat){fr1:FrX}{own1:OwX}{e:Exit}(h:fzA fr own nm=some ⟨fr1,own1⟩)(k:CfS prog GB C n Q0 fr1 own1 (.ex e K)):CfS prog GB C n Q0 fr own (.ex e K):=aud h k
theorem fzC(nm:Nat){fr1:FrX}{own1:OwX}{c:Code}(h:fzA fr own nm=some ⟨fr1,own1⟩)(k:CfS prog GB C n Q0 fr1 own1 (.code c K)):CfS prog GB C n Q0 fr own (.code c K):=aud h k
def leF:FrX→FrX→Prop
 |[],_=>True
 |(k,v)::t,fr=>aav fr k=some v∧leF t fr
def leO:OwX→OwX→Prop
 |[],_=>True
 |(k,v)::t,own=>aaz own k=v∧leO t own
theorem at5: ∀{f:FrX},leF f fr→alg (aav f) (aav fr)
 |[],_,k,x,h=>by cases h
 |(j,v)::t,h,k,x,e=>by
  rw[abe] at e
  split at e
  ·cases e;rename_i hk;rw[hk];exact h.1
  ·exact at5 h.2 k x e
theorem avy: ∀{f:OwX},leO f own→alg (aaz f) (aaz own)
 |[],_,k,x,h=>by cases h
 |(j,v)::t,h,k,x,e=>by
  rw[aaF] at e
  split at e
  ·rename_i hk;rw[hk,h.1,e]
  ·exact avy h.2 k x e
theorem leI{k:Nat}{q:IntKind}{a b:Int}(h:aav fr k=some (.d (.v (.int q a))))(e:a=b):aav fr k=some (.d (.v (.int q b))):=e▸h
def AtX(GB:Gh)(C:Ctx)(n:Nat){X:Type}(F:X→FrX)(O:X→OwX)(I:X→Prop)(a:Act)(w:World):Prop:=
 ∃x ρ G ov,I x∧RlX GB C n (aav (F x)) (aaz (O x)) ρ G ov a w
def aBk:List Oper→List Nat→List Nat
 |[],l=>l
 |o::r,l=>match o.dst with
  |some d=>d::aBk r l
  |none=>aBk r l
def ayY:Code→List Nat→List Nat
 | .region _ ops _,l=>aBk ops.toList l
 | .seq a b,l=>ayY a (ayY b l)
 | .cond _ a b,l=>ayY a (ayY b l)
 | .block _ a,l=>ayY a l
 | .loop a,l=>ayY a l
 | .scope a,l=>ayY a l
 |_,l=>l
def aAE{α:Type}:List Nat→FrX→(FrX→α)→α
 |_,[],k=>k []
 |l,(j,f)::t,k=>bif azl l j then aAE l t k else aAE (j::l) t fun t'=>k ((j,f)::t')
def axm{α:Type}:List Nat→OwX→(OwX→α)→α
 |_,[],k=>k []
 |l,(j,B)::t,k=>bif azl l j then axm l t k else match B with
  |some B=>axm l t fun t'=>k ((j,some B)::t')
  |none=>axm l t k
structure Kp where
 fr:FrX
 own:OwX
def keep(c:Code)(uf uo:List Nat)(fr:FrX)(own:OwX):Kp:=fcL (ayY c uo) fun m=>fcL (uf++m) fun m'=>aAE m' fr fun fr'=>axm m own fun own'=>⟨fr',own'⟩
theorem lp[fu:Fu]{c:Code}{X:Type}(U:X→FrX)(V:X→OwX)(I:X→Prop)(μ:X→Nat)(x0:X){kf:FrX}{ko:OwX}{cf':X→Cf}{fr':X→FrX}{own':X→OwX}{vc:X→List Prop}(hkp:keep c ((U x0).map (·.1)) ((V x0).map (·.1)) fr own=⟨kf,ko⟩)(hI:I x0)
  (hgo: ∀x,go tt n fu.n [] (U x++kf) (V x++ko) (.code c (.ag (AtX GB C n (fun y=>U y++kf) (fun y=>V y++ko) (fun y=>I y∧μ y<μ x))::K))=⟨vc x,fr' x,own' x,cf' x⟩)
  (round: ∀x,I x→CfS prog GB C n Q0 (fr' x) (own' x) (cf' x))(hF:leF (U x0++kf) fr:=by repeat (first|exact trivial|refine And.intro rfl ?_|refine And.intro (leI rfl (by first|omega|(dsimp only;omega))) ?_|refine And.intro (leI rfl (by simp)) ?_))(hO:leO (V x0++ko) own:=by repeat (first|exact trivial|refine And.intro rfl ?_))
  (hv: ∀x,I x→aaj (vc x):=by intros;first|exact trivial|(simp only[aaj];kernel_rfl)|(simp only[aaj];omega)|(simp only[aaj,aK,aN,aW];omega)):CfS prog GB C n Q0 fr own (.code (.loop c) K):=by
 refine⟨fun ρ G ov a w r=>?_⟩
 have r0:=r.mono (at5 hF) (avy hO)
 intro b k cs hro hb hrm
 have key: ∀m a w,(∃x ρ G ov,I x∧μ x=m∧RlX GB C n (aav (U x++kf)) (aaz (V x++ko)) ρ G ov a w)→
   ∃e a' w',cQ C.rd prog Q0 K e a' w'∧ArrivesIn (Machine.fenced prog (FW C.rd)) prog (lone (b.atR a (.code c:: .inLoop c::k)) cs w) b k cs e a' w':=by
  intro m
  induction m using Nat.strongRecOn with
  |_ m ih=>
   intro a w ⟨x,ρ,G,ov,hx,hm,hr⟩
   have h1:=gx' (GB:=GB) (C:=C) (Q0:=Q0) (hgo x) (hv x hx) (round x hx)
   obtain⟨e,a₁,w₁,hq,harr⟩:=h1.run ρ G ov a w hr b (.inLoop c::k) cs hro hb hrm
   cases e with
   |normal=>
    obtain⟨x',ρ',G',ov',⟨hx',hlt⟩,hr'⟩:=hq
    obtain⟨e₂,a₂,w₂,hq₂,harr₂⟩:=ih (μ x') (hm▸hlt) a₁ w₁ ⟨x',ρ',G',ov',hx',rfl,hr'⟩
    exact⟨e₂,a₂,w₂,hq₂, .of_steps (StepsIn.trans harr (.one (fenced_calm hb hrm rfl) stepR_inLoop)) harr₂⟩
   |exit id=>exact⟨_,a₁,w₁,hq, .pass (x:= .inLoop c) rfl (fun _ _=> .inl (by simp)) harr⟩
   |goto l=>exact⟨_,a₁,w₁,hq, .pass (x:= .inLoop c) rfl (fun _ _=> .inl (by simp)) harr⟩
   |ret=>exact⟨_,a₁,w₁,hq, .pass (x:= .inLoop c) rfl (fun _ _=> .inl (by simp)) harr⟩
   |panic ch=>exact⟨_,a₁,w₁,hq, .pass (x:= .inLoop c) rfl (fun _ _=> .inl (by simp)) harr⟩
   |outgrown=>exact⟨_,a₁,w₁,hq, .pass (x:= .inLoop c) rfl (fun _ _=> .inl (by simp)) harr⟩
 obtain⟨e,a',w',q,rr⟩:=key (μ x0) a w ⟨x0,ρ,G,ov,hI,rfl,r0⟩
 exact⟨e,a',w',q, .of_steps (.one (fenced_calm hb hrm rfl) stepR_loop) rr⟩
theorem at_{X:Type}{F:X→FrX}{O:X→OwX}{I:X→Prop}(x:X)(hI:I x)(hF:leF (F x) fr:=by repeat (first|exact trivial|refine And.intro rfl ?_|refine And.intro (leI rfl (by first|omega|(dsimp only;omega))) ?_|refine And.intro (leI rfl (by simp)) ?_))(hO:leO (O x) own:=by repeat (first|exact trivial|refine And.intro rfl ?_)):CfS prog GB C n Q0 fr own (.ex .normal (.ag (AtX GB C n F O I)::K)):=
 ⟨fun ρ G ov a w r=>⟨x,ρ,G,ov,hI,r.mono (at5 hF) (avy hO)⟩⟩
theorem mg[fu:Fu]{c d:Code}{X:Type}(U:X→FrX)(V:X→OwX)(I:X→Prop){kf:FrX}{ko:OwX}{cf':X→Cf}{fr':X→FrX}{own':X→OwX}{vc:X→List Prop}(u0 v0:List Nat)(hkp:keep c u0 v0 fr own=⟨kf,ko⟩)
  (h1:CfS prog GB C n Q0 fr own (.code c (.ag (AtX GB C n (fun y=>U y++kf) (fun y=>V y++ko) I)::K)))
  (hgo: ∀x,go tt n fu.n [] (U x++kf) (V x++ko) (.code d K)=⟨vc x,fr' x,own' x,cf' x⟩)(k: ∀x,I x→CfS prog GB C n Q0 (fr' x) (own' x) (cf' x))(hv: ∀x,I x→aaj (vc x):=by intros;first|exact trivial|(simp only[aaj];kernel_rfl)|(simp only[aaj];omega)|(simp only[aaj,aK,aN,aW];omega)):CfS prog GB C n Q0 fr own (.code c (.sq d::K)):=by
 refine SX.imp h1 fun a w h=>axQ h ?_
 intro e a w h
 cases e with
 |normal=>
  obtain⟨x,ρ,G,ov,hI,hr⟩:=h
  have:=gx' (GB:=GB) (C:=C) (Q0:=Q0) (hgo x) (hv x hI) (k x hI)
  exact this.run ρ G ov a w hr
 |_=>exact h
end
end Go.Sx
end
section
namespace Go.Sx
open Go
section
variable {P:Program} {ops:Array Oper} {Q:Exit→Act→World→Prop} {S:World→Prop} {π₂:List (Nat×Bool)}
abbrev aJh:Nat→Bool:=fun _=>false
def grS(S:World→Prop)(K:(World→Prop)→Act→World→Prop)(a:Act)(w:World):Prop:= ∃S':World→Prop,(∀w,S' w→S w)∧S' w∧K S' a w
def dwT(P:Program)(ops:Array Oper)(Q:Exit→Act→World→Prop)(K:(World→Prop)→Act→World→Prop):List Nat→List (Nat×Bool)→(World→Prop)→Act→World→Prop
 |[],[],S,a,w=>K S a w
 |k::ks,[],S,a,w=> ∀j,(h:j∈k::ks)→wpOp P ops Q j (grS S (dwT P ops Q K (without (k::ks) j) [])) a w
 |ks,(i,true)::r,S,a,w=> ∃o v,ops[i]? =some o∧S w∧YieldsIf P ops S o v a∧dwT P ops Q K ks r S (a.put o.dst v) w
 |ks,(i,false)::r,S,a,w=>wpOp P ops Q i (grS S (dwT P ops Q K ks r)) a w∧
   ∀j,(h:j∈ks)→wpOp P ops Q j (grS S (dwT P ops Q K (without ks j) ((i,false)::r))) a w
termination_by ks π=>ks.length+π.length
decreasing_by
 all_goals (first|(have:=ahu h;simp only[bY,fU] at*;omega)|(simp only[bY];omega))
def aJk(Q:Exit→Act→World→Prop):(World→Prop)→Act→World→Prop:=fun _ a w=>Q .normal a w
end
section
variable {P:Program} {GB:Gh} {C:Ctx} {n:Nat} {fr fr':FrF} {own own' own0 own1 own1':List adC} {bs bs0 bs1 bs1':List aen} {ops:Array Oper} {Q:Exit→Act→World→Prop} {fd:List FD} {π π₂:List (Nat×Bool)}
structure SR (GB:Gh) (C:Ctx) (n:Nat) (fr:FrF) (own0:List adC) (bs0:List aen) (own1:List adC) (bs1:List aen) (fd:List FD) (K:List Nat→(World→Prop)→Act→World→Prop):Prop where
 run: ∀G frv o0 o1,GLe GB G→aFk G fr frv→OB G own0 bs0 o0→OB G own1 bs1 o1→ ∀fs:Fs,St C n (frv++fFs fd fs) (o1++(o0++fOs fd fs)) G (K (aF2 fd fs) (HS C o0 G))
instance {GB:Gh} {C:Ctx} {n:Nat} {fr:FrF} {own0:List adC} {bs0:List aen} {own1:List adC} {bs1:List aen} {fd:List FD} {K:List Nat→(World→Prop)→Act→World→Prop}:CoeFun (SR GB C n fr own0 bs0 own1 bs1 fd K) (fun _=> ∀G frv o0 o1,GLe GB G→aFk G fr frv→OB G own0 bs0 o0→OB G own1 bs1 o1→ ∀fs:Fs,St C n (frv++fFs fd fs) (o1++(o0++fOs fd fs)) G (K (aF2 fd fs) (HS C o0 G))):=⟨SR.run⟩
abbrev dwK (P:Program) (ops:Array Oper) (Q:Exit→Act→World→Prop) (K:(World→Prop)→Act→World→Prop) (π:List (Nat×Bool)):List Nat→(World→Prop)→Act→World→Prop:=fun ks S=>dwT P ops (acG Q) K ks π S
def frB:List FD→List Nat→FrF
 |f::fd,b::bl=>(f.d, .d (.v (.pointer (some ⟨b,0,none⟩))))::frB fd bl
 |_,_=>[]
def owB:List FD→List (List DV)→List Nat→List adC
 |f::fd,c::cl,b::bl=>⟨b,c,f.t,true⟩::owB fd cl bl
 |_,_,_=>[]
def aHY:List FD→List (List DV)→Prop
 |f::fd,c::cl=>IsLs (fun _=>none) c (aag f.z)∧aHY fd cl
 |[],[]=>True
 |_,_=>False
end
def aIv{α:Type}(idx:List Nat)(l:List α):List α:=idx.filterMap (l[·]?)
section
variable {P:Program} {GB:Gh} {C:Ctx} {n:Nat} {E:Ext} {fr fr':FrF} {own own':List adC} {bs bs' bs1:List aen} {ops:Array Oper} {Q:Exit→Act→World→Prop} {r:List Oper} {Φ:Act→World→Prop}
variable {dst:Option Nat} {t t' ty':TypeId} {pos:String} {af:Array Edge} {gd:Option (Nat×Bool)} {x y z:Operand} {e s by_:Nat}
def PB(GB:Gh)(P:Program)(f:FuncId)(mk:SV→List DV)(s:Nat)(ty:TypeId)(dsi:List DV)(mkr:SV→DV)(dso:List DV):Prop:=
 ∀G w vs B,GLe GB G→abf G ⟨w,s,ty,dsi,false⟩ B→IsLs G (mk w) vs→FnO P f vs B G (fun v own' G'=> ∃w',Is G' (mkr w') v∧abf G' ⟨w',s,ty,dso,false⟩ own')
def aIy(fr:FrF):List Operand→Option (List DV)
 |[]=>some []
 |x::t=>match opF fr x,aIy fr t with
  |some (.d d),some l=>some (d::l)
  |_,_=>none
theorem abf.asB{G:Gh}{w:SV}{ty:TypeId}{ds:List DV}{lo:Bool}{B:List Own}(h:abf G ⟨w,s,ty,ds,lo⟩ B):abf G ⟨w,s,ty,ds,false⟩ (Sx.asB B):=by
 obtain⟨vs,h1,h2,h3,h4⟩:=h
 exact⟨vs,h1.asB,h2,h3,fun h=>by cases h⟩
theorem abf.weak{G:Gh}{w:SV}{ty:TypeId}{ds:List DV}{lo:Bool}{B:List Own}(h:abf G ⟨w,s,ty,ds,lo⟩ B):abf G ⟨w,s,ty,ds,false⟩ B:=by
 obtain⟨vs,h1,h2,h3,h4⟩:=h
 exact⟨vs,h1,h2,h3,fun h=>by cases h⟩
inductive RVX (fr:FrF):List ResultVar→List DV→Prop
 |nil:RVX fr [] []
 |tmp {t:Nat} {v:DV} {rs:List ResultVar} {vs:List DV} (h:ao8 fr t=some (.d v)) (k:RVX fr rs vs):RVX fr (.tmp t::rs) (v::vs)
end
section
variable {P:Program} {GB:Gh} {C:Ctx} {n:Nat} {E:Ext} {fr fr':FrF} {own own':List adC} {bs bs' bs1:List aen} {ops:Array Oper} {Q:Exit→Act→World→Prop} {r:List Oper} {Φ:Act→World→Prop}
variable {dst:Option Nat} {t t' ty':TypeId} {pos:String} {af:Array Edge} {gd:Option (Nat×Bool)} {x y z:Operand} {e s by_:Nat}
def PX(GB:Gh)(P:Program)(f:FuncId)(ds:List DV)(ι:Type)(r:ι→DV):Prop:=
 ∀G vs,GLe GB G→IsLs G ds vs→Fn P f vs G (fun v G'=> ∃x,Is G' (r x) v)
def PMX(GB:Gh)(P:Program)(f:FuncId)(ds:List DV)(b:Nat)(ty:TypeId)(cs:List DV)(ι:Type)(r:ι→DV)(cs':ι→List DV):Prop:=
 ∀G vs m lo,GLe GB G→IsLs G ds vs→IsLs G cs m→FnM P f vs [⟨b,m,ty,lo⟩] G (fun v css G'=> ∃x,Is G' (r x) v∧ ∃m',css=[m']∧IsLs G' (cs' x) m')
def PN(GB:Gh)(P:Program)(f:FuncId)(ds:List DV)(ty:TypeId)(ι:Type)(cs:ι→List DV):Prop:=
 ∀G vs,GLe GB G→IsLs G ds vs→FnO P f vs [] G (fun v own' G'=> ∃x b m,v= .pointer (some ⟨b,0,none⟩)∧own'=[⟨b,m,ty,true⟩]∧IsLs G' (cs x) m)
inductive OSp:List adC→Nat→List DV→TypeId→Bool→List adC→List adC→Prop
 |hd (b:Nat) (cs:List DV) (ty:TypeId) (lo:Bool) (t:List adC):OSp (⟨b,cs,ty,lo⟩::t) b cs ty lo [] t
 |tl (o:adC) (t:List adC) (b:Nat) (cs:List DV) (ty:TypeId) (lo:Bool) (L R:List adC) (h:OSp t b cs ty lo L R):OSp (o::t) b cs ty lo (o::L) R
end
section
variable {P:Program} {GB:Gh} {C:Ctx} {n:Nat} {fr:FrF} {own:List adC} {bs:List aen}
def PMR(GB:Gh)(P:Program)(f:FuncId)(ds:List DV)(b:Nat)(ty:TypeId)(cs:List DV)(s:Nat)(ty2:TypeId)(ι:Type)(rows:ι→List DV)(cs':ι→List DV):Prop:=
 ∀G vs m lo,GLe GB G→IsLs G ds vs→IsLs G cs m→FnO P f vs [⟨b,m,ty,lo⟩] G (fun v own' G'=> ∃x w m' B,v= .slice w.a w.n w.c∧own'=⟨b,m',ty,false⟩::B∧IsLs G' (cs' x) m'∧abf G' ⟨w,s,ty2,rows x,true⟩ B∧ ∀o∈B,b≠o.b)
variable {dst:Option Nat} {t t' ty':TypeId} {pos:String} {af:Array Edge} {gd:Option (Nat×Bool)} {x y z:Operand}
theorem auj{fr:Fr}{own:List Own}{G:Gh}{fn:Func}{K:Value→List Own→Gh→Prop}{vs:List Value}(hr:RVs P fr own fn.results.toList vs)(own2 own3:List Own)(hp:own.Perm own2)(hs:own3.Sublist own2)(hk:own3.Pairwise (fun x y=>x.b≠y.b)→K (ab0 vs) own3 G):St C n fr own G (adi C P fn (ahg C K) .ret):=
 fun a w rl hmk=>⟨rl.df.trans hmk,_,adI hr rl.fr rl.h,_,own3,G,rfl,(rl.h.perm hp).drop hs,hk ((rl.h.perm hp).drop hs).nd⟩
variable {e s by_:Nat}
theorem atm{G:Gh}{l:List DV}{w:SV}{es:List Value}{s' nhi mx':Nat}(hsl:afs G s' w es)(hl:IsLs G l es)(ho:adn s l)(h2:nhi≤l.length)(hm1:nhi≤mx')(hm2:mx'≤w.c):Is G (.sl (l.take nhi)) (.slice w.a nhi mx'):=by
 have hn:=hsl.len
 have hcap:=hsl.cap
 have hll:=hl.len
 have e9: ∀s,aoA w.a w.n w.c 0 nhi mx' s= .slice w.a nhi mx':=by
  intro s
  unfold aoA
  cases w.a with
  |none=>simp
  |some ad=>simp[Addr.add]
 rcases afy hsl hl ho with he|he
 ·subst he
  have:l=[]:=bS (by rw[←hll];rfl)
  subst this
  have e1:nhi=0:=by simp at h2;exact h2
  subst e1
  refine adx.2 ⟨s,⟨_,0,mx'⟩,[],rfl,⟨rfl,bX _, .inl rfl⟩,by simpa using IsLs.nil⟩
 ·subst he
  have k:=hsl.sub 0 nhi mx' (bX _) (by omega) hm1 hm2
  have k2:=adx.2 ⟨s',⟨_,_,_⟩,_,rfl,k,(hl.take nhi).drop 0⟩
  rw[iX] at k2
  have e:=e9 s'
  unfold aoA at e
  revert k2
  simp only[] at*
  intro k2
  first|exact e▸k2|(simp at e k2⊢;first|exact k2|(cases hw:w.a<;>simp_all [Addr.add]))
end
end Go.Sx
end
section
namespace Go.Sx
open Go Go.Proofs
section
variable {P:Program} {T:TT} {GB:Gh} {C:Ctx} {n:Nat} {lk:LK} {bk:BM} {ρ:NE} {G:Gh} {ov:List Own} {a:Act} {w:World}
variable {dst:Option Nat} {t t' ty':TypeId} {pos:String} {af:Array Edge} {gd:Option (Nat×Bool)} {x y:Operand} {e s by_:Nat}
theorem aEw[hT:acJ P t e s by_]{k:IntKind}{l:List DV}{d:DV}{i:Int}(hx:evD lk x=some (.sl l))(hy:evX lk y=some (.d (.v (.int k i))))(h0:0≤i)(he:l[i.toNat]? =some d)(hd:(d.okc&&Nat.beq d.cells.length s)=true):
  OpR P GB C n lk bk ⟨dst, .indexAddr t x y,ty',pos,af,gd⟩ (.ep d.cells) [] []:= .yd fun ρ G ov a w r=>by
 simp only[cX] at hd
 obtain⟨hd,hs⟩:=hd
 obtain⟨u,h1,h2⟩:=r.evD hx
 obtain⟨q,g1,g2⟩:=r.ev hy
 rw[aaw] at g2;subst g2
 obtain⟨s',z,es,rfl,hsl,hl⟩:=adx.1 h2
 obtain⟨v,h3,h4⟩:=hl.get he
 obtain⟨h5,h6⟩:=aL.1 h3
 have hc:=(h4.cells hd).1.len
 replace hs:=aT hs
 rcases hsl.mem with h|⟨b,off,cs,ha,hg,hcs⟩
 ·rw[h] at h5;simp at h5
 ·have h7:=hcs i.toNat h5
  rw[h6] at h7
  have h8:=agR h7
  have:s'=s:=by omega
  subst this
  rw[ha] at h1
  have hn:=hsl.len
  refine⟨.pointer (some ⟨b,off+i.toNat*s',none⟩),⟨b,_,cs,aag v,rfl,hg,?_,(h4.cells hd).1⟩,ahj h1 g1 h0 (by omega)⟩
  rw[←hc,h8]
  exact h7
def ldE(ag:Option Nat)(cs:List DV)(j:Nat):Option DV:=match ag with
 |some k=>match takeD cs j k with
  |some l=>some (.ag l)
  |none=>none
 |none=>cs[j]?
theorem aD3{i:TI}{ag:Option Nat}{nm sz k j:Nat}{ty:TypeId}{ds:List DV}{lo:Bool}{d c:DV}(hi:afC P t=some i)(ha:i.ag=some ag)(hx:evX lk x=some (.be nm sz k j))(hb:bk nm=some (.b ty sz ds lo))(he:ds[k]? =some d)(hd:d.okc=true)(hl:ldE ag d.cells j=some c):
  OpR P GB C n lk bk ⟨dst, .load t x,ty',pos,af,gd⟩ (.d c) [] []:= .x1 hx fun ρ G ov a w y _ r h1 h2=>by
 obtain⟨b,hwb,rfl⟩:=h2
 obtain⟨B,hB,hmem⟩:=r.row (y:= .nilFunc) hb
 obtain⟨b',m,rest,lo',l0,e1,rfl,h3,h4⟩:=hB.elem he hd
 simp only[] at e1 h3
 rw[hwb] at e1;cases e1
 have oat:OAt ov b (m++rest) ty lo':=⟨hmem _ aZ⟩
 cases ag with
 |some k'=>
  have:=akl hi ha
  simp only[ldE] at hl
  split at hl<;>cases hl
  rename_i hl
  obtain⟨l',h5,h6⟩:=h4.takeD hl
  exact⟨.agg ⟨l'⟩,abX.2 ⟨l',rfl,h6⟩,ae5 h1 (aoe h3 h5)⟩
 |none=>
  have:=ajB hi ha
  simp only[ldE] at hl
  obtain⟨l',h5,h6⟩:=h4.get hl
  have hj:j<sz:=by
   have:=agR h3
   have h7:=(aL.1 h5).1
   omega
  exact⟨l',h6,aaC h1 (by rw[ah1 h3 hj];exact h5)⟩
theorem abf.toBk{nm:Nat}{s:Nat}{ty:TypeId}{ds:List DV}{lo:Bool}{B:List Own}{x:SV}(h:abf G ⟨x,s,ty,ds,lo⟩ B)(e:ρ nm=x):an4 ρ G nm (.b ty s ds lo) B:=by
 obtain⟨vs,h1,h2,h3,h4⟩:=h
 exact⟨vs,by rw[e];exact h1,h2,h3,h4⟩
theorem RlX.newRow(r:RlX GB C n lk bk ρ G ov a w){d:Nat}{z:SV}{ty:TypeId}{s:Nat}{ds:List DV}{B ov':List Own}{K:Act→World→Prop}{a':Act}{w':World}(hf:acK [d] (some d) lk bk)(hB:abf G ⟨z,s,ty,ds,true⟩ B)(hos: ∀o∈B,o∈ov')
  (hov: ∀m B',m≠d→bk m=some B'→ ∀o∈ov,(ρ m).a=some ⟨o.b,0,none⟩→o∈ov'∧z.a≠some ⟨o.b,0,none⟩)
  (hk:SX GB C n (upL lk (some d) (.rw d)) (Sx.upB bk [(d,some (.b ty s ds true))]) K)(rl:Rel C n (Sx.put (frA a) (some d) (.slice z.a z.n z.c)) ov' G a' w'):K a' w':=
 hk.run _ _ _ a' w' (r.new' (x:=z) (f:= .rw d) (y:= .slice z.a z.n z.c) hf (GLe.refl _) rl.h (hB.toBk (by simp)) hos hov (by show _=_;simp) (abk rl))
def zeE(i:TI):Option DV:=match i.z with
 |some z=>match aej z with
  |some zs=>bif i.za then(bif zs.all DV.flat then some (.ag zs) else none) else(match zs with
   |[d]=>bif d.flat then some d else none
   |_=>none)
  |none=>none
 |none=>none
theorem ao1{d:DV}(h:d.flat=true):d.cells=[d]∧d.okc=true:=by
 cases d<;>first|exact⟨rfl,h⟩|cases h
theorem ajy{i:TI}{d:DV}(hi:afC P e=some i)(h:zeE i=some d): ∃v,TyZ P e v∧(∀G,Is G d v)∧d.okc=true:=by
 obtain⟨j,hj,hij⟩:=adU hi
 unfold zeE at h
 split at h<;>try (cases h;done)
 rename_i z hz
 split at h<;>try (cases h;done)
 rename_i zs hzs
 obtain⟨v,h1,h2⟩:=alQ hi hz
 have h3: ∀G,IsLs G zs (aag v):=fun G=>ac8 (h2 (fun _=>⟨none,0,0⟩) G) hzs
 have hzv:j.zero=some v:=by have:=h1.inf;rw[hj] at this;simpa using this
 have hza:i.za=aFP (some v):=by rw[hij,←hzv]
 cases hb:i.za with
 |true=>
  rw[hb] at h hza
  cases hc:zs.all DV.flat with
  |false=>rw[hc] at h;cases h
  |true=>
   rw[hc] at h;cases h
   cases v<;>first|(cases hza;done)|skip
   rename_i cs
   exact⟨_,h1,fun G=>abX.2 ⟨cs.toList,by simp,h3 G⟩,hc⟩
 |false=>
  rw[hb,cond_false] at h
  rw[hb] at hza
  split at h<;>try (cases h;done)
  rename_i u
  cases hc:u.flat with
  |false=>rw[hc] at h;cases h
  |true=>
   rw[hc] at h;cases h
   have hv:aag v=[v]:=by cases v<;>first|rfl|(cases hza;done)
   refine⟨v,h1,fun G=>?_,(ao1 hc).2⟩
   have:=h3 G
   rw[hv] at this
   exact this.uncons.1
theorem aCj{d:Nat}{i:TI}{z:DV}{k k':IntKind}{l:Int}{ds:List DV}[hT:acJ P t e s by_](hi:afC P e=some i)(hz:zeE i=some z)(hs:Nat.beq z.cells.length s=true)(hx:evX lk x=some (.d (.v (.int k l))))(hy:evX lk y=some (.d (.v (.int k' l))))(h0:0≤l)(hb:by_*l≤140737488355328)(hl:l≤1152921504606846976)(hds:List.replicate l.toNat z=ds):
  OpR P GB C n lk bk ⟨some d, .makeSlice t x y,ty',pos,af,gd⟩ (.rw d) [(d,some (.b e s ds true))] [d]:=by
 intro hd tl tb K s1 s2 hf hk
 refine⟨fun ρ G ov a w r Q=>?_⟩
 subst hds
 obtain⟨v,hz1,hz2,hz3⟩:=ajy hi hz
 obtain⟨q1,p1,p2⟩:=(r.mono s1 s2).ev hx
 obtain⟨q2,p3,p4⟩:=(r.mono s1 s2).ev hy
 rw[aaw] at p2 p4;subst p2 p4
 have c1:=((hz2 G).cells hz3).1.len
 replace hs:=aT hs
 have e1: ∀u∈List.replicate l.toNat v,(aag u).length=s:=fun u hu=>by rw[lU hu,c1,hs]
 refine ae0 p1 p3 h0 hb hl (by rw[c1,hs]) hd (fun b a' w' rl=>?_) a w Q ⟨r.h,r.sz,aaN a,r.df⟩
 have hnd:=(bR.1 rl.h.nd).1
 refine r.newRow (z:=⟨some ⟨b,0,none⟩,l.toNat,l.toNat⟩) (B:=[⟨b,abo v l.toNat,e,true⟩]) hf ⟨List.replicate l.toNat v, .inr ⟨b,[],true,by simp,by rw[aiX,lM],aar _ e1,by rw[aar _ e1];simp,by simp⟩,ahb (hz2 G) _,e1,fun _ o ho=>by rw[aY.1 ho]⟩
  (fun o ho=>by rw[aY.1 ho];exact aZ) (fun m B' _ _ o ho _=>⟨aJ _ ho,fun e'=>?_⟩) hk rl
 cases e';exact hnd o ho rfl
def aAo(lk:LK):Nat→List (Nat×Operand)→Option (List DV)
 |_,[]=>some []
 |j,(i,x)::r=>match evD lk x,aAo lk (j+1) r with
  |some d,some l=>bif Nat.beq i j then some (d::l) else none
  |_,_=>none
theorem am5(r:RlX GB C n lk bk ρ G ov a w){zv:Value}(hz:(aag zv).length=s): ∀(ps:List (Nat×Operand)) (j:Nat) (pre:List Value) (ds:List DV),aAo lk j ps=some ds→pre.length=j*s→(∀d∈ds,d.okc=true∧d.cells.length=s)→
  ∃vs,ayP (frA a) s (pre++abo zv ps.length) ps=some (pre++aak vs)∧IsLs G ds vs∧(∀v∈vs,(aag v).length=s)∧vs.length=ps.length
 |[],j,pre,ds,e,hp,hd=>by
  simp only[aAo] at e;cases e
  exact⟨[],by simp[ayP,abo,aak], .nil,by simp,rfl⟩
 |(i,x)::ps,j,pre,ds,e,hp,hd=>by
  simp only[aAo] at e
  split at e
  ·rename_i d l hx hl
   cases hb:Nat.beq i j with
   |false=>rw[hb] at e;cases e
   |true=>
    rw[hb] at e
    cases e
    have:=aT hb
    subst this
    obtain⟨y,hy,hy'⟩:=r.evD hx
    obtain⟨k1,k2⟩:=hd d aZ
    have c1:=(hy'.cells k1).1.len
    have hov:ovw (pre++abo zv (ps.length+1)) (i*s) (aag y)=(pre++aag y)++abo zv ps.length:=by
     rw[arp,←hp,avA _ _ _ _ (by rw[c1,k2,hz]),fT]
    obtain⟨vs,h1,h2,h3,h4⟩:=am5 r hz ps (i+1) (pre++aag y) l hl (by rw[aV,c1,k2,hp,iW]) (fun d hd'=>hd d (aJ _ hd'))
    refine⟨y::vs,?_, .cons hy' h2,fun v hv=>?_,by simp[h4]⟩
    ·simp only[ayP,hy,bY]
     rw[if_pos ⟨by rw[c1,k2],by rw[aV,abP,hz,hp,iW];omega⟩,hov,h1]
     simp[aak]
    ·rcases aU.1 hv with rfl|hv
     ·rw[c1,k2]
     ·exact h3 v hv
  ·cases e
theorem aDV{d:Nat}{i:TI}{z:DV}{len:Nat}{parts:Array (Nat×Operand)}{ds:List DV}[hT:acJ P t e s by_](hi:afC P e=some i)(hz:zeE i=some z)(hs:Nat.beq z.cells.length s=true)(hb:aAo lk 0 parts.toList=some ds)(hok:ax9 s ds=true)(hlen:Nat.beq parts.toList.length len=true)(hsm:Nat.ble (len*s) 1000=true)(hs0:Nat.blt 0 (len*s)=true):
  OpR P GB C n lk bk ⟨some d, .buildSlice t len parts,ty',pos,af,gd⟩ (.rw d) [(d,some (.b e s ds true))] [d]:=by
 intro hd tl tb K s1 s2 hf hk
 refine⟨fun ρ G ov a w r Q=>?_⟩
 obtain⟨v,hz1,hz2,hz3⟩:=ajy hi hz
 have c1:=((hz2 G).cells hz3).1.len
 replace hs:=aT hs
 have hlen':=aT hlen
 obtain⟨vs,h1,h2,h3,h4⟩:=am5 (r.mono s1 s2) (s:=s) (zv:=v) (by rw[c1,hs]) parts.toList 0 [] ds hb (by simp) (ahG hok)
 rw[lJ,lJ] at h1
 refine alp (z:=v) (out:=aak vs) (by rw[c1,hs]) (by rw[←hlen'];exact h1) hsm hs0 hd (fun b a' w' rl=>?_) a w Q ⟨r.h,r.sz,aaN a,r.df⟩
 have hnd:=(bR.1 rl.h.nd).1
 have hvl:vs.length=len:=by rw[h4,hlen']
 refine r.newRow (z:=⟨some ⟨b,0,none⟩,len,len⟩) (B:=[⟨b,aak vs,e,true⟩]) hf ⟨vs, .inr ⟨b,[],true,by rw[hvl],by rw[lM],aar _ h3,by rw[aar _ h3,hvl];simp,by rw[hvl];exact aM _⟩,h2,h3,fun _ o ho=>by rw[aY.1 ho]⟩
  (fun o ho=>by rw[aY.1 ho];exact aZ) (fun m B' _ _ o ho _=>⟨aJ _ ho,fun e'=>?_⟩) hk rl
 cases e';exact hnd o ho rfl
theorem aAL{d:Nat}[hT:acJ P t e s by_]:OpR P GB C n lk bk ⟨some d, .buildSlice t 0 #[],ty',pos,af,gd⟩ (.rw d) [(d,some (.b e s [] true))] [d]:=by
 intro hd tl tb K s1 s2 hf hk
 refine⟨fun ρ G ov a w r Q=>?_⟩
 refine anf hd (fun b a' w' rl=>?_) a w Q ⟨r.h,r.sz,aaN a,r.df⟩
 have hnd:=(bR.1 rl.h.nd).1
 refine r.newRow (z:=⟨some ⟨b,0,none⟩,0,0⟩) (B:=[⟨b,[],e,true⟩]) hf ⟨[], .inr ⟨b,[],true,rfl,by simp[aak],by simp[aak],by simp[aak],by simp⟩, .nil,by simp,fun _ o ho=>by rw[aY.1 ho]⟩
  (fun o ho=>by rw[aY.1 ho];exact aZ) (fun m B' _ _ o ho _=>⟨aJ _ ho,fun e'=>?_⟩) hk rl
 cases e';exact hnd o ho rfl
theorem OpR.frz{o:Oper}{d:Nat}{B:Bk}{f:FX}{v:DV}(hd:o.dst=some d)(h:OpR P GB C n lk bk o f [(d,some B)] [d])
  (hz: ∀lk bk ρ G ov a w,RlX GB C n lk bk ρ G ov a w→bk d=some B→ ∃G' ov',GLe G G'∧ab5 C ov' G' w∧(∀o∈ov,(ρ d).a≠some ⟨o.b,0,none⟩→o∈ov')∧ ∀y,IsX ρ G f y→Is G' v y):OpR P GB C n lk bk o (.d v) [(d,none)] [d]:=by
 intro hd' tl tb K s1 s2 hf hk
 refine h hd' tl tb K s1 s2 hf ?_
 rw[hd] at hk⊢
 refine⟨fun ρ G ov a w r=>?_⟩
 have hbd:Sx.upB tb [(d,some B)] d=some B:=by simp[Sx.upB]
 obtain⟨G',ov',h1,h2,h3,h4⟩:=hz _ _ ρ G ov a w r hbd
 refine hk.run ρ G' ov' a w ⟨r.gb.trans h1,h2,r.sz,r.df,fun k g e=>?_,fun m B' e=>?_,fun m m' B1 B2 e e'=>?_,r.fxd⟩
 ·by_cases hk:k=d
  ·subst hk
   simp only[upL,if_true] at e;cases e
   obtain⟨y,g1,g2⟩:=r.fx k f (by simp[upL])
   exact⟨y,g1,h4 y g2⟩
  ·simp only[upL,hk,if_false] at e
   obtain⟨y,g1,g2⟩:=r.fx k g (by simp[upL,hk,e])
   exact⟨y,g1,g2.up h1⟩
 ·simp only[Sx.upB] at e
  split at e
  ·cases e
  ·rename_i hm
   have e':Sx.upB tb [(d,some B)] m=some B':=by simp[Sx.upB,hm,e]
   obtain⟨os,g1,g2⟩:=r.bx m B' e'
   exact⟨os,g1.up h1,fun o ho=>h3 o (g2 o ho) fun hc=>r.dj m d B' B e' hbd hm _ (g1.blk ho) hc⟩
 ·simp only[Sx.upB] at e e'
  split at e
  ·cases e
  ·rename_i hm
   split at e'
   ·cases e'
   ·rename_i hm'
    exact r.dj m m' B1 B2 (by simp[Sx.upB,hm,e]) (by simp[Sx.upB,hm',e'])
theorem OpR.frzRow{o:Oper}{d:Nat}{ty:TypeId}{s:Nat}{ds:List DV}(hd:o.dst=some d)(h:OpR P GB C n lk bk o (.rw d) [(d,some (.b ty s ds true))] [d]):OpR P GB C n lk bk o (.d (.sl ds)) [(d,none)] [d]:=
 h.frz hd fun _ _ _ _ _ _ _ r hb=>r.frzRow hb
theorem aAK{d:Nat}{f:FX}{l:List DV}(e:evX lk x=some f)(hc:f.okc=true)(hn:aCB f d=true)(hl:aej f.cells=some l):OpR P GB C n lk bk ⟨some d, .box t x,ty',pos,af,gd⟩ (.d (.pt l)) [(d,none)] [d]:=
 (ayF e hc hn).frz rfl fun _ _ _ _ _ _ _ r hb=>r.frzVar hb hl
def at6(lk:LK)(bk:BM)(s:Nat)(y:Operand):Option (List DV):=match evX lk y with
 |some (.rw nm)=>match bk nm with
  |some (.b _ s' ds _)=>bif Nat.beq s' s then some ds else none
  |_=>none
 |some f=>match aks f with
  |some (.sl l)=>some l
  |_=>none
 |none=>none
theorem amY{ds:List DV}(r:RlX GB C n lk bk ρ G ov a w)(h:at6 lk bk s y=some ds)(hk:adn s ds):
  ∃(z:SV) (vs:List Value),opv (frA a) y=some (.slice z.a z.n z.c)∧z.n=vs.length∧IsLs G ds vs∧(∀v∈vs,(aag v).length=s)∧(∀v∈aak vs,Sx.flat v=true)∧Src P C ov G s z.n (.slice z.a z.n z.c) (aak vs):=by
 have hfl: ∀vs:List Value,IsLs G ds vs→(∀v∈vs,(aag v).length=s)∧ ∀v∈aak vs,Sx.flat v=true:=by
  intro vs hl
  refine⟨fun v hv=>?_,fun v hv=>?_⟩
  ·obtain⟨d,hd,h3⟩:=hl.all v hv
   obtain⟨k1,k2⟩:=hk d hd
   rw[(h3.cells k1).1.len,k2]
  ·simp only[aak,List.mem_flatten,bJ] at hv
   obtain⟨l,⟨u,hu,rfl⟩,hv⟩:=hv
   obtain⟨d,hd,h3⟩:=hl.all u hu
   exact(h3.cells (hk d hd).1).2 v hv
 unfold at6 at h
 split at h
 ·rename_i nm hy
  split at h<;>try (cases h;done)
  rename_i ty s' ds' lo hb
  cases hs:Nat.beq s' s with
  |false=>rw[hs] at h;cases h
  |true=>
   rw[hs] at h;cases h
   cases aT hs
   obtain⟨u,h1,h2⟩:=r.ev hy
   cases h2
   obtain⟨B,⟨vs,hB,hv,hs,_⟩,hmem⟩:=r.row (y:= .nilFunc) hb
   obtain⟨f1,f2⟩:=hfl _ hv
   refine⟨ρ nm,vs,h1,hB.len,hv,f1,f2,?_⟩
   rcases hB with⟨e1,e2,e3⟩|⟨b,rest,lo',h3,h4,h5,h6,h7⟩
   ·simp only[] at e2
    subst e1
    rw[e2]
    exact aeY
   ·simp only[] at h3 h4 h5 h6 h7
    have oat:OAt ov b (aak vs++rest) ty lo':=⟨hmem _ (by rw[h4];exact aZ)⟩
    rw[show(ρ nm).a=some ⟨b,0,none⟩ by rw[h3],show(ρ nm).n=vs.length by rw[h3]]
    refine aiV oat ?_
    rw[abN _ _ _ (by rw[aV];omega),iX,dW (by omega),aR (by omega)]
 ·rename_i f _ hy
  split at h<;>cases h
  rename_i hd
  obtain⟨u,h3,h4⟩:=r.ev hy
  obtain⟨s',z,es,rfl,hsl,hl⟩:=adx.1 (acE h4 hd)
  obtain⟨f1,f2⟩:=hfl _ hl
  refine⟨z,es,h3,hsl.len,hl,f1,f2,?_⟩
  rcases afy hsl hl hk with he|he
  ·subst he
   rw[hsl.len]
   exact aeY
  ·subst he;exact aDT hsl
 ·cases h
theorem aCq{d nm:Nat}{i:TI}{z:DV}{ds ds2:List DV}[hT:acJ P t e s by_][hN:TyN P t'](hi:afC P e=some i)(hz:zeE i=some z)(hs:Nat.beq z.cells.length s=true)(hx:evX lk x=some (.rw nm))(hb:bk nm=some (.b e s ds true))(hy:at6 lk bk s y=some ds2)(hk2:adn s ds2)
  (hby:Nat.blt 0 by_=true)(hbd:(ds.length+ds2.length)*by_≤140737488355328)(hnd:Nat.beq nm d=false){ds':List DV}(hds:ds++ds2=ds'):
  OpR P GB C n lk bk ⟨some d, .call ⟨.builtin .append, #[x,y], #[t,t']⟩,ty',pos,af,gd⟩ (.rw d) [(nm,none),(d,some (.b e s ds' true))] [d]:=by
 intro hd tl tb K s1 s2 hf hk
 refine⟨fun ρ G ov a w r Q=>?_⟩
 subst hds
 have r1:=r.mono s1 s2
 obtain⟨v,hz1,hz2,hz3⟩:=ajy hi hz
 have cz:=((hz2 G).cells hz3).1.len
 replace hs:=aT hs
 rw[mL] at hby
 have hne:nm≠d:=fun e=>by subst e;simp at hnd
 obtain⟨u,hx',hx2⟩:=r1.ev hx
 cases hx2
 obtain⟨B,⟨vs,hB,hv,hvs,hlo⟩,hBo⟩:=r1.row (y:= .nilFunc) hb
 simp only[] at hB hv hvs
 obtain⟨w2,us,hy',h2,h3,h4,h5,h6⟩:=amY (P:=P) r1 hy hk2
 have hus:(aak us).length=us.length*s:=aar us h4
 have hbd':(vs.length+us.length)*by_≤140737488355328:=by rw[hv.len,h3.len];exact hbd
 have hall: ∀v∈vs++us,(aag v).length=s:=fun v hv=>by
  rcases bZ.1 hv with hv|hv
  ·exact hvs v hv
  ·exact h4 v hv
 have rd:=r.dropB nm
 have hf':acK [d] (some d) tl (Sx.upB tb [(nm,none)]):=fun m hm=>by
  obtain⟨g1,g2⟩:=hf m hm
  refine⟨g1,fun k B' hk e=>g2 k B' hk ?_⟩
  simp only[Sx.upB] at e
  split at e
  ·cases e
  ·exact e
 have hbk: ∀m B',(Sx.upB tb [(nm,none)]) m=some B'→m≠nm∧tb m=some B':=fun m B' e=>by
  simp only[Sx.upB] at e
  split at e
  ·cases e
  ·exact⟨by assumption,e⟩
 have hfin: ∀(b:Nat) (cap':Nat) (rest':List Value) (ov1:List Own) a' w',vs.length+us.length≤cap'→rest'.length+(vs.length+us.length)*s=cap'*s→(∀o∈ov,(ρ nm).a≠some ⟨o.b,0,none⟩→o∈ov1)→
   Rel C n (put (frA a) (some d) (.slice (some ⟨b,0,none⟩) (vs.length+us.length) cap')) (⟨b,aak (vs++us)++rest',e,true⟩::ov1) G a' w'→K a' w':=by
  intro b cap' rest' ov1 a' w' hc hr ho1 rl
  have hnd':=(bR.1 rl.h.nd).1
  refine rd.newRow (z:=⟨some ⟨b,0,none⟩,vs.length+us.length,cap'⟩) (B:=[⟨b,aak (vs++us)++rest',e,true⟩]) hf' ⟨vs++us, .inr ⟨b,rest',true,by simp,rfl,aar _ hall,?_,by simpa using hc⟩,hv.app h3,hall,fun _ o ho=>by rw[aY.1 ho]⟩
   (fun o ho=>by rw[aY.1 ho];exact aZ) (fun m B' hm e o ho hmo=>?_) hk rl
  ·rw[aar _ hall,aV]
   simp only[]
   omega
  ·obtain⟨h7,h8⟩:=hbk m B' e
   have ho2:=ho1 o ho fun hc=>r.dj m nm B' _ h8 (s2 _ _ hb) h7 _ hmo hc
   exact⟨aJ _ ho2,fun e'=>by cases e';exact hnd' o ho2 rfl⟩
 rcases hB with⟨e1,e2,e3⟩|⟨b,rest,lo',k3,k4,k5,k6,k7⟩
 ·subst e1
  rw[e2] at hx'
  by_cases hne:us=[]
  ·subst hne
   have:ds2=[]:=bS (by rw[←h3.len];rfl)
   subst this
   rw[h2] at hy'
   refine agH hx' hy' hd (fun a' w' rl=>?_) a w Q ⟨r.h,r.sz,aaN a,r.df⟩
   refine rd.newRow (z:=⟨none,0,0⟩) (B:=[]) hf' ⟨[], .inl ⟨rfl,rfl,rfl⟩,by simpa using hv,by simp,fun _ o ho=>by cases ho⟩ (fun o ho=>by cases ho) (fun m B' hm e o ho hmo=>⟨ho,fun e'=>by cases e'⟩) hk rl
  ·have hup:0<us.length:=mQ.2 hne
   rw[h2] at hy' h6
   refine adb (z:=v) (xs:=[]) (ys:=aak us) hx' hy' aeY h6 (by show(0:Nat)<0+us.length;omega) hby (by simpa using hbd') hd (fun b cap' hc a' w' rl=>?_) a w Q ⟨r.h,r.sz,aaN a,r.df⟩
   exact hfin b cap' (abo v (cap'-us.length)) ov a' w' (by simpa using hc) (by rw[abP,cz,hs,←cS];simp at hc⊢;congr 1;omega) (fun o ho _=>ho) (by simpa using rl)
 ·have hl:=hlo rfl
  subst k4
  have hlo':lo'=true:=hl _ aZ
  subst hlo'
  have ha:(ρ nm).a=some ⟨b,0,none⟩:=by rw[k3]
  have hn:(ρ nm).n=vs.length:=by rw[k3]
  rw[ha,hn] at hx'
  rw[h2] at hy' h6
  obtain⟨ov1,o1,o2⟩:=alT.of_mem (hBo _ aZ)
  refine agS (z:=v) (xs:=aak vs) (ys:=aak us) (rest:=rest) (own1:=ov1) hx' hy' o1 k5 k6 k7 h6 hus h5 hby hbd' (by rw[cz,hs]) hd (fun b' cap' rest' hc hr a' w' rl=>?_) a w Q ⟨r.h,r.sz,aaN a,r.df⟩
  rw[←ace] at rl
  exact hfin b' cap' rest' ov1 a' w' hc hr (fun o ho hne=>o2 o ho fun e'=>hne (by rw[ha,e'])) rl
end
end Go.Sx
end
