import Derived.Test.YtidmgdlbilojcaaGreatDoorMc4
set_option linter.unusedSimpArgs false
set_option maxRecDepth 100000
set_option linter.unusedVariables false
section
namespace Go.Sx
open Go
def tt:TT:=[
 (2,⟨.int .i64,1,some [.d (.v (.int .i64 0))],false⟩),
 (3,⟨.int .i64,1,some [.d (.v (.int .i64 0))],false⟩),
 (4,⟨.bl,1,some [.ff],false⟩),
 (5,⟨.int .u8,1,some [.d (.v (.int .u8 0))],false⟩),
 (9,⟨.sc,1,some [.d (.v (.string ⟨#[]⟩))],false⟩),
 (20,⟨.fc,1,some [.d (.v (.nilIface))],false⟩),
 (22,⟨.sl 3 1 8,1,some [.nl],false⟩),
 (23,⟨.sl 182 8 112,1,some [.nl],false⟩),
 (25,⟨.st [(0,3,1),(1,23,1)],2,some [.d (.v (.int .i64 0)), .nl],true⟩),
 (27,⟨.pt,1,some [.d (.v (.pointer none))],false⟩),
 (28,⟨.pt,1,some [.d (.v (.pointer none))],false⟩),
 (31,⟨.sl 215 1 4,1,some [.nl],false⟩),
 (32,⟨.sl 215 1 4,1,some [.nl],false⟩),
 (34,⟨.st [(0,4,1),(1,32,1)],2,some [.ff, .nl],true⟩),
 (36,⟨.st [(0,34,2),(2,32,1)],3,some [.ff, .nl, .nl],true⟩),
 (38,⟨.fc,1,some [.d (.v (.nilIface))],false⟩),
 (41,⟨.sl 51 1 24,1,some [.nl],false⟩),
 (44,⟨.sl 215 1 4,1,some [.nl],false⟩),
 (46,⟨.st [(0,4,1),(1,44,1)],2,some [.ff, .nl],true⟩),
 (48,⟨.st [(0,46,2),(2,44,1)],3,some [.ff, .nl, .nl],true⟩),
 (49,⟨.sl 179 6 96,1,some [.nl],false⟩),
 (51,⟨.st [(0,49,1)],1,some [.nl],true⟩),
 (62,⟨.st [(0,48,3),(3,48,3)],6,some [.ff, .nl, .nl, .ff, .nl, .nl],true⟩),
 (63,⟨.sl 25 2 32,1,some [.nl],false⟩),
 (65,⟨.st [(0,36,3),(3,36,3)],6,some [.ff, .nl, .nl, .ff, .nl, .nl],true⟩),
 (72,⟨.sl 65 6 112,1,some [.nl],false⟩),
 (87,⟨.st [(0,22,1),(1,3,1)],2,some [.nl, .d (.v (.int .i64 0))],true⟩),
 (91,⟨.sl 103 1 24,1,some [.nl],false⟩),
 (94,⟨.pt,1,some [.d (.v (.pointer none))],false⟩),
 (96,⟨.st [(0,2,1),(1,2,1),(2,94,1)],3,some [.d (.v (.int .i64 0)), .d (.v (.int .i64 0)), .d (.v (.pointer none))],true⟩),
 (99,⟨.sl 106 2 32,1,some [.nl],false⟩),
 (102,⟨.sl 201 17 128,1,some [.nl],false⟩),
 (103,⟨.sl 201 17 128,1,some [.nl],false⟩),
 (104,⟨.pt,1,some [.d (.v (.pointer none))],false⟩),
 (106,⟨.st [(0,103,1),(1,104,1)],2,some [.nl, .d (.v (.pointer none))],true⟩),
 (108,⟨.st [(0,96,3),(3,96,3),(6,96,3)],9,some [.d (.v (.int .i64 0)), .d (.v (.int .i64 0)), .d (.v (.pointer none)), .d (.v (.int .i64 0)), .d (.v (.int .i64 0)), .d (.v (.pointer none)), .d (.v (.int .i64 0)), .d (.v (.int .i64 0)), .d (.v (.pointer none))],true⟩),
 (110,⟨.st [(0,108,9),(9,104,1),(10,104,1),(11,4,1)],12,some [.d (.v (.int .i64 0)), .d (.v (.int .i64 0)), .d (.v (.pointer none)), .d (.v (.int .i64 0)), .d (.v (.int .i64 0)), .d (.v (.pointer none)), .d (.v (.int .i64 0)), .d (.v (.int .i64 0)), .d (.v (.pointer none)), .d (.v (.pointer none)), .d (.v (.pointer none)), .ff],true⟩),
 (123,⟨.sl 130 1 24,1,some [.nl],false⟩),
 (124,⟨.sl 175 6 96,1,some [.nl],false⟩),
 (126,⟨.st [(0,123,1),(1,3,1),(2,124,1)],3,some [.nl, .d (.v (.int .i64 0)), .nl],true⟩),
 (130,⟨.sl 62 6 112,1,some [.nl],false⟩),
 (131,⟨.sl 160 1 24,1,some [.nl],false⟩),
 (146,⟨.st [(0,96,3),(3,96,3)],6,some [.d (.v (.int .i64 0)), .d (.v (.int .i64 0)), .d (.v (.pointer none)), .d (.v (.int .i64 0)), .d (.v (.int .i64 0)), .d (.v (.pointer none))],true⟩),
 (150,⟨.sl 155 1 24,1,some [.nl],false⟩),
 (154,⟨.sl 146 6 48,1,some [.nl],false⟩),
 (155,⟨.sl 146 6 48,1,some [.nl],false⟩),
 (160,⟨.sl 65 6 112,1,some [.nl],false⟩),
 (171,⟨.o,12,some [.d (.v (.int .i64 0)), .d (.v (.int .i64 0)), .d (.v (.pointer none)), .d (.v (.int .i64 0)), .d (.v (.int .i64 0)), .d (.v (.pointer none)), .d (.v (.int .i64 0)), .d (.v (.int .i64 0)), .d (.v (.pointer none)), .d (.v (.int .i64 0)), .d (.v (.int .i64 0)), .d (.v (.pointer none))],true⟩),
 (175,⟨.st [(0,46,2),(2,46,2),(4,46,2)],6,some [.ff, .nl, .ff, .nl, .ff, .nl],true⟩),
 (177,⟨.st [(0,4,1),(1,4,1),(2,175,6),(8,27,1),(9,27,1)],10,some [.ff, .ff, .ff, .nl, .ff, .nl, .ff, .nl, .d (.v (.pointer none)), .d (.v (.pointer none))],true⟩),
 (179,⟨.st [(0,34,2),(2,34,2),(4,34,2)],6,some [.ff, .nl, .ff, .nl, .ff, .nl],true⟩),
 (182,⟨.st [(0,179,6),(6,3,1),(7,3,1)],8,some [.ff, .nl, .ff, .nl, .ff, .nl, .d (.v (.int .i64 0)), .d (.v (.int .i64 0))],true⟩),
 (199,⟨.st [(0,96,3),(3,96,3),(6,4,1),(7,4,1)],8,some [.d (.v (.int .i64 0)), .d (.v (.int .i64 0)), .d (.v (.pointer none)), .d (.v (.int .i64 0)), .d (.v (.int .i64 0)), .d (.v (.pointer none)), .ff, .ff],true⟩),
 (201,⟨.st [(0,108,9),(9,199,8)],17,some [.d (.v (.int .i64 0)), .d (.v (.int .i64 0)), .d (.v (.pointer none)), .d (.v (.int .i64 0)), .d (.v (.int .i64 0)), .d (.v (.pointer none)), .d (.v (.int .i64 0)), .d (.v (.int .i64 0)), .d (.v (.pointer none)), .d (.v (.int .i64 0)), .d (.v (.int .i64 0)), .d (.v (.pointer none)), .d (.v (.int .i64 0)), .d (.v (.int .i64 0)), .d (.v (.pointer none)), .ff, .ff],true⟩),
 (203,⟨.sl 108 9 72,1,some [.nl],false⟩),
 (214,⟨.int .u64,1,some [.d (.v (.int .u64 0))],false⟩),
 (215,⟨.int .u32,1,some [.d (.v (.int .u32 0))],false⟩),
 (216,⟨.int .u64,1,some [.d (.v (.int .u64 0))],false⟩),
 (218,⟨.sl 225 14 216,1,some [.nl],false⟩),
 (223,⟨.st [(0,48,3),(3,48,3),(6,4,1),(7,4,1)],8,some [.ff, .nl, .nl, .ff, .nl, .nl, .ff, .ff],true⟩),
 (225,⟨.st [(0,175,6),(6,223,8)],14,some [.ff, .nl, .ff, .nl, .ff, .nl, .ff, .nl, .nl, .ff, .nl, .nl, .ff, .ff],true⟩),
 (227,⟨.o,9,some [.d (.v (.int .i64 0)), .d (.v (.int .i64 0)), .d (.v (.pointer none)), .d (.v (.int .i64 0)), .d (.v (.int .i64 0)), .d (.v (.pointer none)), .d (.v (.int .i64 0)), .d (.v (.int .i64 0)), .d (.v (.pointer none))],true⟩),
 (232,⟨.pt,1,some [.d (.v (.pointer none))],false⟩),
 (233,⟨.sl 4 1 1,1,some [.nl],false⟩),
 (235,⟨.st [(0,23,1),(1,233,1),(2,3,1),(3,4,1)],4,some [.nl, .nl, .d (.v (.int .i64 0)), .ff],true⟩),
 (251,⟨.sl 38 1 16,1,some [.nl],false⟩),
 (267,⟨.st [(0,34,2),(2,32,1)],3,some [.ff, .nl, .nl],true⟩),
 (347,⟨.o,2,some [.nl, .nl],true⟩),
 (348,⟨.sl 223 8 120,1,some [.nl],false⟩),
 (378,⟨.sl 48 3 56,1,some [.nl],false⟩),
 (383,⟨.sl 104 1 8,1,some [.nl],false⟩),
 (385,⟨.int .i64,1,some [.d (.v (.int .i64 0))],false⟩),
 (394,⟨.int .u64,1,some [.d (.v (.int .u64 0))],false⟩),
 (398,⟨.pt,1,some [.d (.v (.pointer none))],false⟩),
 (405,⟨.pt,1,some [.d (.v (.pointer none))],false⟩),
 (430,⟨.st [(0,9,1)],1,some [.d (.v (.string ⟨#[]⟩))],true⟩)]
theorem ab2:TOK Go.Proofs.Tryz.prog tt:=TOK.of (by kernel_rfl)
end Go.Sx
end
section
namespace Go.Sx
open Go Go.Proofs Tryz
def agI:Nat→List DV→FrX
 |_,[]=>[]
 |i,v::t=>(i, .d v)::agI (i+1) t
class Fu where n:Nat
instance fu0:Fu:=⟨400⟩
section
variable {GB:Gh} {C:Ctx} {n:Nat} {Q0:Exit→Act→World→Prop} {fr fr':FrX} {own own':OwX} {cf cf':Cf} {vc vc':List Prop} {ops:Array Oper} {r:List Oper} {o:Oper} {K:List Kt}
theorem gx'{q:Nat}(h:go tt n q [] fr own cf=⟨vc,fr',own',cf'⟩)(hv:aah vc)(k:CfS prog GB C n Q0 fr' own' cf'):CfS prog GB C n Q0 fr own cf:=by
 have:=(adY (GB:=GB) (C:=C) (Q0:=Q0) ab2 follows q [] fr own cf (by rw[h];exact hv)).2
 rw[h] at this
 exact this k
theorem gx[fu:Fu](h:go tt n fu.n [] fr own cf=⟨vc,fr',own',cf'⟩)(k:CfS prog GB C n Q0 fr' own' cf')(hv:aah vc:=by first|exact trivial|(simp only[aah];kernel_rfl)|(simp only[aah];omega)|(simp only[aah,aK,aN,aY];omega)):CfS prog GB C n Q0 fr own cf:=gx' h hv k
theorem ajC: ∀{ds:List DV} {vs:List Value} {ρ:NE} {G:Gh} (i:Nat),IsLs G ds vs→ ∀k f,aao (agI i ds) k=some f→ ∃y,(∃j,k=i+j∧vs[j]? =some y)∧IsX ρ G f y
 |[],vs,ρ,G,i,h,k,f,e=>by cases e
 |d::t,vs,ρ,G,i,h,k,f,e=>by
  obtain⟨y,m,rfl,h1,h2⟩:=aad.1 h
  simp only[agI] at e
  rw[aaI] at e
  split at e
  ·cases e;rename_i hk;exact⟨y,⟨0,hk,rfl⟩,h1⟩
  ·obtain⟨u,⟨j,hj,hu⟩,h3⟩:=ajC (i+1) h2 k f e
   exact⟨u,⟨j+1,by omega,by simpa using hu⟩,h3⟩
theorem ai9{ds:List DV}{vs:List Value}{ρ:NE}{G:Gh}{a:Act}(h:IsLs G ds vs)(hf:aoi (ahv 0 vs) a)(k:Nat)(f:FX)(e:aao (agI 0 ds) k=some f): ∃y,a.tmps[k]? =some y∧IsX ρ G f y:=by
 obtain⟨y,⟨j,hj,hy⟩,h1⟩:=ajC (ρ:=ρ) 0 h k f e
 refine⟨y,hf k y ?_,h1⟩
 rw[hj];exact acu vs 0 j y hy
theorem fn[fu:Fu]{f:FuncId}{fb:Func}{c:Code}{m:Nat}{ds:List DV}{rv:DV}(hf:prog.funcs[f]? =some fb)(hb:fb.body=some c)(hn:(fb.name== "runtime.NumGoroutine")=false)(hm:fb.ntmps=m)(hlen:Nat.ble ds.length m=true)
  (hgo:go tt m fu.n [] (agI 0 ds) [] (.code c [])=⟨vc,fr,own,cf⟩)(k: ∀C:Ctx,CfS prog GB C m (acF C prog fb (afR C (fun v G'=>Is G' rv v))) fr own cf)
  (hv:aah vc:=by first|exact trivial|(simp only[aah];kernel_rfl)|(simp only[aah];omega)|(simp only[aah,aK,aN,aY];omega)):PF GB prog f ds rv:=by
 intro G vs hg hvs
 refine Fn.introR hf hb hn hm (by rw[hvs.len];exact hlen) fun C _ _ hrd hfx=>?_
 intro a w rl
 refine ai5 hrd ?_
 have h:=gx' (GB:=GB) (C:=C) (Q0:=acF C prog fb (afR C (fun v G'=>Is G' rv v))) hgo hv (k C)
 exact h.run (fun _=>⟨none,0,0⟩) G [] a w ⟨hg,rl.h,rl.sz,rl.df,(fun k f e=>ai9 hvs rl.fr k f e),(fun nm B e=>by cases e),(fun nm nm' B B' e=>by cases e),fun nm p _ _ e=>by rw[hfx] at e;cases e⟩
theorem CfS.cond{c:Operand}{x y:Code}{b:Bool}{f:FX}(hc:evX (aao fr) c=some f)(hb:toB f=some b)(h1:b=true→CfS prog GB C n Q0 fr own (.code x K))(h2:b=false→CfS prog GB C n Q0 fr own (.code y K)):CfS prog GB C n Q0 fr own (.code (.cond c x y) K):=SX.cond hc hb h1 h2
variable {fr1 fr2:FrX} {own1 own2:OwX} {cf1 cf2:Cf} {vc1 vc2:List Prop}
theorem br[fu1:Fu][fu2:Fu]{p:Prop}{hp:Decidable p}{c:Operand}{x y:Code}(hc:evX (aao fr) c=some (.pr p hp))(g1:go tt n fu1.n [] fr own (.code x K)=⟨vc1,fr1,own1,cf1⟩)(g2:go tt n fu2.n [] fr own (.code y K)=⟨vc2,fr2,own2,cf2⟩)
  (k1:p→CfS prog GB C n Q0 fr1 own1 cf1)(k2: ¬p→CfS prog GB C n Q0 fr2 own2 cf2)
  (v1:p→aah vc1:=by intro;first|exact trivial|(simp only[aah];omega)|(simp only[aah,aK,aN,aY];omega))(v2: ¬p→aah vc2:=by intro;first|exact trivial|(simp only[aah];omega)|(simp only[aah,aK,aN,aY];omega)):CfS prog GB C n Q0 fr own (.code (.cond c x y) K):=
 .cond hc rfl (fun h=>gx' g1 (v1 (of_decide_eq_true h)) (k1 (of_decide_eq_true h))) (fun h=>gx' g2 (v2 (of_decide_eq_false h)) (k2 (of_decide_eq_false h)))
theorem bd[fu1:Fu][fu2:Fu]{p:Prop}{hp:Decidable p}{c:Operand}{x y:Code}(hc:evX (aao fr) c=some (.d (.v (.bool (@decide p hp)))))(g1:go tt n fu1.n [] fr own (.code x K)=⟨vc1,fr1,own1,cf1⟩)(g2:go tt n fu2.n [] fr own (.code y K)=⟨vc2,fr2,own2,cf2⟩)
  (k1:p→CfS prog GB C n Q0 fr1 own1 cf1)(k2: ¬p→CfS prog GB C n Q0 fr2 own2 cf2)
  (v1:p→aah vc1:=by intro;first|exact trivial|(simp only[aah];omega)|(simp only[aah,aK,aN,aY];omega))(v2: ¬p→aah vc2:=by intro;first|exact trivial|(simp only[aah];omega)|(simp only[aah,aK,aN,aY];omega)):CfS prog GB C n Q0 fr own (.code (.cond c x y) K):=
 .cond hc rfl (fun h=>gx' g1 (v1 (of_decide_eq_true h)) (k1 (of_decide_eq_true h))) (fun h=>gx' g2 (v2 (of_decide_eq_false h)) (k2 (of_decide_eq_false h)))
theorem bb[fu1:Fu][fu2:Fu]{b:Bool}{c:Operand}{x y:Code}(hc:evX (aao fr) c=some (.d (.v (.bool b))))(g1:go tt n fu1.n [] fr own (.code x K)=⟨vc1,fr1,own1,cf1⟩)(g2:go tt n fu2.n [] fr own (.code y K)=⟨vc2,fr2,own2,cf2⟩)
  (k1:b=true→CfS prog GB C n Q0 fr1 own1 cf1)(k2:b=false→CfS prog GB C n Q0 fr2 own2 cf2)
  (v1:b=true→aah vc1:=by intro;first|exact trivial|(simp only[aah];omega)|(simp only[aah,aK,aN,aY];omega))(v2:b=false→aah vc2:=by intro;first|exact trivial|(simp only[aah];omega)|(simp only[aah,aK,aN,aY];omega)):CfS prog GB C n Q0 fr own (.code (.cond c x y) K):=
 .cond hc rfl (fun h=>gx' g1 (v1 h) (k1 h)) (fun h=>gx' g2 (v2 h) (k2 h))
theorem abo{d:Nat}{f g:FX}(hl:aao fr d=some f)(hi: ∀ρ G y,IsX ρ G f y→IsX ρ G g y){Φ:Act→World→Prop}(h:SX GB C n (aao ((d,g)::fr)) (aap own) Φ):SX GB C n (aao fr) (aap own) Φ:=by
 refine⟨fun ρ G ov a w r=>h.run ρ G ov a w ⟨r.gb,r.h,r.sz,r.df,fun k f' e=>?_,r.bx,r.dj,r.fxd⟩⟩
 rw[aaI] at e
 split at e
 ·cases e;rename_i hk;subst hk
  obtain⟨y,h1,h2⟩:=r.fx _ _ hl
  exact⟨y,h1,hi _ _ _ h2⟩
 ·exact r.fx k f' e
theorem eqF(d:Nat){f:FX}(g:FX)(hl:aao fr d=some f)(e:f=g)(h:CfS prog GB C n Q0 ((d,g)::fr) own cf):CfS prog GB C n Q0 fr own cf:=by
 have hs:aao ((d,g)::fr)=aao fr:=by
  funext k
  rw[aaI]
  split
  ·rename_i hk;rw[hk,hl,e]
  ·rfl
 cases cf with
 |dr id ops fr0 own0 us r K=>exact fun D=>h ⟨D.pre,by rw[hs];exact D.st,D.snd⟩
 |_=>unfold CfS at h⊢;rw[hs] at h;exact h
theorem kT(d:Nat){p:Prop}{hp:Decidable p}(hl:aao fr d=some (.pr p hp))(h:p)(k:CfS prog GB C n Q0 ((d, .tt)::fr) own (.ops ops r K)):CfS prog GB C n Q0 fr own (.ops ops r K):=
 abo hl (fun _ _ _ e=>by rw[show _=_ from e,decide_eq_true h];exact rfl) k
theorem kF(d:Nat){p:Prop}{hp:Decidable p}(hl:aao fr d=some (.pr p hp))(h: ¬p)(k:CfS prog GB C n Q0 ((d, .ff)::fr) own (.ops ops r K)):CfS prog GB C n Q0 fr own (.ops ops r K):=
 abo hl (fun _ _ _ e=>by rw[show _=_ from e,decide_eq_false h];exact rfl) k
theorem nlD(d:Nat)(hl:aao fr d=some .nl){e:Exit}(h:CfS prog GB C n Q0 ((d, .d (.sl []))::fr) own (.ex e K)):CfS prog GB C n Q0 fr own (.ex e K):=
 abo (g:= .d (.sl [])) hl (fun ρ G y hy=>(show Is G (.sl []) y from acw (ρ:=ρ) (f:= .nl) hy rfl)) h
theorem PF.to{f:FuncId}{ds:List DV}{r1 r2:DV}{P:Program}(h:PF GB P f ds r1)(e:r1=r2):PF GB P f ds r2:=e▸h
theorem cs[fu1:Fu][fu2:Fu](d:Nat){p:Prop}{hp:Decidable p}(hl:aao fr d=some (.pr p hp))(g1:go tt n fu1.n [] ((d, .tt)::fr) own (.ops ops r K)=⟨vc1,fr1,own1,cf1⟩)(g2:go tt n fu2.n [] ((d, .ff)::fr) own (.ops ops r K)=⟨vc2,fr2,own2,cf2⟩)
  (k1:p→CfS prog GB C n Q0 fr1 own1 cf1)(k2: ¬p→CfS prog GB C n Q0 fr2 own2 cf2)
  (v1:p→aah vc1:=by intro;first|exact trivial|(simp only[aah];omega)|(simp only[aah,aK,aN,aY];omega))(v2: ¬p→aah vc2:=by intro;first|exact trivial|(simp only[aah];omega)|(simp only[aah,aK,aN,aY];omega)):CfS prog GB C n Q0 fr own (.ops ops r K):=by
 by_cases h:p
 ·exact abo hl (fun _ _ _ e=>by rw[show _=_ from e,decide_eq_true h];exact rfl) (gx' g1 (v1 h) (k1 h))
 ·exact abo hl (fun _ _ _ e=>by rw[show _=_ from e,decide_eq_false h];exact rfl) (gx' g2 (v2 h) (k2 h))
theorem csb[fu1:Fu][fu2:Fu](d:Nat){b:Bool}(hl:aao fr d=some (.d (.v (.bool b))))(g1:go tt n fu1.n [] ((d, .tt)::fr) own (.ops ops r K)=⟨vc1,fr1,own1,cf1⟩)(g2:go tt n fu2.n [] ((d, .ff)::fr) own (.ops ops r K)=⟨vc2,fr2,own2,cf2⟩)
  (k1:b=true→CfS prog GB C n Q0 fr1 own1 cf1)(k2:b=false→CfS prog GB C n Q0 fr2 own2 cf2)
  (v1:b=true→aah vc1:=by intro;first|exact trivial|(simp only[aah];omega)|(simp only[aah,aK,aN,aY];omega))(v2:b=false→aah vc2:=by intro;first|exact trivial|(simp only[aah];omega)|(simp only[aah,aK,aN,aY];omega)):CfS prog GB C n Q0 fr own (.ops ops r K):=by
 cases h:b with
 |true=>exact abo hl (fun _ G _ e=>by rw[(aaY (G:=G)).1 e,h];exact rfl) (gx' g1 (v1 h) (k1 h))
 |false=>exact abo hl (fun _ G _ e=>by rw[(aaY (G:=G)).1 e,h];exact rfl) (gx' g2 (v2 h) (k2 h))
def hdC:Cf→Option (Array Oper×Oper)
 | .ops ops (o::_) _=>some (ops,o)
 | .dr _ ops _ _ _ (o::_) _=>some (ops,o)
 |_=>none
def lkC(fr:FrX):Cf→LK
 | .dr _ ops _ _ _ (o::_) _=>rsX (ajD ops o) (aao fr)
 |_=>aao fr
def bkC(fr:FrX)(own:OwX):Cf→BM
 | .dr _ ops _ _ _ (o::_) _=>rsX (aqr o fr (ajD ops o)) (aap own)
 |_=>aap own
def bad:Res:=⟨[False],[],[], .ex .normal []⟩
def goA(T:TT)(n q:Nat)(fr:FrX)(own:OwX)(cf:Cf)(f:FX)(bl:List (Nat×Option Bk))(nw:List Nat):Res:=match cf with
 | .ops ops (o::r) K=>bif aia nw o.dst fr own&&aaM n o.dst then akh own bl fun own'=>aCA fr o.dst f fun fr'=>go T n q [] fr' own' (.ops ops r K) else bad
 | .dr id ops fr0 own0 us (o::r) K=>bif aaM n o.dst then fcL (ajD ops o) fun rs=>fcL (aqr o fr rs) fun rn=>akh own bl fun own'=>fcL (us++[⟨rs,o.dst,f,rn,bl,nw⟩]) fun us'=>aCA fr o.dst f fun fr'=>go T n q [] fr' own' (.dr id ops fr0 own0 us' r K) else bad
 |_=>bad
def grd(ops:Array Oper)(lk:LK):Option (Nat×Bool)→Bool
 |none=>true
 |some (j,b)=>match ops[j]? with
  |some oj=>match oj.dst with
   |some d=>match lk d with
    |some .tt=>b
    |some .ff=>!b
    |_=>false
   |none=>false
  |none=>false
theorem aqX{lk:LK}{bk:BM}{o:Oper}(h:grd ops lk o.guard=true): ∀ρ G ov a w,RlX GB C n lk bk ρ G ov a w→Region.wanted o (yielded ops a.tmps)=true:=fun ρ G ov a w r=>by
 unfold Region.wanted
 unfold grd at h
 split at h
 ·rename_i e;rw[e]
 ·rename_i j b e
  rw[e]
  split at h<;>try (cases h;done)
  rename_i oj hj
  split at h<;>try (cases h;done)
  rename_i d hd
  split at h<;>try (cases h;done)
  ·rename_i hl
   obtain⟨y,h1,h2⟩:=afn r hj hd hl
   cases h1;simp only[h2];subst h;rfl
  ·rename_i hl
   obtain⟨y,h1,h2⟩:=afn r hj hd hl
   cases h1;simp only[h2];cases b<;>first|rfl|(simp at h)
theorem uo{q:Nat}{f:FX}{bl:List (Nat×Option Bk)}{nw:List Nat}(hh:hdC cf=some (ops,o))(hg:grd ops (lkC fr cf) o.guard=true)(h:OpR prog GB C n (lkC fr cf) (bkC fr own cf) o f bl nw)
  (hgo:goA tt n q fr own cf f bl nw=⟨vc,fr',own',cf'⟩)(hv:aah vc)(k:CfS prog GB C n Q0 fr' own' cf'):CfS prog GB C n Q0 fr own cf:=by
 obtain⟨dst,op,ty,pos,af,gd⟩:=o
 cases cf with
 |ops ops' r K=>
  cases r with
  |nil=>cases hh
  |cons o' r=>
   cases hh
   unfold goA at hgo
   cases hc:(aia nw dst fr own&&aaM n dst) with
   |false=>simp only[hc,cond_false,bad] at hgo;cases hgo;exact absurd hv (fun x=>x)
   |true=>
    simp only[hc,cond_true] at hgo
    simp only[aeD,aji] at hgo
    simp only[bT] at hc
    exact SX.op (h.toS hc.2 (aqX hg)) (afr hc.1) (gx' hgo hv k)
 |dr id ops' fr0 own0 us r K=>
  cases r with
  |nil=>cases hh
  |cons o' r=>
   cases hh
   unfold goA at hgo
   cases hc:aaM n dst with
   |false=>simp only[hc,cond_false,bad] at hgo;cases hgo;exact absurd hv (fun x=>x)
   |true=>
    simp only[hc,cond_true,agU] at hgo
    simp only[aeD,aji] at hgo
    intro D
    exact gx' hgo hv k (D.push (h.toS hc (aqX hg)))
 |_=>cases hh
def alQ(lk:LK)(fo:Operand)(args:Array Operand):Option (FuncId×List DV):=match evX lk fo with
 |some (.d (.v (.func (.func f) ⟨[]⟩ ⟨[]⟩)))=>match evDs lk args.toList with
  |some ds=>some (f,ds)
  |none=>none
 |_=>none
theorem aiq{lk:LK}{fo:Operand}{args:Array Operand}{f:FuncId}{ds:List DV}(h:alQ lk fo args=some (f,ds)):evX lk fo=some (.d (.v (.func (.func f) #[] #[])))∧evDs lk args.toList=some ds:=by
 unfold alQ at h
 split at h<;>try (cases h;done)
 rename_i h1
 split at h<;>cases h
 rename_i h2
 exact⟨h1,h2⟩
theorem aoR{lk:LK}{bk:BM}{fo:Operand}{args:Array Operand}{tys:Array TypeId}{f:FuncId}{ds:List DV}{rv:DV}{dst:Option Nat}{ty:TypeId}{pos:String}{af:Array Edge}{gd:Option (Nat×Bool)}(ha:alQ lk fo args=some (f,ds))(hF:PF GB prog f ds rv):
  OpR prog GB C n lk bk ⟨dst, .call ⟨.value fo,args,tys⟩,ty,pos,af,gd⟩ (.d rv) [] []:=by
 intro hd tl tb K' s1 s2 hf hk
 refine⟨fun ρ G ov a w r Q=>?_⟩
 obtain⟨h1,h2⟩:=aiq ha
 obtain⟨y,hy,hy'⟩:=(r.mono s1 s2).ev h1
 rw[(aaY (G:=G)).1 hy'] at hy
 obtain⟨vs,h3,h4⟩:=(r.mono s1 s2).evDs h2
 refine zC hy h3 (hF G vs r.gb h4) hd (fun v G' hG hK a' w' rl=>?_) a w Q ⟨r.h,r.sz,aaF a,r.df⟩
 exact hk.run ρ G' ov a' w' ⟨r.gb.trans hG.le,rl.h,rl.sz,rl.df,(abg rl).fx (fun k g _ e=>by obtain⟨u,h5,h6⟩:=r.fx k g e;exact⟨u,h5,h6.up hG.le⟩) hK,
  fun nm B e=>by obtain⟨os,h5,h6⟩:=r.bx nm B e;exact⟨os,h5.up hG.le,h6⟩,r.dj,r.fxd⟩
theorem ca[fu:Fu]{fo:Operand}{args:Array Operand}{tys:Array TypeId}{f:FuncId}{ds:List DV}{rv:DV}{dst:Option Nat}{ty:TypeId}{pos:String}{af:Array Edge}{gd:Option (Nat×Bool)}(hh:hdC cf=some (ops,⟨dst, .call ⟨.value fo,args,tys⟩,ty,pos,af,gd⟩))
  (hg:grd ops (lkC fr cf) gd=true)(ha:alQ (lkC fr cf) fo args=some (f,ds))(hF:PF GB prog f ds rv)(hgo:goA tt n fu.n fr own cf (.d rv) [] []=⟨vc,fr',own',cf'⟩)(k:CfS prog GB C n Q0 fr' own' cf')(hv:aah vc:=by first|exact trivial|(simp only[aah];kernel_rfl)|(simp only[aah];omega)|(simp only[aah,aK,aN,aY];omega)):CfS prog GB C n Q0 fr own cf:=
 uo hh hg (aoR ha hF) hgo hv k
def avQ(T:TT)(fr:FrX)(own:OwX):List ResultVar→Option (List DV)
 |[]=>some []
 | .tmp t::rs=>match aao fr t with
  |some f=>match aml f with
   |some d=>match avQ T fr own rs with
    |some l=>some (d::l)
    |none=>none
   |none=>none
  |none=>none
 | .cell a t::rs=>match aao fr a with
  |some (.ov nm 0)=>match abc T t with
   |some i=>match aap own nm with
    |some (.o _ cs _)=>match i.ag with
     |some (some k)=>match takeX cs 0 k with
      |some c=>match adV c with
       |some d=>match avQ T fr own rs with
        |some l=>some (.ag d::l)
        |none=>none
       |none=>none
      |none=>none
     |some none=>match cs[0]? with
      |some c=>match aml c with
       |some d=>match avQ T fr own rs with
        |some l=>some (d::l)
        |none=>none
       |none=>none
      |none=>none
     |none=>none
    |_=>none
   |none=>none
  |_=>none
theorem alY{ρ:NE}{G:Gh}{ov:List Own}{a:Act}{w:World}(h:RlX GB C n (aao fr) (aap own) ρ G ov a w): ∀{rs:List ResultVar} {ds:List DV},avQ tt fr own rs=some ds→ ∃vs,RVs prog (frA a) ov rs vs∧IsLs G ds vs:=by
 intro rs
 induction rs with
 |nil=>intro ds e;cases e;exact⟨[], .nil, .nil⟩
 |cons x rs ih=>
  intro ds e
  cases x with
  |tmp t=>
   simp only[avQ] at e
   split at e<;>try (cases e;done)
   rename_i f hf
   split at e<;>try (cases e;done)
   rename_i d hd
   split at e<;>cases e
   rename_i l hl
   obtain⟨vs,h1,h2⟩:=ih hl
   obtain⟨y,h3,h4⟩:=h.fx t f hf
   exact⟨y::vs, .tmp (aix h3) h1, .cons (acw h4 hd) h2⟩
  |cell t ty=>
   simp only[avQ] at e
   split at e<;>try (cases e;done)
   rename_i nm hf
   split at e<;>try (cases e;done)
   rename_i i hi
   split at e<;>try (cases e;done)
   rename_i hb
   obtain⟨y,h3,h4⟩:=h.fx t _ hf
   obtain⟨b,m,rfl,h5,h6,h7⟩:=h.own h4 hb
   have oat:OAt ov b m _ _:=⟨h7⟩
   split at e<;>try (cases e;done)
   ·rename_i k ha
    split at e<;>try (cases e;done)
    rename_i c hc
    split at e<;>try (cases e;done)
    rename_i d hd
    split at e<;>cases e
    rename_i l hl
    obtain⟨vs,h1,h2⟩:=ih hl
    obtain⟨l',h8,h9⟩:=h6.takeX hc
    exact⟨.agg ⟨l'⟩::vs, .agg (aix h3) oat (aiL (ab2 _ _ hi) ha) h8 h1, .cons (ab4.2 ⟨l',rfl,acN h9 hd⟩) h2⟩
   ·rename_i ha
    split at e<;>try (cases e;done)
    rename_i c hc
    split at e<;>try (cases e;done)
    rename_i d hd
    split at e<;>cases e
    rename_i l hl
    obtain⟨vs,h1,h2⟩:=ih hl
    obtain⟨l',h8,h9⟩:=h6.get hc
    exact⟨l'::vs, .sc (aix h3) oat (akU (ab2 _ _ hi) ha) h8 h1, .cons (acw h9 hd) h2⟩
def awF:Exit→Bool
 | .ret=>true
 | .normal=>true
 |_=>false
theorem rz{fb:Func}{e:Exit}{ds:List DV}{rv:DV}(hr:avQ tt fr own fb.results.toList=some ds)(hd:akl ds=rv)(he:awF e=true:=by rfl):CfS prog GB C n (acF C prog fb (afR C (fun v G'=>Is G' rv v))) fr own (.ex e []):=by
 refine⟨fun ρ G ov a w r=>?_⟩
 obtain⟨vs,h1,h2⟩:=alY r hr
 have hk:Is G rv (abL vs):=hd▸ame h2
 cases e with
 |ret=>exact zD (C:=C) (n:=n) (fr:=frA a) (own:=ov) (G:=G) (K:=fun v G'=>Is G' rv v) h1 hk a w ⟨r.h,r.sz,aaF a,r.df⟩
 |normal=>exact apH (C:=C) (n:=n) (fr:=frA a) (own:=ov) (G:=G) (K:=fun v G'=>Is G' rv v) h1 hk a w ⟨r.h,r.sz,aaF a,r.df⟩
 |_=>cases he
end
end Go.Sx
end
section
namespace Go.Sx
open Go
section
variable {P:Program} {GB:Gh} {C:Ctx} {n:Nat} {E:Ext} {fr fr':FrF} {own own':List adu} {bs bs' bs1:List aeg} {ops:Array Oper} {Q:Exit→Act→World→Prop} {r:List Oper} {Φ:Act→World→Prop}
variable {dst:Option Nat} {t t' ty':TypeId} {pos:String} {af:Array Edge} {gd:Option (Nat×Bool)} {x y z:Operand} {e s by_:Nat}
class aIK (P:Program) (t:TypeId) (d:outParam DV):Prop where
 z: ∃z,TyZ P t z∧Is (fun _=>none) d z∧d.okc=true
abbrev SV.f (w:SV):FV:= .d (.v (.slice w.a w.n w.c))
theorem ajx(z:Value)(k:Nat):aaj (List.replicate k z)=abH z k:=by unfold aaj abH;rw[List.map_replicate]
theorem agv{G:Gh}{d:DV}{y:Value}(h:Is G d y): ∀k:Nat,IsLs G (List.replicate k d) (List.replicate k y)
 |0=> .nil
 |k+1=> .cons h (agv h k)
def aIn(fr:FrF):Nat→List (Nat×Operand)→Option (List DV)
 |_,[]=>some []
 |j,(i,x)::r=>match opD fr x,aIn fr (j+1) r with
  |some d,some l=>bif Nat.beq i j then some (d::l) else none
  |_,_=>none
theorem as6(pre mid post vs:List Value)(h:vs.length=mid.length):ovw (pre++(mid++post)) pre.length vs=pre++(vs++post):=by
 rw[acC _ _ _ (by simp;omega)]
 simp[h]
theorem arl(z:Value)(k:Nat):abH z (k+1)=aag z++abH z k:=by simp[abH,mX]
def awU(s:Nat)(ds:List DV):Bool:=ds.all fun d=>d.okc&&Nat.beq d.cells.length s
theorem ahC{ds:List DV}(h:awU s ds=true):adh s ds:=fun d hd=>by
 have:=dZ.1 h d hd
 simp only[bT] at this
 exact⟨this.1,aL this.2⟩
theorem amx{cs:List Value}{off s:Nat}: ∀(es:List Value),(∀i (h:i<es.length),aaZ cs (off+i*s) s=some (aag es[i]))→off≤cs.length→aaZ cs off (es.length*s)=some (aaj es)
 |[],_,ho=>by
  rw[abz _ _ _ (by simpa using ho)];simp[aaj]
 |v::t,h,ho=>by
  have h0:=h 0 (by simp)
  simp only[lY,fQ,oU] at h0
  obtain⟨k1,k2⟩:=agr h0
  have ih:=amx (off:=off+s) t (fun i hi=>by
   have:=h (i+1) (by simpa using hi)
   rw[iU,show off+(i*s+s)=off+s+i*s by omega] at this
   simpa using this) (by omega)
  obtain⟨k3,k4⟩:=agr ih
  rw[abz _ _ _ (by simp only[bW,iU];omega)]
  congr 1
  have e1:aaj (v::t)=aag v++aaj t:=by simp[aaj]
  rw[e1,k2,k4,bW,iU,jU (t.length*s) s,List.take_add,List.drop_drop]
theorem aEw{ov:List Own}{G:Gh}{w:SV}{es:List Value}(h:afe G s w es):Src P C ov G s w.n (.slice w.a w.n w.c) (aaj es):=by
 rcases h.mem with he|⟨b,off,cs,ha,hg,hc⟩
 ·subst he
  rw[h.len]
  exact aeP
 ·rw[ha]
  by_cases he:es=[]
  ·subst he;rw[h.len];exact aeP
  ·have hp:0<es.length:=nR.2 he
   have h0:=hc 0 hp
   have:=(agr h0).1
   rw[h.len]
   exact ayP hg (amx es hc (by omega))
def aJa(fr:FrF)(bs:List aeg)(s:Nat)(y:Operand)(ds:List DV):Prop:=
 (∃l,opD fr y=some (.sl l)∧l=ds∧adh s l)∨ ∃w ty lo,opF fr y=some w.f∧(⟨w,s,ty,ds,lo⟩:aeg)∈bs∧adh s ds
theorem akf[hT:acV P t e s by_][hN:TyN P t']{w:World}{ad2:Option Addr}{cap2:Nat}:(Builtin.append_ #[t,t'] ty' #[.slice none 0 0, .slice ad2 0 cap2]).run P w= .ok (.slice none 0 0) w:=by
 obtain⟨d,hd1⟩:=hN.un
 obtain⟨i,hi,his,hib⟩:=hT.info
 have h0:(Builtin.firstCells i.size 0 (.slice ad2 0 cap2)).run P w= .ok #[] w:=by
  cases ad2 with
  |none=>rfl
  |some a=>unfold Builtin.firstCells loadCells;simp[loadCellsFrom,run_pure]
 simp[Builtin.append_,run_underlying hT.un,run_underlying hd1,sizeOf,typeInfo,hi,Builtin.lenOf,h0]
theorem agQ[hT:acV P t e s by_][hN:TyN P t']{fr:Fr}{own:List Own}{G:Gh}{ad2:Option Addr}{cap2:Nat}(hx:opv fr x=some (.slice none 0 0))(hy:opv fr y=some (.slice ad2 0 cap2))(hd:aaM n dst=true)
  (h:St C n (put fr dst (.slice none 0 0)) own G Φ):Ch P C n fr own G ⟨dst, .call ⟨.builtin .append, #[x,y], #[t,t']⟩,ty',pos,af,gd⟩ Φ:=by
 intro a w Q rl
 refine abA (v:= .slice none 0 0) (w':=w) ?_ (h _ _ (rl.put _ hd))
 simp only[execOp,resolve,gM,cZ,jS,aac rl.fr hx,aac rl.fr hy]
 exact aal akf
theorem abw.upd{G:Gh}{w:SV}{s:Nat}{ty:TypeId}{ds:List DV}{lo:Bool}{B:List Own}(h:abw G ⟨w,s,ty,ds,lo⟩ B){i:Nat}{d:DV}(hi:ds[i]? =some d):
  ∃b vs rest lo',w.a=some ⟨b,0,none⟩∧B=[⟨b,aaj vs++rest,ty,lo'⟩]∧IsLs G ds vs∧(∀v∈vs,(aag v).length=s)∧i<vs.length∧
   ∀u d',Is G d' u→(aag u).length=s→abw G ⟨w,s,ty,ds.set i d',lo⟩ [⟨b,aaj (vs.set i u)++rest,ty,lo'⟩]:=by
 obtain⟨vs,hB,hv,hs,hlo⟩:=h
 obtain⟨v,h1,h2⟩:=hv.get hi
 obtain⟨hi',_⟩:=aS.1 h1
 rcases hB with⟨e,_,_⟩|⟨b,rest,lo',h3,h4,h5,h6,h7⟩
 ·rw[e] at h1;simp at h1
 ·refine⟨b,vs,rest,lo',by simp only[] at h3;rw[h3],h4,hv,hs,hi',fun u d' hu hul=>?_⟩
  have hall: ∀x∈vs.set i u,(aag x).length=s:=fun x hx=>by
   rcases List.mem_or_eq_of_mem_set hx with h'|rfl
   ·exact hs x h'
   ·exact hul
  refine⟨vs.set i u, .inr ⟨b,rest,lo',by simpa using h3,rfl,aax _ hall,?_,by simpa using h7⟩,hv.set i hu,hall,fun hl o ho=>?_⟩
  ·rw[aax _ hall,aN,←h5];exact h6
  ·have:=hlo hl
   rw[h4] at this
   rw[aV.1 ho]
   have h9:=this ⟨b,aaj vs++rest,ty,lo'⟩ aZ
   exact h9
theorem asA{s:Nat}{rest:List Value}{u:Value}(vs:List Value)(i:Nat)(h:i<vs.length)(hs: ∀v∈vs,(aag v).length=s)(hu:(aag u).length=s):ovw (aaj vs++rest) (i*s) (aag u)=aaj (vs.set i u)++rest:=by
 have hl:=aax vs hs
 have hle:i*s+s≤vs.length*s:=by rw[←iU];exact bK _ h
 rw[acC _ _ _ (by rw[hu,aR];omega),hu,fY (by omega),jN (by omega),ahE vs i hs (by omega),←iU,afJ vs (i+1) hs h,
  List.set_eq_take_append_cons_drop,if_pos h,show vs.take i++u::vs.drop (i+1)=vs.take i++([u]++vs.drop (i+1)) from rfl,adi,adi,ajp]
 simp
def reF(ks:List Nat)(f:FV)(fr:FrF):FrF:=ks.map (fun k=>(k,f))++fr
end
end Go.Sx
end
section
namespace Go.Sx
open Go Go.Proofs Tryz
section
variable {GB:Gh} {C:Ctx} {n:Nat} {Q0:Exit→Act→World→Prop} {fr fr':FrX} {own own':OwX} {cf cf':Cf} {vc vc':List Prop} {ops:Array Oper} {r:List Oper} {o:Oper} {K:List Kt}
def arn(row:Bool)(nm:Nat)(l:List DV):FX→FX
 | .rw m=>bif Nat.beq m nm then(bif row then .d (.sl l) else .no) else .rw m
 | .ov m off=>bif Nat.beq m nm then(bif row then .no else(match off with
  |0=> .d (.pt l)
  |_+1=> .no)) else .ov m off
 | .be m s i j=>bif Nat.beq m nm then .no else .be m s i j
 | .rs m s i j=>bif Nat.beq m nm then .no else .rs m s i j
 | .bx tp pre m post=>bif Nat.beq m nm then(bif row then(match tp with
  |true=> .d (.tp (pre++ .sl l::post))
  |false=> .d (.ag (pre++ .sl l::post))) else .no) else .bx tp pre m post
 |f=>f
def fcX{α:Type}(f:FX)(k:FX→α):α:=match f with
 | .d x=>k (.d x)
 | .rw m=>k (.rw m)
 | .ov a b=>k (.ov a b)
 | .be a b c d=>k (.be a b c d)
 | .rs a b c d=>k (.rs a b c d)
 |f=>k f
theorem apL{α:Type}{f:FX}{k:FX→α}:fcX f k=k f:=by cases f<;>rfl
def aFi{α:Type}(row:Bool)(nm:Nat)(l:List DV):FrX→(FrX→α)→α
 |[],k=>k []
 |(j,f)::t,k=>aFi row nm l t fun t'=>fcX (arn row nm l f) fun f'=>k ((j,f')::t')
def aFu{α:Type}(row:Bool)(nm:Nat)(l:List DV):List FX→(List FX→α)→α
 |[],k=>k []
 |f::t,k=>aFu row nm l t fun t'=>fcX (arn row nm l f) fun f'=>k (f'::t')
def aEl{α:Type}(row:Bool)(nm:Nat)(l:List DV):OwX→(OwX→α)→α
 |[],k=>k []
 |(j,B)::t,k=>aEl row nm l t fun t'=>bif Nat.beq j nm then k ((j,none)::t') else match B with
  |some (.o ty cs lo)=>aFu row nm l cs fun cs'=>k ((j,some (.o ty cs' lo))::t')
  |B=>k ((j,B)::t')
def anx(row:Bool)(nm:Nat)(l:List DV):Option Bk→Option Bk
 |some (.o ty cs lo)=>some (.o ty (cs.map (arn row nm l)) lo)
 |B=>B
theorem asu{α:Type}{row:Bool}{nm:Nat}{l:List DV}: ∀{cs:List FX} {k:List FX→α},aFu row nm l cs k=k (cs.map (arn row nm l))
 |[],k=>rfl
 |f::t,k=>by simp only[aFu,apL];rw[asu];rfl
theorem aon{α:Type}{row:Bool}{nm:Nat}{l:List DV}: ∀{fr:FrX} {k:FrX→α},aFi row nm l fr k=k (fr.map fun e=>(e.1,arn row nm l e.2))
 |[],k=>rfl
 |(j,f)::t,k=>by simp only[aFi,apL];rw[aon];rfl
theorem aoq{α:Type}{row:Bool}{nm:Nat}{l:List DV}: ∀{own:OwX} {k:OwX→α},aEl row nm l own k=k (own.map fun e=>(e.1,bif Nat.beq e.1 nm then none else anx row nm l e.2))
 |[],k=>rfl
 |(j,B)::t,k=>by
  simp only[aEl,aoq (own:=t),cZ]
  cases Nat.beq j nm with
  |true=>rfl
  |false=>
   cases B with
   |none=>rfl
   |some B=>cases B<;>simp only[cond_false,asu,anx]
theorem aiA{g:FX→FX}: ∀{fr:FrX} {k:Nat},aao (fr.map fun e=>(e.1,g e.2)) k=(aao fr k).map g
 |[],k=>rfl
 |(j,f)::t,k=>by
  simp only[cZ]
  rw[aaI,aaI,aiA (fr:=t)]
  split<;>rfl
theorem anA{row:Bool}{nm:Nat}{l:List DV}: ∀{own:OwX} {k:Nat},aap (own.map fun e=>(e.1,bif Nat.beq e.1 nm then none else anx row nm l e.2)) k=if k=nm then none else anx row nm l (aap own k)
 |[],k=>by simp[aap,anx]
 |(j,B)::t,k=>by
  simp only[cZ]
  rw[aaE,aaE,anA (own:=t)]
  by_cases h:k=j
  ·subst h
   simp only[if_true]
   by_cases e:k=nm
   ·subst e;simp
   ·have:Nat.beq k nm=false:=by
     cases hb:Nat.beq k nm with
     |false=>rfl
     |true=>exact absurd (aL hb) e
    simp[this,e]
  ·simp[h]
structure FzR where
 fr:FrX
 own:OwX
def fzA(fr:FrX)(own:OwX)(nm:Nat):Option FzR:=match aap own nm with
 |some (.b _ _ ds true)=>aFi true nm ds fr fun fr'=>aEl true nm ds own fun own'=>some ⟨fr',own'⟩
 |some (.o _ cs true)=>match adV cs with
  |some l=>aFi false nm l fr fun fr'=>aEl false nm l own fun own'=>some ⟨fr',own'⟩
  |none=>none
 |_=>none
theorem alU.of_mem{o:Own}: ∀{own:List Own},o∈own→ ∃own',alU own o own'∧ ∀x∈own,x.b≠o.b→x∈own'
 |[],h=>by cases h
 |x::t,h=>by
  rcases aT.1 h with rfl|h
  ·exact⟨t, .hd ..,fun y hy hb=>(aT.1 hy).elim (fun e=>absurd (by rw[e]) hb) id⟩
  ·obtain⟨own',h1,h2⟩:=alU.of_mem h
   exact⟨x::own', .tl _ _ _ _ h1,fun y hy hb=>(aT.1 hy).elim (fun e=>by rw[e];exact aZ) (fun e=>aJ _ (h2 y e hb))⟩
theorem atm{row:Bool}{nm:Nat}{l:List DV}{ρ:NE}{G G':Gh}{f:FX}{y:Value}(hg:GLe G G')(h:IsX ρ G f y)(hr:row=true→ ∀y,IsX ρ G (.rw nm) y→Is G' (.sl l) y)(ho:row=false→ ∀y,IsX ρ G (.ov nm 0) y→Is G' (.pt l) y):IsX ρ G' (arn row nm l f) y:=by
 cases f with
 |rw m=>
  simp only[arn]
  cases hb:Nat.beq m nm with
  |false=>exact h.up hg
  |true=>
   cases aL hb
   cases row with
   |true=>exact hr rfl y h
   |false=>trivial
 |ov m off=>
  simp only[arn]
  cases hb:Nat.beq m nm with
  |false=>exact h.up hg
  |true=>
   cases aL hb
   cases row with
   |true=>trivial
   |false=>cases off with
    |zero=>exact ho rfl y h
    |succ=>trivial
 |be m s i j=>
  simp only[arn]
  cases hb:Nat.beq m nm with
  |false=>exact h.up hg
  |true=>trivial
 |rs m s i j=>
  simp only[arn]
  cases hb:Nat.beq m nm with
  |false=>exact h.up hg
  |true=>trivial
 |bx tp pre m post=>
  simp only[arn]
  cases hb:Nat.beq m nm with
  |false=>exact h.up hg
  |true=>
   cases aL hb
   cases row with
   |false=>trivial
   |true=>
    obtain⟨m1,m2,e,h1,h2⟩:=h
    have hl:=(h1.up hg).app (.cons (hr rfl _ rfl) (h2.up hg))
    cases tp with
    |true=>exact aem.2 ⟨_,e,hl⟩
    |false=>exact ab4.2 ⟨_,e,hl⟩
 |_=>exact h.up hg
theorem atq{row:Bool}{nm:Nat}{l:List DV}{ρ:NE}{G G':Gh}(hg:GLe G G')(hr:row=true→ ∀y,IsX ρ G (.rw nm) y→Is G' (.sl l) y)(ho:row=false→ ∀y,IsX ρ G (.ov nm 0) y→Is G' (.pt l) y): ∀{cs:List FX} {m:List Value},adx ρ G cs m→adx ρ G' (cs.map (arn row nm l)) m
 |[],m,h=>h
 |f::t,m,⟨y,q,e,h1,h2⟩=>⟨y,q,e,atm hg h1 hr ho,atq hg hr ho h2⟩
theorem RlX.frz{ρ:NE}{G G':Gh}{ov ov':List Own}{a:Act}{w:World}{row:Bool}{nm:Nat}{l:List DV}(h:RlX GB C n (aao fr) (aap own) ρ G ov a w)(hg:GLe G G')(hh:abk C ov' G' w)(hv: ∀o∈ov,(ρ nm).a≠some ⟨o.b,0,none⟩→o∈ov'){B0:Bk}(hb:aap own nm=some B0)
  (hr:row=true→ ∀y,IsX ρ G (.rw nm) y→Is G' (.sl l) y)(ho:row=false→ ∀y,IsX ρ G (.ov nm 0) y→Is G' (.pt l) y):
  RlX GB C n (aao (fr.map fun e=>(e.1,arn row nm l e.2))) (aap (own.map fun e=>(e.1,bif Nat.beq e.1 nm then none else anx row nm l e.2))) ρ G' ov' a w:=by
 have inv: ∀m B,aap (own.map fun e=>(e.1,bif Nat.beq e.1 nm then none else anx row nm l e.2)) m=some B→m≠nm∧ ∃B1,aap own m=some B1∧anx row nm l (some B1)=some B:=fun m B e=>by
  rw[anA] at e
  split at e
  ·cases e
  ·rename_i hm
   refine⟨hm,?_⟩
   cases hl:aap own m with
   |none=>rw[hl] at e;cases e
   |some B1=>rw[hl] at e;exact⟨B1,rfl,e⟩
 refine⟨h.gb.trans hg,hh,h.sz,h.df,fun k f e=>?_,fun m B e=>?_,fun m m' B B' e e'=>?_,h.fxd⟩
 ·rw[aiA] at e
  cases hf:aao fr k with
  |none=>rw[hf] at e;cases e
  |some g=>
   rw[hf] at e;cases e
   obtain⟨y,h1,h2⟩:=h.fx k g hf
   exact⟨y,h1,atm hg h2 hr ho⟩
 ·obtain⟨hm,B1,h1,h2⟩:=inv m B e
  obtain⟨os,h3,h4⟩:=h.bx m B1 h1
  refine⟨os,?_,fun o ho'=>hv o (h4 o ho') fun hc=>h.dj m nm B1 B0 h1 hb hm _ (h3.blk ho') hc⟩
  cases B1 with
  |b=>cases h2;exact h3.up hg
  |c=>cases h2;exact h3.up hg
  |o ty cs lo=>cases h2;obtain⟨b,q,h5,h6,h7⟩:=h3;exact⟨b,q,h5,h6,atq hg hr ho h7⟩
 ·obtain⟨_,B1,h1,_⟩:=inv m B e
  obtain⟨_,B2,h2,_⟩:=inv m' B' e'
  exact h.dj m m' B1 B2 h1 h2
theorem RlX.frzRow{lk:LK}{bk:BM}{ρ:NE}{G:Gh}{ov:List Own}{a:Act}{w:World}{nm:Nat}{ty:TypeId}{s:Nat}{ds:List DV}(r:RlX GB C n lk bk ρ G ov a w)(hb:bk nm=some (.b ty s ds true)):
  ∃G' ov',GLe G G'∧abk C ov' G' w∧(∀o∈ov,(ρ nm).a≠some ⟨o.b,0,none⟩→o∈ov')∧ ∀y,IsX ρ G (.rw nm) y→Is G' (.sl ds) y:=by
 obtain⟨B,⟨vs,hB,hv,hs,hlo⟩,hBo⟩:=r.row (y:= .nilFunc) hb
 rcases hB with⟨e1,e2,e3⟩|⟨b,rest,lo',e2,e3,h5,h6,h7⟩
 ·subst e1
  have ed:ds=[]:=bR (by rw[←hv.len];rfl)
  subst ed
  simp only at e2
  refine⟨G,ov,GLe.refl _,r.h,fun o ho _=>ho,fun y hy=>?_⟩
  rw[show y=_ from hy,e2]
  exact adZ.2 ⟨0,⟨none,0,0⟩,[],rfl, .nil G 0, .nil⟩
 ·subst e3
  have hl:=hlo rfl _ aZ
  simp only at hl;subst hl
  obtain⟨ov',o1,o2⟩:=alU.of_mem (hBo _ aZ)
  obtain⟨f1,f2⟩:=r.h.freeze o1
  simp only at e2
  refine⟨_,ov',f2,f1,fun o ho hne=>o2 o ho fun e=>hne (by rw[e2,e]),fun y hy=>?_⟩
  rw[show y=_ from hy,e2]
  exact adZ.2 ⟨s,⟨some ⟨b,0,none⟩,vs.length,_⟩,vs,rfl,afe.of_flat hs (if_pos rfl) h7,hv.up f2⟩
theorem RlX.frzVar{lk:LK}{bk:BM}{ρ:NE}{G:Gh}{ov:List Own}{a:Act}{w:World}{nm:Nat}{ty:TypeId}{cs:List FX}{l:List DV}(r:RlX GB C n lk bk ρ G ov a w)(hb:bk nm=some (.o ty cs true))(hl:adV cs=some l):
  ∃G' ov',GLe G G'∧abk C ov' G' w∧(∀o∈ov,(ρ nm).a≠some ⟨o.b,0,none⟩→o∈ov')∧ ∀y,IsX ρ G (.ov nm 0) y→Is G' (.pt l) y:=by
 obtain⟨os,⟨b,m,h3,rfl,h4⟩,h5⟩:=r.bx _ _ hb
 obtain⟨ov',o1,o2⟩:=alU.of_mem (h5 _ aZ)
 obtain⟨f1,f2⟩:=r.h.freeze o1
 refine⟨_,ov',f2,f1,fun o ho hne=>o2 o ho fun e=>hne (by rw[h3,e]),fun y hy=>?_⟩
 obtain⟨b',h6,rfl⟩:=hy
 rw[h3] at h6;cases h6
 exact akb.2 ⟨b,m,rfl,if_pos rfl,(acN h4 hl).up f2⟩
theorem avp{nm:Nat}{Φ:Act→World→Prop}{R:FzR}(h:fzA fr own nm=some R)(hk:SX GB C n (aao R.fr) (aap R.own) Φ):SX GB C n (aao fr) (aap own) Φ:=by
 refine⟨fun ρ G ov a w r=>?_⟩
 unfold fzA at h
 split at h<;>try (cases h;done)
 ·rename_i ty s ds hb
  rw[aon,aoq] at h;cases h
  obtain⟨G',ov',h1,h2,h3,h4⟩:=r.frzRow hb
  exact hk.run ρ G' ov' a w (r.frz (row:=true) h1 h2 h3 hb (fun _=>h4) (fun e=>by cases e))
 ·rename_i ty cs hb
  split at h<;>try (cases h;done)
  rename_i l hl
  rw[aon,aoq] at h;cases h
  obtain⟨G',ov',h1,h2,h3,h4⟩:=r.frzVar hb hl
  exact hk.run ρ G' ov' a w (r.frz (row:=false) h1 h2 h3 hb (fun e=>by cases e) (fun _=>h4))
theorem fz[fu:Fu](nm:Nat){fr1:FrX}{own1:OwX}(h:fzA fr own nm=some ⟨fr1,own1⟩)(hgo:go tt n fu.n [] fr1 own1 (.ops ops r K)=⟨vc,fr',own',cf'⟩)(k:CfS prog GB C n Q0 fr' own' cf')(hv:aah vc:=by first|exact trivial|(simp only[aah];kernel_rfl)|(simp only[aah];omega)|(simp only[aah,aK,aN,aY];omega)):CfS prog GB C n Q0 fr own (.ops ops r K):=
 avp h (gx' hgo hv k)
theorem fzE(nm:Nat){fr1:FrX}{own1:OwX}{e:Exit}(h:fzA fr own nm=some ⟨fr1,own1⟩)(k:CfS prog GB C n Q0 fr1 own1 (.ex e K)):CfS prog GB C n Q0 fr own (.ex e K):=avp h k
theorem fzC(nm:Nat){fr1:FrX}{own1:OwX}{c:Code}(h:fzA fr own nm=some ⟨fr1,own1⟩)(k:CfS prog GB C n Q0 fr1 own1 (.code c K)):CfS prog GB C n Q0 fr own (.code c K):=avp h k
def leF:FrX→FrX→Prop
 |[],_=>True
 |(k,v)::t,fr=>aao fr k=some v∧leF t fr
def leO:OwX→OwX→Prop
 |[],_=>True
 |(k,v)::t,own=>aap own k=v∧leO t own
theorem ajF: ∀{f:FrX},leF f fr→alF (aao f) (aao fr)
 |[],_,k,x,h=>by cases h
 |(j,v)::t,h,k,x,e=>by
  rw[aaI] at e
  split at e
  ·cases e;rename_i hk;rw[hk];exact h.1
  ·exact ajF h.2 k x e
theorem ajA: ∀{f:OwX},leO f own→alF (aap f) (aap own)
 |[],_,k,x,h=>by cases h
 |(j,v)::t,h,k,x,e=>by
  rw[aaE] at e
  split at e
  ·rename_i hk;rw[hk,h.1,e]
  ·exact ajA h.2 k x e
theorem leI{k:Nat}{q:IntKind}{a b:Int}(h:aao fr k=some (.d (.v (.int q a))))(e:a=b):aao fr k=some (.d (.v (.int q b))):=e▸h
def AtX(GB:Gh)(C:Ctx)(n:Nat){X:Type}(F:X→FrX)(O:X→OwX)(I:X→Prop)(a:Act)(w:World):Prop:=
 ∃x ρ G ov,I x∧RlX GB C n (aao (F x)) (aap (O x)) ρ G ov a w
def aB3:List Oper→List Nat→List Nat
 |[],l=>l
 |o::r,l=>match o.dst with
  |some d=>d::aB3 r l
  |none=>aB3 r l
def azB:Code→List Nat→List Nat
 | .region _ ops _,l=>aB3 ops.toList l
 | .seq a b,l=>azB a (azB b l)
 | .cond _ a b,l=>azB a (azB b l)
 | .block _ a,l=>azB a l
 | .loop a,l=>azB a l
 | .scope a,l=>azB a l
 |_,l=>l
def aCh{α:Type}:List Nat→FrX→(FrX→α)→α
 |_,[],k=>k []
 |l,(j,f)::t,k=>bif ayS l j then aCh l t k else aCh (j::l) t fun t'=>k ((j,f)::t')
def axp{α:Type}:List Nat→OwX→(OwX→α)→α
 |_,[],k=>k []
 |l,(j,B)::t,k=>bif ayS l j then axp l t k else match B with
  |some B=>axp l t fun t'=>k ((j,some B)::t')
  |none=>axp l t k
structure Kp where
 fr:FrX
 own:OwX
def keep(c:Code)(uf uo:List Nat)(fr:FrX)(own:OwX):Kp:=fcL (azB c uo) fun m=>fcL (uf++m) fun m'=>aCh m' fr fun fr'=>axp m own fun own'=>⟨fr',own'⟩
theorem lp[fu:Fu]{c:Code}{X:Type}(U:X→FrX)(V:X→OwX)(I:X→Prop)(μ:X→Nat)(x0:X){kf:FrX}{ko:OwX}{cf':X→Cf}{fr':X→FrX}{own':X→OwX}{vc:X→List Prop}(hkp:keep c ((U x0).map (·.1)) ((V x0).map (·.1)) fr own=⟨kf,ko⟩)(hI:I x0)
  (hgo: ∀x,go tt n fu.n [] (U x++kf) (V x++ko) (.code c (.ag (AtX GB C n (fun y=>U y++kf) (fun y=>V y++ko) (fun y=>I y∧μ y<μ x))::K))=⟨vc x,fr' x,own' x,cf' x⟩)
  (round: ∀x,I x→CfS prog GB C n Q0 (fr' x) (own' x) (cf' x))(hF:leF (U x0++kf) fr:=by repeat (first|exact trivial|refine And.intro rfl ?_|refine And.intro (leI rfl (by first|omega|(dsimp only;omega))) ?_|refine And.intro (leI rfl (by simp)) ?_))(hO:leO (V x0++ko) own:=by repeat (first|exact trivial|refine And.intro rfl ?_))
  (hv: ∀x,I x→aah (vc x):=by intros;first|exact trivial|(simp only[aah];kernel_rfl)|(simp only[aah];omega)|(simp only[aah,aK,aN,aY];omega)):CfS prog GB C n Q0 fr own (.code (.loop c) K):=by
 refine⟨fun ρ G ov a w r=>?_⟩
 have r0:=r.mono (ajF hF) (ajA hO)
 intro b k cs hro hb hrm
 have key: ∀m a w,(∃x ρ G ov,I x∧μ x=m∧RlX GB C n (aao (U x++kf)) (aap (V x++ko)) ρ G ov a w)→
   ∃e a' w',cQ C.rd prog Q0 K e a' w'∧ArrivesIn (Machine.fenced prog (FW C.rd)) prog (lone (b.atR a (.code c:: .inLoop c::k)) cs w) b k cs e a' w':=by
  intro m
  induction m using Nat.strongRecOn with
  |_ m ih=>
   intro a w ⟨x,ρ,G,ov,hx,hm,hr⟩
   have h1:=gx' (GB:=GB) (C:=C) (Q0:=Q0) (hgo x) (hv x hx) (round x hx)
   obtain⟨e,a₁,w₁,hq,harr⟩:=h1.run ρ G ov a w hr b (.inLoop c::k) cs hro hb hrm
   cases e with
   |normal=>
    obtain⟨x',ρ',G',ov',⟨hx',hlt⟩,hr'⟩:=hq
    obtain⟨e₂,a₂,w₂,hq₂,harr₂⟩:=ih (μ x') (hm▸hlt) a₁ w₁ ⟨x',ρ',G',ov',hx',rfl,hr'⟩
    exact⟨e₂,a₂,w₂,hq₂, .of_steps (StepsIn.trans harr (.one (fenced_calm hb hrm rfl) stepR_inLoop)) harr₂⟩
   |exit id=>exact⟨_,a₁,w₁,hq, .pass (x:= .inLoop c) rfl (fun _ _=> .inl (by simp)) harr⟩
   |goto l=>exact⟨_,a₁,w₁,hq, .pass (x:= .inLoop c) rfl (fun _ _=> .inl (by simp)) harr⟩
   |ret=>exact⟨_,a₁,w₁,hq, .pass (x:= .inLoop c) rfl (fun _ _=> .inl (by simp)) harr⟩
   |panic ch=>exact⟨_,a₁,w₁,hq, .pass (x:= .inLoop c) rfl (fun _ _=> .inl (by simp)) harr⟩
   |outgrown=>exact⟨_,a₁,w₁,hq, .pass (x:= .inLoop c) rfl (fun _ _=> .inl (by simp)) harr⟩
 obtain⟨e,a',w',q,rr⟩:=key (μ x0) a w ⟨x0,ρ,G,ov,hI,rfl,r0⟩
 exact⟨e,a',w',q, .of_steps (.one (fenced_calm hb hrm rfl) stepR_loop) rr⟩
theorem at_{X:Type}{F:X→FrX}{O:X→OwX}{I:X→Prop}(x:X)(hI:I x)(hF:leF (F x) fr:=by repeat (first|exact trivial|refine And.intro rfl ?_|refine And.intro (leI rfl (by first|omega|(dsimp only;omega))) ?_|refine And.intro (leI rfl (by simp)) ?_))(hO:leO (O x) own:=by repeat (first|exact trivial|refine And.intro rfl ?_)):CfS prog GB C n Q0 fr own (.ex .normal (.ag (AtX GB C n F O I)::K)):=
 ⟨fun ρ G ov a w r=>⟨x,ρ,G,ov,hI,r.mono (ajF hF) (ajA hO)⟩⟩
theorem mg[fu:Fu]{c d:Code}{X:Type}(U:X→FrX)(V:X→OwX)(I:X→Prop){kf:FrX}{ko:OwX}{cf':X→Cf}{fr':X→FrX}{own':X→OwX}{vc:X→List Prop}(u0 v0:List Nat)(hkp:keep c u0 v0 fr own=⟨kf,ko⟩)
  (h1:CfS prog GB C n Q0 fr own (.code c (.ag (AtX GB C n (fun y=>U y++kf) (fun y=>V y++ko) I)::K)))
  (hgo: ∀x,go tt n fu.n [] (U x++kf) (V x++ko) (.code d K)=⟨vc x,fr' x,own' x,cf' x⟩)(k: ∀x,I x→CfS prog GB C n Q0 (fr' x) (own' x) (cf' x))(hv: ∀x,I x→aah (vc x):=by intros;first|exact trivial|(simp only[aah];kernel_rfl)|(simp only[aah];omega)|(simp only[aah,aK,aN,aY];omega)):CfS prog GB C n Q0 fr own (.code c (.sq d::K)):=by
 refine SX.imp h1 fun a w h=>awn h ?_
 intro e a w h
 cases e with
 |normal=>
  obtain⟨x,ρ,G,ov,hI,hr⟩:=h
  have:=gx' (GB:=GB) (C:=C) (Q0:=Q0) (hgo x) (hv x hI) (k x hI)
  exact this.run ρ G ov a w hr
 |_=>exact h
end
end Go.Sx
end
section
namespace Go.Sx
open Go
section
variable {P:Program} {ops:Array Oper} {Q:Exit→Act→World→Prop} {S:World→Prop} {π₂:List (Nat×Bool)}
abbrev aI4:Nat→Bool:=fun _=>false
def grS(S:World→Prop)(K:(World→Prop)→Act→World→Prop)(a:Act)(w:World):Prop:= ∃S':World→Prop,(∀w,S' w→S w)∧S' w∧K S' a w
def dwT(P:Program)(ops:Array Oper)(Q:Exit→Act→World→Prop)(K:(World→Prop)→Act→World→Prop):List Nat→List (Nat×Bool)→(World→Prop)→Act→World→Prop
 |[],[],S,a,w=>K S a w
 |k::ks,[],S,a,w=> ∀j,(h:j∈k::ks)→wpOp P ops Q j (grS S (dwT P ops Q K (without (k::ks) j) [])) a w
 |ks,(i,true)::r,S,a,w=> ∃o v,ops[i]? =some o∧S w∧YieldsIf P ops S o v a∧dwT P ops Q K ks r S (a.put o.dst v) w
 |ks,(i,false)::r,S,a,w=>wpOp P ops Q i (grS S (dwT P ops Q K ks r)) a w∧
   ∀j,(h:j∈ks)→wpOp P ops Q j (grS S (dwT P ops Q K (without ks j) ((i,false)::r))) a w
termination_by ks π=>ks.length+π.length
decreasing_by
 all_goals (first|(have:=ahM h;simp only[bW,gX] at*;omega)|(simp only[bW];omega))
def aI9(Q:Exit→Act→World→Prop):(World→Prop)→Act→World→Prop:=fun _ a w=>Q .normal a w
end
section
variable {P:Program} {GB:Gh} {C:Ctx} {n:Nat} {fr fr':FrF} {own own' own0 own1 own1':List adu} {bs bs0 bs1 bs1':List aeg} {ops:Array Oper} {Q:Exit→Act→World→Prop} {fd:List FD} {π π₂:List (Nat×Bool)}
structure SR (GB:Gh) (C:Ctx) (n:Nat) (fr:FrF) (own0:List adu) (bs0:List aeg) (own1:List adu) (bs1:List aeg) (fd:List FD) (K:List Nat→(World→Prop)→Act→World→Prop):Prop where
 run: ∀G frv o0 o1,GLe GB G→aFG G fr frv→OB G own0 bs0 o0→OB G own1 bs1 o1→ ∀fs:Fs,St C n (frv++fFs fd fs) (o1++(o0++fOs fd fs)) G (K (aF4 fd fs) (HS C o0 G))
instance {GB:Gh} {C:Ctx} {n:Nat} {fr:FrF} {own0:List adu} {bs0:List aeg} {own1:List adu} {bs1:List aeg} {fd:List FD} {K:List Nat→(World→Prop)→Act→World→Prop}:CoeFun (SR GB C n fr own0 bs0 own1 bs1 fd K) (fun _=> ∀G frv o0 o1,GLe GB G→aFG G fr frv→OB G own0 bs0 o0→OB G own1 bs1 o1→ ∀fs:Fs,St C n (frv++fFs fd fs) (o1++(o0++fOs fd fs)) G (K (aF4 fd fs) (HS C o0 G))):=⟨SR.run⟩
abbrev dwK (P:Program) (ops:Array Oper) (Q:Exit→Act→World→Prop) (K:(World→Prop)→Act→World→Prop) (π:List (Nat×Bool)):List Nat→(World→Prop)→Act→World→Prop:=fun ks S=>dwT P ops (acv Q) K ks π S
def frB:List FD→List Nat→FrF
 |f::fd,b::bl=>(f.d, .d (.v (.pointer (some ⟨b,0,none⟩))))::frB fd bl
 |_,_=>[]
def owB:List FD→List (List DV)→List Nat→List adu
 |f::fd,c::cl,b::bl=>⟨b,c,f.t,true⟩::owB fd cl bl
 |_,_,_=>[]
def aHU:List FD→List (List DV)→Prop
 |f::fd,c::cl=>IsLs (fun _=>none) c (aag f.z)∧aHU fd cl
 |[],[]=>True
 |_,_=>False
end
def aIE{α:Type}(idx:List Nat)(l:List α):List α:=idx.filterMap (l[·]?)
section
variable {P:Program} {GB:Gh} {C:Ctx} {n:Nat} {E:Ext} {fr fr':FrF} {own own':List adu} {bs bs' bs1:List aeg} {ops:Array Oper} {Q:Exit→Act→World→Prop} {r:List Oper} {Φ:Act→World→Prop}
variable {dst:Option Nat} {t t' ty':TypeId} {pos:String} {af:Array Edge} {gd:Option (Nat×Bool)} {x y z:Operand} {e s by_:Nat}
def PB(GB:Gh)(P:Program)(f:FuncId)(mk:SV→List DV)(s:Nat)(ty:TypeId)(dsi:List DV)(mkr:SV→DV)(dso:List DV):Prop:=
 ∀G w vs B,GLe GB G→abw G ⟨w,s,ty,dsi,false⟩ B→IsLs G (mk w) vs→FnO P f vs B G (fun v own' G'=> ∃w',Is G' (mkr w') v∧abw G' ⟨w',s,ty,dso,false⟩ own')
def aIs(fr:FrF):List Operand→Option (List DV)
 |[]=>some []
 |x::t=>match opF fr x,aIs fr t with
  |some (.d d),some l=>some (d::l)
  |_,_=>none
theorem abw.asB{G:Gh}{w:SV}{ty:TypeId}{ds:List DV}{lo:Bool}{B:List Own}(h:abw G ⟨w,s,ty,ds,lo⟩ B):abw G ⟨w,s,ty,ds,false⟩ (Sx.asB B):=by
 obtain⟨vs,h1,h2,h3,h4⟩:=h
 exact⟨vs,h1.asB,h2,h3,fun h=>by cases h⟩
theorem abw.weak{G:Gh}{w:SV}{ty:TypeId}{ds:List DV}{lo:Bool}{B:List Own}(h:abw G ⟨w,s,ty,ds,lo⟩ B):abw G ⟨w,s,ty,ds,false⟩ B:=by
 obtain⟨vs,h1,h2,h3,h4⟩:=h
 exact⟨vs,h1,h2,h3,fun h=>by cases h⟩
inductive RVX (fr:FrF):List ResultVar→List DV→Prop
 |nil:RVX fr [] []
 |tmp {t:Nat} {v:DV} {rs:List ResultVar} {vs:List DV} (h:aoo fr t=some (.d v)) (k:RVX fr rs vs):RVX fr (.tmp t::rs) (v::vs)
end
section
variable {P:Program} {GB:Gh} {C:Ctx} {n:Nat} {E:Ext} {fr fr':FrF} {own own':List adu} {bs bs' bs1:List aeg} {ops:Array Oper} {Q:Exit→Act→World→Prop} {r:List Oper} {Φ:Act→World→Prop}
variable {dst:Option Nat} {t t' ty':TypeId} {pos:String} {af:Array Edge} {gd:Option (Nat×Bool)} {x y z:Operand} {e s by_:Nat}
def PX(GB:Gh)(P:Program)(f:FuncId)(ds:List DV)(ι:Type)(r:ι→DV):Prop:=
 ∀G vs,GLe GB G→IsLs G ds vs→Fn P f vs G (fun v G'=> ∃x,Is G' (r x) v)
def PMX(GB:Gh)(P:Program)(f:FuncId)(ds:List DV)(b:Nat)(ty:TypeId)(cs:List DV)(ι:Type)(r:ι→DV)(cs':ι→List DV):Prop:=
 ∀G vs m lo,GLe GB G→IsLs G ds vs→IsLs G cs m→FnM P f vs [⟨b,m,ty,lo⟩] G (fun v css G'=> ∃x,Is G' (r x) v∧ ∃m',css=[m']∧IsLs G' (cs' x) m')
def PN(GB:Gh)(P:Program)(f:FuncId)(ds:List DV)(ty:TypeId)(ι:Type)(cs:ι→List DV):Prop:=
 ∀G vs,GLe GB G→IsLs G ds vs→FnO P f vs [] G (fun v own' G'=> ∃x b m,v= .pointer (some ⟨b,0,none⟩)∧own'=[⟨b,m,ty,true⟩]∧IsLs G' (cs x) m)
inductive OSp:List adu→Nat→List DV→TypeId→Bool→List adu→List adu→Prop
 |hd (b:Nat) (cs:List DV) (ty:TypeId) (lo:Bool) (t:List adu):OSp (⟨b,cs,ty,lo⟩::t) b cs ty lo [] t
 |tl (o:adu) (t:List adu) (b:Nat) (cs:List DV) (ty:TypeId) (lo:Bool) (L R:List adu) (h:OSp t b cs ty lo L R):OSp (o::t) b cs ty lo (o::L) R
end
section
variable {P:Program} {GB:Gh} {C:Ctx} {n:Nat} {fr:FrF} {own:List adu} {bs:List aeg}
def PMR(GB:Gh)(P:Program)(f:FuncId)(ds:List DV)(b:Nat)(ty:TypeId)(cs:List DV)(s:Nat)(ty2:TypeId)(ι:Type)(rows:ι→List DV)(cs':ι→List DV):Prop:=
 ∀G vs m lo,GLe GB G→IsLs G ds vs→IsLs G cs m→FnO P f vs [⟨b,m,ty,lo⟩] G (fun v own' G'=> ∃x w m' B,v= .slice w.a w.n w.c∧own'=⟨b,m',ty,false⟩::B∧IsLs G' (cs' x) m'∧abw G' ⟨w,s,ty2,rows x,true⟩ B∧ ∀o∈B,b≠o.b)
variable {dst:Option Nat} {t t' ty':TypeId} {pos:String} {af:Array Edge} {gd:Option (Nat×Bool)} {x y z:Operand}
theorem auG{fr:Fr}{own:List Own}{G:Gh}{fn:Func}{K:Value→List Own→Gh→Prop}{vs:List Value}(hr:RVs P fr own fn.results.toList vs)(own2 own3:List Own)(hp:own.Perm own2)(hs:own3.Sublist own2)(hk:own3.Pairwise (fun x y=>x.b≠y.b)→K (abL vs) own3 G):St C n fr own G (acF C P fn (agE C K) .ret):=
 fun a w rl hmk=>⟨rl.df.trans hmk,_,ab5 hr rl.fr rl.h,_,own3,G,rfl,(rl.h.perm hp).drop hs,hk ((rl.h.perm hp).drop hs).nd⟩
variable {e s by_:Nat}
theorem atd{G:Gh}{l:List DV}{w:SV}{es:List Value}{s' nhi mx':Nat}(hsl:afe G s' w es)(hl:IsLs G l es)(ho:adh s l)(h2:nhi≤l.length)(hm1:nhi≤mx')(hm2:mx'≤w.c):Is G (.sl (l.take nhi)) (.slice w.a nhi mx'):=by
 have hn:=hsl.len
 have hcap:=hsl.cap
 have hll:=hl.len
 have e9: ∀s,ap4 w.a w.n w.c 0 nhi mx' s= .slice w.a nhi mx':=by
  intro s
  unfold ap4
  cases w.a with
  |none=>simp
  |some ad=>simp[Addr.add]
 rcases afo hsl hl ho with he|he
 ·subst he
  have:l=[]:=bR (by rw[←hll];rfl)
  subst this
  have e1:nhi=0:=by simp at h2;exact h2
  subst e1
  refine adZ.2 ⟨s,⟨_,0,mx'⟩,[],rfl,⟨rfl,bX _, .inl rfl⟩,by simpa using IsLs.nil⟩
 ·subst he
  have k:=hsl.sub 0 nhi mx' (bX _) (by omega) hm1 hm2
  have k2:=adZ.2 ⟨s',⟨_,_,_⟩,_,rfl,k,(hl.take nhi).drop 0⟩
  rw[gT] at k2
  have e:=e9 s'
  unfold ap4 at e
  revert k2
  simp only[] at*
  intro k2
  first|exact e▸k2|(simp at e k2⊢;first|exact k2|(cases hw:w.a<;>simp_all [Addr.add]))
end
end Go.Sx
end
section
namespace Go.Sx
open Go Go.Proofs
section
variable {P:Program} {T:TT} {GB:Gh} {C:Ctx} {n:Nat} {lk:LK} {bk:BM} {ρ:NE} {G:Gh} {ov:List Own} {a:Act} {w:World}
variable {dst:Option Nat} {t t' ty':TypeId} {pos:String} {af:Array Edge} {gd:Option (Nat×Bool)} {x y:Operand} {e s by_:Nat}
theorem aDe[hT:acV P t e s by_]{k:IntKind}{l:List DV}{d:DV}{i:Int}(hx:evD lk x=some (.sl l))(hy:evX lk y=some (.d (.v (.int k i))))(h0:0≤i)(he:l[i.toNat]? =some d)(hd:(d.okc&&Nat.beq d.cells.length s)=true):
  OpR P GB C n lk bk ⟨dst, .indexAddr t x y,ty',pos,af,gd⟩ (.ep d.cells) [] []:= .yd fun ρ G ov a w r=>by
 simp only[bT] at hd
 obtain⟨hd,hs⟩:=hd
 obtain⟨u,h1,h2⟩:=r.evD hx
 obtain⟨q,g1,g2⟩:=r.ev hy
 rw[aay] at g2;subst g2
 obtain⟨s',z,es,rfl,hsl,hl⟩:=adZ.1 h2
 obtain⟨v,h3,h4⟩:=hl.get he
 obtain⟨h5,h6⟩:=aS.1 h3
 have hc:=(h4.cells hd).1.len
 replace hs:=aL hs
 rcases hsl.mem with h|⟨b,off,cs,ha,hg,hcs⟩
 ·rw[h] at h5;simp at h5
 ·have h7:=hcs i.toNat h5
  rw[h6] at h7
  have h8:=agS h7
  have:s'=s:=by omega
  subst this
  rw[ha] at h1
  have hn:=hsl.len
  refine⟨.pointer (some ⟨b,off+i.toNat*s',none⟩),⟨b,_,cs,aag v,rfl,hg,?_,(h4.cells hd).1⟩,aiC h1 g1 h0 (by omega)⟩
  rw[←hc,h8]
  exact h7
def ldE(ag:Option Nat)(cs:List DV)(j:Nat):Option DV:=match ag with
 |some k=>match takeD cs j k with
  |some l=>some (.ag l)
  |none=>none
 |none=>cs[j]?
theorem aEu{i:TI}{ag:Option Nat}{nm sz k j:Nat}{ty:TypeId}{ds:List DV}{lo:Bool}{d c:DV}(hi:afC P t=some i)(ha:i.ag=some ag)(hx:evX lk x=some (.be nm sz k j))(hb:bk nm=some (.b ty sz ds lo))(he:ds[k]? =some d)(hd:d.okc=true)(hl:ldE ag d.cells j=some c):
  OpR P GB C n lk bk ⟨dst, .load t x,ty',pos,af,gd⟩ (.d c) [] []:= .x1 hx fun ρ G ov a w y _ r h1 h2=>by
 obtain⟨b,hwb,rfl⟩:=h2
 obtain⟨B,hB,hmem⟩:=r.row (y:= .nilFunc) hb
 obtain⟨b',m,rest,lo',l0,e1,rfl,h3,h4⟩:=hB.elem he hd
 simp only[] at e1 h3
 rw[hwb] at e1;cases e1
 have oat:OAt ov b (m++rest) ty lo':=⟨hmem _ aZ⟩
 cases ag with
 |some k'=>
  have:=aiL hi ha
  simp only[ldE] at hl
  split at hl<;>cases hl
  rename_i hl
  obtain⟨l',h5,h6⟩:=h4.takeD hl
  exact⟨.agg ⟨l'⟩,ab4.2 ⟨l',rfl,h6⟩,adB h1 (amv h3 h5)⟩
 |none=>
  have:=akU hi ha
  simp only[ldE] at hl
  obtain⟨l',h5,h6⟩:=h4.get hl
  have hj:j<sz:=by
   have:=agS h3
   have h7:=(aS.1 h5).1
   omega
  exact⟨l',h6,aaB h1 (by rw[ahX h3 hj];exact h5)⟩
theorem abw.toBk{nm:Nat}{s:Nat}{ty:TypeId}{ds:List DV}{lo:Bool}{B:List Own}{x:SV}(h:abw G ⟨x,s,ty,ds,lo⟩ B)(e:ρ nm=x):aog ρ G nm (.b ty s ds lo) B:=by
 obtain⟨vs,h1,h2,h3,h4⟩:=h
 exact⟨vs,by rw[e];exact h1,h2,h3,h4⟩
theorem RlX.newRow(r:RlX GB C n lk bk ρ G ov a w){d:Nat}{z:SV}{ty:TypeId}{s:Nat}{ds:List DV}{B ov':List Own}{K:Act→World→Prop}{a':Act}{w':World}(hf:acS [d] (some d) lk bk)(hB:abw G ⟨z,s,ty,ds,true⟩ B)(hos: ∀o∈B,o∈ov')
  (hov: ∀m B',m≠d→bk m=some B'→ ∀o∈ov,(ρ m).a=some ⟨o.b,0,none⟩→o∈ov'∧z.a≠some ⟨o.b,0,none⟩)
  (hk:SX GB C n (upL lk (some d) (.rw d)) (Sx.upB bk [(d,some (.b ty s ds true))]) K)(rl:Rel C n (Sx.put (frA a) (some d) (.slice z.a z.n z.c)) ov' G a' w'):K a' w':=
 hk.run _ _ _ a' w' (r.new' (x:=z) (f:= .rw d) (y:= .slice z.a z.n z.c) hf (GLe.refl _) rl.h (hB.toBk (by simp)) hos hov (by show _=_;simp) (abg rl))
def zeE(i:TI):Option DV:=match i.z with
 |some z=>match adV z with
  |some zs=>bif i.za then(bif zs.all DV.flat then some (.ag zs) else none) else(match zs with
   |[d]=>bif d.flat then some d else none
   |_=>none)
  |none=>none
 |none=>none
theorem aop{d:DV}(h:d.flat=true):d.cells=[d]∧d.okc=true:=by
 cases d<;>first|exact⟨rfl,h⟩|cases h
theorem akI{i:TI}{d:DV}(hi:afC P e=some i)(h:zeE i=some d): ∃v,TyZ P e v∧(∀G,Is G d v)∧d.okc=true:=by
 obtain⟨j,hj,hij⟩:=adD hi
 unfold zeE at h
 split at h<;>try (cases h;done)
 rename_i z hz
 split at h<;>try (cases h;done)
 rename_i zs hzs
 obtain⟨v,h1,h2⟩:=aiU hi hz
 have h3: ∀G,IsLs G zs (aag v):=fun G=>acN (h2 (fun _=>⟨none,0,0⟩) G) hzs
 have hzv:j.zero=some v:=by have:=h1.inf;rw[hj] at this;simpa using this
 have hza:i.za=aGp (some v):=by rw[hij,←hzv]
 cases hb:i.za with
 |true=>
  rw[hb] at h hza
  cases hc:zs.all DV.flat with
  |false=>rw[hc] at h;cases h
  |true=>
   rw[hc] at h;cases h
   cases v<;>first|(cases hza;done)|skip
   rename_i cs
   exact⟨_,h1,fun G=>ab4.2 ⟨cs.toList,by simp,h3 G⟩,hc⟩
 |false=>
  rw[hb,cond_false] at h
  rw[hb] at hza
  split at h<;>try (cases h;done)
  rename_i u
  cases hc:u.flat with
  |false=>rw[hc] at h;cases h
  |true=>
   rw[hc] at h;cases h
   have hv:aag v=[v]:=by cases v<;>first|rfl|(cases hza;done)
   refine⟨v,h1,fun G=>?_,(aop hc).2⟩
   have:=h3 G
   rw[hv] at this
   exact this.uncons.1
theorem aAP{d:Nat}{i:TI}{z:DV}{k k':IntKind}{l:Int}{ds:List DV}[hT:acV P t e s by_](hi:afC P e=some i)(hz:zeE i=some z)(hs:Nat.beq z.cells.length s=true)(hx:evX lk x=some (.d (.v (.int k l))))(hy:evX lk y=some (.d (.v (.int k' l))))(h0:0≤l)(hb:by_*l≤140737488355328)(hl:l≤1152921504606846976)(hds:List.replicate l.toNat z=ds):
  OpR P GB C n lk bk ⟨some d, .makeSlice t x y,ty',pos,af,gd⟩ (.rw d) [(d,some (.b e s ds true))] [d]:=by
 intro hd tl tb K s1 s2 hf hk
 refine⟨fun ρ G ov a w r Q=>?_⟩
 subst hds
 obtain⟨v,hz1,hz2,hz3⟩:=akI hi hz
 obtain⟨q1,p1,p2⟩:=(r.mono s1 s2).ev hx
 obtain⟨q2,p3,p4⟩:=(r.mono s1 s2).ev hy
 rw[aay] at p2 p4;subst p2 p4
 have c1:=((hz2 G).cells hz3).1.len
 replace hs:=aL hs
 have e1: ∀u∈List.replicate l.toNat v,(aag u).length=s:=fun u hu=>by rw[List.eq_of_mem_replicate hu,c1,hs]
 refine aeN p1 p3 h0 hb hl (by rw[c1,hs]) hd (fun b a' w' rl=>?_) a w Q ⟨r.h,r.sz,aaF a,r.df⟩
 have hnd:=(cK.1 rl.h.nd).1
 refine r.newRow (z:=⟨some ⟨b,0,none⟩,l.toNat,l.toNat⟩) (B:=[⟨b,abH v l.toNat,e,true⟩]) hf ⟨List.replicate l.toNat v, .inr ⟨b,[],true,by simp,by rw[ajx,nQ],aax _ e1,by rw[aax _ e1];simp,by simp⟩,agv (hz2 G) _,e1,fun _ o ho=>by rw[aV.1 ho]⟩
  (fun o ho=>by rw[aV.1 ho];exact aZ) (fun m B' _ _ o ho _=>⟨aJ _ ho,fun e'=>?_⟩) hk rl
 cases e';exact hnd o ho rfl
def aCb(lk:LK):Nat→List (Nat×Operand)→Option (List DV)
 |_,[]=>some []
 |j,(i,x)::r=>match evD lk x,aCb lk (j+1) r with
  |some d,some l=>bif Nat.beq i j then some (d::l) else none
  |_,_=>none
theorem amZ(r:RlX GB C n lk bk ρ G ov a w){zv:Value}(hz:(aag zv).length=s): ∀(ps:List (Nat×Operand)) (j:Nat) (pre:List Value) (ds:List DV),aCb lk j ps=some ds→pre.length=j*s→(∀d∈ds,d.okc=true∧d.cells.length=s)→
  ∃vs,aze (frA a) s (pre++abH zv ps.length) ps=some (pre++aaj vs)∧IsLs G ds vs∧(∀v∈vs,(aag v).length=s)∧vs.length=ps.length
 |[],j,pre,ds,e,hp,hd=>by
  simp only[aCb] at e;cases e
  exact⟨[],by simp[aze,abH,aaj], .nil,by simp,rfl⟩
 |(i,x)::ps,j,pre,ds,e,hp,hd=>by
  simp only[aCb] at e
  split at e
  ·rename_i d l hx hl
   cases hb:Nat.beq i j with
   |false=>rw[hb] at e;cases e
   |true=>
    rw[hb] at e
    cases e
    have:=aL hb
    subst this
    obtain⟨y,hy,hy'⟩:=r.evD hx
    obtain⟨k1,k2⟩:=hd d aZ
    have c1:=(hy'.cells k1).1.len
    have hov:ovw (pre++abH zv (ps.length+1)) (i*s) (aag y)=(pre++aag y)++abH zv ps.length:=by
     rw[arl,←hp,as6 _ _ _ _ (by rw[c1,k2,hz]),iQ]
    obtain⟨vs,h1,h2,h3,h4⟩:=amZ r hz ps (i+1) (pre++aag y) l hl (by rw[aR,c1,k2,hp,iU]) (fun d hd'=>hd d (aJ _ hd'))
    refine⟨y::vs,?_, .cons hy' h2,fun v hv=>?_,by simp[h4]⟩
    ·simp only[aze,hy,bW]
     rw[if_pos ⟨by rw[c1,k2],by rw[aR,ab0,hz,hp,iU];omega⟩,hov,h1]
     simp[aaj]
    ·rcases aT.1 hv with rfl|hv
     ·rw[c1,k2]
     ·exact h3 v hv
  ·cases e
theorem aDP{d:Nat}{i:TI}{z:DV}{len:Nat}{parts:Array (Nat×Operand)}{ds:List DV}[hT:acV P t e s by_](hi:afC P e=some i)(hz:zeE i=some z)(hs:Nat.beq z.cells.length s=true)(hb:aCb lk 0 parts.toList=some ds)(hok:awU s ds=true)(hlen:Nat.beq parts.toList.length len=true)(hsm:Nat.ble (len*s) 1000=true)(hs0:Nat.blt 0 (len*s)=true):
  OpR P GB C n lk bk ⟨some d, .buildSlice t len parts,ty',pos,af,gd⟩ (.rw d) [(d,some (.b e s ds true))] [d]:=by
 intro hd tl tb K s1 s2 hf hk
 refine⟨fun ρ G ov a w r Q=>?_⟩
 obtain⟨v,hz1,hz2,hz3⟩:=akI hi hz
 have c1:=((hz2 G).cells hz3).1.len
 replace hs:=aL hs
 have hlen':=aL hlen
 obtain⟨vs,h1,h2,h3,h4⟩:=amZ (r.mono s1 s2) (s:=s) (zv:=v) (by rw[c1,hs]) parts.toList 0 [] ds hb (by simp) (ahC hok)
 rw[lZ,lZ] at h1
 refine alL (z:=v) (out:=aaj vs) (by rw[c1,hs]) (by rw[←hlen'];exact h1) hsm hs0 hd (fun b a' w' rl=>?_) a w Q ⟨r.h,r.sz,aaF a,r.df⟩
 have hnd:=(cK.1 rl.h.nd).1
 have hvl:vs.length=len:=by rw[h4,hlen']
 refine r.newRow (z:=⟨some ⟨b,0,none⟩,len,len⟩) (B:=[⟨b,aaj vs,e,true⟩]) hf ⟨vs, .inr ⟨b,[],true,by rw[hvl],by rw[nQ],aax _ h3,by rw[aax _ h3,hvl];simp,by rw[hvl];exact aM _⟩,h2,h3,fun _ o ho=>by rw[aV.1 ho]⟩
  (fun o ho=>by rw[aV.1 ho];exact aZ) (fun m B' _ _ o ho _=>⟨aJ _ ho,fun e'=>?_⟩) hk rl
 cases e';exact hnd o ho rfl
theorem aBb{d:Nat}[hT:acV P t e s by_]:OpR P GB C n lk bk ⟨some d, .buildSlice t 0 #[],ty',pos,af,gd⟩ (.rw d) [(d,some (.b e s [] true))] [d]:=by
 intro hd tl tb K s1 s2 hf hk
 refine⟨fun ρ G ov a w r Q=>?_⟩
 refine anf hd (fun b a' w' rl=>?_) a w Q ⟨r.h,r.sz,aaF a,r.df⟩
 have hnd:=(cK.1 rl.h.nd).1
 refine r.newRow (z:=⟨some ⟨b,0,none⟩,0,0⟩) (B:=[⟨b,[],e,true⟩]) hf ⟨[], .inr ⟨b,[],true,rfl,by simp[aaj],by simp[aaj],by simp[aaj],by simp⟩, .nil,by simp,fun _ o ho=>by rw[aV.1 ho]⟩
  (fun o ho=>by rw[aV.1 ho];exact aZ) (fun m B' _ _ o ho _=>⟨aJ _ ho,fun e'=>?_⟩) hk rl
 cases e';exact hnd o ho rfl
theorem OpR.frz{o:Oper}{d:Nat}{B:Bk}{f:FX}{v:DV}(hd:o.dst=some d)(h:OpR P GB C n lk bk o f [(d,some B)] [d])
  (hz: ∀lk bk ρ G ov a w,RlX GB C n lk bk ρ G ov a w→bk d=some B→ ∃G' ov',GLe G G'∧abk C ov' G' w∧(∀o∈ov,(ρ d).a≠some ⟨o.b,0,none⟩→o∈ov')∧ ∀y,IsX ρ G f y→Is G' v y):OpR P GB C n lk bk o (.d v) [(d,none)] [d]:=by
 intro hd' tl tb K s1 s2 hf hk
 refine h hd' tl tb K s1 s2 hf ?_
 rw[hd] at hk⊢
 refine⟨fun ρ G ov a w r=>?_⟩
 have hbd:Sx.upB tb [(d,some B)] d=some B:=by simp[Sx.upB]
 obtain⟨G',ov',h1,h2,h3,h4⟩:=hz _ _ ρ G ov a w r hbd
 refine hk.run ρ G' ov' a w ⟨r.gb.trans h1,h2,r.sz,r.df,fun k g e=>?_,fun m B' e=>?_,fun m m' B1 B2 e e'=>?_,r.fxd⟩
 ·by_cases hk:k=d
  ·subst hk
   simp only[upL,if_true] at e;cases e
   obtain⟨y,g1,g2⟩:=r.fx k f (by simp[upL])
   exact⟨y,g1,h4 y g2⟩
  ·simp only[upL,hk,if_false] at e
   obtain⟨y,g1,g2⟩:=r.fx k g (by simp[upL,hk,e])
   exact⟨y,g1,g2.up h1⟩
 ·simp only[Sx.upB] at e
  split at e
  ·cases e
  ·rename_i hm
   have e':Sx.upB tb [(d,some B)] m=some B':=by simp[Sx.upB,hm,e]
   obtain⟨os,g1,g2⟩:=r.bx m B' e'
   exact⟨os,g1.up h1,fun o ho=>h3 o (g2 o ho) fun hc=>r.dj m d B' B e' hbd hm _ (g1.blk ho) hc⟩
 ·simp only[Sx.upB] at e e'
  split at e
  ·cases e
  ·rename_i hm
   split at e'
   ·cases e'
   ·rename_i hm'
    exact r.dj m m' B1 B2 (by simp[Sx.upB,hm,e]) (by simp[Sx.upB,hm',e'])
theorem OpR.frzRow{o:Oper}{d:Nat}{ty:TypeId}{s:Nat}{ds:List DV}(hd:o.dst=some d)(h:OpR P GB C n lk bk o (.rw d) [(d,some (.b ty s ds true))] [d]):OpR P GB C n lk bk o (.d (.sl ds)) [(d,none)] [d]:=
 h.frz hd fun _ _ _ _ _ _ _ r hb=>r.frzRow hb
theorem aCk{d:Nat}{f:FX}{l:List DV}(e:evX lk x=some f)(hc:f.okc=true)(hn:aCz f d=true)(hl:adV f.cells=some l):OpR P GB C n lk bk ⟨some d, .box t x,ty',pos,af,gd⟩ (.d (.pt l)) [(d,none)] [d]:=
 (azu e hc hn).frz rfl fun _ _ _ _ _ _ _ r hb=>r.frzVar hb hl
def auH(lk:LK)(bk:BM)(s:Nat)(y:Operand):Option (List DV):=match evX lk y with
 |some (.rw nm)=>match bk nm with
  |some (.b _ s' ds _)=>bif Nat.beq s' s then some ds else none
  |_=>none
 |some f=>match aml f with
  |some (.sl l)=>some l
  |_=>none
 |none=>none
theorem anh{ds:List DV}(r:RlX GB C n lk bk ρ G ov a w)(h:auH lk bk s y=some ds)(hk:adh s ds):
  ∃(z:SV) (vs:List Value),opv (frA a) y=some (.slice z.a z.n z.c)∧z.n=vs.length∧IsLs G ds vs∧(∀v∈vs,(aag v).length=s)∧(∀v∈aaj vs,Sx.flat v=true)∧Src P C ov G s z.n (.slice z.a z.n z.c) (aaj vs):=by
 have hfl: ∀vs:List Value,IsLs G ds vs→(∀v∈vs,(aag v).length=s)∧ ∀v∈aaj vs,Sx.flat v=true:=by
  intro vs hl
  refine⟨fun v hv=>?_,fun v hv=>?_⟩
  ·obtain⟨d,hd,h3⟩:=hl.all v hv
   obtain⟨k1,k2⟩:=hk d hd
   rw[(h3.cells k1).1.len,k2]
  ·simp only[aaj,List.mem_flatten,bJ] at hv
   obtain⟨l,⟨u,hu,rfl⟩,hv⟩:=hv
   obtain⟨d,hd,h3⟩:=hl.all u hu
   exact(h3.cells (hk d hd).1).2 v hv
 unfold auH at h
 split at h
 ·rename_i nm hy
  split at h<;>try (cases h;done)
  rename_i ty s' ds' lo hb
  cases hs:Nat.beq s' s with
  |false=>rw[hs] at h;cases h
  |true=>
   rw[hs] at h;cases h
   cases aL hs
   obtain⟨u,h1,h2⟩:=r.ev hy
   cases h2
   obtain⟨B,⟨vs,hB,hv,hs,_⟩,hmem⟩:=r.row (y:= .nilFunc) hb
   obtain⟨f1,f2⟩:=hfl _ hv
   refine⟨ρ nm,vs,h1,hB.len,hv,f1,f2,?_⟩
   rcases hB with⟨e1,e2,e3⟩|⟨b,rest,lo',h3,h4,h5,h6,h7⟩
   ·simp only[] at e2
    subst e1
    rw[e2]
    exact aeP
   ·simp only[] at h3 h4 h5 h6 h7
    have oat:OAt ov b (aaj vs++rest) ty lo':=⟨hmem _ (by rw[h4];exact aZ)⟩
    rw[show(ρ nm).a=some ⟨b,0,none⟩ by rw[h3],show(ρ nm).n=vs.length by rw[h3]]
    refine aiX oat ?_
    rw[abz _ _ _ (by rw[aR];omega),gT,fY (by omega),aW (by omega)]
 ·rename_i f _ hy
  split at h<;>cases h
  rename_i hd
  obtain⟨u,h3,h4⟩:=r.ev hy
  obtain⟨s',z,es,rfl,hsl,hl⟩:=adZ.1 (acw h4 hd)
  obtain⟨f1,f2⟩:=hfl _ hl
  refine⟨z,es,h3,hsl.len,hl,f1,f2,?_⟩
  rcases afo hsl hl hk with he|he
  ·subst he
   rw[hsl.len]
   exact aeP
  ·subst he;exact aEw hsl
 ·cases h
theorem azP{d nm:Nat}{i:TI}{z:DV}{ds ds2:List DV}[hT:acV P t e s by_][hN:TyN P t'](hi:afC P e=some i)(hz:zeE i=some z)(hs:Nat.beq z.cells.length s=true)(hx:evX lk x=some (.rw nm))(hb:bk nm=some (.b e s ds true))(hy:auH lk bk s y=some ds2)(hk2:adh s ds2)
  (hby:Nat.blt 0 by_=true)(hbd:(ds.length+ds2.length)*by_≤140737488355328)(hnd:Nat.beq nm d=false){ds':List DV}(hds:ds++ds2=ds'):
  OpR P GB C n lk bk ⟨some d, .call ⟨.builtin .append, #[x,y], #[t,t']⟩,ty',pos,af,gd⟩ (.rw d) [(nm,none),(d,some (.b e s ds' true))] [d]:=by
 intro hd tl tb K s1 s2 hf hk
 refine⟨fun ρ G ov a w r Q=>?_⟩
 subst hds
 have r1:=r.mono s1 s2
 obtain⟨v,hz1,hz2,hz3⟩:=akI hi hz
 have cz:=((hz2 G).cells hz3).1.len
 replace hs:=aL hs
 rw[lN] at hby
 have hne:nm≠d:=fun e=>by subst e;simp at hnd
 obtain⟨u,hx',hx2⟩:=r1.ev hx
 cases hx2
 obtain⟨B,⟨vs,hB,hv,hvs,hlo⟩,hBo⟩:=r1.row (y:= .nilFunc) hb
 simp only[] at hB hv hvs
 obtain⟨w2,us,hy',h2,h3,h4,h5,h6⟩:=anh (P:=P) r1 hy hk2
 have hus:(aaj us).length=us.length*s:=aax us h4
 have hbd':(vs.length+us.length)*by_≤140737488355328:=by rw[hv.len,h3.len];exact hbd
 have hall: ∀v∈vs++us,(aag v).length=s:=fun v hv=>by
  rcases bY.1 hv with hv|hv
  ·exact hvs v hv
  ·exact h4 v hv
 have rd:=r.dropB nm
 have hf':acS [d] (some d) tl (Sx.upB tb [(nm,none)]):=fun m hm=>by
  obtain⟨g1,g2⟩:=hf m hm
  refine⟨g1,fun k B' hk e=>g2 k B' hk ?_⟩
  simp only[Sx.upB] at e
  split at e
  ·cases e
  ·exact e
 have hbk: ∀m B',(Sx.upB tb [(nm,none)]) m=some B'→m≠nm∧tb m=some B':=fun m B' e=>by
  simp only[Sx.upB] at e
  split at e
  ·cases e
  ·exact⟨by assumption,e⟩
 have hfin: ∀(b:Nat) (cap':Nat) (rest':List Value) (ov1:List Own) a' w',vs.length+us.length≤cap'→rest'.length+(vs.length+us.length)*s=cap'*s→(∀o∈ov,(ρ nm).a≠some ⟨o.b,0,none⟩→o∈ov1)→
   Rel C n (put (frA a) (some d) (.slice (some ⟨b,0,none⟩) (vs.length+us.length) cap')) (⟨b,aaj (vs++us)++rest',e,true⟩::ov1) G a' w'→K a' w':=by
  intro b cap' rest' ov1 a' w' hc hr ho1 rl
  have hnd':=(cK.1 rl.h.nd).1
  refine rd.newRow (z:=⟨some ⟨b,0,none⟩,vs.length+us.length,cap'⟩) (B:=[⟨b,aaj (vs++us)++rest',e,true⟩]) hf' ⟨vs++us, .inr ⟨b,rest',true,by simp,rfl,aax _ hall,?_,by simpa using hc⟩,hv.app h3,hall,fun _ o ho=>by rw[aV.1 ho]⟩
   (fun o ho=>by rw[aV.1 ho];exact aZ) (fun m B' hm e o ho hmo=>?_) hk rl
  ·rw[aax _ hall,aR]
   simp only[]
   omega
  ·obtain⟨h7,h8⟩:=hbk m B' e
   have ho2:=ho1 o ho fun hc=>r.dj m nm B' _ h8 (s2 _ _ hb) h7 _ hmo hc
   exact⟨aJ _ ho2,fun e'=>by cases e';exact hnd' o ho2 rfl⟩
 rcases hB with⟨e1,e2,e3⟩|⟨b,rest,lo',k3,k4,k5,k6,k7⟩
 ·subst e1
  rw[e2] at hx'
  by_cases hne:us=[]
  ·subst hne
   have:ds2=[]:=bR (by rw[←h3.len];rfl)
   subst this
   rw[h2] at hy'
   refine agQ hx' hy' hd (fun a' w' rl=>?_) a w Q ⟨r.h,r.sz,aaF a,r.df⟩
   refine rd.newRow (z:=⟨none,0,0⟩) (B:=[]) hf' ⟨[], .inl ⟨rfl,rfl,rfl⟩,by simpa using hv,by simp,fun _ o ho=>by cases ho⟩ (fun o ho=>by cases ho) (fun m B' hm e o ho hmo=>⟨ho,fun e'=>by cases e'⟩) hk rl
  ·have hup:0<us.length:=nR.2 hne
   rw[h2] at hy' h6
   refine ac5 (z:=v) (xs:=[]) (ys:=aaj us) hx' hy' aeP h6 (by show(0:Nat)<0+us.length;omega) hby (by simpa using hbd') hd (fun b cap' hc a' w' rl=>?_) a w Q ⟨r.h,r.sz,aaF a,r.df⟩
   exact hfin b cap' (abH v (cap'-us.length)) ov a' w' (by simpa using hc) (by rw[ab0,cz,hs,←cS];simp at hc⊢;congr 1;omega) (fun o ho _=>ho) (by simpa using rl)
 ·have hl:=hlo rfl
  subst k4
  have hlo':lo'=true:=hl _ aZ
  subst hlo'
  have ha:(ρ nm).a=some ⟨b,0,none⟩:=by rw[k3]
  have hn:(ρ nm).n=vs.length:=by rw[k3]
  rw[ha,hn] at hx'
  rw[h2] at hy' h6
  obtain⟨ov1,o1,o2⟩:=alU.of_mem (hBo _ aZ)
  refine agH (z:=v) (xs:=aaj vs) (ys:=aaj us) (rest:=rest) (own1:=ov1) hx' hy' o1 k5 k6 k7 h6 hus h5 hby hbd' (by rw[cz,hs]) hd (fun b' cap' rest' hc hr a' w' rl=>?_) a w Q ⟨r.h,r.sz,aaF a,r.df⟩
  rw[←adi] at rl
  exact hfin b' cap' rest' ov1 a' w' hc hr (fun o ho hne=>o2 o ho fun e'=>hne (by rw[ha,e'])) rl
end
end Go.Sx
end
