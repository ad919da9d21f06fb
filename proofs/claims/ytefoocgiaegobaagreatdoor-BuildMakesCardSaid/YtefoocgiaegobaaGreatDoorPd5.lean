import Derived.Test.YtefoocgiaegobaaGreatDoorPd4
set_option linter.all false
set_option maxRecDepth 100000
section
namespace Go.Sx
open Go
def tt:TT:=[
 (2,⟨.int .i64,1,some [.d (.v (.int .i64 0))],false⟩),
 (3,⟨.int .i64,1,some [.d (.v (.int .i64 0))],false⟩),
 (4,⟨.bl,1,some [.ff],false⟩),
 (5,⟨.int .u8,1,some [.d (.v (.int .u8 0))],false⟩),
 (9,⟨.sc,1,some [.d (.v (.string ⟨#[]⟩))],false⟩),
 (20,⟨.fc,1,some [.d (.v (.nilIface))],false⟩),
 (22,⟨.sl 3 1 8,1,some [.nl],false⟩),
 (23,⟨.pt,1,some [.d (.v (.pointer none))],false⟩),
 (25,⟨.sl 48 1 24,1,some [.nl],false⟩),
 (27,⟨.sl 62 1 24,1,some [.nl],false⟩),
 (30,⟨.sl 149 8 112,1,some [.nl],false⟩),
 (32,⟨.st [(0,3,1),(1,30,1)],2,some [.d (.v (.int .i64 0)), .nl],true⟩),
 (34,⟨.fc,1,some [.d (.v (.nilIface))],false⟩),
 (40,⟨.pt,1,some [.d (.v (.pointer none))],false⟩),
 (42,⟨.sl 115 6 96,1,some [.nl],false⟩),
 (44,⟨.st [(0,27,1),(1,3,1),(2,42,1)],3,some [.nl, .d (.v (.int .i64 0)), .nl],true⟩),
 (47,⟨.sl 73 6 112,1,some [.nl],false⟩),
 (48,⟨.sl 73 6 112,1,some [.nl],false⟩),
 (49,⟨.sl 147 6 96,1,some [.nl],false⟩),
 (51,⟨.st [(0,49,1)],1,some [.nl],true⟩),
 (62,⟨.sl 81 6 112,1,some [.nl],false⟩),
 (66,⟨.sl 366 1 4,1,some [.nl],false⟩),
 (67,⟨.sl 366 1 4,1,some [.nl],false⟩),
 (69,⟨.st [(0,4,1),(1,67,1)],2,some [.ff, .nl],true⟩),
 (71,⟨.st [(0,69,2),(2,67,1)],3,some [.ff, .nl, .nl],true⟩),
 (73,⟨.st [(0,71,3),(3,71,3)],6,some [.ff, .nl, .nl, .ff, .nl, .nl],true⟩),
 (75,⟨.sl 366 1 4,1,some [.nl],false⟩),
 (77,⟨.st [(0,4,1),(1,75,1)],2,some [.ff, .nl],true⟩),
 (79,⟨.st [(0,77,2),(2,75,1)],3,some [.ff, .nl, .nl],true⟩),
 (81,⟨.st [(0,79,3),(3,79,3)],6,some [.ff, .nl, .nl, .ff, .nl, .nl],true⟩),
 (104,⟨.int .u16,1,some [.d (.v (.int .u16 0))],false⟩),
 (115,⟨.st [(0,77,2),(2,77,2),(4,77,2)],6,some [.ff, .nl, .ff, .nl, .ff, .nl],true⟩),
 (126,⟨.st [(0,22,1),(1,3,1)],2,some [.nl, .d (.v (.int .i64 0))],true⟩),
 (127,⟨.sl 132 1 24,1,some [.nl],false⟩),
 (130,⟨.sl 222 17 128,1,some [.nl],false⟩),
 (131,⟨.sl 141 6 48,1,some [.nl],false⟩),
 (132,⟨.sl 141 6 48,1,some [.nl],false⟩),
 (134,⟨.pt,1,some [.d (.v (.pointer none))],false⟩),
 (137,⟨.pt,1,some [.d (.v (.pointer none))],false⟩),
 (139,⟨.st [(0,2,1),(1,2,1),(2,137,1)],3,some [.d (.v (.int .i64 0)), .d (.v (.int .i64 0)), .d (.v (.pointer none))],true⟩),
 (141,⟨.st [(0,139,3),(3,139,3)],6,some [.d (.v (.int .i64 0)), .d (.v (.int .i64 0)), .d (.v (.pointer none)), .d (.v (.int .i64 0)), .d (.v (.int .i64 0)), .d (.v (.pointer none))],true⟩),
 (147,⟨.st [(0,69,2),(2,69,2),(4,69,2)],6,some [.ff, .nl, .ff, .nl, .ff, .nl],true⟩),
 (149,⟨.st [(0,147,6),(6,3,1),(7,3,1)],8,some [.ff, .nl, .ff, .nl, .ff, .nl, .d (.v (.int .i64 0)), .d (.v (.int .i64 0))],true⟩),
 (153,⟨.sl 161 14 216,1,some [.nl],false⟩),
 (159,⟨.st [(0,79,3),(3,79,3),(6,4,1),(7,4,1)],8,some [.ff, .nl, .nl, .ff, .nl, .nl, .ff, .ff],true⟩),
 (161,⟨.st [(0,115,6),(6,159,8)],14,some [.ff, .nl, .ff, .nl, .ff, .nl, .ff, .nl, .nl, .ff, .nl, .nl, .ff, .ff],true⟩),
 (171,⟨.sl 218 9 72,1,some [.nl],false⟩),
 (174,⟨.sl 222 17 128,1,some [.nl],false⟩),
 (202,⟨.sl 174 1 24,1,some [.nl],false⟩),
 (218,⟨.st [(0,139,3),(3,139,3),(6,139,3)],9,some [.d (.v (.int .i64 0)), .d (.v (.int .i64 0)), .d (.v (.pointer none)), .d (.v (.int .i64 0)), .d (.v (.int .i64 0)), .d (.v (.pointer none)), .d (.v (.int .i64 0)), .d (.v (.int .i64 0)), .d (.v (.pointer none))],true⟩),
 (220,⟨.st [(0,139,3),(3,139,3),(6,4,1),(7,4,1)],8,some [.d (.v (.int .i64 0)), .d (.v (.int .i64 0)), .d (.v (.pointer none)), .d (.v (.int .i64 0)), .d (.v (.int .i64 0)), .d (.v (.pointer none)), .ff, .ff],true⟩),
 (222,⟨.st [(0,218,9),(9,220,8)],17,some [.d (.v (.int .i64 0)), .d (.v (.int .i64 0)), .d (.v (.pointer none)), .d (.v (.int .i64 0)), .d (.v (.int .i64 0)), .d (.v (.pointer none)), .d (.v (.int .i64 0)), .d (.v (.int .i64 0)), .d (.v (.pointer none)), .d (.v (.int .i64 0)), .d (.v (.int .i64 0)), .d (.v (.pointer none)), .d (.v (.int .i64 0)), .d (.v (.int .i64 0)), .d (.v (.pointer none)), .ff, .ff],true⟩),
 (238,⟨.sl 79 3 56,1,some [.nl],false⟩),
 (251,⟨.int .u64,1,some [.d (.v (.int .u64 0))],false⟩),
 (256,⟨.st [(0,4,1),(1,4,1),(2,115,6),(8,40,1),(9,40,1)],10,some [.ff, .ff, .ff, .nl, .ff, .nl, .ff, .nl, .d (.v (.pointer none)), .d (.v (.pointer none))],true⟩),
 (258,⟨.pt,1,some [.d (.v (.pointer none))],false⟩),
 (260,⟨.st [(0,34,1),(1,3,1),(2,3,1),(3,9,1)],4,some [.d (.v (.nilIface)), .d (.v (.int .i64 0)), .d (.v (.int .i64 0)), .d (.v (.string ⟨#[]⟩))],true⟩),
 (264,⟨.o,12,some [.d (.v (.int .i64 0)), .d (.v (.int .i64 0)), .d (.v (.pointer none)), .d (.v (.int .i64 0)), .d (.v (.int .i64 0)), .d (.v (.pointer none)), .d (.v (.int .i64 0)), .d (.v (.int .i64 0)), .d (.v (.pointer none)), .d (.v (.int .i64 0)), .d (.v (.int .i64 0)), .d (.v (.pointer none))],true⟩),
 (268,⟨.st [],0,some [],true⟩),
 (270,⟨.pt,1,some [.d (.v (.pointer none))],false⟩),
 (272,⟨.st [(0,3,1),(1,143,1)],2,some [.d (.v (.int .i64 0)), .d (.v (.nilFunc))],true⟩),
 (276,⟨.st [(0,218,9),(9,134,1),(10,134,1),(11,4,1)],12,some [.d (.v (.int .i64 0)), .d (.v (.int .i64 0)), .d (.v (.pointer none)), .d (.v (.int .i64 0)), .d (.v (.int .i64 0)), .d (.v (.pointer none)), .d (.v (.int .i64 0)), .d (.v (.int .i64 0)), .d (.v (.pointer none)), .d (.v (.pointer none)), .d (.v (.pointer none)), .ff],true⟩),
 (286,⟨.sl 71 3 56,1,some [.nl],false⟩),
 (287,⟨.sl 67 1 24,1,some [.nl],false⟩),
 (299,⟨.sl 34 1 16,1,some [.nl],false⟩),
 (318,⟨.sl 159 8 120,1,some [.nl],false⟩),
 (323,⟨.o,9,some [.d (.v (.int .i64 0)), .d (.v (.int .i64 0)), .d (.v (.pointer none)), .d (.v (.int .i64 0)), .d (.v (.int .i64 0)), .d (.v (.pointer none)), .d (.v (.int .i64 0)), .d (.v (.int .i64 0)), .d (.v (.pointer none))],true⟩),
 (338,⟨.st [(0,69,2),(2,67,1)],3,some [.ff, .nl, .nl],true⟩),
 (339,⟨.pt,1,some [.d (.v (.pointer none))],false⟩),
 (340,⟨.sl 4 1 1,1,some [.nl],false⟩),
 (342,⟨.st [(0,30,1),(1,340,1),(2,3,1),(3,4,1)],4,some [.nl, .nl, .d (.v (.int .i64 0)), .ff],true⟩),
 (355,⟨.int .u64,1,some [.d (.v (.int .u64 0))],false⟩),
 (366,⟨.int .u32,1,some [.d (.v (.int .u32 0))],false⟩),
 (381,⟨.o,2,some [.nl, .nl],true⟩),
 (428,⟨.int .i64,1,some [.d (.v (.int .i64 0))],false⟩),
 (436,⟨.sl 139 3 24,1,some [.nl],false⟩),
 (450,⟨.sl 376 1 8,1,some [.nl],false⟩),
 (457,⟨.sl 460 2 32,1,some [.nl],false⟩),
 (460,⟨.st [(0,174,1),(1,134,1)],2,some [.nl, .d (.v (.pointer none))],true⟩),
 (467,⟨.int .u64,1,some [.d (.v (.int .u64 0))],false⟩),
 (471,⟨.pt,1,some [.d (.v (.pointer none))],false⟩),
 (497,⟨.o,32,some [.d (.v (.int .u8 0)), .d (.v (.int .u8 0)), .d (.v (.int .u8 0)), .d (.v (.int .u8 0)), .d (.v (.int .u8 0)), .d (.v (.int .u8 0)), .d (.v (.int .u8 0)), .d (.v (.int .u8 0)), .d (.v (.int .u8 0)), .d (.v (.int .u8 0)), .d (.v (.int .u8 0)), .d (.v (.int .u8 0)), .d (.v (.int .u8 0)), .d (.v (.int .u8 0)), .d (.v (.int .u8 0)), .d (.v (.int .u8 0)), .d (.v (.int .u8 0)), .d (.v (.int .u8 0)), .d (.v (.int .u8 0)), .d (.v (.int .u8 0)), .d (.v (.int .u8 0)), .d (.v (.int .u8 0)), .d (.v (.int .u8 0)), .d (.v (.int .u8 0)), .d (.v (.int .u8 0)), .d (.v (.int .u8 0)), .d (.v (.int .u8 0)), .d (.v (.int .u8 0)), .d (.v (.int .u8 0)), .d (.v (.int .u8 0)), .d (.v (.int .u8 0)), .d (.v (.int .u8 0))],true⟩),
 (498,⟨.o,64,some [.d (.v (.int .u8 0)), .d (.v (.int .u8 0)), .d (.v (.int .u8 0)), .d (.v (.int .u8 0)), .d (.v (.int .u8 0)), .d (.v (.int .u8 0)), .d (.v (.int .u8 0)), .d (.v (.int .u8 0)), .d (.v (.int .u8 0)), .d (.v (.int .u8 0)), .d (.v (.int .u8 0)), .d (.v (.int .u8 0)), .d (.v (.int .u8 0)), .d (.v (.int .u8 0)), .d (.v (.int .u8 0)), .d (.v (.int .u8 0)), .d (.v (.int .u8 0)), .d (.v (.int .u8 0)), .d (.v (.int .u8 0)), .d (.v (.int .u8 0)), .d (.v (.int .u8 0)), .d (.v (.int .u8 0)), .d (.v (.int .u8 0)), .d (.v (.int .u8 0)), .d (.v (.int .u8 0)), .d (.v (.int .u8 0)), .d (.v (.int .u8 0)), .d (.v (.int .u8 0)), .d (.v (.int .u8 0)), .d (.v (.int .u8 0)), .d (.v (.int .u8 0)), .d (.v (.int .u8 0)), .d (.v (.int .u8 0)), .d (.v (.int .u8 0)), .d (.v (.int .u8 0)), .d (.v (.int .u8 0)), .d (.v (.int .u8 0)), .d (.v (.int .u8 0)), .d (.v (.int .u8 0)), .d (.v (.int .u8 0)), .d (.v (.int .u8 0)), .d (.v (.int .u8 0)), .d (.v (.int .u8 0)), .d (.v (.int .u8 0)), .d (.v (.int .u8 0)), .d (.v (.int .u8 0)), .d (.v (.int .u8 0)), .d (.v (.int .u8 0)), .d (.v (.int .u8 0)), .d (.v (.int .u8 0)), .d (.v (.int .u8 0)), .d (.v (.int .u8 0)), .d (.v (.int .u8 0)), .d (.v (.int .u8 0)), .d (.v (.int .u8 0)), .d (.v (.int .u8 0)), .d (.v (.int .u8 0)), .d (.v (.int .u8 0)), .d (.v (.int .u8 0)), .d (.v (.int .u8 0)), .d (.v (.int .u8 0)), .d (.v (.int .u8 0)), .d (.v (.int .u8 0)), .d (.v (.int .u8 0))],true⟩),
 (499,⟨.pt,1,some [.d (.v (.pointer none))],false⟩),
 (524,⟨.st [(0,9,1)],1,some [.d (.v (.string ⟨#[]⟩))],true⟩)]
def e7:lj Go.Proofs.Tryz.prog tt:=lj.of (by kernel_rfl)
end Go.Sx
end
section
namespace Go.Sx
open Go Go.Proofs Tryz
def qg:Nat->List DV->aA
 |_,[]=>[]
 |i,v::t=>(i, .d v)::qg (i+1) t
class Fu where n:Nat
instance fu0:Fu:=⟨400⟩
section
variable {GB:Gh} {C:aC} {n:Nat} {Q0:Exit->Act->World->Prop} {fr fr':aA} {own own':aH} {cf cf':Cf} {vc vc':List Prop} {ops:Array Oper} {r:List Oper} {o:Oper} {K:List Kt}
def fi{q:Nat}(h:go tt n q [] fr own cf=⟨vc,fr',own',cf'⟩)(hv:ah vc)(k:av prog GB C n Q0 fr' own' cf'):av prog GB C n Q0 fr own cf:=by
 have:=(iw (GB:=GB) (C:=C) (Q0:=Q0) e7 follows q [] fr own cf (by rw[h];exact hv)).2;rw[h] at this;exact this k
def gx[fu:Fu](h:go tt n fu.n [] fr own cf=⟨vc,fr',own',cf'⟩)(k:av prog GB C n Q0 fr' own' cf')(hv:ah vc:=by first|exact trivial|(simp only[ah];kernel_rfl)|(simp only[ah];omega)|(simp only[ah,aK,aS,aW];omega)):av prog GB C n Q0 fr own cf:=fi h hv k
def IT: ∀{ds:List DV} {vs:List Value} {ρ:NE} {G:Gh} (i:Nat),IsLs G ds vs-> ∀k f,ba (qg i ds) k=some f-> ∃y,(∃j,k=i+j/\vs[j]? =some y)/\bP ρ G f y
 |[],vs,ρ,G,i,h,k,f,e=>by cases e
 |d::t,vs,ρ,G,i,h,k,f,e=>by
  obtain⟨y,m,rfl,h1,h2⟩:=bt.1 h;simp only[qg] at e;rw[js] at e;split at e
  ·cases e;rename_i hk;exact⟨y,⟨0,hk,rfl⟩,h1⟩
  ·obtain⟨u,⟨j,hj,hu⟩,h3⟩:=IT (i+1) h2 k f e
   exact⟨u,⟨j+1,by omega,by simpa using hu⟩,h3⟩
def vq{ds:List DV}{vs:List Value}{ρ:NE}{G:Gh}{a:Act}(h:IsLs G ds vs)(hf:kj (lP 0 vs) a)(k:Nat)(f:FX)(e:ba (qg 0 ds) k=some f): ∃y,a.tmps[k]? =some y/\bP ρ G f y:=by
 obtain⟨y,⟨j,hj,hy⟩,h1⟩:=IT (ρ:=ρ) 0 h k f e;refine⟨y,hf k y ?_,h1⟩;rw[hj];exact uB vs 0 j y hy
def fn[fu:Fu]{f:FuncId}{fb:Func}{c:Code}{m:Nat}{ds:List DV}{rv:DV}(hf:prog.funcs[f]? =some fb)(hb:fb.body=some c)(hn:(fb.name== "runtime.NumGoroutine")=false)(hm:fb.ntmps=m)(hlen:Nat.ble ds.length m=true)
  (hgo:go tt m fu.n [] (qg 0 ds) [] (.code c [])=⟨vc,fr,own,cf⟩)(k: ∀C:aC,av prog GB C m (fk C prog fb (jk C (fun v G'=>Is G' rv v))) fr own cf)
  (hv:ah vc:=by first|exact trivial|(simp only[ah];kernel_rfl)|(simp only[ah];omega)|(simp only[ah,aK,aS,aW];omega)):PF GB prog f ds rv:=by
 intro G vs hg hvs;refine Fn.introR hf hb hn hm (by rw[hvs.len];exact hlen) fun C _ _ hrd hfx=>?_;intro a w rl;refine tZ hrd ?_;have h:=fi (GB:=GB) (C:=C) (Q0:=fk C prog fb (jk C (fun v G'=>Is G' rv v))) hgo hv (k C);exact h.run (fun _=>⟨none,0,0⟩) G [] a w ⟨hg,rl.h,rl.sz,rl.df,(fun k f e=>vq hvs rl.fr k f e),(fun nm B e=>by cases e),(fun nm nm' B B' e=>by cases e),fun nm p _ _ e=>by rw[hfx] at e;cases e⟩
def av.cond{c:Operand}{x y:Code}{b:Bool}{f:FX}(hc:aO (ba fr) c=some f)(hb:q0 f=some b)(h1:b=true->av prog GB C n Q0 fr own (.code x K))(h2:b=false->av prog GB C n Q0 fr own (.code y K)):av prog GB C n Q0 fr own (.code (.cond c x y) K):=SX.cond hc hb h1 h2
variable {fr1 fr2:aA} {own1 own2:aH} {cf1 cf2:Cf} {vc1 vc2:List Prop}
def br[fu1:Fu][fu2:Fu]{p:Prop}{hp:Decidable p}{c:Operand}{x y:Code}(hc:aO (ba fr) c=some (.pr p hp))(g1:go tt n fu1.n [] fr own (.code x K)=⟨vc1,fr1,own1,cf1⟩)(g2:go tt n fu2.n [] fr own (.code y K)=⟨vc2,fr2,own2,cf2⟩)
  (k1:p->av prog GB C n Q0 fr1 own1 cf1)(k2: ¬p->av prog GB C n Q0 fr2 own2 cf2)
  (v1:p->ah vc1:=by intro;first|exact trivial|(simp only[ah];omega)|(simp only[ah,aK,aS,aW];omega))(v2: ¬p->ah vc2:=by intro;first|exact trivial|(simp only[ah];omega)|(simp only[ah,aK,aS,aW];omega)):av prog GB C n Q0 fr own (.code (.cond c x y) K):=
 .cond hc J (fun h=>fi g1 (v1 (of_decide_eq_true h)) (k1 (of_decide_eq_true h))) (fun h=>fi g2 (v2 (of_decide_eq_false h)) (k2 (of_decide_eq_false h)))
def bd[fu1:Fu][fu2:Fu]{p:Prop}{hp:Decidable p}{c:Operand}{x y:Code}(hc:aO (ba fr) c=some (.d (.v (.bool (@decide p hp)))))(g1:go tt n fu1.n [] fr own (.code x K)=⟨vc1,fr1,own1,cf1⟩)(g2:go tt n fu2.n [] fr own (.code y K)=⟨vc2,fr2,own2,cf2⟩)
  (k1:p->av prog GB C n Q0 fr1 own1 cf1)(k2: ¬p->av prog GB C n Q0 fr2 own2 cf2)
  (v1:p->ah vc1:=by intro;first|exact trivial|(simp only[ah];omega)|(simp only[ah,aK,aS,aW];omega))(v2: ¬p->ah vc2:=by intro;first|exact trivial|(simp only[ah];omega)|(simp only[ah,aK,aS,aW];omega)):av prog GB C n Q0 fr own (.code (.cond c x y) K):=
 .cond hc J (fun h=>fi g1 (v1 (of_decide_eq_true h)) (k1 (of_decide_eq_true h))) (fun h=>fi g2 (v2 (of_decide_eq_false h)) (k2 (of_decide_eq_false h)))
def bb[fu1:Fu][fu2:Fu]{b:Bool}{c:Operand}{x y:Code}(hc:aO (ba fr) c=some (.d (.v (.bool b))))(g1:go tt n fu1.n [] fr own (.code x K)=⟨vc1,fr1,own1,cf1⟩)(g2:go tt n fu2.n [] fr own (.code y K)=⟨vc2,fr2,own2,cf2⟩)
  (k1:b=true->av prog GB C n Q0 fr1 own1 cf1)(k2:b=false->av prog GB C n Q0 fr2 own2 cf2)
  (v1:b=true->ah vc1:=by intro;first|exact trivial|(simp only[ah];omega)|(simp only[ah,aK,aS,aW];omega))(v2:b=false->ah vc2:=by intro;first|exact trivial|(simp only[ah];omega)|(simp only[ah,aK,aS,aW];omega)):av prog GB C n Q0 fr own (.code (.cond c x y) K):=
 .cond hc J (fun h=>fi g1 (v1 h) (k1 h)) (fun h=>fi g2 (v2 h) (k2 h))
def oE{d:Nat}{f g:FX}(hl:ba fr d=some f)(hi: ∀ρ G y,bP ρ G f y->bP ρ G g y){Φ:Act->World->Prop}(h:SX GB C n (ba ((d,g)::fr)) (bh own) Φ):SX GB C n (ba fr) (bh own) Φ:=by
 refine⟨fun ρ G ov a w r=>h.run ρ G ov a w ⟨r.gb,r.h,r.sz,r.df,fun k f' e=>?_,r.bx,r.dj,r.fxd⟩⟩;rw[js] at e;split at e
 ·cases e;rename_i hk;subst hk
  obtain⟨y,h1,h2⟩:=r.fx _ _ hl;exact⟨y,h1,hi _ _ _ h2⟩
 ·exact r.fx k f' e
def ak(d:Nat){f:FX}(g:FX)(hl:ba fr d=some f)(e:f=g)(h:av prog GB C n Q0 ((d,g)::fr) own cf):av prog GB C n Q0 fr own cf:=by
 have hs:ba ((d,g)::fr)=ba fr:=by
  funext k;rw[js];split
  ·rename_i hk;rw[hk,hl,e]
  ·rfl
 cases cf with
 |dr id ops fr0 own0 us r K=>exact fun D=>h ⟨D.pre,by rw[hs];exact D.st,D.snd⟩
 |_=>unfold av at h⊢;rw[hs] at h;exact h
def kT(d:Nat){p:Prop}{hp:Decidable p}(hl:ba fr d=some (.pr p hp))(h:p)(k:av prog GB C n Q0 ((d, .tt)::fr) own (.ops ops r K)):av prog GB C n Q0 fr own (.ops ops r K):=
 oE hl (fun _ _ _ e=>by rw[show _=_ from e,decide_eq_true h];exact J) k
def kF(d:Nat){p:Prop}{hp:Decidable p}(hl:ba fr d=some (.pr p hp))(h: ¬p)(k:av prog GB C n Q0 ((d, .ff)::fr) own (.ops ops r K)):av prog GB C n Q0 fr own (.ops ops r K):=
 oE hl (fun _ _ _ e=>by rw[show _=_ from e,decide_eq_false h];exact J) k
def SE(d:Nat)(hl:ba fr d=some .nl){e:Exit}(h:av prog GB C n Q0 ((d, .d (.sl []))::fr) own (.ex e K)):av prog GB C n Q0 fr own (.ex e K):=
 oE (g:= .d (.sl [])) hl (fun ρ G y hy=>(show Is G (.sl []) y from nk (ρ:=ρ) (f:= .nl) hy J)) h
def PF.to{f:FuncId}{ds:List DV}{r1 r2:DV}{P:Program}(h:PF GB P f ds r1)(e:r1=r2):PF GB P f ds r2:=e▸h
def cs[fu1:Fu][fu2:Fu](d:Nat){p:Prop}{hp:Decidable p}(hl:ba fr d=some (.pr p hp))(g1:go tt n fu1.n [] ((d, .tt)::fr) own (.ops ops r K)=⟨vc1,fr1,own1,cf1⟩)(g2:go tt n fu2.n [] ((d, .ff)::fr) own (.ops ops r K)=⟨vc2,fr2,own2,cf2⟩)
  (k1:p->av prog GB C n Q0 fr1 own1 cf1)(k2: ¬p->av prog GB C n Q0 fr2 own2 cf2)
  (v1:p->ah vc1:=by intro;first|exact trivial|(simp only[ah];omega)|(simp only[ah,aK,aS,aW];omega))(v2: ¬p->ah vc2:=by intro;first|exact trivial|(simp only[ah];omega)|(simp only[ah,aK,aS,aW];omega)):av prog GB C n Q0 fr own (.ops ops r K):=by
 by_cases h:p
 ·exact oE hl (fun _ _ _ e=>by rw[show _=_ from e,decide_eq_true h];exact J) (fi g1 (v1 h) (k1 h))
 ·exact oE hl (fun _ _ _ e=>by rw[show _=_ from e,decide_eq_false h];exact J) (fi g2 (v2 h) (k2 h))
def jv[fu1:Fu][fu2:Fu](d:Nat){b:Bool}(hl:ba fr d=some (.d (.v (.bool b))))(g1:go tt n fu1.n [] ((d, .tt)::fr) own (.ops ops r K)=⟨vc1,fr1,own1,cf1⟩)(g2:go tt n fu2.n [] ((d, .ff)::fr) own (.ops ops r K)=⟨vc2,fr2,own2,cf2⟩)
  (k1:b=true->av prog GB C n Q0 fr1 own1 cf1)(k2:b=false->av prog GB C n Q0 fr2 own2 cf2)
  (v1:b=true->ah vc1:=by intro;first|exact trivial|(simp only[ah];omega)|(simp only[ah,aK,aS,aW];omega))(v2:b=false->ah vc2:=by intro;first|exact trivial|(simp only[ah];omega)|(simp only[ah,aK,aS,aW];omega)):av prog GB C n Q0 fr own (.ops ops r K):=by
 cases h:b with
 |true=>exact oE hl (fun _ G _ e=>by rw[(bc (G:=G)).1 e,h];exact J) (fi g1 (v1 h) (k1 h))
 |false=>exact oE hl (fun _ G _ e=>by rw[(bc (G:=G)).1 e,h];exact J) (fi g2 (v2 h) (k2 h))
def Dq:Cf->Option (Array Oper×Oper)
 | .ops ops (o::_) _=>some (ops,o)
 | .dr _ ops _ _ _ (o::_) _=>some (ops,o)
 |_=>none
def bu(fr:aA):Cf->LK
 | .dr _ ops _ _ _ (o::_) _=>kz (xl ops o) (ba fr)
 |_=>ba fr
def f7(fr:aA)(own:aH):Cf->BM
 | .dr _ ops _ _ _ (o::_) _=>kz (AP o fr (xl ops o)) (bh own)
 |_=>bh own
def mn:wP:=⟨[False],[],[], .ex .normal []⟩
def cE(T:TT)(n q:Nat)(fr:aA)(own:aH)(cf:Cf)(f:FX)(bl:List (Nat×Option Bk))(nw:List Nat):wP:=match cf with
 | .ops ops (o::r) K=>bif sv nw o.dst fr own&&b7 n o.dst then pO own bl fun own'=>vl fr o.dst f fun fr'=>go T n q [] fr' own' (.ops ops r K) else mn
 | .dr id ops fr0 own0 us (o::r) K=>bif b7 n o.dst then ki (xl ops o) fun rs=>ki (AP o fr rs) fun rn=>pO own bl fun own'=>ki (us++[⟨rs,o.dst,f,rn,bl,nw⟩]) fun us'=>vl fr o.dst f fun fr'=>go T n q [] fr' own' (.dr id ops fr0 own0 us' r K) else mn
 |_=>mn
def tj(ops:Array Oper)(lk:LK):Option (Nat×Bool)->Bool
 |none=>true
 |some (j,b)=>match ops[j]? with
  |some oj=>match oj.dst with
   |some d=>match lk d with
    |some .tt=>b
    |some .ff=>!b
    |_=>false
   |none=>false
  |none=>false
def Bo{lk:LK}{bk:BM}{o:Oper}(h:tj ops lk o.guard=true): ∀ρ G ov a w,bE GB C n lk bk ρ G ov a w->Region.wanted o (yielded ops a.tmps)=true:=fun ρ G ov a w r=>by
 unfold Region.wanted;unfold tj at h;split at h
 ·rename_i e;rw[e]
 ·rename_i j b e
  rw[e];split at h<;>try (cases h;done)
  rename_i oj hj;split at h<;>try (cases h;done)
  rename_i d hd;split at h<;>try (cases h;done)
  ·rename_i hl
   obtain⟨y,h1,h2⟩:=ye r hj hd hl
   cases h1;simp only[h2];subst h;rfl
  ·rename_i hl
   obtain⟨y,h1,h2⟩:=ye r hj hd hl
   cases h1;simp only[h2];cases b<;>first|rfl|(simp at h)
def uo{q:Nat}{f:FX}{bl:List (Nat×Option Bk)}{nw:List Nat}(hh:Dq cf=some (ops,o))(hg:tj ops (bu fr cf) o.guard=true)(h:bO prog GB C n (bu fr cf) (f7 fr own cf) o f bl nw)
  (hgo:cE tt n q fr own cf f bl nw=⟨vc,fr',own',cf'⟩)(hv:ah vc)(k:av prog GB C n Q0 fr' own' cf'):av prog GB C n Q0 fr own cf:=by
 obtain⟨dst,op,ty,pos,af,gd⟩:=o
 cases cf with
 |ops ops' r K=>
  cases r with
  |nil=>cases hh
  |cons o' r=>
   cases hh
   unfold cE at hgo
   cases hc:(sv nw dst fr own&&b7 n dst) with
   |false=>simp only[hc,cond_false,mn] at hgo;cases hgo;exact absurd hv (fun x=>x)
   |true=>
    simp only[hc,cond_true] at hgo;simp only[uk,yx] at hgo;simp only[aN] at hc;exact SX.op (h.toS hc.2 (Bo hg)) (y9 hc.1) (fi hgo hv k)
 |dr id ops' fr0 own0 us r K=>
  cases r with
  |nil=>cases hh
  |cons o' r=>
   cases hh
   unfold cE at hgo
   cases hc:b7 n dst with
   |false=>simp only[hc,cond_false,mn] at hgo;cases hgo;exact absurd hv (fun x=>x)
   |true=>
    simp only[hc,cond_true,qP] at hgo;simp only[uk,yx] at hgo;intro D;exact fi hgo hv k (D.push (h.toS hc (Bo hg)))
 |_=>cases hh
def rD(lk:LK)(fo:Operand)(args:Array Operand):Option (FuncId×List DV):=match aO lk fo with
 |some (.d (.v (.func (.func f) ⟨[]⟩ ⟨[]⟩)))=>match evDs lk args.toList with
  |some ds=>some (f,ds)
  |none=>none
 |_=>none
def CY{lk:LK}{fo:Operand}{args:Array Operand}{f:FuncId}{ds:List DV}(h:rD lk fo args=some (f,ds)):aO lk fo=some (.d (.v (.func (.func f) #[] #[])))/\evDs lk args.toList=some ds:=by
 unfold rD at h;split at h<;>try (cases h;done)
 rename_i h1;split at h<;>cases h;rename_i h2;exact⟨h1,h2⟩
def Fo{lk:LK}{bk:BM}{fo:Operand}{args:Array Operand}{tys:Array TypeId}{f:FuncId}{ds:List DV}{rv:DV}{dst:Option Nat}{ty:TypeId}{pos:String}{af:Array Edge}{gd:Option (Nat×Bool)}(ha:rD lk fo args=some (f,ds))(hF:PF GB prog f ds rv):
  bO prog GB C n lk bk ⟨dst, .call ⟨.value fo,args,tys⟩,ty,pos,af,gd⟩ (.d rv) [] []:=by
 intro hd tl tb K' s1 s2 hf hk;refine⟨fun ρ G ov a w r Q=>?_⟩;obtain⟨h1,h2⟩:=CY ha;obtain⟨y,hy,hy'⟩:=(r.mono s1 s2).ev h1;rw[(bc (G:=G)).1 hy'] at hy;obtain⟨vs,h3,h4⟩:=(r.mono s1 s2).evDs h2;refine zC hy h3 (hF G vs r.gb h4) hd (fun v G' hG hK a' w' rl=>?_) a w Q ⟨r.h,r.sz,cB a,r.df⟩;exact hk.run ρ G' ov a' w' ⟨r.gb.trans hG.le,rl.h,rl.sz,rl.df,(jt rl).fx (fun k g _ e=>by obtain⟨u,h5,h6⟩:=r.fx k g e;exact⟨u,h5,h6.up hG.le⟩) hK,
  fun nm B e=>by obtain⟨os,h5,h6⟩:=r.bx nm B e;exact⟨os,h5.up hG.le,h6⟩,r.dj,r.fxd⟩
def ca[fu:Fu]{fo:Operand}{args:Array Operand}{tys:Array TypeId}{f:FuncId}{ds:List DV}{rv:DV}{dst:Option Nat}{ty:TypeId}{pos:String}{af:Array Edge}{gd:Option (Nat×Bool)}(hh:Dq cf=some (ops,⟨dst, .call ⟨.value fo,args,tys⟩,ty,pos,af,gd⟩))
  (hg:tj ops (bu fr cf) gd=true)(ha:rD (bu fr cf) fo args=some (f,ds))(hF:PF GB prog f ds rv)(hgo:cE tt n fu.n fr own cf (.d rv) [] []=⟨vc,fr',own',cf'⟩)(k:av prog GB C n Q0 fr' own' cf')(hv:ah vc:=by first|exact trivial|(simp only[ah];kernel_rfl)|(simp only[ah];omega)|(simp only[ah,aK,aS,aW];omega)):av prog GB C n Q0 fr own cf:=
 uo hh hg (Fo ha hF) hgo hv k
def oH(T:TT)(fr:aA)(own:aH):List ResultVar->Option (List DV)
 |[]=>some []
 | .tmp t::rs=>match ba fr t with
  |some f=>match kB f with
   |some d=>match oH T fr own rs with
    |some l=>some (d::l)
    |none=>none
   |none=>none
  |none=>none
 | .cell a t::rs=>match ba fr a with
  |some (.ov nm 0)=>match cH T t with
   |some i=>match bh own nm with
    |some (.o _ cs _)=>match i.ag with
     |some (some k)=>match takeX cs 0 k with
      |some c=>match iI c with
       |some d=>match oH T fr own rs with
        |some l=>some (.ag d::l)
        |none=>none
       |none=>none
      |none=>none
     |some none=>match cs[0]? with
      |some c=>match kB c with
       |some d=>match oH T fr own rs with
        |some l=>some (d::l)
        |none=>none
       |none=>none
      |none=>none
     |none=>none
    |_=>none
   |none=>none
  |_=>none
def Am{ρ:NE}{G:Gh}{ov:List ao}{a:Act}{w:World}(h:bE GB C n (ba fr) (bh own) ρ G ov a w): ∀{rs:List ResultVar} {ds:List DV},oH tt fr own rs=some ds-> ∃vs,kd prog (cg a) ov rs vs/\IsLs G ds vs:=by
 intro rs
 induction rs with
 |nil=>intro ds e;cases e;exact⟨[], .nil, .nil⟩
 |cons x rs ih=>
  intro ds e
  cases x with
  |tmp t=>
   simp only[oH] at e;split at e<;>try (cases e;done)
   rename_i f hf;split at e<;>try (cases e;done)
   rename_i d hd;split at e<;>cases e;rename_i l hl;obtain⟨vs,h1,h2⟩:=ih hl;obtain⟨y,h3,h4⟩:=h.fx t f hf;exact⟨y::vs, .tmp (u6 h3) h1, .cons (nk h4 hd) h2⟩
  |cell t ty=>
   simp only[oH] at e;split at e<;>try (cases e;done)
   rename_i nm hf;split at e<;>try (cases e;done)
   rename_i i hi;split at e<;>try (cases e;done)
   rename_i hb;obtain⟨y,h3,h4⟩:=h.fx t _ hf;obtain⟨b,m,rfl,h5,h6,h7⟩:=h.own h4 hb;have oat:gG ov b m _ _:=⟨h7⟩;split at e<;>try (cases e;done)
   ·rename_i k ha
    split at e<;>try (cases e;done)
    rename_i c hc;split at e<;>try (cases e;done)
    rename_i d hd;split at e<;>cases e;rename_i l hl;obtain⟨vs,h1,h2⟩:=ih hl;obtain⟨l',h8,h9⟩:=h6.takeX hc;exact⟨.agg ⟨l'⟩::vs, .agg (u6 h3) oat (vy (e7 _ _ hi) ha) h8 h1, .cons (dG.2 ⟨l',J,pP h9 hd⟩) h2⟩
   ·rename_i ha
    split at e<;>try (cases e;done)
    rename_i c hc;split at e<;>try (cases e;done)
    rename_i d hd;split at e<;>cases e;rename_i l hl;obtain⟨vs,h1,h2⟩:=ih hl;obtain⟨l',h8,h9⟩:=h6.get hc;exact⟨l'::vs, .sc (u6 h3) oat (vo (e7 _ _ hi) ha) h8 h1, .cons (nk h9 hd) h2⟩
def yr:Exit->Bool
 | .ret=>true
 | .normal=>true
 |_=>false
def rz{fb:Func}{e:Exit}{ds:List DV}{rv:DV}(hr:oH tt fr own fb.results.toList=some ds)(hd:iq ds=rv)(he:yr e=true:=by rfl):av prog GB C n (fk C prog fb (jk C (fun v G'=>Is G' rv v))) fr own (.ex e []):=by
 refine⟨fun ρ G ov a w r=>?_⟩;obtain⟨vs,h1,h2⟩:=Am r hr;have hk:Is G rv (gn vs):=hd▸yy h2
 cases e with
 |ret=>exact zD (C:=C) (n:=n) (fr:=cg a) (own:=ov) (G:=G) (K:=fun v G'=>Is G' rv v) h1 hk a w ⟨r.h,r.sz,cB a,r.df⟩
 |normal=>exact Kr (C:=C) (n:=n) (fr:=cg a) (own:=ov) (G:=G) (K:=fun v G'=>Is G' rv v) h1 hk a w ⟨r.h,r.sz,cB a,r.df⟩
 |_=>cases he
end
end Go.Sx
end
section
namespace Go.Sx
open Go
section
variable {P:Program} {GB:Gh} {C:aC} {n:Nat} {E:nH} {fr fr':d4} {own own':List cG} {bs bs' bs1:List dt} {ops:Array Oper} {Q:Exit->Act->World->Prop} {r:List Oper} {Φ:Act->World->Prop}
variable {dst:Option Nat} {t t' ty':TypeId} {pos:String} {af:Array Edge} {gd:Option (Nat×Bool)} {x y z:Operand} {e s by_:Nat}
class aH3 (P:Program) (t:TypeId) (d:outParam DV):Prop where
 z: ∃z,gt P t z/\Is (fun _=>none) d z/\d.okc=true
abbrev SV.f (w:SV):FV:= .d (.v (.slice w.a w.n w.c))
def SC(z:Value)(k:Nat):aF (List.replicate k z)=de z k:=by unfold aF de;rw[List.map_replicate]
def M1{G:Gh}{d:DV}{y:Value}(h:Is G d y): ∀k:Nat,IsLs G (List.replicate k d) (List.replicate k y)
 |0=> .nil
 |k+1=> .cons h (M1 h k)
def Ts(fr:d4):Nat->List (Nat×Operand)->Option (List DV)
 |_,[]=>some []
 |j,(i,x)::r=>match Dg fr x,Ts fr (j+1) r with
  |some d,some l=>bif Nat.beq i j then some (d::l) else none
  |_,_=>none
def Ny(pre mid post vs:List Value)(h:vs.length=mid.length):cj (pre++(mid++post)) pre.length vs=pre++(vs++post):=by
 rw[oF _ _ _ (by simp;omega)];simp[h]
def Ug(z:Value)(k:Nat):de z (k+1)=aD z++de z k:=by simp[de,mV]
def AQ(s:Nat)(ds:List DV):Bool:=ds.all fun d=>d.okc&&Nat.beq d.cells.length s
def Fa{ds:List DV}(h:AQ s ds=true):cC s ds:=fun d hd=>by
 have:=eK.1 h d hd;simp only[aN] at this;exact⟨this.1,aR this.2⟩
def J4{cs:List Value}{off s:Nat}: ∀(es:List Value),(∀i (h:i<es.length),cw cs (off+i*s) s=some (aD es[i]))->off<=cs.length->cw cs off (es.length*s)=some (aF es)
 |[],_,ho=>by
  rw[lg _ _ _ (by simpa using ho)];simp[aF]
 |v::t,h,ho=>by
  have h0:=h 0 (by simp);simp only[kV,fJ,nM] at h0;obtain⟨k1,k2⟩:=zd h0;have ih:=J4 (off:=off+s) t (fun i hi=>by
   have:=h (i+1) (by simpa using hi);rw[gK,show off+(i*s+s)=off+s+i*s by omega] at this;simpa using this) (by omega)
  obtain⟨k3,k4⟩:=zd ih;rw[lg _ _ _ (by simp only[bU,gK];omega)];congr 1;have e1:aF (v::t)=aD v++aF t:=by simp[aF]
  rw[e1,k2,k4,bU,gK,kW (t.length*s) s,List.take_add,List.drop_drop]
def Wm{ov:List ao}{G:Gh}{w:SV}{es:List Value}(h:ee G s w es):lB P C ov G s w.n (.slice w.a w.n w.c) (aF es):=by
 rcases h.mem with he|⟨b,off,cs,ha,hg,hc⟩
 ·subst he
  rw[h.len];exact se
 ·rw[ha]
  by_cases he:es=[]
  ·subst he;rw[h.len];exact se
  ·have hp:0<es.length:=nW.2 he
   have h0:=hc 0 hp;have:=(zd h0).1;rw[h.len];exact JS hg (J4 es hc (by omega))
def aHI(fr:d4)(bs:List dt)(s:Nat)(y:Operand)(ds:List DV):Prop:=
 (∃l,Dg fr y=some (.sl l)/\l=ds/\cC s l)\/ ∃w ty lo,D7 fr y=some w.f/\(⟨w,s,ty,ds,lo⟩:dt)∈bs/\cC s ds
def Zu[hT:co P t e s by_][hN:jl P t']{w:World}{ad2:Option Addr}{cap2:Nat}:(Builtin.append_ #[t,t'] ty' #[.slice none 0 0, .slice ad2 0 cap2]).run P w= .ok (.slice none 0 0) w:=by
 obtain⟨d,hd1⟩:=hN.un;obtain⟨i,hi,his,hib⟩:=hT.info;have h0:(Builtin.firstCells i.size 0 (.slice ad2 0 cap2)).run P w= .ok #[] w:=by
  cases ad2 with
  |none=>rfl
  |some a=>unfold Builtin.firstCells loadCells;simp[loadCellsFrom,run_pure]
 simp[Builtin.append_,run_underlying hT.un,run_underlying hd1,sizeOf,typeInfo,hi,Builtin.lenOf,h0]
def Nz[hT:co P t e s by_][hN:jl P t']{fr:Fr}{own:List ao}{G:Gh}{ad2:Option Addr}{cap2:Nat}(hx:aw fr x=some (.slice none 0 0))(hy:aw fr y=some (.slice ad2 0 cap2))(hd:b7 n dst=true)
  (h:St C n (put fr dst (.slice none 0 0)) own G Φ):Ch P C n fr own G ⟨dst, .call ⟨.builtin .append, #[x,y], #[t,t']⟩,ty',pos,af,gd⟩ Φ:=by
 intro a w Q rl;refine km (v:= .slice none 0 0) (w':=w) ?_ (h _ _ (rl.put _ hd));simp only[execOp,resolve,gS,bJ,dR,bi rl.fr hx,bi rl.fr hy];exact cA Zu
def dk.upd{G:Gh}{w:SV}{s:Nat}{ty:TypeId}{ds:List DV}{lo:Bool}{B:List ao}(h:dk G ⟨w,s,ty,ds,lo⟩ B){i:Nat}{d:DV}(hi:ds[i]? =some d):
  ∃b vs rest lo',w.a=some ⟨b,0,none⟩/\B=[⟨b,aF vs++rest,ty,lo'⟩]/\IsLs G ds vs/\(∀v∈vs,(aD v).length=s)/\i<vs.length/\
   ∀u d',Is G d' u->(aD u).length=s->dk G ⟨w,s,ty,ds.set i d',lo⟩ [⟨b,aF (vs.set i u)++rest,ty,lo'⟩]:=by
 obtain⟨vs,hB,hv,hs,hlo⟩:=h;obtain⟨v,h1,h2⟩:=hv.get hi;obtain⟨hi',_⟩:=aM.1 h1;rcases hB with⟨e,_,_⟩|⟨b,rest,lo',h3,h4,h5,h6,h7⟩
 ·rw[e] at h1;simp at h1
 ·refine⟨b,vs,rest,lo',by simp only[] at h3;rw[h3],h4,hv,hs,hi',fun u d' hu hul=>?_⟩
  have hall: ∀x∈vs.set i u,(aD x).length=s:=fun x hx=>by
   rcases List.mem_or_eq_of_mem_set hx with h'|rfl
   ·exact hs x h'
   ·exact hul
  refine⟨vs.set i u, .inr ⟨b,rest,lo',by simpa using h3,J,ew _ hall,?_,by simpa using h7⟩,hv.set i hu,hall,fun hl o ho=>?_⟩
  ·rw[ew _ hall,aS,<-h5];exact h6
  ·have:=hlo hl
   rw[h4] at this;rw[aV.1 ho];have h9:=this ⟨b,aF vs++rest,ty,lo'⟩ aQ;exact h9
def RA{s:Nat}{rest:List Value}{u:Value}(vs:List Value)(i:Nat)(h:i<vs.length)(hs: ∀v∈vs,(aD v).length=s)(hu:(aD u).length=s):cj (aF vs++rest) (i*s) (aD u)=aF (vs.set i u)++rest:=by
 have hl:=ew vs hs;have hle:i*s+s<=vs.length*s:=by rw[<-gK];exact bV _ h
 rw[oF _ _ _ (by rw[hu,aY];omega),hu,fS (by omega),jN (by omega),DK vs i hs (by omega),<-gK,Dk vs (i+1) hs h,
  List.set_eq_take_append_cons_drop,if_pos h,show vs.take i++u::vs.drop (i+1)=vs.take i++([u]++vs.drop (i+1)) from J,oz,oz,ud]
 simp
def reF(ks:List Nat)(f:FV)(fr:d4):d4:=ks.map (fun k=>(k,f))++fr
end
end Go.Sx
end
section
namespace Go.Sx
open Go Go.Proofs Tryz
section
variable {GB:Gh} {C:aC} {n:Nat} {Q0:Exit->Act->World->Prop} {fr fr':aA} {own own':aH} {cf cf':Cf} {vc vc':List Prop} {ops:Array Oper} {r:List Oper} {o:Oper} {K:List Kt}
def mG(row:Bool)(nm:Nat)(l:List DV):FX->FX
 | .rw m=>bif Nat.beq m nm then(bif row then .d (.sl l) else .no) else .rw m
 | .ov m off=>bif Nat.beq m nm then(bif row then .no else(match off with
  |0=> .d (.pt l)
  |_+1=> .no)) else .ov m off
 | .be m s i j=>bif Nat.beq m nm then .no else .be m s i j
 | .rs m s i j=>bif Nat.beq m nm then .no else .rs m s i j
 | .bx tp pre m post=>bif Nat.beq m nm then(bif row then(match tp with
  |true=> .d (.tp (pre++ .sl l::post))
  |false=> .d (.ag (pre++ .sl l::post))) else .no) else .bx tp pre m post
 |f=>f
def Ar{α:Type}(f:FX)(k:FX->α):α:=match f with
 | .d x=>k (.d x)
 | .rw m=>k (.rw m)
 | .ov a b=>k (.ov a b)
 | .be a b c d=>k (.be a b c d)
 | .rs a b c d=>k (.rs a b c d)
 |f=>k f
def Da{α:Type}{f:FX}{k:FX->α}:Ar f k=k f:=by cases f<;>rfl
def y7{α:Type}(row:Bool)(nm:Nat)(l:List DV):aA->(aA->α)->α
 |[],k=>k []
 |(j,f)::t,k=>y7 row nm l t fun t'=>Ar (mG row nm l f) fun f'=>k ((j,f')::t')
def AB{α:Type}(row:Bool)(nm:Nat)(l:List DV):List FX->(List FX->α)->α
 |[],k=>k []
 |f::t,k=>AB row nm l t fun t'=>Ar (mG row nm l f) fun f'=>k (f'::t')
def xw{α:Type}(row:Bool)(nm:Nat)(l:List DV):aH->(aH->α)->α
 |[],k=>k []
 |(j,B)::t,k=>xw row nm l t fun t'=>bif Nat.beq j nm then k ((j,none)::t') else match B with
  |some (.o ty cs lo)=>AB row nm l cs fun cs'=>k ((j,some (.o ty cs' lo))::t')
  |B=>k ((j,B)::t')
def tG(row:Bool)(nm:Nat)(l:List DV):Option Bk->Option Bk
 |some (.o ty cs lo)=>some (.o ty (cs.map (mG row nm l)) lo)
 |B=>B
def Mn{α:Type}{row:Bool}{nm:Nat}{l:List DV}: ∀{cs:List FX} {k:List FX->α},AB row nm l cs k=k (cs.map (mG row nm l))
 |[],k=>rfl
 |f::t,k=>by simp only[AB,Da];rw[Mn];rfl
def EN{α:Type}{row:Bool}{nm:Nat}{l:List DV}: ∀{fr:aA} {k:aA->α},y7 row nm l fr k=k (fr.map fun e=>(e.1,mG row nm l e.2))
 |[],k=>rfl
 |(j,f)::t,k=>by simp only[y7,Da];rw[EN];rfl
def Ep{α:Type}{row:Bool}{nm:Nat}{l:List DV}: ∀{own:aH} {k:aH->α},xw row nm l own k=k (own.map fun e=>(e.1,bif Nat.beq e.1 nm then none else tG row nm l e.2))
 |[],k=>rfl
 |(j,B)::t,k=>by
  simp only[xw,Ep (own:=t),bJ]
  cases Nat.beq j nm with
  |true=>rfl
  |false=>
   cases B with
   |none=>rfl
   |some B=>cases B<;>simp only[cond_false,Mn,tG]
def BF{g:FX->FX}: ∀{fr:aA} {k:Nat},ba (fr.map fun e=>(e.1,g e.2)) k=(ba fr k).map g
 |[],k=>rfl
 |(j,f)::t,k=>by
  simp only[bJ];rw[js,js,BF (fr:=t)];split<;>rfl
def KP{row:Bool}{nm:Nat}{l:List DV}: ∀{own:aH} {k:Nat},bh (own.map fun e=>(e.1,bif Nat.beq e.1 nm then none else tG row nm l e.2)) k=if k=nm then none else tG row nm l (bh own k)
 |[],k=>by simp[bh,tG]
 |(j,B)::t,k=>by
  simp only[bJ];rw[i7,i7,KP (own:=t)];by_cases h:k=j
  ·subst h
   simp only[if_true];by_cases e:k=nm
   ·subst e;simp
   ·have:Nat.beq k nm=false:=by
     cases hb:Nat.beq k nm with
     |false=>rfl
     |true=>exact absurd (aR hb) e
    simp[this,e]
  ·simp[h]
structure xZ where
 fr:aA
 own:aH
def Aj(fr:aA)(own:aH)(nm:Nat):Option xZ:=match bh own nm with
 |some (.b _ _ ds true)=>y7 true nm ds fr fun fr'=>xw true nm ds own fun own'=>some ⟨fr',own'⟩
 |some (.o _ cs true)=>match iI cs with
  |some l=>y7 false nm l fr fun fr'=>xw false nm l own fun own'=>some ⟨fr',own'⟩
  |none=>none
 |_=>none
def i9.of_mem{o:ao}: ∀{own:List ao},o∈own-> ∃own',i9 own o own'/\ ∀x∈own,x.b≠o.b->x∈own'
 |[],h=>by cases h
 |x::t,h=>by
  rcases aT.1 h with rfl|h
  ·exact⟨t, .hd ..,fun y hy hb=>(aT.1 hy).elim (fun e=>absurd (by rw[e]) hb) id⟩
  ·obtain⟨own',h1,h2⟩:=i9.of_mem h
   exact⟨x::own', .tl _ _ _ _ h1,fun y hy hb=>(aT.1 hy).elim (fun e=>by rw[e];exact aQ) (fun e=>aJ _ (h2 y e hb))⟩
def Nl{row:Bool}{nm:Nat}{l:List DV}{ρ:NE}{G G':Gh}{f:FX}{y:Value}(hg:bz G G')(h:bP ρ G f y)(hr:row=true-> ∀y,bP ρ G (.rw nm) y->Is G' (.sl l) y)(ho:row=false-> ∀y,bP ρ G (.ov nm 0) y->Is G' (.pt l) y):bP ρ G' (mG row nm l f) y:=by
 cases f with
 |rw m=>
  simp only[mG]
  cases hb:Nat.beq m nm with
  |false=>exact h.up hg
  |true=>
   cases aR hb
   cases row with
   |true=>exact hr J y h
   |false=>trivial
 |ov m off=>
  simp only[mG]
  cases hb:Nat.beq m nm with
  |false=>exact h.up hg
  |true=>
   cases aR hb
   cases row with
   |true=>trivial
   |false=>cases off with
    |zero=>exact ho J y h
    |succ=>trivial
 |be m s i j=>
  simp only[mG]
  cases hb:Nat.beq m nm with
  |false=>exact h.up hg
  |true=>trivial
 |rs m s i j=>
  simp only[mG]
  cases hb:Nat.beq m nm with
  |false=>exact h.up hg
  |true=>trivial
 |bx tp pre m post=>
  simp only[mG]
  cases hb:Nat.beq m nm with
  |false=>exact h.up hg
  |true=>
   cases aR hb
   cases row with
   |false=>trivial
   |true=>
    obtain⟨m1,m2,e,h1,h2⟩:=h;have hl:=(h1.up hg).app (.cons (hr J _ J) (h2.up hg))
    cases tp with
    |true=>exact lz.2 ⟨_,e,hl⟩
    |false=>exact dG.2 ⟨_,e,hl⟩
 |_=>exact h.up hg
def Jp{row:Bool}{nm:Nat}{l:List DV}{ρ:NE}{G G':Gh}(hg:bz G G')(hr:row=true-> ∀y,bP ρ G (.rw nm) y->Is G' (.sl l) y)(ho:row=false-> ∀y,bP ρ G (.ov nm 0) y->Is G' (.pt l) y): ∀{cs:List FX} {m:List Value},cP ρ G cs m->cP ρ G' (cs.map (mG row nm l)) m
 |[],m,h=>h
 |f::t,m,⟨y,q,e,h1,h2⟩=>⟨y,q,e,Nl hg h1 hr ho,Jp hg hr ho h2⟩
def bE.frz{ρ:NE}{G G':Gh}{ov ov':List ao}{a:Act}{w:World}{row:Bool}{nm:Nat}{l:List DV}(h:bE GB C n (ba fr) (bh own) ρ G ov a w)(hg:bz G G')(hh:bm C ov' G' w)(hv: ∀o∈ov,(ρ nm).a≠some ⟨o.b,0,none⟩->o∈ov'){B0:Bk}(hb:bh own nm=some B0)
  (hr:row=true-> ∀y,bP ρ G (.rw nm) y->Is G' (.sl l) y)(ho:row=false-> ∀y,bP ρ G (.ov nm 0) y->Is G' (.pt l) y):
  bE GB C n (ba (fr.map fun e=>(e.1,mG row nm l e.2))) (bh (own.map fun e=>(e.1,bif Nat.beq e.1 nm then none else tG row nm l e.2))) ρ G' ov' a w:=by
 have inv: ∀m B,bh (own.map fun e=>(e.1,bif Nat.beq e.1 nm then none else tG row nm l e.2)) m=some B->m≠nm/\ ∃B1,bh own m=some B1/\tG row nm l (some B1)=some B:=fun m B e=>by
  rw[KP] at e;split at e
  ·cases e
  ·rename_i hm
   refine⟨hm,?_⟩
   cases hl:bh own m with
   |none=>rw[hl] at e;cases e
   |some B1=>rw[hl] at e;exact⟨B1,J,e⟩
 refine⟨h.gb.trans hg,hh,h.sz,h.df,fun k f e=>?_,fun m B e=>?_,fun m m' B B' e e'=>?_,h.fxd⟩
 ·rw[BF] at e
  cases hf:ba fr k with
  |none=>rw[hf] at e;cases e
  |some g=>
   rw[hf] at e;cases e;obtain⟨y,h1,h2⟩:=h.fx k g hf;exact⟨y,h1,Nl hg h2 hr ho⟩
 ·obtain⟨hm,B1,h1,h2⟩:=inv m B e
  obtain⟨os,h3,h4⟩:=h.bx m B1 h1;refine⟨os,?_,fun o ho'=>hv o (h4 o ho') fun hc=>h.dj m nm B1 B0 h1 hb hm _ (h3.blk ho') hc⟩
  cases B1 with
  |b=>cases h2;exact h3.up hg
  |c=>cases h2;exact h3.up hg
  |o ty cs lo=>cases h2;obtain⟨b,q,h5,h6,h7⟩:=h3;exact⟨b,q,h5,h6,Jp hg hr ho h7⟩
 ·obtain⟨_,B1,h1,_⟩:=inv m B e
  obtain⟨_,B2,h2,_⟩:=inv m' B' e';exact h.dj m m' B1 B2 h1 h2
def bE.frzRow{lk:LK}{bk:BM}{ρ:NE}{G:Gh}{ov:List ao}{a:Act}{w:World}{nm:Nat}{ty:TypeId}{s:Nat}{ds:List DV}(r:bE GB C n lk bk ρ G ov a w)(hb:bk nm=some (.b ty s ds true)):
  ∃G' ov',bz G G'/\bm C ov' G' w/\(∀o∈ov,(ρ nm).a≠some ⟨o.b,0,none⟩->o∈ov')/\ ∀y,bP ρ G (.rw nm) y->Is G' (.sl ds) y:=by
 obtain⟨B,⟨vs,hB,hv,hs,hlo⟩,hBo⟩:=r.row (y:= .nilFunc) hb;rcases hB with⟨e1,e2,e3⟩|⟨b,rest,lo',e2,e3,h5,h6,h7⟩
 ·subst e1
  have ed:ds=[]:=bK (by rw[<-hv.len];rfl);subst ed;simp only at e2;refine⟨G,ov,bz.refl _,r.h,fun o ho _=>ho,fun y hy=>?_⟩;rw[show y=_ from hy,e2];exact jn.2 ⟨0,⟨none,0,0⟩,[],J, .nil G 0, .nil⟩
 ·subst e3
  have hl:=hlo J _ aQ;simp only at hl;subst hl;obtain⟨ov',o1,o2⟩:=i9.of_mem (hBo _ aQ);obtain⟨f1,f2⟩:=r.h.freeze o1;simp only at e2;refine⟨_,ov',f2,f1,fun o ho hne=>o2 o ho fun e=>hne (by rw[e2,e]),fun y hy=>?_⟩;rw[show y=_ from hy,e2];exact jn.2 ⟨s,⟨some ⟨b,0,none⟩,vs.length,_⟩,vs,J,ee.of_flat hs (if_pos J) h7,hv.up f2⟩
def bE.frzVar{lk:LK}{bk:BM}{ρ:NE}{G:Gh}{ov:List ao}{a:Act}{w:World}{nm:Nat}{ty:TypeId}{cs:List FX}{l:List DV}(r:bE GB C n lk bk ρ G ov a w)(hb:bk nm=some (.o ty cs true))(hl:iI cs=some l):
  ∃G' ov',bz G G'/\bm C ov' G' w/\(∀o∈ov,(ρ nm).a≠some ⟨o.b,0,none⟩->o∈ov')/\ ∀y,bP ρ G (.ov nm 0) y->Is G' (.pt l) y:=by
 obtain⟨os,⟨b,m,h3,rfl,h4⟩,h5⟩:=r.bx _ _ hb;obtain⟨ov',o1,o2⟩:=i9.of_mem (h5 _ aQ);obtain⟨f1,f2⟩:=r.h.freeze o1;refine⟨_,ov',f2,f1,fun o ho hne=>o2 o ho fun e=>hne (by rw[h3,e]),fun y hy=>?_⟩;obtain⟨b',h6,rfl⟩:=hy;rw[h3] at h6;cases h6;exact oC.2 ⟨b,m,J,if_pos J,(pP h4 hl).up f2⟩
def FU{nm:Nat}{Φ:Act->World->Prop}{R:xZ}(h:Aj fr own nm=some R)(hk:SX GB C n (ba R.fr) (bh R.own) Φ):SX GB C n (ba fr) (bh own) Φ:=by
 refine⟨fun ρ G ov a w r=>?_⟩;unfold Aj at h;split at h<;>try (cases h;done)
 ·rename_i ty s ds hb
  rw[EN,Ep] at h;cases h;obtain⟨G',ov',h1,h2,h3,h4⟩:=r.frzRow hb;exact hk.run ρ G' ov' a w (r.frz (row:=true) h1 h2 h3 hb (fun _=>h4) (fun e=>by cases e))
 ·rename_i ty cs hb
  split at h<;>try (cases h;done)
  rename_i l hl;rw[EN,Ep] at h;cases h;obtain⟨G',ov',h1,h2,h3,h4⟩:=r.frzVar hb hl;exact hk.run ρ G' ov' a w (r.frz (row:=false) h1 h2 h3 hb (fun e=>by cases e) (fun _=>h4))
def fz[fu:Fu](nm:Nat){fr1:aA}{own1:aH}(h:Aj fr own nm=some ⟨fr1,own1⟩)(hgo:go tt n fu.n [] fr1 own1 (.ops ops r K)=⟨vc,fr',own',cf'⟩)(k:av prog GB C n Q0 fr' own' cf')(hv:ah vc:=by first|exact trivial|(simp only[ah];kernel_rfl)|(simp only[ah];omega)|(simp only[ah,aK,aS,aW];omega)):av prog GB C n Q0 fr own (.ops ops r K):=
 FU h (fi hgo hv k)
def iA(nm:Nat){fr1:aA}{own1:aH}{e:Exit}(h:Aj fr own nm=some ⟨fr1,own1⟩)(k:av prog GB C n Q0 fr1 own1 (.ex e K)):av prog GB C n Q0 fr own (.ex e K):=FU h k
def pp(nm:Nat){fr1:aA}{own1:aH}{c:Code}(h:Aj fr own nm=some ⟨fr1,own1⟩)(k:av prog GB C n Q0 fr1 own1 (.code c K)):av prog GB C n Q0 fr own (.code c K):=FU h k
def tA:aA->aA->Prop
 |[],_=>True
 |(k,v)::t,fr=>ba fr k=some v/\tA t fr
def vh:aH->aH->Prop
 |[],_=>True
 |(k,v)::t,own=>bh own k=v/\vh t own
def tN: ∀{f:aA},tA f fr->jm (ba f) (ba fr)
 |[],_,k,x,h=>by cases h
 |(j,v)::t,h,k,x,e=>by
  rw[js] at e;split at e
  ·cases e;rename_i hk;rw[hk];exact h.1
  ·exact tN h.2 k x e
def tW: ∀{f:aH},vh f own->jm (bh f) (bh own)
 |[],_,k,x,h=>by cases h
 |(j,v)::t,h,k,x,e=>by
  rw[i7] at e;split at e
  ·rename_i hk;rw[hk,h.1,e]
  ·exact tW h.2 k x e
def nv{k:Nat}{q:IntKind}{a b:Int}(h:ba fr k=some (.d (.v (.int q a))))(e:a=b):ba fr k=some (.d (.v (.int q b))):=e▸h
def Gc(GB:Gh)(C:aC)(n:Nat){X:Type}(F:X->aA)(O:X->aH)(I:X->Prop)(a:Act)(w:World):Prop:=
 ∃x ρ G ov,I x/\bE GB C n (ba (F x)) (bh (O x)) ρ G ov a w
def Gt:List Oper->List Nat->List Nat
 |[],l=>l
 |o::r,l=>match o.dst with
  |some d=>d::Gt r l
  |none=>Gt r l
def s8:Code->List Nat->List Nat
 | .region _ ops _,l=>Gt ops.toList l
 | .seq a b,l=>s8 a (s8 b l)
 | .cond _ a b,l=>s8 a (s8 b l)
 | .block _ a,l=>s8 a l
 | .loop a,l=>s8 a l
 | .scope a,l=>s8 a l
 |_,l=>l
def Hx{α:Type}:List Nat->aA->(aA->α)->α
 |_,[],k=>k []
 |l,(j,f)::t,k=>bif tH l j then Hx l t k else Hx (j::l) t fun t'=>k ((j,f)::t')
def AY{α:Type}:List Nat->aH->(aH->α)->α
 |_,[],k=>k []
 |l,(j,B)::t,k=>bif tH l j then AY l t k else match B with
  |some B=>AY l t fun t'=>k ((j,some B)::t')
  |none=>AY l t k
structure Kp where
 fr:aA
 own:aH
def keep(c:Code)(uf uo:List Nat)(fr:aA)(own:aH):Kp:=ki (s8 c uo) fun m=>ki (uf++m) fun m'=>Hx m' fr fun fr'=>AY m own fun own'=>⟨fr',own'⟩
def lp[fu:Fu]{c:Code}{X:Type}(U:X->aA)(V:X->aH)(I:X->Prop)(μ:X->Nat)(x0:X){kf:aA}{ko:aH}{cf':X->Cf}{fr':X->aA}{own':X->aH}{vc:X->List Prop}(hkp:keep c ((U x0).map (·.1)) ((V x0).map (·.1)) fr own=⟨kf,ko⟩)(hI:I x0)
  (hgo: ∀x,go tt n fu.n [] (U x++kf) (V x++ko) (.code c (.ag (Gc GB C n (fun y=>U y++kf) (fun y=>V y++ko) (fun y=>I y/\μ y<μ x))::K))=⟨vc x,fr' x,own' x,cf' x⟩)
  (round: ∀x,I x->av prog GB C n Q0 (fr' x) (own' x) (cf' x))(hF:tA (U x0++kf) fr:=by repeat (first|exact trivial|refine And.intro J ?_|refine And.intro (nv J (by first|omega|(dsimp only;omega))) ?_|refine And.intro (nv J (by simp)) ?_))(hO:vh (V x0++ko) own:=by repeat (first|exact trivial|refine And.intro J ?_))
  (hv: ∀x,I x->ah (vc x):=by intros;first|exact trivial|(simp only[ah];kernel_rfl)|(simp only[ah];omega)|(simp only[ah,aK,aS,aW];omega)):av prog GB C n Q0 fr own (.code (.loop c) K):=by
 refine⟨fun ρ G ov a w r=>?_⟩;have r0:=r.mono (tN hF) (tW hO);intro b k cs hro hb hrm;have key: ∀m a w,(∃x ρ G ov,I x/\μ x=m/\bE GB C n (ba (U x++kf)) (bh (V x++ko)) ρ G ov a w)->
   ∃e a' w',cQ C.rd prog Q0 K e a' w'/\ArrivesIn (Machine.fenced prog (FW C.rd)) prog (lone (b.atR a (.code c:: .inLoop c::k)) cs w) b k cs e a' w':=by
  intro m
  induction m using Nat.strongRecOn with
  |_ m ih=>
   intro a w ⟨x,ρ,G,ov,hx,hm,hr⟩;have h1:=fi (GB:=GB) (C:=C) (Q0:=Q0) (hgo x) (hv x hx) (round x hx);obtain⟨e,a₁,w₁,hq,harr⟩:=h1.run ρ G ov a w hr b (.inLoop c::k) cs hro hb hrm
   cases e with
   |normal=>
    obtain⟨x',ρ',G',ov',⟨hx',hlt⟩,hr'⟩:=hq;obtain⟨e₂,a₂,w₂,hq₂,harr₂⟩:=ih (μ x') (hm▸hlt) a₁ w₁ ⟨x',ρ',G',ov',hx',rfl,hr'⟩;exact⟨e₂,a₂,w₂,hq₂, .of_steps (StepsIn.trans harr (.one (fenced_calm hb hrm J) stepR_inLoop)) harr₂⟩
   |exit id=>exact⟨_,a₁,w₁,hq, .pass (x:= .inLoop c) J (fun _ _=> .inl (by simp)) harr⟩
   |goto l=>exact⟨_,a₁,w₁,hq, .pass (x:= .inLoop c) J (fun _ _=> .inl (by simp)) harr⟩
   |ret=>exact⟨_,a₁,w₁,hq, .pass (x:= .inLoop c) J (fun _ _=> .inl (by simp)) harr⟩
   |panic ch=>exact⟨_,a₁,w₁,hq, .pass (x:= .inLoop c) J (fun _ _=> .inl (by simp)) harr⟩
   |outgrown=>exact⟨_,a₁,w₁,hq, .pass (x:= .inLoop c) J (fun _ _=> .inl (by simp)) harr⟩
 obtain⟨e,a',w',q,rr⟩:=key (μ x0) a w ⟨x0,ρ,G,ov,hI,rfl,r0⟩;exact⟨e,a',w',q, .of_steps (.one (fenced_calm hb hrm J) stepR_loop) rr⟩
def at_{X:Type}{F:X->aA}{O:X->aH}{I:X->Prop}(x:X)(hI:I x)(hF:tA (F x) fr:=by repeat (first|exact trivial|refine And.intro J ?_|refine And.intro (nv J (by first|omega|(dsimp only;omega))) ?_|refine And.intro (nv J (by simp)) ?_))(hO:vh (O x) own:=by repeat (first|exact trivial|refine And.intro J ?_)):av prog GB C n Q0 fr own (.ex .normal (.ag (Gc GB C n F O I)::K)):=
 ⟨fun ρ G ov a w r=>⟨x,ρ,G,ov,hI,r.mono (tN hF) (tW hO)⟩⟩
def mg[fu:Fu]{c d:Code}{X:Type}(U:X->aA)(V:X->aH)(I:X->Prop){kf:aA}{ko:aH}{cf':X->Cf}{fr':X->aA}{own':X->aH}{vc:X->List Prop}(u0 v0:List Nat)(hkp:keep c u0 v0 fr own=⟨kf,ko⟩)
  (h1:av prog GB C n Q0 fr own (.code c (.ag (Gc GB C n (fun y=>U y++kf) (fun y=>V y++ko) I)::K)))
  (hgo: ∀x,go tt n fu.n [] (U x++kf) (V x++ko) (.code d K)=⟨vc x,fr' x,own' x,cf' x⟩)(k: ∀x,I x->av prog GB C n Q0 (fr' x) (own' x) (cf' x))(hv: ∀x,I x->ah (vc x):=by intros;first|exact trivial|(simp only[ah];kernel_rfl)|(simp only[ah];omega)|(simp only[ah,aK,aS,aW];omega)):av prog GB C n Q0 fr own (.code c (.sq d::K)):=by
 refine SX.imp h1 fun a w h=>ZD h ?_;intro e a w h
 cases e with
 |normal=>
  obtain⟨x,ρ,G,ov,hI,hr⟩:=h;have:=fi (GB:=GB) (C:=C) (Q0:=Q0) (hgo x) (hv x hI) (k x hI);exact this.run ρ G ov a w hr
 |_=>exact h
end
end Go.Sx
end
section
namespace Go.Sx
open Go
section
variable {P:Program} {ops:Array Oper} {Q:Exit->Act->World->Prop} {S:World->Prop} {π₂:List (Nat×Bool)}
abbrev aIt:Nat->Bool:=fun _=>false
def uh(S:World->Prop)(K:(World->Prop)->Act->World->Prop)(a:Act)(w:World):Prop:= ∃S':World->Prop,(∀w,S' w->S w)/\S' w/\K S' a w
def vz(P:Program)(ops:Array Oper)(Q:Exit->Act->World->Prop)(K:(World->Prop)->Act->World->Prop):List Nat->List (Nat×Bool)->(World->Prop)->Act->World->Prop
 |[],[],S,a,w=>K S a w
 |k::ks,[],S,a,w=> ∀j,(h:j∈k::ks)->wpOp P ops Q j (uh S (vz P ops Q K (bG (k::ks) j) [])) a w
 |ks,(i,true)::r,S,a,w=> ∃o v,ops[i]? =some o/\S w/\YieldsIf P ops S o v a/\vz P ops Q K ks r S (a.put o.dst v) w
 |ks,(i,false)::r,S,a,w=>wpOp P ops Q i (uh S (vz P ops Q K ks r)) a w/\
   ∀j,(h:j∈ks)->wpOp P ops Q j (uh S (vz P ops Q K (bG ks j) ((i,false)::r))) a w
termination_by ks π=>ks.length+π.length
decreasing_by
 all_goals (first|(have:=F1 h;simp only[bU,iR] at*;omega)|(simp only[bU];omega))
def aHX(Q:Exit->Act->World->Prop):(World->Prop)->Act->World->Prop:=fun _ a w=>Q .normal a w
end
section
variable {P:Program} {GB:Gh} {C:aC} {n:Nat} {fr fr':d4} {own own' own0 own1 own1':List cG} {bs bs0 bs1 bs1':List dt} {ops:Array Oper} {Q:Exit->Act->World->Prop} {fd:List FD} {π π₂:List (Nat×Bool)}
structure SR (GB:Gh) (C:aC) (n:Nat) (fr:d4) (own0:List cG) (bs0:List dt) (own1:List cG) (bs1:List dt) (fd:List FD) (K:List Nat->(World->Prop)->Act->World->Prop):Prop where
 run: ∀G frv o0 o1,bz GB G->BJ G fr frv->OB G own0 bs0 o0->OB G own1 bs1 o1-> ∀fs:Fs,St C n (frv++HK fd fs) (o1++(o0++H4 fd fs)) G (K (F5 fd fs) (HS C o0 G))
instance {GB:Gh} {C:aC} {n:Nat} {fr:d4} {own0:List cG} {bs0:List dt} {own1:List cG} {bs1:List dt} {fd:List FD} {K:List Nat->(World->Prop)->Act->World->Prop}:CoeFun (SR GB C n fr own0 bs0 own1 bs1 fd K) (fun _=> ∀G frv o0 o1,bz GB G->BJ G fr frv->OB G own0 bs0 o0->OB G own1 bs1 o1-> ∀fs:Fs,St C n (frv++HK fd fs) (o1++(o0++H4 fd fs)) G (K (F5 fd fs) (HS C o0 G))):=⟨SR.run⟩
abbrev dwK (P:Program) (ops:Array Oper) (Q:Exit->Act->World->Prop) (K:(World->Prop)->Act->World->Prop) (π:List (Nat×Bool)):List Nat->(World->Prop)->Act->World->Prop:=fun ks S=>vz P ops (gr Q) K ks π S
def Xy:List FD->List Nat->d4
 |f::fd,b::bl=>(f.d, .d (.v (.pointer (some ⟨b,0,none⟩))))::Xy fd bl
 |_,_=>[]
def TO:List FD->List (List DV)->List Nat->List cG
 |f::fd,c::cl,b::bl=>⟨b,c,f.t,true⟩::TO fd cl bl
 |_,_,_=>[]
def Y3:List FD->List (List DV)->Prop
 |f::fd,c::cl=>IsLs (fun _=>none) c (aD f.z)/\Y3 fd cl
 |[],[]=>True
 |_,_=>False
end
def aHw{α:Type}(idx:List Nat)(l:List α):List α:=idx.filterMap (l[·]?)
section
variable {P:Program} {GB:Gh} {C:aC} {n:Nat} {E:nH} {fr fr':d4} {own own':List cG} {bs bs' bs1:List dt} {ops:Array Oper} {Q:Exit->Act->World->Prop} {r:List Oper} {Φ:Act->World->Prop}
variable {dst:Option Nat} {t t' ty':TypeId} {pos:String} {af:Array Edge} {gd:Option (Nat×Bool)} {x y z:Operand} {e s by_:Nat}
def PB(GB:Gh)(P:Program)(f:FuncId)(mk:SV->List DV)(s:Nat)(ty:TypeId)(dsi:List DV)(mkr:SV->DV)(dso:List DV):Prop:=
 ∀G w vs B,bz GB G->dk G ⟨w,s,ty,dsi,false⟩ B->IsLs G (mk w) vs->gO P f vs B G (fun v own' G'=> ∃w',Is G' (mkr w') v/\dk G' ⟨w',s,ty,dso,false⟩ own')
def WW(fr:d4):List Operand->Option (List DV)
 |[]=>some []
 |x::t=>match D7 fr x,WW fr t with
  |some (.d d),some l=>some (d::l)
  |_,_=>none
def dk.asB{G:Gh}{w:SV}{ty:TypeId}{ds:List DV}{lo:Bool}{B:List ao}(h:dk G ⟨w,s,ty,ds,lo⟩ B):dk G ⟨w,s,ty,ds,false⟩ (Sx.asB B):=by
 obtain⟨vs,h1,h2,h3,h4⟩:=h;exact⟨vs,h1.asB,h2,h3,fun h=>by cases h⟩
def dk.weak{G:Gh}{w:SV}{ty:TypeId}{ds:List DV}{lo:Bool}{B:List ao}(h:dk G ⟨w,s,ty,ds,lo⟩ B):dk G ⟨w,s,ty,ds,false⟩ B:=by
 obtain⟨vs,h1,h2,h3,h4⟩:=h;exact⟨vs,h1,h2,h3,fun h=>by cases h⟩
inductive HW (fr:d4):List ResultVar->List DV->Prop
 |nil:HW fr [] []
 |tmp {t:Nat} {v:DV} {rs:List ResultVar} {vs:List DV} (h:uL fr t=some (.d v)) (k:HW fr rs vs):HW fr (.tmp t::rs) (v::vs)
end
section
variable {P:Program} {GB:Gh} {C:aC} {n:Nat} {E:nH} {fr fr':d4} {own own':List cG} {bs bs' bs1:List dt} {ops:Array Oper} {Q:Exit->Act->World->Prop} {r:List Oper} {Φ:Act->World->Prop}
variable {dst:Option Nat} {t t' ty':TypeId} {pos:String} {af:Array Edge} {gd:Option (Nat×Bool)} {x y z:Operand} {e s by_:Nat}
def PX(GB:Gh)(P:Program)(f:FuncId)(ds:List DV)(ι:Type)(r:ι->DV):Prop:=
 ∀G vs,bz GB G->IsLs G ds vs->Fn P f vs G (fun v G'=> ∃x,Is G' (r x) v)
def PMX(GB:Gh)(P:Program)(f:FuncId)(ds:List DV)(b:Nat)(ty:TypeId)(cs:List DV)(ι:Type)(r:ι->DV)(cs':ι->List DV):Prop:=
 ∀G vs m lo,bz GB G->IsLs G ds vs->IsLs G cs m->mw P f vs [⟨b,m,ty,lo⟩] G (fun v css G'=> ∃x,Is G' (r x) v/\ ∃m',css=[m']/\IsLs G' (cs' x) m')
def PN(GB:Gh)(P:Program)(f:FuncId)(ds:List DV)(ty:TypeId)(ι:Type)(cs:ι->List DV):Prop:=
 ∀G vs,bz GB G->IsLs G ds vs->gO P f vs [] G (fun v own' G'=> ∃x b m,v= .pointer (some ⟨b,0,none⟩)/\own'=[⟨b,m,ty,true⟩]/\IsLs G' (cs x) m)
inductive DW:List cG->Nat->List DV->TypeId->Bool->List cG->List cG->Prop
 |hd (b:Nat) (cs:List DV) (ty:TypeId) (lo:Bool) (t:List cG):DW (⟨b,cs,ty,lo⟩::t) b cs ty lo [] t
 |tl (o:cG) (t:List cG) (b:Nat) (cs:List DV) (ty:TypeId) (lo:Bool) (L R:List cG) (h:DW t b cs ty lo L R):DW (o::t) b cs ty lo (o::L) R
end
section
variable {P:Program} {GB:Gh} {C:aC} {n:Nat} {fr:d4} {own:List cG} {bs:List dt}
def PMR(GB:Gh)(P:Program)(f:FuncId)(ds:List DV)(b:Nat)(ty:TypeId)(cs:List DV)(s:Nat)(ty2:TypeId)(ι:Type)(rows:ι->List DV)(cs':ι->List DV):Prop:=
 ∀G vs m lo,bz GB G->IsLs G ds vs->IsLs G cs m->gO P f vs [⟨b,m,ty,lo⟩] G (fun v own' G'=> ∃x w m' B,v= .slice w.a w.n w.c/\own'=⟨b,m',ty,false⟩::B/\IsLs G' (cs' x) m'/\dk G' ⟨w,s,ty2,rows x,true⟩ B/\ ∀o∈B,b≠o.b)
variable {dst:Option Nat} {t t' ty':TypeId} {pos:String} {af:Array Edge} {gd:Option (Nat×Bool)} {x y z:Operand}
def Yz{fr:Fr}{own:List ao}{G:Gh}{fn:Func}{K:Value->List ao->Gh->Prop}{vs:List Value}(hr:kd P fr own fn.results.toList vs)(own2 own3:List ao)(hp:own.Perm own2)(hs:own3.Sublist own2)(hk:own3.Pairwise (fun x y=>x.b≠y.b)->K (gn vs) own3 G):St C n fr own G (fk C P fn (qp C K) .ret):=
 fun a w rl hmk=>⟨rl.df.trans hmk,_,rp hr rl.fr rl.h,_,own3,G,J,(rl.h.perm hp).drop hs,hk ((rl.h.perm hp).drop hs).nd⟩
variable {e s by_:Nat}
def V0{G:Gh}{l:List DV}{w:SV}{es:List Value}{s' nhi mx':Nat}(hsl:ee G s' w es)(hl:IsLs G l es)(ho:cC s l)(h2:nhi<=l.length)(hm1:nhi<=mx')(hm2:mx'<=w.c):Is G (.sl (l.take nhi)) (.slice w.a nhi mx'):=by
 have hn:=hsl.len;have hcap:=hsl.cap;have hll:=hl.len;have e9: ∀s,ma w.a w.n w.c 0 nhi mx' s= .slice w.a nhi mx':=by
  intro s;unfold ma
  cases w.a with
  |none=>simp
  |some ad=>simp[Addr.add]
 rcases CM hsl hl ho with he|he
 ·subst he
  have:l=[]:=bK (by rw[<-hll];rfl);subst this;have e1:nhi=0:=by simp at h2;exact h2
  subst e1;refine jn.2 ⟨s,⟨_,0,mx'⟩,[],J,⟨J,bQ _, .inl J⟩,by simpa using IsLs.nil⟩
 ·subst he
  have k:=hsl.sub 0 nhi mx' (bQ _) (by omega) hm1 hm2;have k2:=jn.2 ⟨s',⟨_,_,_⟩,_,J,k,(hl.take nhi).drop 0⟩;rw[iW] at k2;have e:=e9 s';unfold ma at e;revert k2;simp only[] at*;intro k2
  first|exact e▸k2|(simp at e k2⊢;first|exact k2|(cases hw:w.a<;>simp_all [Addr.add]))
end
end Go.Sx
end
section
namespace Go.Sx
open Go Go.Proofs
section
variable {P:Program} {T:TT} {GB:Gh} {C:aC} {n:Nat} {lk:LK} {bk:BM} {ρ:NE} {G:Gh} {ov:List ao} {a:Act} {w:World}
variable {dst:Option Nat} {t t' ty':TypeId} {pos:String} {af:Array Edge} {gd:Option (Nat×Bool)} {x y:Operand} {e s by_:Nat}
def Q3[hT:co P t e s by_]{k:IntKind}{l:List DV}{d:DV}{i:Int}(hx:evD lk x=some (.sl l))(hy:aO lk y=some (.d (.v (.int k i))))(h0:0<=i)(he:l[i.toNat]? =some d)(hd:(d.okc&&Nat.beq d.cells.length s)=true):
  bO P GB C n lk bk ⟨dst, .indexAddr t x y,ty',pos,af,gd⟩ (.ep d.cells) [] []:= .yd fun ρ G ov a w r=>by
 simp only[aN] at hd;obtain⟨hd,hs⟩:=hd;obtain⟨u,h1,h2⟩:=r.evD hx;obtain⟨q,g1,g2⟩:=r.ev hy;rw[dh] at g2;subst g2;obtain⟨s',z,es,rfl,hsl,hl⟩:=jn.1 h2;obtain⟨v,h3,h4⟩:=hl.get he;obtain⟨h5,h6⟩:=aM.1 h3;have hc:=(h4.cells hd).1.len;replace hs:=aR hs;rcases hsl.mem with h|⟨b,off,cs,ha,hg,hcs⟩
 ·rw[h] at h5;simp at h5
 ·have h7:=hcs i.toNat h5
  rw[h6] at h7;have h8:=Br h7;have:s'=s:=by omega
  subst this;rw[ha] at h1;have hn:=hsl.len;refine⟨.pointer (some ⟨b,off+i.toNat*s',none⟩),⟨b,_,cs,aD v,J,hg,?_,(h4.cells hd).1⟩,Ay h1 g1 h0 (by omega)⟩;rw[<-hc,h8];exact h7
def xt(ag:Option Nat)(cs:List DV)(j:Nat):Option DV:=match ag with
 |some k=>match takeD cs j k with
  |some l=>some (.ag l)
  |none=>none
 |none=>cs[j]?
def aDp{i:TI}{ag:Option Nat}{nm sz k j:Nat}{ty:TypeId}{ds:List DV}{lo:Bool}{d c:DV}(hi:eE P t=some i)(ha:i.ag=some ag)(hx:aO lk x=some (.be nm sz k j))(hb:bk nm=some (.b ty sz ds lo))(he:ds[k]? =some d)(hd:d.okc=true)(hl:xt ag d.cells j=some c):
  bO P GB C n lk bk ⟨dst, .load t x,ty',pos,af,gd⟩ (.d c) [] []:= .x1 hx fun ρ G ov a w y _ r h1 h2=>by
 obtain⟨b,hwb,rfl⟩:=h2;obtain⟨B,hB,hmem⟩:=r.row (y:= .nilFunc) hb;obtain⟨b',m,rest,lo',l0,e1,rfl,h3,h4⟩:=hB.elem he hd;simp only[] at e1 h3;rw[hwb] at e1;cases e1;have oat:gG ov b (m++rest) ty lo':=⟨hmem _ aQ⟩
 cases ag with
 |some k'=>
  have:=vy hi ha;simp only[xt] at hl;split at hl<;>cases hl;rename_i hl;obtain⟨l',h5,h6⟩:=h4.takeD hl;exact⟨.agg ⟨l'⟩,dG.2 ⟨l',J,h6⟩,H3 h1 (KV h3 h5)⟩
 |none=>
  have:=vo hi ha;simp only[xt] at hl;obtain⟨l',h5,h6⟩:=h4.get hl;have hj:j<sz:=by
   have:=Br h3;have h7:=(aM.1 h5).1;omega
  exact⟨l',h6,vx h1 (by rw[Kk h3 hj];exact h5)⟩
def dk.toBk{nm:Nat}{s:Nat}{ty:TypeId}{ds:List DV}{lo:Bool}{B:List ao}{x:SV}(h:dk G ⟨x,s,ty,ds,lo⟩ B)(e:ρ nm=x):kl ρ G nm (.b ty s ds lo) B:=by
 obtain⟨vs,h1,h2,h3,h4⟩:=h;exact⟨vs,by rw[e];exact h1,h2,h3,h4⟩
def bE.newRow(r:bE GB C n lk bk ρ G ov a w){d:Nat}{z:SV}{ty:TypeId}{s:Nat}{ds:List DV}{B ov':List ao}{K:Act->World->Prop}{a':Act}{w':World}(hf:jF [d] (some d) lk bk)(hB:dk G ⟨z,s,ty,ds,true⟩ B)(hos: ∀o∈B,o∈ov')
  (hov: ∀m B',m≠d->bk m=some B'-> ∀o∈ov,(ρ m).a=some ⟨o.b,0,none⟩->o∈ov'/\z.a≠some ⟨o.b,0,none⟩)
  (hk:SX GB C n (dP lk (some d) (.rw d)) (Sx.upB bk [(d,some (.b ty s ds true))]) K)(rl:fC C n (Sx.put (cg a) (some d) (.slice z.a z.n z.c)) ov' G a' w'):K a' w':=
 hk.run _ _ _ a' w' (r.new' (x:=z) (f:= .rw d) (y:= .slice z.a z.n z.c) hf (bz.refl _) rl.h (hB.toBk (by simp)) hos hov (by show _=_;simp) (jt rl))
def mI(i:TI):Option DV:=match i.z with
 |some z=>match iI z with
  |some zs=>bif i.za then(bif zs.all DV.flat then some (.ag zs) else none) else(match zs with
   |[d]=>bif d.flat then some d else none
   |_=>none)
  |none=>none
 |none=>none
def VK{d:DV}(h:d.flat=true):d.cells=[d]/\d.okc=true:=by
 cases d<;>first|exact⟨J,h⟩|cases h
theorem vN{i:TI}{d:DV}(hi:eE P e=some i)(h:mI i=some d): ∃v,gt P e v/\(∀G,Is G d v)/\d.okc=true:=by
 obtain⟨j,hj,hij⟩:=pj hi;unfold mI at h;split at h<;>try (cases h;done)
 rename_i z hz;split at h<;>try (cases h;done)
 rename_i zs hzs;obtain⟨v,h1,h2⟩:=ym hi hz;have h3: ∀G,IsLs G zs (aD v):=fun G=>pP (h2 (fun _=>⟨none,0,0⟩) G) hzs;have hzv:j.zero=some v:=by have:=h1.inf;rw[hj] at this;simpa using this
 have hza:i.za=Dw (some v):=by rw[hij,<-hzv]
 cases hb:i.za with
 |true=>
  rw[hb] at h hza
  cases hc:zs.all DV.flat with
  |false=>rw[hc] at h;cases h
  |true=>
   rw[hc] at h;cases h
   cases v<;>first|(cases hza;done)|skip
   rename_i cs;exact⟨_,h1,fun G=>dG.2 ⟨cs.toList,by simp,h3 G⟩,hc⟩
 |false=>
  rw[hb,cond_false] at h;rw[hb] at hza;split at h<;>try (cases h;done)
  rename_i u
  cases hc:u.flat with
  |false=>rw[hc] at h;cases h
  |true=>
   rw[hc] at h;cases h;have hv:aD v=[v]:=by cases v<;>first|rfl|(cases hza;done)
   refine⟨v,h1,fun G=>?_,(VK hc).2⟩;have:=h3 G;rw[hv] at this;exact this.uncons.1
def WP{d:Nat}{i:TI}{z:DV}{k k':IntKind}{l:Int}{ds:List DV}[hT:co P t e s by_](hi:eE P e=some i)(hz:mI i=some z)(hs:Nat.beq z.cells.length s=true)(hx:aO lk x=some (.d (.v (.int k l))))(hy:aO lk y=some (.d (.v (.int k' l))))(h0:0<=l)(hb:by_*l<=140737488355328)(hl:l<=1152921504606846976)(hds:List.replicate l.toNat z=ds):
  bO P GB C n lk bk ⟨some d, .makeSlice t x y,ty',pos,af,gd⟩ (.rw d) [(d,some (.b e s ds true))] [d]:=by
 intro hd tl tb K s1 s2 hf hk;refine⟨fun ρ G ov a w r Q=>?_⟩;subst hds;obtain⟨v,hz1,hz2,hz3⟩:=vN hi hz;obtain⟨q1,p1,p2⟩:=(r.mono s1 s2).ev hx;obtain⟨q2,p3,p4⟩:=(r.mono s1 s2).ev hy;rw[dh] at p2 p4;subst p2 p4;have c1:=((hz2 G).cells hz3).1.len;replace hs:=aR hs;have e1: ∀u∈List.replicate l.toNat v,(aD u).length=s:=fun u hu=>by rw[List.eq_of_mem_replicate hu,c1,hs]
 refine tw p1 p3 h0 hb hl (by rw[c1,hs]) hd (fun b a' w' rl=>?_) a w Q ⟨r.h,r.sz,cB a,r.df⟩;have hnd:=(cZ.1 rl.h.nd).1;refine r.newRow (z:=⟨some ⟨b,0,none⟩,l.toNat,l.toNat⟩) (B:=[⟨b,de v l.toNat,e,true⟩]) hf ⟨List.replicate l.toNat v, .inr ⟨b,[],true,by simp,by rw[SC,jJ],ew _ e1,by rw[ew _ e1];simp,by simp⟩,M1 (hz2 G) _,e1,fun _ o ho=>by rw[aV.1 ho]⟩
  (fun o ho=>by rw[aV.1 ho];exact aQ) (fun m B' _ _ o ho _=>⟨aJ _ ho,fun e'=>?_⟩) hk rl
 cases e';exact hnd o ho J
def t6(lk:LK):Nat->List (Nat×Operand)->Option (List DV)
 |_,[]=>some []
 |j,(i,x)::r=>match evD lk x,t6 lk (j+1) r with
  |some d,some l=>bif Nat.beq i j then some (d::l) else none
  |_,_=>none
def OY(r:bE GB C n lk bk ρ G ov a w){zv:Value}(hz:(aD zv).length=s): ∀(ps:List (Nat×Operand)) (j:Nat) (pre:List Value) (ds:List DV),t6 lk j ps=some ds->pre.length=j*s->(∀d∈ds,d.okc=true/\d.cells.length=s)->
  ∃vs,sL (cg a) s (pre++de zv ps.length) ps=some (pre++aF vs)/\IsLs G ds vs/\(∀v∈vs,(aD v).length=s)/\vs.length=ps.length
 |[],j,pre,ds,e,hp,hd=>by
  simp only[t6] at e;cases e;exact⟨[],by simp[sL,de,aF], .nil,by simp,J⟩
 |(i,x)::ps,j,pre,ds,e,hp,hd=>by
  simp only[t6] at e;split at e
  ·rename_i d l hx hl
   cases hb:Nat.beq i j with
   |false=>rw[hb] at e;cases e
   |true=>
    rw[hb] at e
    cases e
    have:=aR hb;subst this;obtain⟨y,hy,hy'⟩:=r.evD hx;obtain⟨k1,k2⟩:=hd d aQ;have c1:=(hy'.cells k1).1.len;have hov:cj (pre++de zv (ps.length+1)) (i*s) (aD y)=(pre++aD y)++de zv ps.length:=by
     rw[Ug,<-hp,Ny _ _ _ _ (by rw[c1,k2,hz]),dY]
    obtain⟨vs,h1,h2,h3,h4⟩:=OY r hz ps (i+1) (pre++aD y) l hl (by rw[aY,c1,k2,hp,gK]) (fun d hd'=>hd d (aJ _ hd'));refine⟨y::vs,?_, .cons hy' h2,fun v hv=>?_,by simp[h4]⟩
    ·simp only[sL,hy,bU]
     rw[if_pos ⟨by rw[c1,k2],by rw[aY,n0,hz,hp,gK];omega⟩,hov,h1];simp[aF]
    ·rcases aT.1 hv with rfl|hv
     ·rw[c1,k2]
     ·exact h3 v hv
  ·cases e
def W3{d:Nat}{i:TI}{z:DV}{len:Nat}{parts:Array (Nat×Operand)}{ds:List DV}[hT:co P t e s by_](hi:eE P e=some i)(hz:mI i=some z)(hs:Nat.beq z.cells.length s=true)(hb:t6 lk 0 parts.toList=some ds)(hok:AQ s ds=true)(hlen:Nat.beq parts.toList.length len=true)(hsm:Nat.ble (len*s) 1000=true)(hs0:Nat.blt 0 (len*s)=true):
  bO P GB C n lk bk ⟨some d, .buildSlice t len parts,ty',pos,af,gd⟩ (.rw d) [(d,some (.b e s ds true))] [d]:=by
 intro hd tl tb K s1 s2 hf hk;refine⟨fun ρ G ov a w r Q=>?_⟩;obtain⟨v,hz1,hz2,hz3⟩:=vN hi hz;have c1:=((hz2 G).cells hz3).1.len;replace hs:=aR hs;have hlen':=aR hlen;obtain⟨vs,h1,h2,h3,h4⟩:=OY (r.mono s1 s2) (s:=s) (zv:=v) (by rw[c1,hs]) parts.toList 0 [] ds hb (by simp) (Fa hok);rw[cY,cY] at h1;refine FH (z:=v) (out:=aF vs) (by rw[c1,hs]) (by rw[<-hlen'];exact h1) hsm hs0 hd (fun b a' w' rl=>?_) a w Q ⟨r.h,r.sz,cB a,r.df⟩;have hnd:=(cZ.1 rl.h.nd).1;have hvl:vs.length=len:=by rw[h4,hlen']
 refine r.newRow (z:=⟨some ⟨b,0,none⟩,len,len⟩) (B:=[⟨b,aF vs,e,true⟩]) hf ⟨vs, .inr ⟨b,[],true,by rw[hvl],by rw[jJ],ew _ h3,by rw[ew _ h3,hvl];simp,by rw[hvl];exact aL _⟩,h2,h3,fun _ o ho=>by rw[aV.1 ho]⟩
  (fun o ho=>by rw[aV.1 ho];exact aQ) (fun m B' _ _ o ho _=>⟨aJ _ ho,fun e'=>?_⟩) hk rl
 cases e';exact hnd o ho J
def Qt{d:Nat}[hT:co P t e s by_]:bO P GB C n lk bk ⟨some d, .buildSlice t 0 #[],ty',pos,af,gd⟩ (.rw d) [(d,some (.b e s [] true))] [d]:=by
 intro hd tl tb K s1 s2 hf hk;refine⟨fun ρ G ov a w r Q=>?_⟩;refine KF hd (fun b a' w' rl=>?_) a w Q ⟨r.h,r.sz,cB a,r.df⟩;have hnd:=(cZ.1 rl.h.nd).1;refine r.newRow (z:=⟨some ⟨b,0,none⟩,0,0⟩) (B:=[⟨b,[],e,true⟩]) hf ⟨[], .inr ⟨b,[],true,J,by simp[aF],by simp[aF],by simp[aF],by simp⟩, .nil,by simp,fun _ o ho=>by rw[aV.1 ho]⟩
  (fun o ho=>by rw[aV.1 ho];exact aQ) (fun m B' _ _ o ho _=>⟨aJ _ ho,fun e'=>?_⟩) hk rl
 cases e';exact hnd o ho J
def bO.frz{o:Oper}{d:Nat}{B:Bk}{f:FX}{v:DV}(hd:o.dst=some d)(h:bO P GB C n lk bk o f [(d,some B)] [d])
  (hz: ∀lk bk ρ G ov a w,bE GB C n lk bk ρ G ov a w->bk d=some B-> ∃G' ov',bz G G'/\bm C ov' G' w/\(∀o∈ov,(ρ d).a≠some ⟨o.b,0,none⟩->o∈ov')/\ ∀y,bP ρ G f y->Is G' v y):bO P GB C n lk bk o (.d v) [(d,none)] [d]:=by
 intro hd' tl tb K s1 s2 hf hk;refine h hd' tl tb K s1 s2 hf ?_;rw[hd] at hk⊢;refine⟨fun ρ G ov a w r=>?_⟩;have hbd:Sx.upB tb [(d,some B)] d=some B:=by simp[Sx.upB]
 obtain⟨G',ov',h1,h2,h3,h4⟩:=hz _ _ ρ G ov a w r hbd;refine hk.run ρ G' ov' a w ⟨r.gb.trans h1,h2,r.sz,r.df,fun k g e=>?_,fun m B' e=>?_,fun m m' B1 B2 e e'=>?_,r.fxd⟩
 ·by_cases hk:k=d
  ·subst hk
   simp only[dP,if_true] at e;cases e;obtain⟨y,g1,g2⟩:=r.fx k f (by simp[dP]);exact⟨y,g1,h4 y g2⟩
  ·simp only[dP,hk,if_false] at e
   obtain⟨y,g1,g2⟩:=r.fx k g (by simp[dP,hk,e]);exact⟨y,g1,g2.up h1⟩
 ·simp only[Sx.upB] at e
  split at e
  ·cases e
  ·rename_i hm
   have e':Sx.upB tb [(d,some B)] m=some B':=by simp[Sx.upB,hm,e]
   obtain⟨os,g1,g2⟩:=r.bx m B' e';exact⟨os,g1.up h1,fun o ho=>h3 o (g2 o ho) fun hc=>r.dj m d B' B e' hbd hm _ (g1.blk ho) hc⟩
 ·simp only[Sx.upB] at e e'
  split at e
  ·cases e
  ·rename_i hm
   split at e'
   ·cases e'
   ·rename_i hm'
    exact r.dj m m' B1 B2 (by simp[Sx.upB,hm,e]) (by simp[Sx.upB,hm',e'])
def bO.frzRow{o:Oper}{d:Nat}{ty:TypeId}{s:Nat}{ds:List DV}(hd:o.dst=some d)(h:bO P GB C n lk bk o (.rw d) [(d,some (.b ty s ds true))] [d]):bO P GB C n lk bk o (.d (.sl ds)) [(d,none)] [d]:=
 h.frz hd fun _ _ _ _ _ _ _ r hb=>r.frzRow hb
def Sw{d:Nat}{f:FX}{l:List DV}(e:aO lk x=some f)(hc:f.okc=true)(hn:vM f d=true)(hl:iI f.cells=some l):bO P GB C n lk bk ⟨some d, .box t x,ty',pos,af,gd⟩ (.d (.pt l)) [(d,none)] [d]:=
 (LQ e hc hn).frz J fun _ _ _ _ _ _ _ r hb=>r.frzVar hb hl
def pf(lk:LK)(bk:BM)(s:Nat)(y:Operand):Option (List DV):=match aO lk y with
 |some (.rw nm)=>match bk nm with
  |some (.b _ s' ds _)=>bif Nat.beq s' s then some ds else none
  |_=>none
 |some f=>match kB f with
  |some (.sl l)=>some l
  |_=>none
 |none=>none
def w5{ds:List DV}(r:bE GB C n lk bk ρ G ov a w)(h:pf lk bk s y=some ds)(hk:cC s ds):
  ∃(z:SV) (vs:List Value),aw (cg a) y=some (.slice z.a z.n z.c)/\z.n=vs.length/\IsLs G ds vs/\(∀v∈vs,(aD v).length=s)/\(∀v∈aF vs,Sx.flat v=true)/\lB P C ov G s z.n (.slice z.a z.n z.c) (aF vs):=by
 have hfl: ∀vs:List Value,IsLs G ds vs->(∀v∈vs,(aD v).length=s)/\ ∀v∈aF vs,Sx.flat v=true:=by
  intro vs hl;refine⟨fun v hv=>?_,fun v hv=>?_⟩
  ·obtain⟨d,hd,h3⟩:=hl.all v hv
   obtain⟨k1,k2⟩:=hk d hd;rw[(h3.cells k1).1.len,k2]
  ·simp only[aF,List.mem_flatten,bM] at hv
   obtain⟨l,⟨u,hu,rfl⟩,hv⟩:=hv;obtain⟨d,hd,h3⟩:=hl.all u hu;exact(h3.cells (hk d hd).1).2 v hv
 unfold pf at h;split at h
 ·rename_i nm hy
  split at h<;>try (cases h;done)
  rename_i ty s' ds' lo hb
  cases hs:Nat.beq s' s with
  |false=>rw[hs] at h;cases h
  |true=>
   rw[hs] at h;cases h
   cases aR hs
   obtain⟨u,h1,h2⟩:=r.ev hy
   cases h2
   obtain⟨B,⟨vs,hB,hv,hs,_⟩,hmem⟩:=r.row (y:= .nilFunc) hb;obtain⟨f1,f2⟩:=hfl _ hv;refine⟨ρ nm,vs,h1,hB.len,hv,f1,f2,?_⟩;rcases hB with⟨e1,e2,e3⟩|⟨b,rest,lo',h3,h4,h5,h6,h7⟩
   ·simp only[] at e2
    subst e1;rw[e2];exact se
   ·simp only[] at h3 h4 h5 h6 h7
    have oat:gG ov b (aF vs++rest) ty lo':=⟨hmem _ (by rw[h4];exact aQ)⟩;rw[show(ρ nm).a=some ⟨b,0,none⟩ by rw[h3],show(ρ nm).n=vs.length by rw[h3]];refine vT oat ?_;rw[lg _ _ _ (by rw[aY];omega),iW,fS (by omega),aU (by omega)]
 ·rename_i f _ hy
  split at h<;>cases h;rename_i hd;obtain⟨u,h3,h4⟩:=r.ev hy;obtain⟨s',z,es,rfl,hsl,hl⟩:=jn.1 (nk h4 hd);obtain⟨f1,f2⟩:=hfl _ hl;refine⟨z,es,h3,hsl.len,hl,f1,f2,?_⟩;rcases CM hsl hl hk with he|he
  ·subst he
   rw[hsl.len];exact se
  ·subst he;exact Wm hsl
 ·cases h
def Q9{d nm:Nat}{i:TI}{z:DV}{ds ds2:List DV}[hT:co P t e s by_][hN:jl P t'](hi:eE P e=some i)(hz:mI i=some z)(hs:Nat.beq z.cells.length s=true)(hx:aO lk x=some (.rw nm))(hb:bk nm=some (.b e s ds true))(hy:pf lk bk s y=some ds2)(hk2:cC s ds2)
  (hby:Nat.blt 0 by_=true)(hbd:(ds.length+ds2.length)*by_<=140737488355328)(hnd:Nat.beq nm d=false){ds':List DV}(hds:ds++ds2=ds'):
  bO P GB C n lk bk ⟨some d, .call ⟨.builtin .append, #[x,y], #[t,t']⟩,ty',pos,af,gd⟩ (.rw d) [(nm,none),(d,some (.b e s ds' true))] [d]:=by
 intro hd tl tb K s1 s2 hf hk;refine⟨fun ρ G ov a w r Q=>?_⟩;subst hds;have r1:=r.mono s1 s2;obtain⟨v,hz1,hz2,hz3⟩:=vN hi hz;have cz:=((hz2 G).cells hz3).1.len;replace hs:=aR hs;rw[mK] at hby
 have hne:nm≠d:=fun e=>by subst e;simp at hnd
 obtain⟨u,hx',hx2⟩:=r1.ev hx
 cases hx2
 obtain⟨B,⟨vs,hB,hv,hvs,hlo⟩,hBo⟩:=r1.row (y:= .nilFunc) hb;simp only[] at hB hv hvs;obtain⟨w2,us,hy',h2,h3,h4,h5,h6⟩:=w5 (P:=P) r1 hy hk2;have hus:(aF us).length=us.length*s:=ew us h4;have hbd':(vs.length+us.length)*by_<=140737488355328:=by rw[hv.len,h3.len];exact hbd
 have hall: ∀v∈vs++us,(aD v).length=s:=fun v hv=>by
  rcases cX.1 hv with hv|hv
  ·exact hvs v hv
  ·exact h4 v hv
 have rd:=r.dropB nm;have hf':jF [d] (some d) tl (Sx.upB tb [(nm,none)]):=fun m hm=>by
  obtain⟨g1,g2⟩:=hf m hm;refine⟨g1,fun k B' hk e=>g2 k B' hk ?_⟩;simp only[Sx.upB] at e;split at e
  ·cases e
  ·exact e
 have hbk: ∀m B',(Sx.upB tb [(nm,none)]) m=some B'->m≠nm/\tb m=some B':=fun m B' e=>by
  simp only[Sx.upB] at e;split at e
  ·cases e
  ·exact⟨by assumption,e⟩
 have hfin: ∀(b:Nat) (cap':Nat) (rest':List Value) (ov1:List ao) a' w',vs.length+us.length<=cap'->rest'.length+(vs.length+us.length)*s=cap'*s->(∀o∈ov,(ρ nm).a≠some ⟨o.b,0,none⟩->o∈ov1)->
   fC C n (put (cg a) (some d) (.slice (some ⟨b,0,none⟩) (vs.length+us.length) cap')) (⟨b,aF (vs++us)++rest',e,true⟩::ov1) G a' w'->K a' w':=by
  intro b cap' rest' ov1 a' w' hc hr ho1 rl;have hnd':=(cZ.1 rl.h.nd).1;refine rd.newRow (z:=⟨some ⟨b,0,none⟩,vs.length+us.length,cap'⟩) (B:=[⟨b,aF (vs++us)++rest',e,true⟩]) hf' ⟨vs++us, .inr ⟨b,rest',true,by simp,J,ew _ hall,?_,by simpa using hc⟩,hv.app h3,hall,fun _ o ho=>by rw[aV.1 ho]⟩
   (fun o ho=>by rw[aV.1 ho];exact aQ) (fun m B' hm e o ho hmo=>?_) hk rl
  ·rw[ew _ hall,aY]
   simp only[];omega
  ·obtain⟨h7,h8⟩:=hbk m B' e
   have ho2:=ho1 o ho fun hc=>r.dj m nm B' _ h8 (s2 _ _ hb) h7 _ hmo hc;exact⟨aJ _ ho2,fun e'=>by cases e';exact hnd' o ho2 J⟩
 rcases hB with⟨e1,e2,e3⟩|⟨b,rest,lo',k3,k4,k5,k6,k7⟩
 ·subst e1
  rw[e2] at hx';by_cases hne:us=[]
  ·subst hne
   have:ds2=[]:=bK (by rw[<-h3.len];rfl);subst this;rw[h2] at hy';refine Nz hx' hy' hd (fun a' w' rl=>?_) a w Q ⟨r.h,r.sz,cB a,r.df⟩;refine rd.newRow (z:=⟨none,0,0⟩) (B:=[]) hf' ⟨[], .inl ⟨J,J,J⟩,by simpa using hv,by simp,fun _ o ho=>by cases ho⟩ (fun o ho=>by cases ho) (fun m B' hm e o ho hmo=>⟨ho,fun e'=>by cases e'⟩) hk rl
  ·have hup:0<us.length:=nW.2 hne
   rw[h2] at hy' h6;refine xi (z:=v) (xs:=[]) (ys:=aF us) hx' hy' se h6 (by show(0:Nat)<0+us.length;omega) hby (by simpa using hbd') hd (fun b cap' hc a' w' rl=>?_) a w Q ⟨r.h,r.sz,cB a,r.df⟩;exact hfin b cap' (de v (cap'-us.length)) ov a' w' (by simpa using hc) (by rw[n0,cz,hs,<-dQ];simp at hc⊢;congr 1;omega) (fun o ho _=>ho) (by simpa using rl)
 ·have hl:=hlo J
  subst k4;have hlo':lo'=true:=hl _ aQ;subst hlo';have ha:(ρ nm).a=some ⟨b,0,none⟩:=by rw[k3]
  have hn:(ρ nm).n=vs.length:=by rw[k3]
  rw[ha,hn] at hx';rw[h2] at hy' h6;obtain⟨ov1,o1,o2⟩:=i9.of_mem (hBo _ aQ);refine N9 (z:=v) (xs:=aF vs) (ys:=aF us) (rest:=rest) (own1:=ov1) hx' hy' o1 k5 k6 k7 h6 hus h5 hby hbd' (by rw[cz,hs]) hd (fun b' cap' rest' hc hr a' w' rl=>?_) a w Q ⟨r.h,r.sz,cB a,r.df⟩;rw[<-oz] at rl;exact hfin b' cap' rest' ov1 a' w' hc hr (fun o ho hne=>o2 o ho fun e'=>hne (by rw[ha,e'])) rl
end
end Go.Sx
end
