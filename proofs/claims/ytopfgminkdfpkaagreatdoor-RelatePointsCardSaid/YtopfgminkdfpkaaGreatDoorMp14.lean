/- Part 14 of a proof. -/
import Derived.Test.YtopfgminkdfpkaaGreatDoorMp13
import Derived.WalkKit
import Derived.LaidEql
import Derived.Stop.Asserts
import Derived.RowKitTokens
set_option linter.unusedSimpArgs false
set_option maxHeartbeats 2000000
set_option maxRecDepth 100000
set_option linter.unusedVariables false
section
namespace Go.Sx
open Go Go.Proofs Tryz
def ahX(n:Nat)(f:Nat→Bool):Nat:=((List.range n).filter fun j=>!f j).length
theorem arj{n k:Nat}{f:Nat→Bool}(hk:k<n)(hf:f k=false):ahX n (anW f k)+1=ahX n f:=by
 unfold ahX
 have key: ∀l:List Nat,l.Nodup→((l.filter fun j=>!anW f k j).length+(if k∈l then 1 else 0)=(l.filter fun j=>!f j).length):=fun l=>by
  induction l with
  |nil=>intro _;rfl
  |cons a l ih=>
   intro hn
   obtain⟨h1,h2⟩:=List.nodup_cons.1 hn
   have:=ih h2
   by_cases e:a=k
   ·subst e
    simp only[pQ,arL,hf,aW,true_or,if_true] at this⊢
    rw[if_neg h1] at this
    simp at this⊢
    omega
   ·have e': ¬k=a:=fun h=>e h.symm
    simp only[pQ,aiT e,aW,e',false_or] at this⊢
    cases f a<;>simp at this⊢ <;>omega
 have:=key (List.range n) List.nodup_range
 rwa [if_pos (oT.2 hk)] at this
def rdF(ns:List RN):Nat→Int→RS→Tr×RS
 |0,_,s=>(.leaf false,s)
 |m+1,rt,s=>
  if rt= -1 then(.leaf false,s) else if rt= -2 then(.leaf true,s) else
  match ns[rt.toNat]? with
  |none=>(.leaf false,⟨s.f,s.c,true⟩)
  |some n=>if rt<0∨s.f rt.toNat=true then(.leaf false,⟨s.f,s.c,true⟩) else
   match n.g.ln with
   |none=>(.leaf false,⟨anW s.f rt.toNat,s.c+1,true⟩)
   |some l=>let a:=rdF ns m n.l ⟨anW s.f rt.toNat,s.c+1,s.b⟩;let b:=rdF ns m n.r a.2;(.node l a.1 b.1,b.2)
theorem ap2{ns:List RN}: ∀{m:Nat} {rt:Int} {s:RS},ahX ns.length s.f<m→RR ns rt s (rdF ns m rt s).1 (rdF ns m rt s).2∧(rdF ns m rt s).2.c+ahX ns.length (rdF ns m rt s).2.f=s.c+ahX ns.length s.f
 |0,_,_,h=>absurd h (Nat.not_lt_zero _)
 |m+1,rt,s,h=>by
  rw[rdF]
  split
  ·rename_i e;subst e;exact⟨.leaf false s,rfl⟩
  rename_i e1
  split
  ·rename_i e;subst e;exact⟨.leaf true s,rfl⟩
  rename_i e2
  split
  ·rename_i hn
   have:=List.getElem?_eq_none_iff.1 hn
   exact⟨.bad rt s e1 e2 (by omega),rfl⟩
  rename_i n hn
  have hlt:=(aL.1 hn).1
  split
  ·rename_i hb
   refine⟨.bad rt s e1 e2 ?_,rfl⟩
   rcases hb with hb|hb
   ·exact .inl hb
   ·by_cases h0:rt<0
    ·exact .inl h0
    ·exact .inr (.inr ⟨rt.toNat,by omega,hlt,hb⟩)
  rename_i hb
  obtain⟨k,rfl⟩: ∃k:Nat,rt=k:=⟨rt.toNat,by omega⟩
  rw[bX] at hn hlt hb⊢
  have hf:s.f k=false:=by
   cases hh:s.f k with
   |false=>rfl
   |true=>exact absurd (Or.inr hh) hb
  have hu:=arj hlt hf
  split
  ·rename_i hl;exact⟨.line k n s hn hf hl,by simp only;omega⟩
  rename_i l hl
  have h1:=ap2 (ns:=ns) (m:=m) (rt:=n.l) (s:=⟨anW s.f k,s.c+1,s.b⟩) (by simp only;omega)
  have hc:=h1.1.mono
  simp only at h1 hc
  have h2:=ap2 (ns:=ns) (m:=m) (rt:=n.r) (s:=(rdF ns m n.l ⟨anW s.f k,s.c+1,s.b⟩).2) (by omega)
  exact⟨.node k n l s _ _ _ _ hn hf hl h1.1 h2.1,by have:=h1.2;have:=h2.2;dsimp only;omega⟩
def ofQ(ns:List RN)(rt:Int):Option Tr:=
 let r:=rdF ns (ns.length+1) rt rs0
 if r.2.b=false∧r.2.c=ns.length then some r.1 else none
def ofR:Option Tr→DV
 |some t=> .tp [eU t,vB true]
 |none=> .tp [.v (.pointer none),vB false]
theorem aiK(n:Nat)(f:Nat→Bool):ahX n f≤n:=by
 unfold ahX
 refine cW (oZ _ _) ?_
 rw[qR];exact bQ _
theorem aE0{GB:Gh}{ns:List RN}{rt:Int}(hs: ∀n∈ns,n.g.sm)(hn:ns.length≤65536):PF GB prog 74 [eRT rt ns] (ofR (ofQ ns rt)):=by
 have h:=ap2 (ns:=ns) (m:=ns.length+1) (rt:=rt) (s:=rs0) (by have:=aiK ns.length rs0.f;omega)
 have hu:=aiK ns.length rs0.f
 have h0:rs0.c=0:=rfl
 have h2:=aFU (GB:=GB) hs hn h.1 (by have:=h.2;omega)
 unfold ofD at h2
 unfold ofQ
 simp only
 split
 ·rename_i e;rw[if_pos e] at h2;exact h2
 ·rename_i e;rw[if_neg e] at h2;exact h2
end Go.Sx
end
section
namespace Go.Sx
open Go Go.Proofs Go.RowKit Go.Extern.Stop Go.Stop Go.Extern
theorem awy(v:Value)(w:World):(Extern.ReflectliteType.typeOf #[.iface 399 v]).run Tryz.prog w= .ok (.iface 198 (.agg #[.pointer (some ⟨Tryz.prog.globals.size,399,none⟩)])) w:=by kernel_rfl
def aFq:TypeId→Sem Value:=fun t=>do Go.Extern.Rtype.noPackHeld "Comparable" t;pure (.bool (←typeInfo t).comparable)
theorem amP(w:World):((Extern.ReflectliteType.method aFq) #[.agg #[.pointer (some ⟨Tryz.prog.globals.size,399,none⟩)]]).run Tryz.prog w= .ok (.bool true) w:=by kernel_rfl
theorem aBX:(Tryz.prog.info? 399).map (·.comparable)=some true:=by kernel_rfl
theorem aBF:(Tryz.prog.info? 424).map (·.size)=some 1:=by kernel_rfl
theorem agq(n:Nat)(v:Value)(w:World):(Go.method (n+1) 198 v "Comparable").run Tryz.prog w= .ok (347,v) w:=by
 kernel_rfl
theorem aDN(a:Addr)(w:World):Calls Tryz.prog 15 #[.iface 399 (.pointer (some a)), .iface 399 (.pointer (some a))] w fun e w'=>e= .returned (.bool true)∧w'=w:=by
 obtain⟨i,hi,hcmp⟩:=Option.map_eq_some_iff.1 aBX
 obtain⟨j,hj,hjs⟩:=Option.map_eq_some_iff.1 aBF
 have h8:= @run_callFunc_extern Tryz.prog 54 _ Extern.ReflectliteType.typeOf Tryz.func54 (by kernel_rfl) (by kernel_rfl) (by kernel_rfl) (by kernel_rfl)
 have h32:= @run_callFunc_extern Tryz.prog 347 _ (Extern.ReflectliteType.method aFq) Tryz.func347 (by kernel_rfl) (by kernel_rfl) (by kernel_rfl) (by kernel_rfl)
 have tT:=awy
 have cT:=amP
 obtain⟨g,hg⟩: ∃g,g=Tryz.prog.globals.size:=⟨_,rfl⟩
 simp only[←hg] at tT cT
 clear hg
 have mR:=agq
 have heq:=run_eql_iface_ptr_same (P:=Tryz.prog) w a Tryz.underlying37 Tryz.underlying399 hi hcmp hj
 go_enter Tryz.func15,Tryz.ntmps15
 go_wp2
 refine wp_loop_rounds 1 ?_
 rw[rounds_succ]
 go_wp2
 go_ret
 exact⟨rfl,rfl⟩
def aCL(a:Addr):DV:= .v (.iface 399 (.pointer (some a)))
end Go.Sx
end
section
namespace Go.Sx
open Go Go.Proofs Tryz
variable {GB:Gh}
section
variable {GB:Gh} {C:Ctx} {n:Nat} {Q0:Exit→Act→World→Prop} {fr fr':FrX} {own own':OwX} {cf cf':Cf} {vc:List Prop}
def glA(fr:FrX)(cf:Cf):Option Nat:=match opC fr cf with
 |some ⟨_, .load t (.global g),_,_,_,_⟩=>(match abk tt t with
  |some i=>match i.ag with
   |some none=>some g
   |_=>none
  |none=>none)
 |_=>none
theorem gl[fu:Fu]{g:Nat}{v:Value}(h:glA fr cf=some g)(hg:GB g=some [v])(hgo:goA tt n fu.n fr own cf (.d (.v v)) [] []=⟨vc,fr',own',cf'⟩)(k:CfS prog GB C n Q0 fr' own' cf')
  (hv:aag vc:=by first|exact trivial|(simp only[aag];kernel_rfl)|(simp only[aag];omega)):CfS prog GB C n Q0 fr own cf:=by
 unfold glA at h
 split at h<;>try (cases h;done)
 rename_i hh
 split at h<;>try (cases h;done)
 rename_i i hT
 split at h<;>cases h
 rename_i ha
 haveI:=ajh (abK _ _ hT) ha
 refine us (f:= .d (.v v)) hh (OpR.yd fun ρ G ov a w r=>⟨v,(aaZ (G:=G)).2 rfl,?_⟩) hgo hv k
 haveI:aAV G g [v]:=⟨r.gb _ _ hg⟩
 exact adT (b:=g) (off:=0) rfl ghi rfl
theorem am4{d:Nat}{f:FX}{x:DV}(hl:aay fr d=some f)(e:akh f=some x){Φ:Act→World→Prop}(h:SX GB C n (aay ((d, .d x)::fr)) (aaB own) Φ):SX GB C n (aay fr) (aaB own) Φ:=abH (g:= .d x) hl (fun _ _ _ k=>acx k e) h
theorem dvE(d:Nat){f:FX}(x:DV){e:Exit}{K:List Kt}(hl:aay fr d=some f)(e1:akh f=some x)(k:CfS prog GB C n Q0 ((d, .d x)::fr) own (.ex e K)):CfS prog GB C n Q0 fr own (.ex e K):=am4 hl e1 k
theorem dvC(d:Nat){f:FX}(x:DV){c:Code}{K:List Kt}(hl:aay fr d=some f)(e1:akh f=some x)(k:CfS prog GB C n Q0 ((d, .d x)::fr) own (.code c K)):CfS prog GB C n Q0 fr own (.code c K):=am4 hl e1 k
theorem aEK{nm0 nm:Nat}{B1 B2:Option Bk}:aaB (arf (arf own nm0 B1) nm B2)=upB (upB (aaB own) [(nm0,B1)]) [(nm,B2)]:=by
 funext j;rw[aft];simp only[upB];rw[aft]
theorem axk{nm0 nm k:Nat}{ty0:TypeId}{cs:List FX}{lo:Bool}(hb:aaB own nm0=some (.o ty0 cs lo))(hk:cs[k]? =some .nl)(hne:nm0≠nm){Φ:Act→World→Prop}{ty s:Nat}(hf:acM [nm] none (aay fr) (aaB own))
  (h:SX GB C n (aay fr) (aaB (arf (arf own nm0 (some (.o ty0 (cs.set k (.rw nm)) lo))) nm (some (.b ty s [] true)))) Φ):SX GB C n (aay fr) (aaB own) Φ:=by
 refine⟨fun ρ G ov a w r=>?_⟩
 obtain⟨f1,f2⟩:=hf nm aQ
 rw[aEK] at h
 refine h.run (fun k=>if k=nm then⟨none,0,0⟩ else ρ k) G ov a w ⟨r.gb,r.h,r.sz,r.df,fun k f e=>?_,fun m B e=>?_,fun m m' B B' e e' hne=>?_⟩
 ·obtain⟨v,h1,h2⟩:=r.fx k f e
  exact⟨v,h1,h2.ren fun m hm=>neN _ fun hc=>f1 k f (by simp) e (by rw[hm,hc])⟩
 ·simp only[upB] at e
  by_cases hm:m=nm
  ·subst hm;simp only[if_true] at e;cases e
   exact⟨[],⟨[],by simp only[if_true];exact .inl ⟨rfl,rfl,rfl⟩, .nil,by simp,fun _ o ho=>by cases ho⟩,fun o ho=>by cases ho⟩
  ·simp only[hm,if_false] at e
   by_cases hm0:m=nm0
   ·subst hm0;simp only[if_true] at e;cases e
    obtain⟨os,h1,h2⟩:=r.bx m _ hb
    have h1':amt (fun k=>if k=nm then⟨none,0,0⟩ else ρ k) G m (.o ty0 cs lo) os:=h1.ren (if_neg hm) fun q hq=>neN _ fun hc=>f2 m _ hm hb (by rw[←hc];exact hq)
    obtain⟨b,ms,k1,k2,k3⟩:=h1'
    refine⟨os,⟨b,ms,k1,k2,?_⟩,h2⟩
    obtain⟨y,e1,e2⟩:=k3.get hk
    have:=k3.set (f:= .rw nm) (y:=y) k (by show y=_;simp only[if_true];exact e2)
    rwa [show ms.set k y=ms by apply jY;intro j;rw[oJ];split<;>(try rfl);rename_i hj;subst hj;split<;>simp_all] at this
   ·simp only[hm0,if_false] at e
    obtain⟨os,h1,h2⟩:=r.bx m B e
    exact⟨os,h1.ren (if_neg hm) fun q hq=>neN _ fun hc=>f2 m B hm e (by rw[←hc];exact hq),h2⟩
 ·intro b hbb hb'
  have key: ∀q B,upB (upB (aaB own) [(nm0,some (.o ty0 (cs.set k (.rw nm)) lo))]) [(nm,some (.b ty s [] true))] q=some B→q≠nm→ ∃B0,aaB own q=some B0:=fun q B eq hq=>by
   simp only[upB,hq,if_false] at eq
   by_cases hq0:q=nm0
   ·subst hq0;exact⟨_,hb⟩
   ·simp only[hq0,if_false] at eq;exact⟨_,eq⟩
  by_cases hm:m=nm
  ·simp[hm] at hbb
  ·by_cases hm':m'=nm
   ·simp[hm'] at hb'
   ·obtain⟨B0,g0⟩:=key m B e hm
    obtain⟨B1,g1⟩:=key m' B' e' hm'
    simp only[hm,hm',if_false] at hbb hb'
    exact r.dj m m' B0 B1 g0 g1 hne b hbb hb'
theorem nro(nm0 k nm ty s:Nat){ty0:TypeId}{cs:List FX}{lo:Bool}{own1:OwX}{c:Code}{K:List Kt}(hb:aaB own nm0=some (.o ty0 cs lo))(hk:cs[k]? =some .nl)(hf:ahU [nm] none fr own=true)(hne:Nat.beq nm0 nm=false)
  (ho:arf (arf own nm0 (some (.o ty0 (cs.set k (.rw nm)) lo))) nm (some (.b ty s [] true))=own1)(h:CfS prog GB C n Q0 fr own1 (.code c K)):CfS prog GB C n Q0 fr own (.code c K):=by
 subst ho
 exact axk hb hk (fun e=>by subst e;rw[mS] at hne;cases hne) (afn hf) h
theorem akO{ρ:NE}{G:Gh}: ∀{a b:List FX} {m:List Value},adY ρ G (a++b) m→ ∃m1 m2,m=m1++m2∧adY ρ G a m1∧adY ρ G b m2
 |[],b,m,h=>⟨[],m,rfl,rfl,h⟩
 |f::t,b,m,⟨y,n,e,h1,h2⟩=>by
  obtain⟨m1,m2,rfl,k1,k2⟩:=akO h2
  exact⟨y::m1,m2,e,⟨y,m1,rfl,h1,k1⟩,k2⟩
def bzA(fr:FrX)(cf:Cf):Option (Nat×List FX):=match opC fr cf with
 |some ⟨some d, .build t ⟨[]⟩,_,_,_,_⟩=>match abk tt t with
  |some ⟨.st _,_,some zx,_⟩=>some (d,zx)
  |_=>none
 |_=>none
end
structure EG (GB:Gh) (ai al ae:Addr):Prop where
 ErrInvalid:GB 1=some [.iface 399 (.pointer (some ai))]
 ErrLimit:GB 2=some [.iface 399 (.pointer (some al))]
structure EGE (GB:Gh) (ai al ae:Addr):Prop extends EG GB ai al ae where
 ErrEmpty:GB 0=some [.iface 399 (.pointer (some ae))]
structure Tr.gd (t:Tr):Prop where
 lb:t.all LB
 ok:t.all LnQ.ok
theorem Tr.restrict_size: ∀(t:Tr) (c:aan),(t.restrict c).size≤t.size
 | .leaf _,_=>bQ _
 | .node l x y,c=>by
  rw[Tr.restrict]
  have hx:=fun c=>x.restrict_size c
  have hy:=fun c=>y.restrict_size c
  split
  ·have:=hx c;simp only[Tr.size];omega
  ·split
   ·have:=hy c;simp only[Tr.size];omega
   ·have h1:=hx (aaS c l)
    have h2:=hy (aaS c l.rev)
    rcases Tr.joinQ_cases l (x.restrict (aaS c l)) (y.restrict (aaS c l.rev)) with⟨h,_⟩|⟨h,_⟩<;>rw[h]<;>(try simp only[Tr.size])<;>omega
theorem Tr.compl_size: ∀t:Tr,t.compl.size=t.size
 | .leaf _=>rfl
 | .node l x y=>by simp only[Tr.compl,Tr.size,x.compl_size,y.compl_size]
theorem Tr.compl_all(p:LnQ→Prop): ∀t:Tr,t.all p→t.compl.all p
 | .leaf _,h=>h
 | .node l x y,⟨h0,h1,h2⟩=>⟨h0,x.compl_all p h1,y.compl_all p h2⟩
theorem Tr.compl_depth: ∀t:Tr,t.compl.depth=t.depth
 | .leaf _=>rfl
 | .node l x y=>by simp only[Tr.compl,Tr.depth,x.compl_depth,y.compl_depth]
theorem Tr.chooseQ_all(p:LnQ→Prop)(op:Int)(b:Bool)(t:Tr)(c:aan)(h:t.all p):(t.chooseQ op b c).all p:=by
 have:=t.restrict_all p c h
 unfold chooseQ
 split
 ·split
  ·trivial
  ·exact this
 ·split
  ·trivial
  ·split
   ·exact(t.restrict c).compl_all p this
   ·exact this
theorem Tr.chooseQ_size(op:Int)(b:Bool)(t:Tr)(c:aan):(t.chooseQ op b c).size≤t.size:=by
 have:=t.restrict_size c
 unfold chooseQ
 split
 ·split
  ·exact bZ _
  ·exact this
 ·split
  ·exact bZ _
  ·split
   ·rw[(t.restrict c).compl_size];exact this
   ·exact this
theorem Tr.mergeQ_all(p:LnQ→Prop)(op:Int){u:Tr}(hu:u.all p): ∀(t:Tr) (c:aan),t.all p→(t.mergeQ op u c).all p
 | .leaf b,c,_=>u.chooseQ_all p op b c hu
 | .node l x y,c,⟨h0,h1,h2⟩=>by
  rw[Tr.mergeQ]
  split
  ·exact Tr.mergeQ_all p op hu x c h1
  ·split
   ·exact Tr.mergeQ_all p op hu y c h2
   ·rcases Tr.joinQ_cases l (x.mergeQ op u (aaS c l)) (y.mergeQ op u (aaS c l.rev)) with⟨h,_⟩|⟨h,_⟩
    ·rw[h];exact Tr.mergeQ_all p op hu x _ h1
    ·rw[h];exact⟨h0,Tr.mergeQ_all p op hu x _ h1,Tr.mergeQ_all p op hu y _ h2⟩
theorem Tr.mergeQ_size(op:Int)(u:Tr): ∀(t:Tr) (c:aan),(t.mergeQ op u c).size+1≤(t.size+1)*(u.size+1)
 | .leaf b,c=>by
  have:=u.chooseQ_size op b c
  show(u.chooseQ op b c).size+1≤(0+1)*(u.size+1)
  omega
 | .node l x y,c=>by
  have hx:=fun c=>Tr.mergeQ_size op u x c
  have hy:=fun c=>Tr.mergeQ_size op u y c
  have e:((Tr.node l x y).size+1)*(u.size+1)=(x.size+1)*(u.size+1)+(y.size+1)*(u.size+1):=by
   rw[←cY];congr 1;simp only[Tr.size];omega
  rw[e,Tr.mergeQ]
  split
  ·have:=hx c;omega
  ·split
   ·have:=hy c;omega
   ·have h1:=hx (aaS c l)
    have h2:=hy (aaS c l.rev)
    rcases Tr.joinQ_cases l (x.mergeQ op u (aaS c l)) (y.mergeQ op u (aaS c l.rev)) with⟨h,_⟩|⟨h,_⟩<;>rw[h]<;>(try simp only[Tr.size])<;>omega
theorem Tr.depth_size: ∀t:Tr,t.depth≤t.size
 | .leaf _=>bQ _
 | .node l x y=>by
  have h1:=x.depth_size
  have h2:=y.depth_size
  simp only[Tr.depth,Tr.size]
  omega
def art(op:Int)(a b:Tr):Option Tr:=if 1024<a.depth+b.depth then none else if 65536<(a.mergeQ op b []).size then none else some (a.mergeQ op b [])
def aGv(al:Addr):Option Tr→DV
 |some t=> .tp [eU t, .v .nilIface]
 |none=> .tp [.v (.pointer none),aCL al]
theorem asA{ai al ae:Addr}(hE:EG GB ai al ae){op:Int}{a b:Tr}(ha:a.gd)(hb:b.gd)(hsa:a.size≤65536)(hsb:b.size≤65536):PF GB prog 125 [vI op,eU a,eU b] (aGv al (art op a b)):=by
 have hda:=a.depth_size
 have hdb:=b.depth_size
 have hms:=Tr.mergeQ_size op b a []
 have hmm:(a.size+1)*(b.size+1)≤65537*65537:=gS (by omega) (by omega)
 refine fn func125 J J ntmps125 J J (fun C=>?_)
 refine cl rfl (ajS (t:=a) (by omega)) rfl<|cl rfl (ajS (t:=b) (by omega)) rfl<|?_
 refine br J J J (fun hc14=>?_) (fun hc14=>?_)
 ·
  refine gl rfl hE.ErrLimit rfl<|?_
  exact rz rfl (by unfold art;rw[if_pos (by omega)];rfl)
 ·
  refine cl rfl (aoo (op:=op) (t:=a) (u:=b) (c:=[]) hb.lb hb.ok ha.lb ha.ok (fun s h=>by cases h) (by simp only[dV];omega)) rfl<|cl rfl (aB7 (t:=a.mergeQ op b []) (by omega)) rfl<|?_
  refine br J J J (fun hc22=>?_) (fun hc22=>?_)
  ·
   refine gl rfl hE.ErrLimit rfl<|?_
   exact rz rfl (by unfold art;rw[if_neg (by omega),if_pos (by omega)];rfl)
  ·
   exact rz rfl (by unfold art;rw[if_neg (by omega),if_neg (by omega)];rfl)
theorem aDn{ai al ae:Addr}(hE:EG GB ai al ae){op:Int}{a b t:Tr}(ha:a.gd)(hb:b.gd)(hsa:a.size≤65536)(hsb:b.size≤65536)(h:art op a b=some t):PF GB prog 125 [vI op,eU a,eU b] (.tp [eU t, .v .nilIface]):=by
 have:=asA hE (op:=op) ha hb hsa hsb;rw[h] at this;exact this
theorem aCR{ai al ae:Addr}(hE:EG GB ai al ae){op:Int}{a b t:Tr}(ha:a.gd)(hb:b.gd)(hsa:a.size≤65536)(hsb:b.size≤65536)(h:art op a b=some t):PF GB prog 51 [vI op,eU a,eU b] (.tp [eU t, .v .nilIface]):=by
 refine fn func51 J J ntmps51 J J (fun C=>?_)
 refine cl rfl (aDn hE ha hb hsa hsb h) rfl<|?_
 exact rz J J
def aE8(op:Int):Tr→List Tr→Option Tr
 |t,[]=>some t
 |t,u::us=>match art op t u with
  |none=>none
  |some r=>aE8 op r us
theorem aop{t:Tr}(h:t.gd)(c:aan):(t.restrict c).gd:=⟨t.restrict_all LB c h.lb,t.restrict_all LnQ.ok c h.ok⟩
theorem aDY{ns:List RN}{rt:Int}{t:Tr}(hs: ∀n∈ns,n.g.sm)(hn:ns.length≤65536)(h:ofQ ns rt=some t):PF GB prog 74 [eRT rt ns] (.tp [eU t,vB true]):=by
 have:=aE0 (GB:=GB) (rt:=rt) hs hn;rw[h] at this;exact this
def trZ:DV:= .ag [vI 0, .sl []]
def aGT:Tr ⊕ Addr→DV
 | .inl t=> .tp [eA t, .v .nilIface]
 | .inr e=> .tp [trZ,aCL e]
def aFX(ai:Addr):Option Tr→Tr ⊕ Addr
 |some t=> .inl t.compl
 |none=> .inr ai
def aFP(al:Addr):Option Tr→Tr ⊕ Addr
 |some t=> .inl t
 |none=> .inr al
def aFM(ai al:Addr)(op:Int):Option Tr→Option Tr→Tr ⊕ Addr
 |some a,some b=>if 1≤op∧op≤4 then aFP al (art op a b) else .inr ai
 |_,_=> .inr ai
theorem avJ{t:Tr}(h:t.gd):t.compl.gd:=⟨t.compl_all LB h.lb,t.compl_all LnQ.ok h.ok⟩
abbrev TIn:=Int×List RN
def TIn.d(x:TIn):DV:=eRT x.1 x.2
def TIn.q(x:TIn):Option Tr:=ofQ x.2 x.1
def ofP:Option Tr→DV
 |some t=>eU t
 |none=> .v (.pointer none)
def aEV(op:Int)(ts:List TIn):Bool:=decide (1≤op∧op≤4)&&ts.all fun x=>x.q.isSome
def aGZ(ai al ae:Addr)(op:Int)(ts:List TIn):Tr ⊕ Addr:=
 if aEV op ts then(match ts.filterMap TIn.q with
  |[]=> .inr ae
  |a::us=>if 1024<a.depth then .inr al else aFP al (aE8 op (a.restrict []) us)) else .inr ai
def aGR(ts:List TIn):List DV:=ts.map fun x=>ofP x.q
structure TIn.ok (x:TIn):Prop where
 s: ∀n∈x.2,n.g.sm
 n:x.2.length≤65536
def Tr.val:Tr→PtQ→Bool
 | .leaf b,_=>b
 | .node l x y,p=>if 0<l.value p then x.val p else y.val p
def Tr.lns:Tr→List LnQ
 | .leaf _=>[]
 | .node l x y=>l::(x.lns++y.lns)
theorem aeI{P:LnQ→Prop}: ∀{t:Tr},t.all P↔ ∀l∈t.lns,P l
 | .leaf _=>⟨fun _ l hl=>(by cases hl),fun _=>trivial⟩
 | .node l x y=>by
  show(P l∧x.all P∧y.all P)↔ ∀m∈l::(x.lns++y.lns),P m
  rw[aeI (t:=x),aeI (t:=y)]
  constructor
  ·rintro ⟨h0,h1,h2⟩ m hm
   rcases aW.1 hm with rfl|hm
   ·exact h0
   ·rcases bK.1 hm with hm|hm
    ·exact h1 m hm
    ·exact h2 m hm
  ·intro h
   exact⟨h l aQ,fun m hm=>h m (aX _ (bL _ hm)),fun m hm=>h m (aX _ (bY _ hm))⟩
theorem ae7{t:Tr}(h:t.all LnQ.ok): ∀l∈t.lns,l.ok:=aeI.1 h
def Off(L:List LnQ)(p:PtQ):Prop:= ∀l∈L,l.value p≠0
theorem Off.sub{L M:List LnQ}{p:PtQ}(h:Off L p)(k: ∀l∈M,l∈L):Off M p:=fun l hl=>h l (k l hl)
theorem Off.l{l:LnQ}{x y:Tr}{p:PtQ}(h:Off (Tr.node l x y).lns p):l.value p≠0:=h l aQ
theorem Off.x{l:LnQ}{x y:Tr}{p:PtQ}(h:Off (Tr.node l x y).lns p):Off x.lns p:=h.sub fun m hm=>aX _ (bL _ hm)
theorem Off.y{l:LnQ}{x y:Tr}{p:PtQ}(h:Off (Tr.node l x y).lns p):Off y.lns p:=h.sub fun m hm=>aX _ (bY _ hm)
def opB(op:Int)(a b:Bool):Bool:=if op=1 then a||b else if op=2 then a&&b else if op=3 then a&&!b else a !=b
theorem Tr.val_join(l:LnQ)(X Y:Tr)(p:PtQ):(Tr.joinQ l X Y).val p=(Tr.node l X Y).val p:=by
 unfold Tr.joinQ
 split
 ·rename_i h
  cases X<;>cases Y<;>simp[Tr.isLeaf,Tr.code] at h
  subst h
  simp[Tr.val]
 ·rfl
theorem Tr.val_pos{l:LnQ}{x y:Tr}{p:PtQ}(h:0<l.value p):(Tr.node l x y).val p=x.val p:=by rw[Tr.val,if_pos h]
theorem Tr.val_neg{l:LnQ}{x y:Tr}{p:PtQ}(h: ¬0<l.value p):(Tr.node l x y).val p=y.val p:=by rw[Tr.val,if_neg h]
theorem Tr.val_compl: ∀(t:Tr) (p:PtQ),t.compl.val p=!t.val p
 | .leaf b,p=>rfl
 | .node l x y,p=>by
  rw[Tr.compl]
  by_cases h:0<l.value p
  ·rw[Tr.val_pos h,Tr.val_pos h,x.val_compl]
  ·rw[Tr.val_neg h,Tr.val_neg h,y.val_compl]
theorem apW{c:aan}{l:LnQ}(hc:acg c)(hl:l.ok)(hb:abq c l.rev=false){p:PtQ}(hp:InD c p)(h0:l.value p≠0):0<l.value p:=by
 by_cases h:0<l.value p
 ·exact h
 ·exfalso
  have:abq c l.rev=true:=(aeF hc hl.rev).2 ⟨p,hp,by rw[aaP];grind⟩
  rw[hb] at this;cases this
theorem ao4{c:aan}{l:LnQ}(hc:acg c)(hl:l.ok)(hb:abq c l=false){p:PtQ}(hp:InD c p): ¬0<l.value p:=fun h=>by
 have:abq c l=true:=(aeF hc hl).2 ⟨p,hp,h⟩
 rw[hb] at this;cases this
theorem Tr.val_restrict: ∀(t:Tr) (c:aan) (p:PtQ),t.all LnQ.ok→acg c→InD c p→Off t.lns p→(t.restrict c).val p=t.val p
 | .leaf _,_,_,_,_,_,_=>rfl
 | .node l x y,c,p,⟨hl,hx,hy⟩,hc,hp,ho=>by
  cases hb:abq c l.rev with
  |false=>rw[Tr.restrict_A _ _ hb,x.val_restrict c p hx hc hp ho.x,Tr.val_pos (apW hc hl hb hp ho.l)]
  |true=>
   cases hb2:abq c l with
   |false=>rw[Tr.restrict_B _ _ hb hb2,y.val_restrict c p hy hc hp ho.y,Tr.val_neg (ao4 hc hl hb2 hp)]
   |true=>
    rw[Tr.restrict_C _ _ hb hb2,Tr.val_join]
    obtain⟨g1,i1⟩:=abR hc hl hb2
    obtain⟨g2,i2⟩:=abR hc hl.rev hb
    by_cases h:0<l.value p
    ·rw[Tr.val_pos h,Tr.val_pos h,x.val_restrict _ p hx g1 ((i1 p).2 ⟨hp,h⟩) ho.x]
    ·rw[Tr.val_neg h,Tr.val_neg h,y.val_restrict _ p hy g2 ((i2 p).2 ⟨hp,by rw[aaP];have:=ho.l;grind⟩) ho.y]
theorem Tr.val_choose(op:Int)(b:Bool)(t:Tr)(c:aan)(p:PtQ)(ht:t.all LnQ.ok)(hc:acg c)(hp:InD c p)(ho:Off t.lns p):(t.chooseQ op b c).val p=opB op b (t.val p):=by
 have hr:=t.val_restrict c p ht hc hp ho
 unfold Tr.chooseQ opB
 by_cases h1:op=1
 ·subst h1;cases b<;>simp[hr,Tr.val]
 ·by_cases h2:op=2
  ·subst h2;cases b<;>simp[hr,Tr.val]
  ·by_cases h3:op=3
   ·subst h3;cases b<;>simp[hr,Tr.val,Tr.val_compl]
   ·cases b<;>simp[h1,h2,h3,hr,Tr.val_compl]
theorem Tr.val_merge(op:Int)(u:Tr)(hu:u.all LnQ.ok): ∀(t:Tr) (c:aan) (p:PtQ),t.all LnQ.ok→acg c→InD c p→Off t.lns p→Off u.lns p→(t.mergeQ op u c).val p=opB op (t.val p) (u.val p)
 | .leaf b,c,p,_,hc,hp,_,ho=>u.val_choose op b c p hu hc hp ho
 | .node l x y,c,p,⟨hl,hx,hy⟩,hc,hp,ho,hou=>by
  rw[Tr.mergeQ]
  cases hb:abq c l.rev with
  |false=>
   rw[if_pos (show(!false)=true from rfl),Tr.val_merge op u hu x c p hx hc hp ho.x hou,Tr.val_pos (apW hc hl hb hp ho.l)]
  |true=>
   rw[if_neg (by decide)]
   cases hb2:abq c l with
   |false=>rw[if_pos (show(!false)=true from rfl),Tr.val_merge op u hu y c p hy hc hp ho.y hou,Tr.val_neg (ao4 hc hl hb2 hp)]
   |true=>
    rw[if_neg (by decide),Tr.val_join]
    obtain⟨g1,i1⟩:=abR hc hl hb2
    obtain⟨g2,i2⟩:=abR hc hl.rev hb
    by_cases h:0<l.value p
    ·rw[Tr.val_pos h,Tr.val_pos h,Tr.val_merge op u hu x _ p hx g1 ((i1 p).2 ⟨hp,h⟩) ho.x hou]
    ·rw[Tr.val_neg h,Tr.val_neg h,Tr.val_merge op u hu y _ p hy g2 ((i2 p).2 ⟨hp,by rw[aaP];have:=ho.l;grind⟩) ho.y hou]
theorem apP: ∀(L:List LnQ) (u:PtQ) (p:PtQ),Off L p→ ∃e:Rat,0<e∧ ∀d,0≤d→d≤e→Off L (adB p u d)
 |[],u,p,_=>⟨1,by decide,fun d _ _ l hl=>by cases hl⟩
 |l::L,u,p,h=>by
  obtain⟨e,he,hm⟩:=apP L u p (h.sub fun m hm=>aX _ hm)
  have h0:=h l aQ
  have key: ∃f:Rat,0<f∧ ∀d,0≤d→d≤f→l.value (adB p u d)≠0:=by
   by_cases hk:l.nor.dot u=0
   ·exact⟨1,by decide,fun d _ _=>by rw[abP,hk];grind⟩
   ·generalize hA:l.value p=A at*
    generalize hB:l.nor.dot u=B at*
    rcases aaW A with h|h|h
    ·exact absurd h h0
    ·rcases aaW B with k|k|k
     ·exact absurd k hk
     ·exact⟨1,by decide,fun d hd _=>by rw[abP,hA,hB];have:=aai hd (gK k);grind⟩
     ·refine⟨A/(-B)/2,?_,fun d hd h2=>?_⟩
      ·have:0<A/(-B):=by
        have e1:A/(-B)*(-B)=A:=by grind
        exact(aaj (k:= -B) (by grind)).1 (by rw[e1];exact h)
       grind
      ·rw[abP,hA,hB]
       have e1:A/(-B)*(-B)=A:=by grind
       generalize A/(-B)=q at*
       have h4:=aai (a:=q/2-d) (b:= -B) (by grind) (by grind)
       grind
    ·rcases aaW B with k|k|k
     ·exact absurd k hk
     ·refine⟨(-A)/B/2,?_,fun d hd h2=>?_⟩
      ·have:0<(-A)/B:=by
        have e1:(-A)/B*B= -A:=by grind
        exact(aaj (k:=B) k).1 (by rw[e1];grind)
       grind
      ·rw[abP,hA,hB]
       have e1:(-A)/B*B= -A:=by grind
       generalize (-A)/B=q at*
       have h4:=aai (a:=q/2-d) (b:=B) (by grind) (by grind)
       grind
     ·exact⟨1,by decide,fun d hd _=>by rw[abP,hA,hB];have:=aai hd (b:= -B) (by grind);grind⟩
  obtain⟨f,hf,hk⟩:=key
  refine⟨if e≤f then e else f,by split<;>assumption,fun d hd hde m hm'=>?_⟩
  have h1:d≤e∧d≤f:=by split at hde<;>grind
  rcases aW.1 hm' with rfl|hm'
  ·exact hk d hd h1.2
  ·exact hm d hd h1.1 m hm'
theorem aps{c:aan}{p:PtQ}(hp:InD c p): ∀(L:List LnQ),(∀l∈L,l.ok)→ ∃q,InD c q∧Off L q
 |[],_=>⟨p,hp,fun l hl=>by cases hl⟩
 |l::L,h=>by
  obtain⟨q,hq,ho⟩:=aps hp L fun m hm=>h m (aX _ hm)
  by_cases h0:l.value q=0
  ·have hn:=ahZ (h l aQ).ne
   obtain⟨e,he,hm⟩:=hq.open l.nor
   obtain⟨f,hf,hk⟩:=apP L l.nor q ho
   refine⟨adB q l.nor (if e≤f then e else f),hm _ (by split<;>grind) (by split<;>grind),fun m hm'=>?_⟩
   rcases aW.1 hm' with rfl|hm'
   ·rw[abP,h0]
    have:=aab (a:=if e≤f then e else f) (b:=m.nor.dot m.nor) (by split<;>assumption) hn
    grind
   ·exact hk _ (by split<;>grind) (by split<;>grind) m hm'
  ·exact⟨q,hq,fun m hm=>by rcases aW.1 hm with rfl|hm;exact h0;exact ho m hm⟩
def Tr.Red:Tr→aan→Prop
 | .leaf _,_=>True
 | .node l x y,c=>abq c l=true∧abq c l.rev=true∧x.Red (aaS c l)∧y.Red (aaS c l.rev)∧ ¬(x.isLeaf=true∧y.isLeaf=true∧x.code=y.code)
theorem Tr.red_leaf{t:Tr}(h:t.isLeaf=true)(c:aan):t.Red c:=by
 cases t with
 |leaf b=>trivial
 |node l x y=>cases h
theorem Tr.join_red{l:LnQ}{x y:Tr}{c:aan}(h1:abq c l=true)(h2:abq c l.rev=true)(hx:x.Red (aaS c l))(hy:y.Red (aaS c l.rev)):(Tr.joinQ l x y).Red c:=by
 rcases Tr.joinQ_cases l x y with⟨e,h⟩|⟨e,h⟩
 ·rw[e];exact Tr.red_leaf h c
 ·rw[e];exact⟨h1,h2,hx,hy,h⟩
theorem Tr.restrict_red: ∀(t:Tr) (c:aan),(t.restrict c).Red c
 | .leaf _,_=>trivial
 | .node l x y,c=>by
  cases hb:abq c l.rev with
  |false=>rw[Tr.restrict_A _ _ hb];exact x.restrict_red c
  |true=>
   cases hb2:abq c l with
   |false=>rw[Tr.restrict_B _ _ hb hb2];exact y.restrict_red c
   |true=>rw[Tr.restrict_C _ _ hb hb2];exact Tr.join_red hb2 hb (x.restrict_red _) (y.restrict_red _)
theorem Tr.compl_leaf{t:Tr}:t.compl.isLeaf=t.isLeaf:=by cases t<;>rfl
theorem Tr.compl_code{t:Tr}(h:t.isLeaf=true):t.compl.code=!t.code:=by
 cases t with
 |leaf b=>rfl
 |node l x y=>cases h
theorem Tr.compl_red: ∀{t:Tr} {c:aan},t.Red c→t.compl.Red c
 | .leaf _,_,_=>trivial
 | .node l x y,c,⟨h1,h2,h3,h4,h5⟩=>by
  refine⟨h1,h2,Tr.compl_red h3,Tr.compl_red h4,fun⟨a,b,e⟩=>?_⟩
  rw[Tr.compl_leaf] at a b
  rw[Tr.compl_code a,Tr.compl_code b] at e
  exact h5 ⟨a,b,by simpa using e⟩
theorem Tr.choose_red(op:Int)(b:Bool)(t:Tr)(c:aan):(t.chooseQ op b c).Red c:=by
 have h:=t.restrict_red c
 unfold Tr.chooseQ
 split
 ·split
  ·trivial
  ·exact h
 ·split
  ·trivial
  ·split
   ·exact Tr.compl_red h
   ·exact h
theorem Tr.merge_red(op:Int)(u:Tr): ∀(t:Tr) (c:aan),(t.mergeQ op u c).Red c
 | .leaf b,c=>u.choose_red op b c
 | .node l x y,c=>by
  rw[Tr.mergeQ]
  cases hb:abq c l.rev with
  |false=>rw[if_pos (show(!false)=true from rfl)];exact Tr.merge_red op u x c
  |true=>
   rw[if_neg (by decide)]
   cases hb2:abq c l with
   |false=>rw[if_pos (show(!false)=true from rfl)];exact Tr.merge_red op u y c
   |true=>rw[if_neg (by decide)];exact Tr.join_red hb2 hb (Tr.merge_red op u x _) (Tr.merge_red op u y _)
theorem azk(p:PtQ):InD [] p:=fun s hs=>(by cases hs)
def LnQ.same(l m:LnQ):Prop:=m=l∨m=l.rev
instance (l m:LnQ):Decidable (l.same m):=inferInstanceAs (Decidable (_∨_))
def Tr.cnt(l:LnQ):Tr→Nat
 | .leaf _=>0
 | .node m x y=>(if l.same m then 1 else 0)+(x.cnt l+y.cnt l)
theorem aih{l m:LnQ}(h:l.same m){p:PtQ}(hp:l.value p=0):m.value p=0:=by
 rcases h with rfl|rfl
 ·exact hp
 ·rw[aaP,hp];rfl
def azz(l:LnQ)(c:aan):Prop:= ∃p,InD c p∧l.value p=0
theorem Tr.cnt_zero{l:LnQ}: ∀{t:Tr} {c:aan},t.Red c→t.all LnQ.ok→acg c→ ¬azz l c→t.cnt l=0
 | .leaf _,_,_,_,_,_=>rfl
 | .node m x y,c,⟨h1,h2,h3,h4,_⟩,⟨hm,hx,hy⟩,hc,hn=>by
  obtain⟨g1,i1⟩:=abR hc hm h1
  obtain⟨g2,i2⟩:=abR hc hm.rev h2
  have e1:=Tr.cnt_zero (l:=l) h3 hx g1 (fun⟨p,hp,h0⟩=>hn ⟨p,((i1 p).1 hp).1,h0⟩)
  have e2:=Tr.cnt_zero (l:=l) h4 hy g2 (fun⟨p,hp,h0⟩=>hn ⟨p,((i2 p).1 hp).1,h0⟩)
  rw[Tr.cnt,e1,e2]
  by_cases hs:l.same m
  ·exfalso
   -- m crosses the cell
   obtain⟨p,hp,k1⟩:=(aeF hc hm).1 h1
   obtain⟨q,hq,k2⟩:=(aeF hc hm.rev).1 h2
   rw[aaP] at k2
   generalize hA:m.value p=A at*
   generalize hB:m.value q=B at*
   have hAB:0<A-B:=by grind
   have e:A/(A-B)*(A-B)=A:=by grind
   generalize A/(A-B)=r at*
   have r0:0≤r:=(aaq hAB).1 (by rw[e];exact gK k1)
   have r1:r≤1:=by
    have:=(aaq (s:=1-r) hAB).1 (by grind)
    grind
   have hz:=hp.seg hq r0 r1
   have hv:m.value (aqZ p q r)=0:=by rw[ac3,hA,hB];grind
   refine hn ⟨_,hz,?_⟩
   rcases hs with rfl|rfl
   ·exact hv
   ·rw[aaP] at hv;grind
  ·rw[if_neg hs]
def inB(c:aan)(p:PtQ):Bool:=c.all fun s=>decide (0<s.l.value p)
theorem aeW{c:aan}{p:PtQ}:inB c p=true↔InD c p:=by
 unfold inB InD;rw[fU];simp
def axL(P:List PtQ)(l:LnQ)(t:Tr):Prop:=t.all fun m=>l.same m∨ ∀p,l.value p=0→m.value p=0→p∈P
theorem ajw{α:Type}{p q r:α→Bool}: ∀(P:List α),(∀x∈P,q x=true→p x=true)→(∀x∈P,r x=true→p x=true)→(∀x∈P,¬(q x=true∧r x=true))→P.countP q+P.countP r≤P.countP p
 |[],_,_,_=>bQ _
 |x::P,h1,h2,h3=>by
  have ih:=ajw (p:=p) (q:=q) (r:=r) P (fun y hy=>h1 y (aX _ hy)) (fun y hy=>h2 y (aX _ hy)) (fun y hy=>h3 y (aX _ hy))
  have a:=h1 x aQ
  have b:=h2 x aQ
  have c:=h3 x aQ
  rw[nY,nY,nY]
  cases hq:q x<;>cases hr:r x<;>simp_all<;>omega
theorem ajp{α:Type}{p q r:α→Bool}: ∀(P:List α),(∀x∈P,q x=true→p x=true)→(∀x∈P,r x=true→p x=true)→(∀x∈P,¬(q x=true∧r x=true))→(∃x∈P,p x=true∧q x=false∧r x=false)→P.countP q+P.countP r+1≤P.countP p
 |[],_,_,_,⟨x,hx,_⟩=>by cases hx
 |x::P,h1,h2,h3,h4=>by
  have i2:=ajw (p:=p) (q:=q) (r:=r) P (fun y hy=>h1 y (aX _ hy)) (fun y hy=>h2 y (aX _ hy)) (fun y hy=>h3 y (aX _ hy))
  have a:=h1 x aQ
  have b:=h2 x aQ
  have c:=h3 x aQ
  rw[nY,nY,nY]
  obtain⟨z,hz,k1,k2,k3⟩:=h4
  rcases aW.1 hz with rfl|hz
  ·simp only[k1,k2,k3];simp;omega
  ·have ih:=ajp (p:=p) (q:=q) (r:=r) P (fun y hy=>h1 y (aX _ hy)) (fun y hy=>h2 y (aX _ hy)) (fun y hy=>h3 y (aX _ hy)) ⟨z,hz,k1,k2,k3⟩
   cases hq:q x<;>cases hr:r x<;>simp_all<;>omega
theorem Tr.cnt_le{l:LnQ}(hl:l.ok){P:List PtQ}: ∀{t:Tr} {c:aan},t.Red c→t.all LnQ.ok→acg c→axL P l t→t.cnt l≤1+P.countP (inB c)
 | .leaf _,_,_,_,_,_=>bZ _
 | .node m x y,c,⟨h1,h2,h3,h4,_⟩,⟨hm,hx,hy⟩,hc,⟨v0,v1,v2⟩=>by
  obtain⟨g1,i1⟩:=abR hc hm h1
  obtain⟨g2,i2⟩:=abR hc hm.rev h2
  have q1: ∀p∈P,inB (aaS c m) p=true→inB c p=true:=fun p _ h=>aeW.2 ((i1 p).1 (aeW.1 h)).1
  have q2: ∀p∈P,inB (aaS c m.rev) p=true→inB c p=true:=fun p _ h=>aeW.2 ((i2 p).1 (aeW.1 h)).1
  have q3: ∀p∈P,¬(inB (aaS c m) p=true∧inB (aaS c m.rev) p=true):=fun p _ ⟨a,b⟩=>by
   have a:=((i1 p).1 (aeW.1 a)).2
   have b:=((i2 p).1 (aeW.1 b)).2
   rw[aaP] at b;grind
  have ct:=ajw P q1 q2 q3
  rw[Tr.cnt]
  by_cases hs:l.same m
  ·have e1:=Tr.cnt_zero (l:=l) h3 hx g1 (fun⟨p,hp,h0⟩=>by have:=((i1 p).1 hp).2;rw[aih hs h0] at this;grind)
   have e2:=Tr.cnt_zero (l:=l) h4 hy g2 (fun⟨p,hp,h0⟩=>by have:=((i2 p).1 hp).2;rw[aaP,aih hs h0] at this;grind)
   rw[e1,e2,if_pos hs];omega
  ·rw[if_neg hs]
   have b1:=Tr.cnt_le hl h3 hx g1 v1
   have b2:=Tr.cnt_le hl h4 hy g2 v2
   by_cases w1:azz l (aaS c m)
   ·by_cases w2:azz l (aaS c m.rev)
    ·-- the crossing lies in the cell
     obtain⟨p,hp,k1⟩:=w1
     obtain⟨q,hq,k2⟩:=w2
     obtain⟨hp,ap⟩:=(i1 p).1 hp
     obtain⟨hq,aq⟩:=(i2 q).1 hq
     rw[aaP] at aq
     generalize hA:m.value p=A at*
     generalize hB:m.value q=B at*
     have hAB:0<A-B:=by grind
     have e:A/(A-B)*(A-B)=A:=by grind
     generalize A/(A-B)=r at*
     have r0:0≤r:=(aaq hAB).1 (by rw[e];exact gK ap)
     have r1:r≤1:=by
      have:=(aaq (s:=1-r) hAB).1 (by grind)
      grind
     have hz:=hp.seg hq r0 r1
     have hv:m.value (aqZ p q r)=0:=by rw[ac3,hA,hB];grind
     have hv2:l.value (aqZ p q r)=0:=by rw[ac3,k1,k2];grind
     have hmem:aqZ p q r∈P:=by
      rcases v0 with h|h
      ·exact absurd h hs
      ·exact h _ hv2 hv
     have c3:=ajp P q1 q2 q3 ⟨_,hmem,aeW.2 hz,by
      rw[←lS,aeW,i1];rintro ⟨_,h⟩;rw[hv] at h;grind,by
      rw[←lS,aeW,i2];rintro ⟨_,h⟩;rw[aaP,hv] at h;grind⟩
     omega
    ·rw[Tr.cnt_zero h4 hy g2 w2];omega
   ·rw[Tr.cnt_zero h3 hx g1 w1];omega
theorem atS(l:LnQ):l.rev.rev=l:=by cases l;simp[LnQ.rev]
theorem LnQ.same.symm{l m:LnQ}(h:l.same m):m.same l:=by
 rcases h with rfl|rfl
 ·exact .inl rfl
 ·exact .inr (atS l).symm
theorem LnQ.same.trans{l m n:LnQ}(h:l.same m)(k:m.same n):l.same n:=by
 rcases h with rfl|rfl
 ·exact k
 ·rcases k with rfl|rfl
  ·exact .inr rfl
  ·exact .inl (atS l)
def adw(K:List LnQ)(t:Tr):Prop:=t.all fun n=> ∃m∈K,m.same n
def aqg(l m:LnQ):PtQ:=l.at (-(l.cutC m/l.cutK m))
theorem aoq{l m:LnQ}(hl:l.ok)(hm:m.ok){p:PtQ}(h1:l.value p=0)(h2:m.value p=0):l.same m∨p=aqg l m:=by
 obtain⟨t,rfl⟩:=avS hl.ne h1
 rw[afu] at h2
 by_cases hk:l.cutK m=0
 ·left
  have hc:l.cutC m=0:=by rw[hk] at h2;grind
  rcases agC hm hl (fun s=>by rw[afu,hk,hc];grind) with h|h
  ·exact .inl h
  ·exact .inr h
 ·right
  unfold aqg
  congr 1
  grind
theorem adw.covers{K:List LnQ}(hK: ∀m∈K,m.ok){l:LnQ}(hl:l.ok): ∀{t:Tr},adw K t→axL (K.map (aqg l)) l t
 | .leaf _,_=>trivial
 | .node n x y,⟨⟨m,hm,hs⟩,h1,h2⟩=>by
  refine⟨?_,adw.covers hK hl h1,adw.covers hK hl h2⟩
  by_cases h:l.same n
  ·exact .inl h
  ·right
   intro p k1 k2
   rcases aoq hl (hK m hm) k1 (aih hs.symm k2) with h3|h3
   ·exact absurd (h3.trans hs) h
   ·rw[h3];exact pK hm
def Kc(t:Tr):List LnQ→Nat
 |[]=>0
 |l::K=>t.cnt l+Kc t K
def Ks(n:LnQ):List LnQ→Nat
 |[]=>0
 |l::K=>(if l.same n then 1 else 0)+Ks n K
theorem asG{n:LnQ}{x y:Tr}: ∀K,Kc (.node n x y) K=Ks n K+(Kc x K+Kc y K)
 |[]=>rfl
 |l::K=>by
  have:=asG (n:=n) (x:=x) (y:=y) K
  show(Tr.node n x y).cnt l+Kc (.node n x y) K=_
  rw[this,Tr.cnt]
  show _=(if l.same n then 1 else 0)+Ks n K+(x.cnt l+Kc x K+(y.cnt l+Kc y K))
  omega
theorem axN{n m:LnQ}(hs:m.same n): ∀{K:List LnQ},m∈K→1≤Ks n K
 |[],h=>by cases h
 |l::K,h=>by
  show 1≤(if l.same n then 1 else 0)+Ks n K
  rcases aW.1 h with rfl|h
  ·rw[if_pos hs];omega
  ·have:=axN hs h;omega
theorem aos{K:List LnQ}: ∀{t:Tr},adw K t→t.size≤Kc t K
 | .leaf _,_=>bZ _
 | .node n x y,⟨⟨m,hm,hs⟩,h1,h2⟩=>by
  have a:=aos h1
  have b:=aos h2
  have c:=axN hs hm
  rw[asG,Tr.size];omega
theorem aCB{t:Tr}{B:Nat}: ∀{K:List LnQ},(∀l∈K,t.cnt l≤B)→Kc t K≤K.length*B
 |[],_=>bZ _
 |l::K,h=>by
  have:=aCB (t:=t) (B:=B) (K:=K) fun m hm=>h m (aX _ hm)
  have:=h l aQ
  show t.cnt l+Kc t K≤(K.length+1)*B
  rw[iV];omega
theorem Tr.size_le{K:List LnQ}(hK: ∀m∈K,m.ok){t:Tr}{c:aan}(hr:t.Red c)(ht:t.all LnQ.ok)(hc:acg c)(h:adw K t):t.size≤K.length*(1+K.length):=by
 refine cW (aos h) (aCB fun l hl=>?_)
 refine cW (Tr.cnt_le (hK l hl) hr ht hc (h.covers hK (hK l hl))) ?_
 have:=List.countP_le_length (p:=inB c) (l:=K.map (aqg l))
 rw[aJ] at this
 omega
theorem avQ{K:List LnQ}{t:Tr}(h: ∀l∈t.lns,l∈K):adw K t:=aeI.2 fun l hl=>⟨l,h l hl, .inl rfl⟩
theorem adw.mono{K M:List LnQ}{t:Tr}(h:adw K t)(k: ∀l∈K,∃m∈M,m.same l):adw M t:=aeI.2 fun l hl=>by
 obtain⟨m,hm,hs⟩:=aeI.1 h l hl
 obtain⟨n,hn,hs2⟩:=k m hm
 exact⟨n,hn,hs2.trans hs⟩
theorem adw.restrict{K:List LnQ}{t:Tr}(h:adw K t)(c:aan):adw K (t.restrict c):=t.restrict_all _ c h
theorem adw.compl{K:List LnQ}{t:Tr}(h:adw K t):adw K t.compl:=t.compl_all _ h
theorem adw.merge{K:List LnQ}{op:Int}{t u:Tr}(h:adw K t)(hu:adw K u)(c:aan):adw K (t.mergeQ op u c):=Tr.mergeQ_all _ op hu t c h
theorem Tr.merge_size{K:List LnQ}(hK: ∀m∈K,m.ok){op:Int}{a b:Tr}(ha:a.all LnQ.ok)(hb:b.all LnQ.ok)(ka:adw K a)(kb:adw K b):(a.mergeQ op b []).size≤K.length*(1+K.length):=
 Tr.size_le hK (Tr.merge_red op b a []) (Tr.mergeQ_all LnQ.ok op hb a [] ha) acg.nil (ka.merge kb [])
def Tr.chooseL(op:Int)(b:Bool)(t:Tr)(c:List LnQ):Tr:=
 if op=1∧b=true then .leaf true
 else if(op=2∨op=3)∧b=false then .leaf false
 else if(op=3∨op=4)∧b=true then(t.restrictL c).compl else t.restrictL c
def Tr.mergeL(op:Int):Tr→Tr→List LnQ→Tr
 | .leaf b,u,c=>u.chooseL op b c
 | .node l x y,u,c=>if ad7 c l=1 then x.mergeL op u c else if ad7 c l= -1 then y.mergeL op u c else joinQ l (x.mergeL op u (aaR (c++[l]))) (y.mergeL op u (aaR (c++[l.rev])))
theorem Tr.chooseL_eq{op:Int}(ho:1≤op∧op≤4)(b:Bool)(t:Tr)(c:List LnQ)(d:aan)(ht:t.all LnQ.ok)(hc: ∀l∈c,l.ok)(hd:acg d)(he: ∀p,InD d p↔InL c p):t.chooseL op b c=t.chooseQ op b d:=by
 have h:=t.restrictL_eq c d ht hc hd he
 unfold Tr.chooseL Tr.chooseQ
 rw[h]
 have:op=1∨op=2∨op=3∨op=4:=by omega
 rcases this with rfl|rfl|rfl|rfl<;>cases b<;>simp
theorem Tr.mergeL_eq{op:Int}(ho:1≤op∧op≤4)(u:Tr)(hu:u.all LnQ.ok): ∀(t:Tr) (c:List LnQ) (d:aan),t.all LnQ.ok→(∀l∈c,l.ok)→acg d→(∀p,InD d p↔InL c p)→t.mergeL op u c=t.mergeQ op u d
 | .leaf b,c,d,_,hc,hd,he=>u.chooseL_eq ho b c d hu hc hd he
 | .node l x y,c,d,h,hc,hd,he=>by
  obtain⟨hl,hx,hy⟩:=h
  have i1:=aff (acm hc hl)
  have i2:=aff (acm hc hl.rev)
  obtain⟨p0,hp0⟩:=hd.ne
  rcases lies hd hl with⟨a1,a⟩|⟨a1,a2,a⟩|⟨a1,a2,ag1,ag2,ae1,ae2⟩
  ·have b1:acq (c++[l])=true:=i1.2 ⟨p0,aci.2 ⟨(he p0).1 hp0,a p0 hp0⟩⟩
   have b2:acq (c++[l.rev])=false:=by
    rw[←lS,i2]
    rintro ⟨p,hp⟩
    have hp:=aci.1 hp
    have:=a p ((he p).2 hp.1)
    rw[aaP] at hp
    grind
   rw[Tr.mergeQ,a1,if_pos (show(!false)=true from rfl),Tr.mergeL,ad7,b1,b2]
   exact Tr.mergeL_eq ho u hu x c d hx hc hd he
  ·have b2:acq (c++[l.rev])=true:=i2.2 ⟨p0,aci.2 ⟨(he p0).1 hp0,by rw[aaP];have:=a p0 hp0;grind⟩⟩
   have b1:acq (c++[l])=false:=by
    rw[←lS,i1]
    rintro ⟨p,hp⟩
    have hp:=aci.1 hp
    have:=a p ((he p).2 hp.1)
    grind
   rw[Tr.mergeQ,a1,a2,if_neg (by decide),if_pos (show(!false)=true from rfl),Tr.mergeL,ad7,b1,b2]
   exact Tr.mergeL_eq ho u hu y c d hy hc hd he
  ·have n1: ∃p,InL (c++[l]) p:=by
    obtain⟨p,hp⟩:=ag1.ne
    exact⟨p,aci.2 ⟨(he p).1 ((ae1 p).1 hp).1,((ae1 p).1 hp).2⟩⟩
   have n2: ∃p,InL (c++[l.rev]) p:=by
    obtain⟨p,hp⟩:=ag2.ne
    exact⟨p,aci.2 ⟨(he p).1 ((ae2 p).1 hp).1,by rw[aaP];have:=((ae2 p).1 hp).2;grind⟩⟩
   rw[Tr.mergeQ,a1,a2,if_neg (by decide),if_neg (by decide),Tr.mergeL,ad7,i1.2 n1,i2.2 n2]
   have k1:=Tr.mergeL_eq ho u hu x (aaR (c++[l])) (aaS d l) hx (fun m hm=>acm hc hl m (aa5.1 hm).1) ag1 fun p=>by
    rw[adW (acm hc hl) n1,ae1,aci,he]
   have k2:=Tr.mergeL_eq ho u hu y (aaR (c++[l.rev])) (aaS d l.rev) hy (fun m hm=>acm hc hl.rev m (aa5.1 hm).1) ag2 fun p=>by
    rw[adW (acm hc hl.rev) n2,ae2,aci,he,aaP]
    constructor<;>rintro ⟨a,b⟩<;>exact⟨a,by grind⟩
   rw[k1,k2]
   rfl
theorem ay4(p:PtQ):InD [] p↔InL [] p:=by unfold InD InL;simp
theorem Tr.mergeL_nil{op:Int}(ho:1≤op∧op≤4){t u:Tr}(ht:t.all LnQ.ok)(hu:u.all LnQ.ok):t.mergeL op u []=t.mergeQ op u []:=
 Tr.mergeL_eq ho u hu t [] [] ht (fun l hl=>by cases hl) acg.nil ay4
theorem auB{op:Int}{a b:Tr}(hd:a.depth+b.depth≤1024)(hs:(a.mergeQ op b []).size≤65536):art op a b=some (a.mergeQ op b []):=by
 unfold art
 rw[if_neg (by omega),if_neg (by omega)]
theorem Tr.mergeQ_depth(op:Int)(u:Tr): ∀(t:Tr) (c:aan),(t.mergeQ op u c).depth≤t.depth+u.depth
 | .leaf b,c=>by
  have:=u.restrict_depth c
  have h2:=(u.restrict c).compl_depth
  show(u.chooseQ op b c).depth≤_
  unfold Tr.chooseQ
  split
  ·split
   ·exact bZ _
   ·simp only[Tr.depth];omega
  ·split
   ·exact bZ _
   ·split
    ·simp only[Tr.depth];omega
    ·simp only[Tr.depth];omega
 | .node l x y,c=>by
  have hx:=fun c=>Tr.mergeQ_depth op u x c
  have hy:=fun c=>Tr.mergeQ_depth op u y c
  rw[Tr.mergeQ]
  simp only[Tr.depth]
  split
  ·have:=hx c;omega
  ·split
   ·have:=hy c;omega
   ·have h1:=hx (aaS c l)
    have h2:=hy (aaS c l.rev)
    rcases Tr.joinQ_cases l (x.mergeQ op u (aaS c l)) (y.mergeQ op u (aaS c l.rev)) with⟨h,_⟩|⟨h,_⟩<;>rw[h]<;>(try simp only[Tr.depth])<;>omega
structure Gen (L:List LnQ) (a b:Tr):Prop where
 oa:a.all LnQ.ok
 ob:b.all LnQ.ok
 ok: ∀l∈L,l.ok
 la: ∀l∈a.lns,l∈L
 lb: ∀l∈b.lns,l∈L
def ama(x:Rat):List Rat→List Rat
 |[]=>[x]
 |u::t=>if u<x then u::ama x t else if u=x then u::t else x::u::t
def acj(l:List Rat):List Rat:=l.foldl (fun out x=>ama x out) []
def adX:List Rat→List Rat
 |a::b::t=>(a+b)/2::adX (b::t)
 |_=>[]
def aaY:List Rat→List Rat
 |[]=>[0]
 |a::t=>(a-1)::(adX (a::t)++[(a::t).getLast (by simp)+1])
theorem acN{x y:Rat}: ∀{l:List Rat},y∈ama x l↔y=x∨y∈l
 |[]=>by simp[ama]
 |u::t=>by
  rw[ama]
  split
  ·rw[aW,acN (l:=t),aW];grind
  ·split
   ·rename_i h;subst h;simp
   ·simp
theorem afQ{x:Rat}: ∀{l:List Rat},l.Pairwise (· < ·)→(ama x l).Pairwise (· < ·)
 |[],_=>by simp[ama]
 |u::t,h=>by
  rw[bR] at h
  rw[ama]
  split
  ·rename_i hu
   rw[bR]
   refine⟨fun y hy=>?_,afQ h.2⟩
   rcases acN.1 hy with rfl|hy
   ·exact hu
   ·exact h.1 y hy
  ·rename_i hu
   split
   ·rw[bR];exact h
   ·rename_i hn
    have hx:x<u:=by grind
    rw[bR,bR]
    refine⟨fun y hy=>?_,h⟩
    rcases aW.1 hy with rfl|hy
    ·exact hx
    ·have:=h.1 y hy;grind
theorem aCH{l:List Rat}: ∀{o:List Rat},o.Pairwise (· < ·)→(l.foldl (fun out x=>ama x out) o).Pairwise (· < ·)∧ ∀y,y∈l.foldl (fun out x=>ama x out) o↔y∈l∨y∈o:=by
 induction l with
 |nil=>intro o h;exact⟨h,fun y=>by simp⟩
 |cons x t ih=>
  intro o h
  obtain⟨h1,h2⟩:=ih (afQ (x:=x) h)
  refine⟨h1,fun y=>?_⟩
  rw[jR,h2,acN,aW]
  grind
theorem aeo(l:List Rat):(acj l).Pairwise (· < ·):=(aCH (l:=l) List.Pairwise.nil).1
theorem abS{l:List Rat}{y:Rat}:y∈acj l↔y∈l:=by
 have:=(aCH (l:=l) List.Pairwise.nil).2 y
 simpa[acj] using this
theorem apd{g:Rat}: ∀{l:List Rat},l.Pairwise (· < ·)→g∈adX l→g∉l∧(∃a∈l,a<g)∧ ∃b∈l,g<b
 |[],_,h=>by cases h
 |[_],_,h=>by cases h
 |a::b::t,h,hg=>by
  rw[bR] at h
  have hab:=h.1 b aQ
  rw[adX] at hg
  rcases aW.1 hg with rfl|hg
  ·refine⟨fun hm=>?_,⟨a,aQ,by grind⟩,b,aX _ aQ,by grind⟩
   rcases aW.1 hm with e|hm
   ·grind
   ·rcases aW.1 hm with e|hm
    ·grind
    ·have h2:=h.2
     rw[bR] at h2
     have:=h2.1 _ hm
     grind
  ·obtain⟨k1,⟨c,hc,k2⟩,d,hd,k3⟩:=apd h.2 hg
   refine⟨fun hm=>?_,⟨c,aX _ hc,k2⟩,d,aX _ hd,k3⟩
   rcases aW.1 hm with e|hm
   ·have:=h.1 c hc;grind
   ·exact k1 hm
theorem aoy: ∀{l:List Rat} (h:l.Pairwise (· < ·)) (hn:l≠[]),∀y∈l,y≤l.getLast hn
 |[a],_,_,y,hy=>by rw[aU] at hy;subst hy;exact iR
 |a::b::t,h,_,y,hy=>by
  rw[bR] at h
  rw[List.getLast_cons (by simp)]
  have ih:=aoy h.2 (by simp)
  rcases aW.1 hy with rfl|hy
  ·have:=h.1 b aQ
   have:=ih b aQ
   grind
  ·exact ih y hy
theorem aik{l:List Rat}(h:l.Pairwise (· < ·)){g:Rat}(hg:g∈aaY l):g∉l:=by
 cases l with
 |nil=>simp
 |cons a t=>
  rw[aaY] at hg
  rcases aW.1 hg with rfl|hg
  ·intro hm
   rcases aW.1 hm with e|hm
   ·grind
   ·rw[bR] at h;have:=h.1 _ hm;grind
  ·rcases bK.1 hg with hg|hg
   ·exact(apd h hg).1
   ·rw[aU] at hg
    intro hm
    have:=aoy h (by simp) g hm
    grind
theorem aqa{v:Rat}: ∀{l:List Rat},l.Pairwise (· < ·)→v∉l→(∃a∈l,a<v)→(∃b∈l,v<b)→ ∃g∈adX l,∀u∈l,u<v↔u<g
 |[],_,_,⟨a,h,_⟩,_=>by cases h
 |[c],_,_,⟨a,h,h1⟩,⟨b,k,k1⟩=>by
  rw[aU] at h k;subst h;subst k;grind
 |c::d::t,h,hv,h1,h2=>by
  have h0:=h
  rw[bR] at h
  have hcd:=h.1 d aQ
  have h3:=h.2
  rw[bR] at h3
  have hvc:c<v:=by
   obtain⟨a,ha,hav⟩:=h1
   rcases aW.1 ha with rfl|ha
   ·exact hav
   ·have:=h.1 a ha;grind
  by_cases hd:v<d
  ·refine⟨(c+d)/2,by rw[adX];exact aQ,fun u hu=>?_⟩
   rcases aW.1 hu with rfl|hu
   ·constructor<;>intro _<;>grind
   ·rcases aW.1 hu with rfl|hu
    ·constructor<;>intro _<;>grind
    ·have:=h3.1 u hu
     constructor<;>intro _<;>grind
  ·have hdv:d<v:=by
    have:v≠d:=fun e=>hv (by rw[e];exact aX _ aQ)
    grind
   obtain⟨b,hb,hvb⟩:=h2
   have hb':b∈d::t:=by
    rcases aW.1 hb with rfl|hb
    ·exfalso;grind
    ·exact hb
   obtain⟨g,hg,hr⟩:=aqa h.2 (fun e=>hv (aX _ e)) ⟨d,aQ,hdv⟩ ⟨b,hb',hvb⟩
   refine⟨g,by rw[adX];exact aX _ hg,fun u hu=>?_⟩
   rcases aW.1 hu with rfl|hu
   ·have:=(hr d aQ).1 hdv
    constructor<;>intro _<;>grind
   ·exact hr u hu
theorem aqF{v:Rat}{l:List Rat}(h:l.Pairwise (· < ·))(hv:v∉l): ∃g∈aaY l,∀u∈l,u<v↔u<g:=by
 cases l with
 |nil=>exact⟨0,by simp[aaY],fun u hu=>by cases hu⟩
 |cons a t=>
  by_cases h1: ∃c∈a::t,c<v
  ·by_cases h2: ∃c∈a::t,v<c
   ·obtain⟨g,hg,hr⟩:=aqa h hv h1 h2
    exact⟨g,by rw[aaY];exact aX _ (bL _ hg),hr⟩
   ·refine⟨(a::t).getLast (by simp)+1,by rw[aaY];exact aX _ (bY _ (aU.2 rfl)),fun u hu=>?_⟩
    have k1:=aoy h (by simp) u hu
    have k2: ¬v<u:=fun e=>h2 ⟨u,hu,e⟩
    have k3:u≠v:=fun e=>hv (e▸hu)
    constructor<;>intro _<;>grind
  ·refine⟨a-1,by rw[aaY];exact aQ,fun u hu=>?_⟩
   have k1: ¬u<v:=fun e=>h1 ⟨u,hu,e⟩
   have k2: ¬u<a-1:=by
    rcases aW.1 hu with rfl|hu
    ·grind
    ·rw[bR] at h;have:=h.1 u hu;grind
   constructor
   ·intro e;exact absurd e k1
   ·intro e;exact absurd e k2
theorem agl(A B:List Rat)(h: ∀a∈A,∀b∈B,a<b): ∃y,(∀a∈A,a<y)∧ ∀b∈B,y<b:=by
 -- the greatest of A and the least of B
 have hA: ∀(A:List Rat),A≠[]→ ∃m∈A,∀a∈A,a≤m:=by
  intro A
  induction A with
  |nil=>intro h;exact absurd rfl h
  |cons x t ih=>
   intro _
   by_cases ht:t=[]
   ·subst ht;exact⟨x,aQ,fun a ha=>by rw[aU] at ha;subst ha;exact iR⟩
   ·obtain⟨m,hm,hm2⟩:=ih ht
    by_cases hx:m≤x
    ·exact⟨x,aQ,fun a ha=>by rcases aW.1 ha with rfl|ha;exact iR;have:=hm2 a ha;grind⟩
    ·exact⟨m,aX _ hm,fun a ha=>by rcases aW.1 ha with rfl|ha;grind;exact hm2 a ha⟩
 have hB: ∀(A:List Rat),A≠[]→ ∃m∈A,∀a∈A,m≤a:=by
  intro A
  induction A with
  |nil=>intro h;exact absurd rfl h
  |cons x t ih=>
   intro _
   by_cases ht:t=[]
   ·subst ht;exact⟨x,aQ,fun a ha=>by rw[aU] at ha;subst ha;exact iR⟩
   ·obtain⟨m,hm,hm2⟩:=ih ht
    by_cases hx:x≤m
    ·exact⟨x,aQ,fun a ha=>by rcases aW.1 ha with rfl|ha;exact iR;have:=hm2 a ha;grind⟩
    ·exact⟨m,aX _ hm,fun a ha=>by rcases aW.1 ha with rfl|ha;grind;exact hm2 a ha⟩
 by_cases eA:A=[]
 ·subst eA
  by_cases eB:B=[]
  ·subst eB;exact⟨0,fun a ha=>(by cases ha),fun a ha=>(by cases ha)⟩
  ·obtain⟨m,hm,hm2⟩:=hB B eB
   exact⟨m-1,fun a ha=>(by cases ha),fun b hb=>by have:=hm2 b hb;grind⟩
 ·obtain⟨m,hm,hm2⟩:=hA A eA
  by_cases eB:B=[]
  ·subst eB;exact⟨m+1,fun a ha=>by have:=hm2 a ha;grind,fun a ha=>(by cases ha)⟩
  ·obtain⟨n,hn,hn2⟩:=hB B eB
   have hmn:=h m hm n hn
   exact⟨(m+n)/2,fun a ha=>by have:=hm2 a ha;grind,fun b hb=>by have:=hn2 b hb;grind⟩
def xsQ:List LnQ→List Rat
 |[]=>[]
 |a::t=>(if a.b=0 then [a.base.x] else [])++(t.filterMap (fun b=>if crossI a b=0 then none else some (ach a b).x)++xsQ t)
def yA(a:LnQ)(x:Rat):Rat:= -(((a.a:Rat)*x+(a.c:Rat))/(a.b:Rat))
def ysQ(l:List LnQ)(x:Rat):List Rat:=l.filterMap fun a=>if a.b=0 then none else some (yA a x)
def adQ(l:List LnQ):List PtQ:=(aaY (acj (xsQ l))).flatMap fun x=>(aaY (acj (ysQ l x))).map fun y=>⟨x,y⟩
theorem ajv{a:LnQ}: ∀{l:List LnQ},a∈l→a.b=0→a.base.x∈xsQ l
 |[],h,_=>by cases h
 |c::t,h,hb=>by
  rw[xsQ]
  rcases aW.1 h with rfl|h
  ·rw[if_pos hb];exact bL _ aQ
  ·exact bY _ (bY _ (ajv h hb))
theorem auN{a b:LnQ}: ∀{l:List LnQ},a∈l→b∈l→crossI a b≠0→(ach a b).x∈xsQ l∨(ach b a).x∈xsQ l
 |[],h,_,_=>by cases h
 |c::t,h,k,hx=>by
  have hx2:crossI b a≠0:=by unfold crossI at*;omega
  rw[xsQ]
  rcases aW.1 h with h1|h1
  ·rcases aW.1 k with k1|k1
   ·subst h1;subst k1;unfold crossI at hx;omega
   ·subst h1;left
    exact bY _ (bL _ (nN.2 ⟨b,k1,by rw[if_neg hx]⟩))
  ·rcases aW.1 k with k1|k1
   ·subst k1;right
    exact bY _ (bL _ (nN.2 ⟨a,h1,by rw[if_neg hx2]⟩))
   ·rcases auN h1 k1 hx with h2|h2
    ·exact .inl (bY _ (bY _ h2))
    ·exact .inr (bY _ (bY _ h2))
theorem asI{a b:LnQ}(h:crossI a b≠0){p:PtQ}(h1:a.value p=0)(h2:b.value p=0):p.x=(ach a b).x:=by
 have hd:((crossI a b:Int):Rat)≠0:=fun e=>h (cZ.1 e)
 unfold ach
 rw[if_neg h]
 show p.x=(meetX a b:Rat)/(crossI a b:Rat)
 have e1:=ac1 a b
 have e2:=aho a b
 rw[adl] at h1 h2
 have e3:((crossI a b:Int):Rat)*p.x=(meetX a b:Rat):=by rw[e1,e2];grind
 grind
theorem auK{l:List LnQ}{a b:LnQ}(ha:a∈l)(hb:b∈l)(h:crossI a b≠0){p:PtQ}(h1:a.value p=0)(h2:b.value p=0):p.x∈xsQ l:=by
 have h':crossI b a≠0:=by unfold crossI at*;omega
 rcases auN ha hb h with k|k
 ·rw[asI h h1 h2];exact k
 ·rw[asI h' h2 h1];exact k
theorem akw{a:LnQ}(h:a.b≠0)(x y:Rat):a.value ⟨x,y⟩=(a.b:Rat)*(y-yA a x):=by
 have hb:(a.b:Rat)≠0:=fun e=>h (cZ.1 e)
 unfold yA
 rw[adl]
 show(a.a:Rat)*x+(a.b:Rat)*y+(a.c:Rat)=_
 grind
theorem als{a:LnQ}(hn:a.Ne)(h:a.b=0)(x y:Rat):a.value ⟨x,y⟩=(a.a:Rat)*(x-a.base.x):=by
 have ha:(a.a:Rat)≠0:=fun e=>hn ⟨cZ.1 e,h⟩
 obtain⟨q,hq,hb⟩:=amk hn
 rw[hb,adl]
 show(a.a:Rat)*x+(a.b:Rat)*y+(a.c:Rat)=(a.a:Rat)*(x-(a.a:Rat)*q)
 simp only[LnQ.nor,PtQ.dot] at hq
 rw[h] at hq⊢
 have:((0:Int):Rat)=0:=rfl
 rw[this] at hq⊢
 grind
theorem as0{l:List LnQ}{a:LnQ}(h:a∈l)(hb:a.b≠0)(x:Rat):yA a x∈ysQ l x:=nN.2 ⟨a,h,by rw[if_neg hb]⟩
theorem aDs{l:List LnQ}{x y:Rat}(h:y∈ysQ l x): ∃a∈l,a.b≠0∧y=yA a x:=by
 obtain⟨a,ha,e⟩:=nN.1 h
 split at e
 ·cases e
 ·rename_i hb;cases e;exact⟨a,ha,hb,rfl⟩
theorem aiI{l:List LnQ}{p:PtQ}:p∈adQ l↔p.x∈aaY (acj (xsQ l))∧p.y∈aaY (acj (ysQ l p.x)):=by
 unfold adQ
 rw[nU]
 constructor
 ·rintro ⟨x,hx,hp⟩
  obtain⟨y,hy,rfl⟩:=bU.1 hp
  exact⟨hx,hy⟩
 ·rintro ⟨h1,h2⟩
  exact⟨p.x,h1,bU.2 ⟨p.y,h2,rfl⟩⟩
theorem as9{l:List LnQ}(hok: ∀a∈l,a.Ne){p:PtQ}(hp:p∈adQ l):Off l p:=by
 obtain⟨h1,h2⟩:=aiI.1 hp
 have k1:=aik (aeo _) h1
 have k2:=aik (aeo _) h2
 rw[abS] at k1 k2
 obtain⟨x,y⟩:=p
 intro a ha h0
 by_cases hb:a.b=0
 ·rw[als (hok a ha) hb] at h0
  have ha0:(a.a:Rat)≠0:=fun e=>hok a ha ⟨cZ.1 e,hb⟩
  apply k1
  have:x=a.base.x:=by
   rcases Rat.mul_eq_zero.1 h0 with h|h
   ·exact absurd h ha0
   ·grind
  show x∈_
  rw[this];exact ajv ha hb
 ·rw[akw hb] at h0
  have hb0:(a.b:Rat)≠0:=fun e=>hb (cZ.1 e)
  apply k2
  have:y=yA a x:=by
   rcases Rat.mul_eq_zero.1 h0 with h|h
   ·exact absurd h hb0
   ·grind
  show y∈ysQ l x
  rw[this];exact as0 ha hb x
theorem aEu(xs:List Rat)(a e:Rat)(he:0<e): ∃d,0<d∧d≤e∧a+d∉xs:=by
 induction xs generalizing e with
 |nil=>exact⟨e,he,iR,by simp⟩
 |cons x t ih=>
  by_cases hx:a<x
  ·obtain⟨d,h1,h2,h3⟩:=ih (if e≤(x-a)/2 then e else(x-a)/2) (by split<;>grind)
   refine⟨d,h1,by split at h2<;>grind,fun hm=>?_⟩
   rcases aW.1 hm with h|h
   ·split at h2<;>grind
   ·exact h3 h
  ·obtain⟨d,h1,h2,h3⟩:=ih e he
   refine⟨d,h1,h2,fun hm=>?_⟩
   rcases aW.1 hm with h|h
   ·grind
   ·exact h3 h
def ahO(l:LnQ)(p:PtQ):LnQ:=if 0<l.value p then l else l.rev
theorem aqI{l:LnQ}{p:PtQ}(h:l.value p≠0):0<(ahO l p).value p:=by
 unfold ahO;split
 ·assumption
 ·rw[aaP];grind
theorem aqY{l:LnQ}{p q:PtQ}(h:l.value p≠0)(k:0<(ahO l p).value q):0<l.value p↔0<l.value q:=by
 unfold ahO at k;split at k
 ·rename_i h1;exact⟨fun _=>k,fun _=>h1⟩
 ·rename_i h1;rw[aaP] at k;constructor<;>intro _<;>grind
theorem shift{l:List LnQ}{q:PtQ}(ho:Off l q)(xs:List Rat): ∃q':PtQ,(∀a∈l,0<a.value q↔0<a.value q')∧Off l q'∧q'.x∉xs:=by
 have hD:InD (l.map fun a=>⟨ahO a q,IvQ.all⟩) q:=fun s hs=>by
  obtain⟨a,ha,rfl⟩:=bU.1 hs
  exact aqI (ho a ha)
 obtain⟨e,he,hm⟩:=hD.open ⟨1,0⟩
 obtain⟨d,h1,h2,h3⟩:=aEu xs q.x e he
 have hd:=hm d (gK h1) h2
 have key: ∀a∈l,0<(ahO a q).value (adB q ⟨1,0⟩ d):=fun a ha=>hd ⟨ahO a q,IvQ.all⟩ (bU.2 ⟨a,ha,rfl⟩)
 refine⟨adB q ⟨1,0⟩ d,fun a ha=>aqY (ho a ha) (key a ha),fun a ha h0=>?_,?_⟩
 ·have:=key a ha
  unfold ahO at this
  split at this
  ·grind
  ·rw[aaP] at this;grind
 ·show q.x+d*1∉xs
  rw[show d*1=d by grind];exact h3
theorem auo{l:List LnQ}(hok: ∀a∈l,a.Ne){q:PtQ}(ho:Off l q): ∃p∈adQ l,∀a∈l,0<a.value q↔0<a.value p:=by
 obtain⟨⟨qx,qy⟩,hs,ho2,hx⟩:=shift ho (xsQ l)
 obtain⟨x0,hx0,hr⟩:=aqF (aeo (xsQ l)) (v:=qx) (by rw[abS];exact hx)
 have hx0':=aik (aeo _) hx0
 rw[abS] at hx0'
 have hr': ∀u∈xsQ l,u<qx↔u<x0:=fun u hu=>hr u (abS.2 hu)
 -- the order on the vertical line is the same
 have order: ∀a∈l,∀b∈l,a.b≠0→b.b≠0→yA a qx<yA b qx→yA a x0<yA b x0:=by
  intro a ha b hb hab hbb hlt
  by_cases hc:crossI a b=0
  ·have e1:=ac1 a b
   rw[hc] at e1
   have h0:((0:Int):Rat)=0:=rfl
   rw[h0] at e1
   have na:(a.b:Rat)≠0:=fun e=>hab (cZ.1 e)
   have nb':(b.b:Rat)≠0:=fun e=>hbb (cZ.1 e)
   have e2: ∀x,yA b x-yA a x=(a.c:Rat)/a.b-(b.c:Rat)/b.b:=fun x=>by
    unfold yA
    grind
   have:=e2 qx
   have:=e2 x0
   grind
  ·by_cases h:yA a x0<yA b x0
   ·exact h
   ·exfalso
    -- a crossing agl
    generalize hA:yA b qx-yA a qx=A
    generalize hB:yA b x0-yA a x0=B
    have hAB:0<A-B:=by grind
    have e:A/(A-B)*(A-B)=A:=by grind
    generalize hR:A/(A-B)=r at*
    have r0:0<r:=(aaj hAB).1 (by rw[e];grind)
    have r1:r≤1:=by
     have:=(aaq (s:=1-r) hAB).1 (by grind)
     grind
    have na:(a.b:Rat)≠0:=fun e=>hab (cZ.1 e)
    have nb':(b.b:Rat)≠0:=fun e=>hbb (cZ.1 e)
    have lin: ∀c:LnQ,c.b≠0→yA c (qx+r*(x0-qx))=yA c qx+r*(yA c x0-yA c qx):=fun c hc=>by
     have:(c.b:Rat)≠0:=fun e=>hc (cZ.1 e)
     unfold yA;grind
    have hz:yA a (qx+r*(x0-qx))=yA b (qx+r*(x0-qx)):=by
     rw[lin a hab,lin b hbb];grind
    generalize hzx:qx+r*(x0-qx)=z at*
    have hm:z∈xsQ l:=auK (p:=⟨z,yA a z⟩) ha hb hc (by rw[akw hab];grind) (by rw[akw hbb,hz];grind)
    have hi:=hr' z hm
    have hne:z≠x0:=fun e=>hx0' (e▸hm)
    have hne2:z≠qx:=fun e=>hx (e▸hm)
    rcases aaW (x0-qx) with k|k|k
    ·apply hne2;rw[←hzx,k];grind
    ·have p1:=aab r0 k
     have p2:=aai (a:=1-r) (b:=x0-qx) (by grind) (gK k)
     have:z<x0:=by grind
     have:=hi.2 this
     grind
    ·have p1:=aab r0 (b:=qx-x0) (by grind)
     have p2:=aai (a:=1-r) (b:=qx-x0) (by grind) (by grind)
     have:z<qx:=by grind
     have:=hi.1 this
     grind
 -- a height agl the lower and the upper lines
 obtain⟨y',hy1,hy2⟩:=agl ((l.filter fun(a:LnQ)=>decide (a.b≠0∧yA a qx<qy)).map fun(a:LnQ)=>yA a x0) ((l.filter fun(a:LnQ)=>decide (a.b≠0∧qy<yA a qx)).map fun(a:LnQ)=>yA a x0) (fun u hu v hv=>by
  obtain⟨a,ha,rfl⟩:=bU.1 hu
  obtain⟨b,hb,rfl⟩:=bU.1 hv
  simp only[iQ,decide_eq_true_eq] at ha hb
  exact order a ha.1 b hb.1 ha.2.1 hb.2.1 (by have:=ha.2.2;have:=hb.2.2;grind))
 have tri: ∀a∈l,a.b≠0→yA a qx<qy∨qy<yA a qx:=fun a ha hb=>by
  have h1:=ho2 a ha
  rw[akw hb] at h1
  have:qy≠yA a qx:=fun e=>h1 (by rw[e];grind)
  grind
 have low: ∀a∈l,a.b≠0→yA a qx<qy→yA a x0<y':=fun a ha hb h=>hy1 _ (bU.2 ⟨a,by simp only[iQ,decide_eq_true_eq];exact⟨ha,hb,h⟩,rfl⟩)
 have upp: ∀a∈l,a.b≠0→qy<yA a qx→y'<yA a x0:=fun a ha hb h=>hy2 _ (bU.2 ⟨a,by simp only[iQ,decide_eq_true_eq];exact⟨ha,hb,h⟩,rfl⟩)
 have hy':y'∉ysQ l x0:=fun hm=>by
  obtain⟨a,ha,hb,e⟩:=aDs hm
  rcases tri a ha hb with h|h
  ·have:=low a ha hb h;grind
  ·have:=upp a ha hb h;grind
 obtain⟨y0,hy0,hry⟩:=aqF (aeo (ysQ l x0)) (v:=y') (by rw[abS];exact hy')
 have hy0':=aik (aeo _) hy0
 rw[abS] at hy0'
 refine⟨⟨x0,y0⟩,aiI.2 ⟨hx0,hy0⟩,fun a ha=>?_⟩
 rw[hs a ha]
 by_cases hb:a.b=0
 ·rw[als (hok a ha) hb,als (hok a ha) hb]
  have hi:=hr' _ (ajv ha hb)
  have n1:a.base.x≠qx:=fun e=>hx (e▸ajv ha hb)
  have n2:a.base.x≠x0:=fun e=>hx0' (e▸ajv ha hb)
  have ha0:(a.a:Rat)≠0:=fun e=>hok a ha ⟨cZ.1 e,hb⟩
  generalize a.base.x=u at*
  generalize (a.a:Rat)=A at*
  by_cases h1:u<qx
  ·have h2:=hi.1 h1
   rw[aaj (k:=qx-u) (by grind),aaj (k:=x0-u) (by grind)]
  ·have h2: ¬u<x0:=fun e=>h1 (hi.2 e)
   have e1:A*(qx-u)=(-A)*(u-qx):=by grind
   have e2:A*(x0-u)=(-A)*(u-x0):=by grind
   rw[e1,e2,aaj (k:=u-qx) (by grind),aaj (k:=u-x0) (by grind)]
 ·rw[akw hb,akw hb]
  have hi:=hry (yA a x0) (abS.2 (as0 ha hb x0))
  have n2:yA a x0≠y0:=fun e=>hy0' (e▸as0 ha hb x0)
  have lo:=low a ha hb
  have up:=upp a ha hb
  have tri:=tri a ha hb
  generalize yA a x0=v at*
  generalize yA a qx=u at*
  generalize (a.b:Rat)=B at*
  rcases tri with h|h
  ·have h3:=hi.1 (lo h)
   rw[aaj (k:=qy-u) (by grind),aaj (k:=y0-v) (by grind)]
  ·have h3:=up h
   have h4: ¬v<y0:=fun e=>by have:=hi.2 e;grind
   have e1:B*(qy-u)=(-B)*(u-qy):=by grind
   have e2:B*(y0-v)=(-B)*(v-y0):=by grind
   rw[e1,e2,aaj (k:=u-qy) (by grind),aaj (k:=v-y0) (by grind)]
def aq5(out:List Rat)(s:IvQ):List Rat:=if s.nh then(if s.nl then out else ama s.lo out) else ama s.hi (if s.nl then out else ama s.lo out)
def aeK(l:List IvQ):List Rat:=l.foldl aq5 []
def axy:List IvQ→Rat→Int
 |[],_=>0
 |s::t,x=>
  let a:=if s.nl then 1 else aa2 x s.lo
  let b:=if s.nh then-1 else aa2 x s.hi
  if 0<a∧b<0 then 2 else if(a=0∧b≤0)∨(b=0∧0≤a) then 1 else axy t x
def acS(l:List IvQ)(x:Rat):Bool:=decide (axy l x=2)
def afm(cuts:List Rat)(i:Nat):IvQ:=⟨if i=0 then 0 else cuts.getD (i-1) 0,if i<cuts.length then cuts.getD i 0 else 0,decide (i=0),decide (i=cuts.length)⟩
def amB(v w:IvQ):IvQ:=⟨v.lo,w.hi,v.nl,w.nh⟩
def adi(cuts:List Rat)(marks:List Bool):Nat→List IvQ
 |0=>[]
 |k+1=>
  let out:=adi cuts marks k
  if marks.getD k false then
   (if 0<k∧marks.getD (k-1) false=true then(match out.getLast? with
    |some v=>out.dropLast++[amB v (afm cuts k)]
    |none=>out++[afm cuts k]) else out++[afm cuts k])
  else out
def aoK(cuts:List Rat)(marks:List Bool):List IvQ:=adi cuts marks marks.length
def ahr(op:Int)(x y:Bool):Bool:=if op=2 then x&&y else if op=3 then x&&!y else if op=4 then x !=y else x||y
def ajc(op:Int)(a b:List IvQ):List IvQ:=aoK (aeK (a++b)) ((aaY (aeK (a++b))).map fun t=>ahr op (acS a t) (acS b t))
def aeg(l m:LnQ)(side:Int):List IvQ:=
 if crossI l m=0 then(if(m.value l.base).num.sign=side then [IvQ.all] else [])
 else if(m.value (l.at (acr l (ach l m)+1))).num.sign=side then [⟨acr l (ach l m),0,false,true⟩] else [⟨0,acr l (ach l m),true,false⟩]
def onB(l m:LnQ):Bool:=decide (crossI l m=0∧(m.value l.base).num.sign=0)
def aa4(f:FrQ)(m:LnQ)(side:Int):List FrQ:=if onB f.l m then [] else(ajc 2 [f.v] (aeg f.l m side)).map fun v=>⟨f.l,v⟩
theorem akI(l:List IvQ):(aeK l).Pairwise (· < ·)∧ ∀y∈aeK l,∃s∈l,(s.nl=false∧y=s.lo)∨(s.nh=false∧y=s.hi):=by
 have key: ∀(l:List IvQ) (o:List Rat),o.Pairwise (· < ·)→(l.foldl aq5 o).Pairwise (· < ·)∧ ∀y∈l.foldl aq5 o,y∈o∨ ∃s∈l,(s.nl=false∧y=s.lo)∨(s.nh=false∧y=s.hi):=by
  intro l
  induction l with
  |nil=>intro o h;exact⟨h,fun y hy=> .inl hy⟩
  |cons s t ih=>
   intro o h
   have h1:(aq5 o s).Pairwise (· < ·)∧ ∀y∈aq5 o s,y∈o∨(s.nl=false∧y=s.lo)∨(s.nh=false∧y=s.hi):=by
    unfold aq5
    cases e1:s.nl<;>cases e2:s.nh<;>simp only[if_true,iN,if_false]
    ·refine⟨afQ (afQ h),fun y hy=>?_⟩
     rcases acN.1 hy with h|h
     ·exact .inr (.inr ⟨trivial,h⟩)
     ·rcases acN.1 h with h|h
      ·exact .inr (.inl ⟨trivial,h⟩)
      ·exact .inl h
    ·refine⟨afQ h,fun y hy=>?_⟩
     rcases acN.1 hy with h|h
     ·exact .inr (.inl ⟨trivial,h⟩)
     ·exact .inl h
    ·refine⟨afQ h,fun y hy=>?_⟩
     rcases acN.1 hy with h|h
     ·exact .inr (.inr ⟨trivial,h⟩)
     ·exact .inl h
    ·exact⟨h,fun y hy=> .inl hy⟩
   obtain⟨k1,k2⟩:=ih (aq5 o s) h1.1
   refine⟨k1,fun y hy=>?_⟩
   rcases k2 y hy with h2|⟨q,hq,h2⟩
   ·rcases h1.2 y h2 with h3|h3
    ·exact .inl h3
    ·exact .inr ⟨s,aQ,h3⟩
   ·exact .inr ⟨q,aX _ hq,h2⟩
 have:=key l [] List.Pairwise.nil
 refine⟨this.1,fun y hy=>?_⟩
 rcases this.2 y hy with h|h
 ·cases h
 ·exact h
structure aDW (cuts:List Rat) (v:IvQ):Prop where
 z:IvZ v
 lo:v.nl=true∨v.lo∈cuts
 hi:v.nh=true∨v.hi∈cuts
theorem aAh{cuts:List Rat}{i:Nat}(h:i≤cuts.length):aDW cuts (afm cuts i):=by
 unfold afm
 refine⟨⟨fun e=>?_,fun e=>?_⟩,?_,?_⟩
 ·simp only[decide_eq_true_eq] at e;simp[e]
 ·simp only[decide_eq_true_eq] at e;simp[e]
 ·by_cases h0:i=0
  ·left;simp[h0]
  ·right
   simp only[if_neg h0]
   rw[aK,aZ (by omega)]
   exact cK _
 ·by_cases h0:i=cuts.length
  ·left;simp[h0]
  ·right
   simp only[if_pos (show i<cuts.length by omega)]
   rw[aK,aZ (by omega)]
   exact cK _
theorem ap5{cuts:List Rat}{marks:List Bool}: ∀{k:Nat},k≤cuts.length+1→ ∀v∈adi cuts marks k,aDW cuts v
 |0,_,v,hv=>by cases hv
 |k+1,hk,v,hv=>by
  have ih:=ap5 (cuts:=cuts) (marks:=marks) (k:=k) (by omega)
  have hg:=aAh (cuts:=cuts) (i:=k) (by omega)
  rw[adi] at hv
  split at hv
  ·split at hv
   ·split at hv
    ·rename_i w hw
     rcases bK.1 hv with h|h
     ·exact ih v ((List.dropLast_sublist _).subset h)
     ·rw[aU] at h;subst h
      have hw':=ih w (rY hw)
      exact⟨⟨hw'.z.1,hg.z.2⟩,hw'.lo,hg.hi⟩
    ·rcases bK.1 hv with h|h
     ·exact ih v h
     ·rw[aU] at h;subst h;exact hg
   ·rcases bK.1 hv with h|h
    ·exact ih v h
    ·rw[aU] at h;subst h;exact hg
  ·exact ih v hv
theorem aeq{l:List Rat}:(aaY l).length=l.length+1:=by
 have key: ∀(l:List Rat) (a:Rat),(adX (a::l)).length=l.length:=by
  intro l
  induction l with
  |nil=>intro a;rfl
  |cons b t ih=>intro a;rw[adX,bV,ih b,bV]
 cases l with
 |nil=>rfl
 |cons a t=>rw[aaY,bV,aV,key];simp
theorem awv{op:Int}{a b:List IvQ}: ∀v∈ajc op a b,aDW (aeK (a++b)) v:=fun v hv=>by
 unfold ajc aoK at hv
 refine ap5 ?_ v hv
 rw[aJ,aeq];omega
theorem ai7{cuts:List Rat}{marks:List Bool}: ∀{k:Nat},(adi cuts marks k).length≤k
 |0=>bQ _
 |k+1=>by
  have ih:=ai7 (cuts:=cuts) (marks:=marks) (k:=k)
  rw[adi]
  split
  ·split
   ·split
    ·rename_i w hw
     have:=List.length_pos_of_mem (rY hw)
     rw[aV,gR];simp;omega
    ·rw[aV];simp;omega
   ·rw[aV];simp;omega
  ·omega
structure FOk (f:FrQ):Prop where
 lb:LB f.l
 ok:f.l.ok
 z:IvZ f.v
 lo:BQ f.v.lo 1200
 hi:BQ f.v.hi 1200
theorem BQ.zero1200:BQ (0:Rat) 1200:=BQ.mono (k:=1) ⟨by decide,by decide⟩ (by decide)
theorem aom{l m:LnQ}(hl:LB l)(hm:LB m)(hlo:l.ok){side:Int}: ∀v∈aeg l m side,IvZ v∧BQ v.lo 1200∧BQ v.hi 1200:=fun v hv=>by
 unfold aeg at hv
 split at hv
 ·split at hv
  ·rw[aU] at hv;subst hv;exact⟨IvZ.all,BQ.zero1200,BQ.zero1200⟩
  ·cases hv
 ·rename_i hc
  have:=ail hlo.ne hc
  split at hv
  ·rw[aU] at hv;subst hv;exact⟨⟨fun h=>(by cases h),fun _=>rfl⟩,this,BQ.zero1200⟩
  ·rw[aU] at hv;subst hv;exact⟨⟨fun _=>rfl,fun h=>(by cases h)⟩,BQ.zero1200,this⟩
theorem alp{f:FrQ}{m:LnQ}(h:FOk f)(hm:LB m){side:Int}: ∀g∈aa4 f m side,FOk g∧g.l=f.l∧onB f.l m=false:=fun g hg=>by
 unfold aa4 at hg
 split at hg
 ·cases hg
 ·rename_i ho
  obtain⟨v,hv,rfl⟩:=bU.1 hg
  have hi:=awv v hv
  have bd: ∀y∈aeK ([f.v]++aeg f.l m side),BQ y 1200:=fun y hy=>by
   obtain⟨s,hs,h1⟩:=(akI _).2 y hy
   rcases bK.1 hs with hs|hs
   ·rw[aU] at hs;subst hs
    rcases h1 with⟨_,rfl⟩|⟨_,rfl⟩
    ·exact h.lo
    ·exact h.hi
   ·have:=aom h.lb hm h.ok s hs
    rcases h1 with⟨_,rfl⟩|⟨_,rfl⟩
    ·exact this.2.1
    ·exact this.2.2
  refine⟨⟨h.lb,h.ok,hi.z,?_,?_⟩,rfl,by simpa using ho⟩
  ·rcases hi.lo with e|e
   ·rw[hi.z.1 e];exact BQ.zero1200
   ·exact bd _ e
  ·rcases hi.hi with e|e
   ·rw[hi.z.2 e];exact BQ.zero1200
   ·exact bd _ e
def al8(acc:PtQ→Bool):Nat→List FrQ→List LnQ→Tr
 |_,[],c=> .leaf (acc (acQ c c))
 |0,_::_,_=> .leaf false
 |n+1,f::t,c=> .node f.l (al8 acc n ((f::t).flatMap fun g=>aa4 g f.l 1) (c++[f.l])) (al8 acc n ((f::t).flatMap fun g=>aa4 g f.l (-1)) (c++[f.l.rev]))
theorem avc{f g:FrQ}{m:LnQ}{side:Int}(h:g∈aa4 f m side):g.l=f.l:=by
 unfold aa4 at h
 split at h
 ·cases h
 ·obtain⟨v,_,rfl⟩:=bU.1 h;rfl
theorem agp{acc:PtQ→Bool}{P:LnQ→Prop}: ∀{n:Nat} {l:List FrQ} {c:List LnQ},(∀f∈l,P f.l)→(al8 acc n l c).all P
 |n,[],c,_=>by unfold al8;trivial
 |0,_::_,_,_=>by unfold al8;trivial
 |n+1,f::t,c,h=>by
  rw[al8]
  refine⟨h f aQ,agp fun g hg=>?_,agp fun g hg=>?_⟩<;>
  ·obtain⟨q,hq,hg⟩:=nU.1 hg
   rw[avc hg];exact h q hq
theorem ahx{acc:PtQ→Bool}: ∀{n:Nat} {l:List FrQ} {c:List LnQ},(al8 acc n l c).depth≤n
 |n,[],c=>by unfold al8;exact bZ _
 |0,_::_,_=>by unfold al8;exact bZ _
 |n+1,f::t,c=>by
  rw[al8,Tr.depth]
  have h1:=ahx (acc:=acc) (n:=n) (l:=(f::t).flatMap fun g=>aa4 g f.l 1) (c:=c++[f.l])
  have h2:=ahx (acc:=acc) (n:=n) (l:=(f::t).flatMap fun g=>aa4 g f.l (-1)) (c:=c++[f.l.rev])
  omega
def Few(n:Nat)(l:List FrQ):Prop:= ∃K:List LnQ,K.length≤n∧ ∀f∈l,∃m∈K,m.same f.l
theorem anc{m:LnQ}(hm:m.Ne):m.value m.base=0:=by
 have h:=aiU hm 0
 rw[←aue,abP] at h
 grind
theorem avW{l m:LnQ}(h:l.same m)(hm:m.Ne):onB m l=true:=by
 unfold onB
 rw[decide_eq_true_iff]
 refine⟨?_,?_⟩
 ·rcases h with rfl|rfl
  ·unfold crossI;omega
  ·unfold crossI LnQ.rev
   show(-l.a)*l.b-l.a*(-l.b)=0
   grind
 ·rw[abN]
  exact aih h.symm (anc hm)
theorem Few.split{n:Nat}{f:FrQ}{t:List FrQ}(h:Few (n+1) (f::t))(hok: ∀g∈f::t,FOk g){side:Int}:Few n ((f::t).flatMap fun g=>aa4 g f.l side):=by
 obtain⟨K,hK,hs⟩:=h
 refine⟨K.filter fun m=>!decide (m.same f.l),?_,fun g hg=>?_⟩
 ·obtain⟨m,hm,hm2⟩:=hs f aQ
  have:(K.filter fun m=>!decide (m.same f.l)).length<K.length:=by
   refine oV.2 ⟨m,hm,by simp[hm2]⟩
  omega
 ·obtain⟨q,hq,hg⟩:=nU.1 hg
  obtain⟨_,e,ho⟩:=alp (hok q hq) (hok f aQ).lb g hg
  obtain⟨m,hm,hm2⟩:=hs q hq
  refine⟨m,iQ.2 ⟨hm,?_⟩,by rw[e];exact hm2⟩
  simp only[gX,decide_eq_false_iff_not]
  intro h
  have:=avW (h.symm.trans hm2) (hok q hq).ok.ne
  rw[this] at ho;cases ho
theorem aBE{p q r:Bool}{a b c:Nat}(h:Nat.gcd a b≠0):LnQ.ok ⟨zv p (a/Nat.gcd (Nat.gcd a b) c),zv q (b/Nat.gcd (Nat.gcd a b) c),zv r (c/Nat.gcd (Nat.gcd a b) c)⟩:=by
 have hg:0<Nat.gcd (Nat.gcd a b) c:=nW _ (jQ h)
 have d0:Nat.gcd (Nat.gcd a b) c∣Nat.gcd a b:=rZ _ _
 have d1:Nat.gcd (Nat.gcd a b) c∣a:=Nat.dvd_trans d0 (rZ _ _)
 have d2:Nat.gcd (Nat.gcd a b) c∣b:=Nat.dvd_trans d0 (qT _ _)
 have d3:Nat.gcd (Nat.gcd a b) c∣c:=qT _ _
 refine⟨?_,?_⟩
 ·rintro ⟨h1,h2⟩
  have h1':=congrArg Int.natAbs h1
  have h2':=congrArg Int.natAbs h2
  simp only[af5,jN] at h1' h2'
  have e1:=Nat.div_mul_cancel d1
  have e2:=Nat.div_mul_cancel d2
  rw[h1',kV] at e1
  rw[h2',kV] at e2
  exact h (by rw[←e1,←e2];rfl)
 ·simp only[af5]
  rw[Nat.gcd_div d1 d2,Nat.gcd_div d0 d3,Nat.div_self hg]
theorem asL(p:Bool)(a g:Nat):(zv p (a/g)).natAbs≤a:=by rw[af5];exact jM ..
theorem PF.eq{P:Program}{f:FuncId}{vs:List DV}{r r':DV}(h:PF GB P f vs r)(e:r=r'):PF GB P f vs r':=e▸h
def iP(m n:Int):PtQ:=⟨(m:Rat),(n:Rat)⟩
theorem aDP{m:Int}{k:Nat}(h:m.natAbs<2^k):BI m k:=⟨h⟩
theorem biC{m:Int}{k:Nat}(h:m.natAbs≤1000)(hk:10≤k):BI m k:=⟨cM (show m.natAbs<2^10 by omega) (bW (by decide) hk)⟩
instance BPt.int (m n:Int) (i:Nat) [h:BI m i] [k:BI n i]:BPt (iP m n) (i+1):=⟨inferInstanceAs (BQ (m:Rat) (i+1)),inferInstanceAs (BQ (n:Rat) (i+1))⟩
theorem eQI{q:Rat}{k:Int}(h:q=(k:Rat)):eQ q=eQ (k:Rat):=by rw[h]
theorem ePI{p:PtQ}{m n:Int}(h1:p.x=(m:Rat))(h2:p.y=(n:Rat)):eP p=eP (iP m n):=by
 obtain⟨x,y⟩:=p
 simp only at h1 h2
 subst h1 h2
 rfl
def mkL(a b c:Int):LnQ:=
 ⟨zv (decide (a<0)) (a.natAbs/Nat.gcd (Nat.gcd a.natAbs b.natAbs) c.natAbs),zv (decide (b<0)) (b.natAbs/Nat.gcd (Nat.gcd a.natAbs b.natAbs) c.natAbs),zv (decide (c<0)) (c.natAbs/Nat.gcd (Nat.gcd a.natAbs b.natAbs) c.natAbs)⟩
theorem axs{a b c:Int}(h: ¬(a=0∧b=0)):(mkL a b c).ok:=
 aBE fun e=>h ⟨qZ.1 (Nat.eq_zero_of_gcd_eq_zero_left e),qZ.1 (Nat.eq_zero_of_gcd_eq_zero_right e)⟩
theorem ayw(a b c:Int):(mkL a b c).a.natAbs≤a.natAbs∧(mkL a b c).b.natAbs≤b.natAbs∧(mkL a b c).c.natAbs≤c.natAbs:=⟨asL ..,asL ..,asL ..⟩
theorem arx{m n:Int}(hm:m.natAbs≤1000)(hn:n.natAbs≤1000):PF GB prog 78 [.v (.int .i64 m), .v (.int .i64 n)] (eP (iP m n)):=by
 refine fn func78 J J ntmps78 J J (fun C=>?_)
 refine cl rfl (alz (n:=m) (by omega) (by omega)) rfl<|cl rfl (alz (n:=n) (by omega) (by omega)) rfl<|?_
 exact rz J J
theorem apO{m n m' n' k:Int}(hm:m.natAbs≤1000)(hn:n.natAbs≤1000)(hm':m'.natAbs≤1000)(hn':n'.natAbs≤1000)(hk:k.natAbs≤1000):PF GB prog 100 [eP (iP m n),eQ (k:Rat),eP (iP m' n')] (eP (iP (m+k*m') (n+k*n'))):=by
 haveI:=biC (k:=10) hm (by decide)
 haveI:=biC (k:=10) hn (by decide)
 haveI:=biC (k:=10) hm' (by decide)
 haveI:=biC (k:=10) hn' (by decide)
 haveI:=biC (k:=10) hk (by decide)
 exact PF.eq (amx (p:=iP m n) (q:=iP m' n') (c:=(k:Rat))) (ePI (by show(m:Rat)+(k:Rat)*(m':Rat)=_;push_cast;rfl) (by show(n:Rat)+(k:Rat)*(n':Rat)=_;push_cast;rfl))
theorem aCq{m n m' n':Int}(hm:m.natAbs≤1000)(hn:n.natAbs≤1000)(hm':m'.natAbs≤1000)(hn':n'.natAbs≤1000):PF GB prog 155 [eP (iP m n),eP (iP m' n')] (eP (iP (m-m') (n-n'))):=by
 refine fn func155 J J ntmps155 J J (fun C=>?_)
 refine cl rfl (alz (n:= -1) (by decide) (by decide)) rfl<|cl rfl (apO (m:=m) (n:=n) (m':=m') (n':=n') (k:= -1) hm hn hm' hn' (by decide)) rfl<|?_
 exact rz rfl (by rw[show m-m'=m+ -1*m' by omega,show n-n'=n+ -1*n' by omega];rfl)
theorem ak6{m n m' n':Int}(hm:m.natAbs≤1000)(hn:n.natAbs≤1000)(hm':m'.natAbs≤1000)(hn':n'.natAbs≤1000):PF GB prog 175 [eP (iP m n),eP (iP m' n')] (.v (.bool (decide (m=m'∧n=n')))):=by
 haveI:=biC (k:=10) hm (by decide)
 haveI:=biC (k:=10) hn (by decide)
 haveI:=biC (k:=10) hm' (by decide)
 haveI:=biC (k:=10) hn' (by decide)
 refine fn func175 J J ntmps175 J J (fun C=>?_)
 refine cl rfl (q_C (a:=(m:Rat)) (b:=(m':Rat))) rfl<|?_
 refine cs 11 J J J (fun hg11=>?_) (fun hg11=>?_)
 ·
  refine cl rfl (q_C (a:=(n:Rat)) (b:=(n':Rat))) rfl<|?_
  exact rz rfl (by rw[aeE] at hg11;have e:m=m':=(by exact_mod_cast hg11);exact congrArg (fun z=>DV.v (.bool z)) (decide_eq_decide.2 (by rw[aeE,mW];simp[e])))
 ·
  exact rz rfl (by rw[aeE] at hg11;have e: ¬m=m':=(fun e=>hg11 (by rw[e]));show DV.v (.bool false)=DV.v (.bool _);rw[decide_eq_false (fun h=>e h.1)])
theorem atl{a b k:Nat}(ha:a<k)(hb:b<k):Nat.gcd a b<k:=by
 rcases eY a with rfl|p
 ·simpa using hb
 ·exact fY (Nat.gcd_le_left b p) ha
theorem azM{a b c:Int}{i:Nat}(ha:BI a i)(hb:BI b i)(hc:BI c i)(hi:i≤100000000)(h0: ¬(a=0∧b=0)):PF GB prog 158 [eI a,eI b,eI c] (.tp [eL (mkL a b c), .v (.bool true)]):=by
 have hgn:Nat.gcd a.natAbs b.natAbs≠0:=fun h=>h0 ⟨qZ.1 (Nat.eq_zero_of_gcd_eq_zero_left h),qZ.1 (Nat.eq_zero_of_gcd_eq_zero_right h)⟩
 have hgp:0<Nat.gcd (Nat.gcd a.natAbs b.natAbs) c.natAbs:=nW _ (jQ hgn)
 haveI hb1:BN (Nat.gcd a.natAbs b.natAbs) i:=⟨atl ha.h hb.h⟩
 haveI hb2:BN (Nat.gcd (Nat.gcd a.natAbs b.natAbs) c.natAbs) i:=⟨atl hb1.h hc.h⟩
 refine fn func158 J J ntmps158 J J (fun C=>?_)
 refine cl rfl (alE (a:=a.natAbs) (b:=b.natAbs) (by omega) (by omega)) rfl<|?_
 refine br J J J (fun hc22=>?_) (fun hc22=>?_)
 ·
  exact absurd hc22 (by rw[aJ];intro h;exact hgn (acB.1 (by omega)))
 ·
  refine cl rfl (alE (a:=Nat.gcd a.natAbs b.natAbs) (b:=c.natAbs) (by omega) (by omega)) rfl<|cl rfl (afL (a:=a.natAbs) (b:=Nat.gcd (Nat.gcd a.natAbs b.natAbs) c.natAbs) hgp (by omega) (by omega)) rfl<|?_
  refine cl rfl (afL (a:=b.natAbs) (b:=Nat.gcd (Nat.gcd a.natAbs b.natAbs) c.natAbs) hgp (by omega) (by omega)) rfl<|cl rfl (afL (a:=c.natAbs) (b:=Nat.gcd (Nat.gcd a.natAbs b.natAbs) c.natAbs) hgp (by omega) (by omega)) rfl<|?_
  refine cl rfl (acT (m:=a.natAbs/(Nat.gcd (Nat.gcd a.natAbs b.natAbs) c.natAbs)) (neg:=decide (a<0))) rfl<|cl rfl (acT (m:=b.natAbs/(Nat.gcd (Nat.gcd a.natAbs b.natAbs) c.natAbs)) (neg:=decide (b<0))) rfl<|?_
  refine cl rfl (acT (m:=c.natAbs/(Nat.gcd (Nat.gcd a.natAbs b.natAbs) c.natAbs)) (neg:=decide (c<0))) rfl<|?_
  exact rz J J
def au2(n n':Int):Int:= -(n'-n)
def au3(m m':Int):Int:=m'-m
def az4(m n m' n':Int):Int:= -(au2 n n'*m+au3 m m'*n)
def arr(m n m' n':Int):LnQ:=mkL (au2 n n') (au3 m m') (az4 m n m' n')
theorem afG{a b:Int}(ha:a.natAbs≤2000)(hb:b.natAbs≤1000):(a*b).natAbs≤2000000:=by
 rw[iY];exact gS ha hb
theorem amj{m n m' n':Int}(hm:m.natAbs≤1000)(hn:n.natAbs≤1000)(hm':m'.natAbs≤1000)(hn':n'.natAbs≤1000)(h0: ¬(m=m'∧n=n')):PF GB prog 77 [eP (iP m n),eP (iP m' n')] (.tp [eL (arr m n m' n'), .v (.bool true)]):=by
 obtain⟨a,hA⟩: ∃a,a=au2 n n':=⟨_,rfl⟩
 obtain⟨b,hB⟩: ∃b,b=au3 m m':=⟨_,rfl⟩
 have hA':a= -(n'-n):=hA
 have hB':b=m'-m:=hB
 obtain⟨c,hC⟩: ∃c,c= -(a*m+b*n):=⟨_,rfl⟩
 have e1:=afG (a:=a) (b:=m) (by omega) hm
 have e2:=afG (a:=b) (b:=n) (by omega) hn
 haveI hm0:=biC (k:=10) hm (by decide)
 haveI hn0:=biC (k:=10) hn (by decide)
 haveI ha:BI a 30:=aDP (by omega)
 haveI hb:BI b 30:=aDP (by omega)
 haveI hc:BI c 30:=aDP (by omega)
 have hthr:arr m n m' n'=mkL a b c:=by rw[hC,hA,hB];rfl
 have hne: ¬(a=0∧b=0):=fun h=>h0 (by omega)
 refine fn func77 J J ntmps77 J J (fun C=>?_)
 refine cl rfl (aCq (m:=m') (n:=n') (m':=m) (n':=n) hm' hn' hm hn) rfl<|cl rfl (PF.eq (anf (q:=(((n'-n):Int):Rat))) (eQI (k:=a) (by rw[hA'];push_cast;rfl))) rfl<|?_
 refine cl rfl (PF.eq (abl (a:=(a:Rat)) (b:=(m:Rat))) (eQI (k:=a*m) (by push_cast;rfl))) rfl<|cl rfl (PF.eq (by haveI:BI (m'-m) 30:=(by rw[←hB'];exact hb);exact abl (a:=(((m'-m):Int):Rat)) (b:=(n:Rat))) (eQI (k:=b*n) (by rw[hB'];push_cast;rfl))) rfl<|?_
 refine cl rfl (PF.eq (ad6 (a:=((a*m:Int):Rat)) (b:=((b*n:Int):Rat))) (eQI (k:=a*m+b*n) (by push_cast;rfl))) rfl<|cl rfl (PF.eq (anf (q:=((a*m+b*n:Int):Rat))) (eQI (k:=c) (by rw[hC];push_cast;rfl))) rfl<|?_
 refine cl rfl (afa (q:=(a:Rat))) rfl<|cl rfl (afa (q:=(((m'-m):Int):Rat))) rfl<|cl rfl (PF.eq (acn (a:=1) (b:=1)) rfl) rfl<|?_
 refine cl rfl (afa (q:=(c:Rat))) rfl<|cl rfl (PF.eq (acn (a:=1) (b:=1)) rfl) rfl<|cl (fu:=⟨1⟩) rfl (acT (neg:=false) (m:=1)) rfl<|?_
 refine eqF 40 (.d (eQ ((1:Int):Rat))) J J ?_
 refine gx rfl<|cl rfl (PF.eq (abl (a:=(a:Rat)) (b:=((1:Int):Rat))) (eQI (k:=a) (by push_cast;grind))) rfl<|cl rfl (PF.eq (by haveI:BI (m'-m) 30:=(by rw[←hB'];exact hb);exact abl (a:=(((m'-m):Int):Rat)) (b:=((1:Int):Rat))) (eQI (k:=b) (by rw[hB'];push_cast;grind))) rfl<|?_
 refine cl rfl (PF.eq (abl (a:=(c:Rat)) (b:=((1:Int):Rat))) (eQI (k:=c) (by push_cast;grind))) rfl<|cl rfl (azM (a:=a) (b:=b) (c:=c) ha hb hc (by decide) hne) rfl<|?_
 exact rz rfl (by rw[hthr];rfl)
end Go.Sx
end
