/-
  The abstract machine: calls that take a row over and hand one back in a tuple. The abstract machine: rows lent to a call that reads, rows with room, calls that take such a row over. The abstract machine: the steps for rows with room. The abstract machine: words of 32 bits. Zero values of the program's types as deep values. Numbers as deep values; bounds. Reference: digits (over deep values). Reference: natural numbers of any size: sign, Word, Cmp, Sum, Less.
-/
import Derived.Test.YtlnphbkcelfboaaGreatDoorMs9
set_option linter.unusedSimpArgs false
set_option linter.unusedVariables false
section
set_option maxRecDepth 100000
namespace Go.Sx
open Go Go.Proofs
section
variable {GB:Gh} {C:Ctx} {n:Nat} {Q0:Exit→Act→World→Prop} {fr fr':FrX} {own own':OwX} {cf cf':Cf} {vc:List Prop} {ops:Array Oper} {o:Oper} {K:List Kt} {r:List Oper}
def mkB:List (Option DV)→SV→List DV
 |[],_=>[]
 |some d::t,w=>d::mkB t w
 |none::t,w=> .v (.slice w.a w.n w.c)::mkB t w
def evBs(lk:LK):List Operand→Option (Option Nat×List (Option DV))
 |[]=>some (none,[])
 |x::t=>match evX lk x,evBs lk t with
  |some (.rw nm),some (none,l)=>some (some nm,none::l)
  |some f,some (q,l)=>match toDX f with
   |some d=>some (q,some d::l)
   |none=>none
  |_,_=>none
def cargB(lk:LK)(fo:Operand)(args:Array Operand):Option (FuncId×Nat×List (Option DV)):=match evX lk fo with
 |some (.d (.v (.func (.func f) ⟨[]⟩ ⟨[]⟩)))=>match evBs lk args.toList with
  |some (some nm,l)=>some (f,nm,l)
  |_=>none
 |_=>none
theorem evBs_ok{lk:LK}{bk:BM}{ρ:NE}{G:Gh}{ov:List Own}{a:Act}{w:World}(r:RlX GB C n lk bk ρ G ov a w){z:SV}: ∀{x:List Operand} {q:Option Nat} {l:List (Option DV)},evBs lk x=some (q,l)→(∀nm,q=some nm→ρ nm=z)→
  ∃y,opvs (frA a) x=some y∧IsLs G (mkB l z) y
 |[],q,l,e,_=>by cases e;exact⟨[],rfl, .nil⟩
 |x::t,q,l,e,hb=>by
  simp only[evBs] at e
  split at e
  ·rename_i nm l' h1 h2
   cases e
   obtain⟨y,h3,h4⟩:=r.ev h1
   cases (show y=_ from h4)
   obtain⟨ys,h5,h6⟩:=evBs_ok r (z:=z) h2 (fun nm e=>by cases e)
   have hz:=hb nm rfl
   subst hz
   exact⟨Value.slice (ρ nm).a (ρ nm).n (ρ nm).c::ys,by simp only[opvs,h3,h5], .cons ((is_v (G:=G)).2 rfl) h6⟩
  ·rename_i f q' l' _ h1 h2
   cases hd:toDX f with
   |none=>rw[hd] at e;cases e
   |some d=>
   rw[hd] at e;cases e
   obtain⟨y,h3,h4⟩:=r.ev h1
   obtain⟨ys,h5,h6⟩:=evBs_ok r (z:=z) h2 hb
   exact⟨y::ys,by simp only[opvs,h3,h5], .cons (toDX_is h4 hd) h6⟩
  ·cases e
theorem ok_callB{lk:LK}{bk:BM}{fo:Operand}{args:Array Operand}{tys:Array TypeId}{f:FuncId}{nm d:Nat}{l:List (Option DV)}{s:Nat}{ty ty0:TypeId}{pos:String}{af:Array Edge}{gd:Option (Nat×Bool)}{dsi dso pre post:List DV}{lo:Bool}(hne:Nat.beq nm d=false)
  (ha:cargB lk fo args=some (f,nm,l))(hb:bk nm=some (.b ty0 s dsi lo))(hF:PB GB Tryz.prog f (mkB l) s ty0 dsi (fun w=> .tp (pre++ .v (.slice w.a w.n w.c)::post)) dso):OpR Tryz.prog GB C n lk bk ⟨some d, .call ⟨.value fo,args,tys⟩,ty,pos,af,gd⟩ (.bx true pre d post) [(nm,none),(d,some (.b ty0 s dso lo))] [d]:=by
 intro hd tl tb K' s1 s2 hf hk
 refine⟨fun ρ G ov a w r Q=>?_⟩
 have r1:=r.mono s1 s2
 unfold cargB at ha
 split at ha<;>try (cases ha;done)
 rename_i h1
 split at ha<;>cases ha
 rename_i h2
 obtain⟨y,hy,hy'⟩:=r1.ev h1
 rw[(is_v (G:=G)).1 hy'] at hy
 obtain⟨B,g1,g2⟩:=r1.bx _ _ hb
 have hB:BufIs G ⟨ρ nm,s,ty0,dsi,lo⟩ B:=g1
 obtain⟨vs,h7,h8⟩:=evBs_ok r1 (z:=ρ nm) h2 (fun nm e=>by cases e;rfl)
 have hp: ∃rest,ov.Perm (B++rest)∧ ∀o∈ov,(∀o'∈B,o.b≠o'.b)→o∈rest:=by
  rcases hB with⟨vs',⟨_,_,e⟩|⟨b0,r0,lo0,_,e,_⟩,_⟩
  ·rw[e];exact⟨ov,List.Perm.refl _,fun o ho _=>ho⟩
  ·rw[e] at g2⊢
   obtain⟨l1,l2,e2⟩:=List.append_of_mem (g2 _ List.mem_cons_self)
   rw[e2]
   refine⟨l1++l2,List.perm_middle,fun o ho hno=>?_⟩
   rcases List.mem_append.1 ho with ho|ho
   ·exact List.mem_append_left _ ho
   ·rcases List.mem_cons.1 ho with rfl|ho
    ·exact absurd rfl (hno _ List.mem_cons_self)
    ·exact List.mem_append_right _ ho
 obtain⟨rest,h5,h6⟩:=hp
 refine ch_callO (M:=B) (rest:=rest) hy h7 h5 (hF G (ρ nm) vs B r.gb hB.weak h8) hd (fun v own1 G' hG hK a' w' rl=>?_) a w Q ⟨r.h,r.sz,frA_ok a,r.df⟩
 obtain⟨z,hr,vs',k1,k2,k3,k4⟩:=hK
 have k1':=k1.relo (flM B)
 have e2:lo=true→ ∀o∈own1.map (relo (flM B)),o.lo=true:=fun hl o ho=>by
  obtain⟨o',_,rfl⟩:=List.mem_map.1 ho
  obtain⟨_,_,_,_,hlo⟩:=hB
  exact flM_true _ (hlo hl)
 generalize own1.map (relo (flM B))=B' at rl e2 k1'
 have rl':Rel C n (Sx.put (frA a) (some d) v) (B'++rest) G' a' w':=rl
 have hdis:=(List.pairwise_append.1 rl'.h.nd).2.2
 have r2:=r.dropB nm
 have hnn:nm≠d:=fun e=>by subst e;rw[Nat.beq_refl] at hne;cases hne
 have hf2:FreshX [d] (some d) tl (Sx.upB tb [(nm,none)]):=fun q hq=>by
  obtain⟨f1,f2⟩:=hf q hq
  refine⟨f1,fun k B e1 e=>?_⟩
  simp only[Sx.upB] at e
  split at e
  ·cases e
  ·exact f2 k B e1 e
 have hsep: ∀q B0,Sx.upB tb [(nm,none)] q=some B0→ ∀o∈ov,(ρ q).a=some ⟨o.b,0,none⟩→o∈rest:=fun q B0 e o ho hbq=>by
  simp only[Sx.upB] at e
  split at e
  ·cases e
  ·rename_i hqn
   refine h6 o ho fun o' ho' he=>?_
   exact r.dj nm q _ _ (s2 _ _ hb) e (Ne.symm hqn) o'.b (g1.blk ho') (by rw[hbq,he])
 obtain⟨m,rfl,hm⟩:=is_tp.1 hr
 obtain⟨m1,m2',rfl,c1,c2⟩: ∃m1 m2',m=m1++m2'∧IsLs G' pre m1∧IsLs G' (.v (.slice z.a z.n z.c)::post) m2':=hm.unapp
 obtain⟨u,m2,rfl,c3,c4⟩:=isl_cons.1 c2
 rw[is_v.1 c3] at rl'
 have r3:=r2.new' (x:=z) (B':= .b ty0 s dso lo) (os:=B') (ov':=B'++rest) (f:= .bx true pre d post) (y:= .tuple ⟨m1++Value.slice z.a z.n z.c::m2⟩) hf2 hG.le rl'.h ⟨vs',by simpa using k1',k2,k3,e2⟩ (fun o ho=>List.mem_append_left _ ho)
  (fun q B0 hq e o ho hbq=>⟨List.mem_append_right _ (hsep q B0 e o ho hbq),fun hc=>by
   have hx: ∃o1∈B',o1.b=o.b:=by
    rcases k1' with⟨_,h,_⟩|⟨b0,rest0,lo0,h,hB,_⟩
    ·rw[show z=_ from h] at hc;cases hc
    ·rw[show z=_ from h] at hc;cases hc;exact⟨⟨_,flatL vs'++rest0,_,lo0⟩,by rw[hB];exact List.mem_cons_self,rfl⟩
   obtain⟨o1,ho1,he1⟩:=hx
   exact hdis o1 ho1 o (hsep q B0 e o ho hbq) he1⟩) ⟨m1,m2,by simp,c1,c4⟩ (putA_rel rl')
 exact hk.run _ G' _ a' w' r3
structure CbA where
 f:FuncId
 nm:Nat
 l:List (Option DV)
 ty:TypeId
 s:Nat
 ds:List DV
 lo:Bool
 d:Nat
def calB(fr:FrX)(own:OwX)(cf:Cf):Option CbA:=match opC fr cf with
 |some ⟨some d, .call ⟨.value fo,args,_⟩,_,_,_,_⟩=>match cargB (lkC fr cf) fo args with
  |some (f,nm,l)=>match bkC fr own cf nm with
   |some (.b ty s ds lo)=>bif Nat.beq nm d then none else some ⟨f,nm,l,ty,s,ds,lo,d⟩
   |_=>none
  |none=>none
 |_=>none
theorem cb[fu:Fu]{f:FuncId}{nm d:Nat}{l:List (Option DV)}{ty:TypeId}{s:Nat}{dsi dso pre post:List DV}{lo:Bool}(dso':List DV)(ha:calB fr own cf=some ⟨f,nm,l,ty,s,dsi,lo,d⟩)(hF:PB GB Tryz.prog f (mkB l) s ty dsi (fun w=> .tp (pre++ .v (.slice w.a w.n w.c)::post)) dso)(he:dso=dso')
  (hgo:goA tt n fu.n fr own cf (.bx true pre d post) [(nm,none),(d,some (.b ty s dso' lo))] [d]=⟨vc,fr',own',cf'⟩)(k:CfS Tryz.prog GB C n Q0 fr' own' cf')
  (hv:allP vc:=by first|exact trivial|(simp only[allP];kernel_rfl)|(simp only[allP];omega)|(simp only[allP,List.length_map,List.length_set,List.length_replicate];omega)):CfS Tryz.prog GB C n Q0 fr own cf:=by
 subst he
 unfold calB at ha
 split at ha<;>try (cases ha;done)
 rename_i hh
 split at ha<;>try (cases ha;done)
 rename_i h1
 split at ha<;>try (cases ha;done)
 rename_i h2
 rw[cond_eq_ite] at ha
 split at ha<;>cases ha
 rename_i h3
 exact us hh (ok_callB (by cases hq:Nat.beq nm d with|false=>rfl|true=>exact absurd hq h3) h1 h2 hF) hgo hv k
def args0B:Nat→List (Option DV)→FrX
 |_,[]=>[]
 |i,some v::t=>(i, .d v)::args0B (i+1) t
 |i,none::t=>(i, .rw NM)::args0B (i+1) t
def PBpost(C:Ctx)(s:Nat)(ty:TypeId)(pre post dso:List DV):Ending→World→Prop:=RPostO C (fun v own' G'=> ∃w',Is G' (.tp (pre++ .v (.slice w'.a w'.n w'.c)::post)) v∧BufIs G' ⟨w',s,ty,dso,false⟩ own')
theorem own_rest{B:List Own}{G:Gh}{w:SV}{s:Nat}{ty:TypeId}{ds:List DV}{lo:Bool}{ov:List Own}(h:BufIs G ⟨w,s,ty,ds,lo⟩ B)(g: ∀o∈B,o∈ov): ∃rest,ov.Perm (B++rest):=by
 rcases h with⟨vs',⟨_,_,e⟩|⟨b0,r0,lo0,_,e,_⟩,_⟩
 ·rw[e];exact⟨ov,List.Perm.refl _⟩
 ·rw[e] at g⊢
  obtain⟨l1,l2,e2⟩:=List.append_of_mem (g _ List.mem_cons_self)
  rw[e2]
  exact⟨l1++l2,List.perm_middle⟩
/-! the same with nil as the row of nothing -/
def evBn(lk:LK):List Operand→Option (List (Option DV))
 |[]=>some []
 |x::t=>match evX lk x,evBn lk t with
  |some .nl,some l=>some (none::l)
  |some f,some l=>match toDX f with
   |some d=>some (some d::l)
   |none=>none
  |_,_=>none
def cargN(lk:LK)(fo:Operand)(args:Array Operand):Option (FuncId×List (Option DV)):=match evX lk fo with
 |some (.d (.v (.func (.func f) ⟨[]⟩ ⟨[]⟩)))=>match evBn lk args.toList with
  |some l=>some (f,l)
  |_=>none
 |_=>none
def calBn(fr:FrX)(cf:Cf):Option (FuncId×List (Option DV)×Nat):=match opC fr cf with
 |some ⟨some d, .call ⟨.value fo,args,_⟩,_,_,_,_⟩=>match cargN (lkC fr cf) fo args with
  |some (f,l)=>some (f,l,d)
  |none=>none
 |_=>none
end
end Go.Sx
end

section
set_option maxRecDepth 100000
namespace Go.Sx
open Go Go.Proofs
section
variable {P:Program} {C:Ctx} {n:Nat} {fr:Fr} {own own':List Own} {G:Gh} {Φ:Act→World→Prop}
variable {dst:Option Nat} {t t' ty':TypeId} {pos:String} {af:Array Edge} {gd:Option (Nat×Bool)} {x y:Operand} {e s by_:Nat}
theorem ch_mkR[hT:TySl P t e s by_]{z:Value}[hz:TyZ P e z]{k k':IntKind}{l:Int}(hx:opv fr x=some (.int k 0))(hy:opv fr y=some (.int k' l))(h0:0≤l)(hb:by_*l≤2^47)(hl:l≤2^60)(hs:(cellsL z).length=s)(hd:dstOk n dst=true)
  (h: ∀b,St C n (put fr dst (.slice (some ⟨b,0,none⟩) 0 l.toNat)) (⟨b,zeros z l.toNat,e,true⟩::own) G Φ):
  Ch P C n fr own G ⟨dst, .makeSlice t x y,ty',pos,af,gd⟩ Φ:=by
 intro a w Q rl
 have h1:(Instr.makeSlice t (a.eval x) (a.eval y)).run P w= .ok (.slice (some ⟨w.heap.size,0,none⟩) 0 l.toNat) (w.alloc (.cells ⟨zeros z l.toNat⟩ e)):=by
  obtain⟨i,hi,hib⟩:=run_bytes (P:=P) (t:=t) (e:=e) (s:=s) (by_:=by_) w
  rw[opv_eval rl.fr hx,opv_eval rl.fr hy]
  unfold Instr.makeSlice
  rw[run_ok_bind (hT.u w)]
  simp only[asInt,asIntOf]
  rw[run_ok_bind (a:=0) (w':=w) rfl,run_ok_bind (a:=l) (w':=w) rfl,run_ok_bind hi,hib]
  have hw:IntKind.i64.wrap l=l:=wrap_in (by simp[IntKind.min,IntKind.max,IntKind.signed,IntKind.bits];omega)
  have hw0:IntKind.i64.wrap 0=0:=rfl
  simp only[hw,hw0]
  have c1: ¬((by_:Int)*l>2^48):=by
   have:(2:Int)^47≤2^48:=by decide
   omega
  have c5:decide ((by_:Int)*l>2^48)=false:=decide_eq_false c1
  have c2:decide (l<0)=false:=decide_eq_false (by omega)
  have c4:decide ((0:Int)>l)=false:=by simp;omega
  simp only[c2,c4,c5,Bool.false_or,Int.lt_irrefl,decide_false,Bool.or_false,Bool.false_eq_true,if_false]
  have hr: ¬(l.toNat*by_>roomBytes):=by
   unfold roomBytes
   have:((l.toNat*by_:Nat):Int)=by_*l:=by rw[Int.natCast_mul,Int.toNat_of_nonneg h0,Int.mul_comm]
   have h47:((2^47:Nat):Int)=2^47:=by decide
   omega
  unfold askRoom
  simp only[hr,if_false]
  rw[run_ok_bind (run_pure _ _ _),run_ok_bind (hT.siz w)]
  have hn:l.toNat*s=l.toNat*(cellsL z).length:=by rw[hs]
  by_cases h00:l.toNat*s=0
  ·rw[if_pos h00,run_ok_bind (run_pure _ _ _)]
   have e0:zeros z l.toNat=[]:=List.eq_nil_of_length_eq_zero (by rw[zeros_len,hs];exact h00)
   rw[h00,e0,show(Array.range 0)= #[] from rfl,Array.map_empty]
   rfl
  ·rw[if_neg h00,run_ok_bind (hz.zero w),cells_eq]
   rw[run_ok_bind (run_pure _ _ _),range_zeros hn]
   rfl
 refine ch_value (v:= .slice (some ⟨w.heap.size,0,none⟩) 0 l.toNat) (value_of h1) (h w.heap.size _ _ ((rl.heap (rl.h.alloc _ _)).put _ hd))
def lendG(G:Gh)(ov:List Own):Gh:=fun b=>match G b with
 |some cs=>some cs
 |none=>(ov.find? fun o=>Nat.beq o.b b).map (·.cs)
theorem lend_le{ov:List Own}:GLe G (lendG G ov):=fun b cs h=>by unfold lendG;rw[h]
theorem find_own{o:Own}: ∀{ov:List Own},o∈ov→ov.Pairwise (fun x y=>x.b≠y.b)→ov.find? (fun u=>Nat.beq u.b o.b)=some o
 |u::t,ho,nd=>by
  rcases List.mem_cons.1 ho with rfl|ho
  ·rw[List.find?_cons_of_pos (by simp)]
  ·have:=(List.pairwise_cons.1 nd).1 o ho
   rw[List.find?_cons_of_neg (by simpa using this)]
   exact find_own ho (List.pairwise_cons.1 nd).2
theorem lend_own{ov:List Own}{o:Own}(ho:o∈ov)(hn:G o.b=none)(nd:ov.Pairwise (fun x y=>x.b≠y.b)):lendG G ov o.b=some o.cs:=by
 unfold lendG;rw[hn,find_own ho nd];rfl
theorem HRel.lendSub{ov:List Own}{w:World}(h:HRel C ov G w)(b:Nat)(cs:List Value)(hb:lendG G ov b=some cs): ∃ty fz,w.heap[b]? =some (.cells ⟨cs⟩ ty fz):=by
 unfold lendG at hb
 split at hb
 ·rename_i hg;cases hb;exact h.sub _ _ hg
 ·cases hf:ov.find? (fun o=>Nat.beq o.b b) with
  |none=>rw[hf] at hb;cases hb
  |some o=>
   rw[hf] at hb;cases hb
   have e:o.b=b:=Nat.eq_of_beq_eq_true (by simpa using List.find?_some hf)
   subst e
   exact⟨_,_,(h.hown o (List.mem_of_find?_eq_some hf)).1⟩
theorem HRel.lent{ov:List Own}{G':Gh}{w w':World}(h:HRel C ov G w)(k:HRel ⟨w,lendG G ov,[]⟩ [] G' w'):HRel C ov G w':=by
 have same: ∀b o,w.heap[b]? =some o→w'.heap[b]? =some o:=fun b o hb=>by rw[k.keep b (blk_lt hb) (by simp)];exact hb
 have hsz:w.heap.size≤w'.heap.size:=k.size
 refine⟨k.os.trans h.os,k.tape.trans h.tape,k.output.trans h.output,Nat.le_trans h.size hsz,fun b hb hm=>?_,fun b cs hb=>?_,h.gle,h.gold,fun o ho=>?_,h.nd⟩
 ·have:=h.size;rw[k.keep b (by show b<w.heap.size;omega) (by simp)];exact h.keep b hb hm
 ·obtain⟨ty,fz,h1⟩:=h.sub b cs hb;exact⟨ty,fz,same _ _ h1⟩
 ·obtain⟨h1,h2⟩:=h.hown o ho;exact⟨same _ _ h1,h2⟩
theorem ch_callL{f:FuncId}{fo:Operand}{args:Array Operand}{tys:Array TypeId}{vs:List Value}{K:Value→Gh→Prop}(ho:opv fr fo=some (.func (.func f) #[] #[]))(hv:opvs fr args.toList=some vs)
  (hF:Fn P f vs (lendG G own) K)(hd:dstOk n dst=true)(h: ∀v (G':Gh),K v G'→St C n (put fr dst v) own G Φ):Ch P C n fr own G ⟨dst, .call ⟨.value fo,args,tys⟩,ty',pos,af,gd⟩ Φ:=by
 intro a w Q rl
 have h2:=run_call (c1:=[]) (c2:=[]) (P:=P) (dst:=dst) (ty':=ty') (pos:=pos) (af:=af) (gd:=gd) (tys:=tys) (w:=w) hF.able rl.fr ho hv
 rw[List.nil_append,List.append_nil] at h2
 simp only[Oper.wp,h2,Oper.upon]
 refine(hF.run w rl.h.lendSub).mono ?_
 rintro e w' ⟨v,G',rfl,hh,hK⟩
 exact h v G' hK _ _ ((rl.heap (rl.h.lent hh)).put _ hd)
end
def DV.np:DV→Bool
 | .v _=>true
 | .tp l=>l.all fun d=>match d with
  | .v _=>true
  |_=>false
 |_=>false
theorem isl_np{A G:Gh}: ∀{l:List DV} {m:List Value},(l.all fun d=>match d with| .v _=>true|_=>false)=true→IsLs A l m→IsLs G l m
 |[],m,_,k=>isl_nil.2 (isl_nil.1 k)
 |d::t,m,h,k=>by
  obtain⟨y,n,rfl,k1,k2⟩:=isl_cons.1 k
  simp only[List.all_cons,Bool.and_eq_true] at h
  refine .cons ?_ (isl_np h.2 k2)
  cases d with
  |v x=>exact is_v.2 (is_v.1 k1)
  |_=>simp at h
theorem Is.np{A G:Gh}{d:DV}{y:Value}(h:d.np=true)(k:Is A d y):Is G d y:=by
 cases d with
 |v x=>exact is_v.2 (is_v.1 k)
 |tp l=>obtain⟨m,e,k⟩:=is_tp.1 k;exact is_tp.2 ⟨m,e,isl_np h k⟩
 |_=>cases h
section
variable {GB:Gh} {C:Ctx} {n:Nat} {Q0:Exit→Act→World→Prop} {fr fr':FrX} {own own':OwX} {cf cf':Cf} {vc:List Prop} {lk:LK} {bk:BM} {ρ:NE} {G:Gh} {ov:List Own} {a:Act} {w:World}
variable {dst:Option Nat} {t t' ty':TypeId} {pos:String} {af:Array Edge} {gd:Option (Nat×Bool)} {x y:Operand} {e s by_:Nat}
/-! ### rows lent -/
def rowDs:Option Bk→Option (List DV)
 |some (.b _ _ ds _)=>some ds
 |some (.c _ _ ds _)=>some ds
 |_=>none
def evL1(lk:LK)(bk:BM)(x:Operand):Option DV:=match evX lk x with
 |some (.rw nm)=>match rowDs (bk nm) with
  |some ds=>some (.sl ds)
  |none=>none
 |some f=>toDX f
 |none=>none
def evLs(lk:LK)(bk:BM):List Operand→Option (List DV)
 |[]=>some []
 |x::t=>match evL1 lk bk x,evLs lk bk t with
  |some d,some l=>some (d::l)
  |_,_=>none
theorem evL1_ok(r:RlX GB C n lk bk ρ G ov a w){d:DV}(h:evL1 lk bk x=some d): ∃y,opv (frA a) x=some y∧Is (lendG G ov) d y:=by
 unfold evL1 at h
 split at h
 ·rename_i nm h1
  obtain⟨y,h2,h3⟩:=r.ev h1
  cases (show y=_ from h3)
  refine⟨_,h2,?_⟩
  split at h<;>cases h
  rename_i ds hr
  obtain⟨ty,s,vs,B,hB,hv,hs,hBo⟩: ∃ty s vs B,Buf s ty (ρ nm) vs B∧IsLs G ds vs∧(∀v∈vs,(cellsL v).length=s)∧ ∀o∈B,o∈ov:=by
   unfold rowDs at hr
   split at hr<;>cases hr
   ·rename_i hb;obtain⟨B,⟨vs,h4,h5,h6,_⟩,h7⟩:=r.bx _ _ hb;exact⟨_,_,vs,B,h4,h5,h6,h7⟩
   ·rename_i hb;obtain⟨B,⟨vs,h4,h5,h6,_⟩,h7⟩:=r.bx _ _ hb;exact⟨_,_,vs,B,h4,h5,h6,h7⟩
  rcases hB with⟨e1,e2,e3⟩|⟨b,rest,lo',e2,e3,h5,h6,h7⟩
  ·subst e1
   have ed:ds=[]:=List.eq_nil_of_length_eq_zero (by rw[←hv.len];rfl)
   subst ed
   rw[e2]
   exact is_sl.2 ⟨0,⟨none,0,0⟩,[],rfl, .nil _ 0, .nil⟩
  ·subst e3
   have ho:=hBo _ List.mem_cons_self
   have hg:=lend_own ho (r.h.hown _ ho).2.1 r.h.nd
   rw[e2]
   exact is_sl.2 ⟨s,⟨some ⟨b,0,none⟩,vs.length,_⟩,vs,rfl,IsSl.of_flat hs hg h7,hv.up lend_le⟩
 ·rename_i h1
  obtain⟨y,h2,h3⟩:=r.ev h1
  exact⟨y,h2,(toDX_is h3 h).up lend_le⟩
 ·cases h
theorem evLs_ok(r:RlX GB C n lk bk ρ G ov a w): ∀{l:List Operand} {ds:List DV},evLs lk bk l=some ds→ ∃vs,opvs (frA a) l=some vs∧IsLs (lendG G ov) ds vs
 |[],ds,e=>by cases e;exact⟨[],rfl, .nil⟩
 |x::t,ds,e=>by
  simp only[evLs] at e
  split at e<;>cases e
  rename_i h1 h2
  obtain⟨y,h3,h4⟩:=evL1_ok r h1
  obtain⟨vs,h5,h6⟩:=evLs_ok r h2
  exact⟨y::vs,by simp only[opvs,h3,h5], .cons h4 h6⟩
def cargL(lk:LK)(bk:BM)(fo:Operand)(args:Array Operand):Option (FuncId×List DV):=match evX lk fo with
 |some (.d (.v (.func (.func f) ⟨[]⟩ ⟨[]⟩)))=>match evLs lk bk args.toList with
  |some ds=>some (f,ds)
  |none=>none
 |_=>none
theorem ok_callL{fo:Operand}{args:Array Operand}{tys:Array TypeId}{f:FuncId}{ds:List DV}{rv:DV}(ha:cargL lk bk fo args=some (f,ds))(hnp:rv.np=true)(hF:PF GB Tryz.prog f ds rv):OpR Tryz.prog GB C n lk bk ⟨dst, .call ⟨.value fo,args,tys⟩,ty',pos,af,gd⟩ (.d rv) [] []:=by
 intro hd tl tb K' s1 s2 hf hk
 refine⟨fun ρ G ov a w r Q=>?_⟩
 have r1:=r.mono s1 s2
 unfold cargL at ha
 split at ha<;>try (cases ha;done)
 rename_i h1
 split at ha<;>cases ha
 rename_i h2
 obtain⟨y,hy,hy'⟩:=r1.ev h1
 rw[(is_v (G:=G)).1 hy'] at hy
 obtain⟨vs,h3,h4⟩:=evLs_ok r1 h2
 refine ch_callL hy h3 (hF _ vs (r.gb.trans lend_le) h4) hd (fun v G' hK a' w' rl=>?_) a w Q ⟨r.h,r.sz,frA_ok a,r.df⟩
 exact hk.run ρ G ov a' w' ⟨r.gb,rl.h,rl.sz,rl.df,(putA_rel rl).fx (fun k g _ e=>r.fx k g e) (Is.np hnp hK),r.bx,r.dj⟩
def calL(fr:FrX)(own:OwX)(cf:Cf):Option (FuncId×List DV):=match opC fr cf with
 |some ⟨_, .call ⟨.value fo,args,_⟩,_,_,_,_⟩=>cargL (lkC fr cf) (bkC fr own cf) fo args
 |_=>none
theorem cL[fu:Fu]{f:FuncId}{ds:List DV}{rv:DV}(ha:calL fr own cf=some (f,ds))(hF:PF GB Tryz.prog f ds rv)(hnp:rv.np=true)(hgo:goA tt n fu.n fr own cf (.d rv) [] []=⟨vc,fr',own',cf'⟩)(k:CfS Tryz.prog GB C n Q0 fr' own' cf')
  (hv:allP vc:=by first|exact trivial|(simp only[allP];kernel_rfl)|(simp only[allP];omega)):CfS Tryz.prog GB C n Q0 fr own cf:=by
 unfold calL at ha
 split at ha<;>try (cases ha;done)
 rename_i hh
 exact us hh (ok_callL ha hnp hF) hgo hv k
/-! ### rows with room -/
theorem ok_mkc{d cap:Nat}{i:TI}{z:DV}{k k':IntKind}[hT:TySl Tryz.prog t e s by_](hi:tiOf Tryz.prog e=some i)(hz:zeE i=some z)(hs:Nat.beq z.cells.length s=true)(hx:evX lk x=some (.d (.v (.int k 0))))(hy:evX lk y=some (.d (.v (.int k' (cap:Nat)))))(hb:by_*cap≤140737488355328)(hl:cap≤1152921504606846976):
  OpR Tryz.prog GB C n lk bk ⟨some d, .makeSlice t x y,ty',pos,af,gd⟩ (.rw d) [(d,some (.c e s [] cap))] [d]:=by
 intro hd tl tb K s1 s2 hf hk
 refine⟨fun ρ G ov a w r Q=>?_⟩
 obtain⟨v,hz1,hz2,hz3⟩:=zeE_ok hi hz
 obtain⟨q1,p1,p2⟩:=(r.mono s1 s2).ev hx
 obtain⟨q2,p3,p4⟩:=(r.mono s1 s2).ev hy
 rw[isX_int] at p2 p4;subst p2 p4
 have c1:=((hz2 G).cells hz3).1.len
 replace hs:=Nat.eq_of_beq_eq_true hs
 refine ch_mkR p1 p3 (by omega) (by have:((by_*cap:Nat):Int)=by_*cap:=Int.natCast_mul ..;omega) (by omega) (by rw[c1,hs]) hd (fun b a' w' rl=>?_) a w Q ⟨r.h,r.sz,frA_ok a,r.df⟩
 rw[Int.toNat_natCast] at rl
 have hnd:=(List.pairwise_cons.1 rl.h.nd).1
 refine hk.run _ _ _ a' w' (r.new' (x:=⟨some ⟨b,0,none⟩,0,cap⟩) (B':= .c e s [] cap) (os:=[⟨b,zeros v cap,e,true⟩]) (f:= .rw d) (y:= .slice (some ⟨b,0,none⟩) 0 cap) hf (GLe.refl _) rl.h ⟨[], .inr ⟨b,zeros v cap,true,by simp,rfl,by simp[flatL],?_,by simp⟩, .nil,by simp,fun o ho=>by rw[List.mem_singleton.1 ho],by simp⟩
  (fun o ho=>by rw[List.mem_singleton.1 ho];exact List.mem_cons_self) (fun m B' _ _ o ho _=>⟨List.mem_cons_of_mem _ ho,fun e'=>by cases e';exact hnd o ho rfl⟩) (by show _=_;simp) (putA_rel rl))
 rw[zeros_len,c1,hs];simp[flatL]
theorem ok_apc{d nm cap:Nat}{ds ds2:List DV}[hT:TySl Tryz.prog t e s by_][hN:TyN Tryz.prog t'](hx:evX lk x=some (.rw nm))(hb:bk nm=some (.c e s ds cap))(hy:srcX lk bk s y=some ds2)(hk2:slOk s ds2)(hc:ds.length+ds2.length≤cap)(hp:0<ds2.length)(hnd:Nat.beq nm d=false):
  OpR Tryz.prog GB C n lk bk ⟨some d, .call ⟨.builtin .append, #[x,y], #[t,t']⟩,ty',pos,af,gd⟩ (.rw d) [(nm,none),(d,some (.c e s (ds++ds2) cap))] [d]:=by
 intro hd tl tb K s1 s2 hf hk
 refine⟨fun ρ G ov a w r Q=>?_⟩
 have r1:=r.mono s1 s2
 have hne:nm≠d:=fun e=>by subst e;simp at hnd
 obtain⟨u,hx',hx2⟩:=r1.ev hx
 cases hx2
 obtain⟨B,⟨vs,hB,hv,hvs,hlo,hcap⟩,hBo⟩:=r1.bx _ _ hb
 obtain⟨w2,us,hy',h2,h3,h4,h5,h6⟩:=src_ok (P:=Tryz.prog) (C:=C) r1 hy hk2
 have hus:(flatL us).length=us.length*s:=flatL_len us h4
 have hl1:=hv.len
 have hl2:=h3.len
 have rd:=r.dropB nm
 have hf':FreshX [d] (some d) tl (Sx.upB tb [(nm,none)]):=fun m hm=>by
  obtain⟨g1,g2⟩:=hf m hm
  refine⟨g1,fun k B' hk e=>g2 k B' hk ?_⟩
  simp only[Sx.upB] at e
  split at e
  ·cases e
  ·exact e
 rcases hB with⟨e1,e2,e3⟩|⟨b,rest,lo',k3,k4,k5,k6,k7⟩
 ·rw[e2] at hcap;simp at hcap;omega
 subst k4
 have hl':=hlo _ List.mem_cons_self
 simp only at hl';subst hl'
 have ha:(ρ nm).a=some ⟨b,0,none⟩:=by rw[k3]
 have hn:(ρ nm).n=vs.length:=by rw[k3]
 rw[ha,hn] at hx'
 rw[h2] at hy' h6
 have hin:=hBo _ List.mem_cons_self
 obtain⟨l1,l2,e5⟩:=List.append_of_mem hin
 have hperm:ov.Perm (⟨b,flatL vs++rest,e,true⟩::(l1++l2)):=by rw[e5];exact List.perm_middle
 have hall: ∀v∈vs++us,(cellsL v).length=s:=fun v hv=>by
  rcases List.mem_append.1 hv with hv|hv
  ·exact hvs v hv
  ·exact h4 v hv
 have hcs:(flatL vs++rest).length=(ρ nm).c*s:=by rw[List.length_append];exact k6
 have hroom:vs.length+us.length≤(ρ nm).c:=by omega
 have hmul:(vs.length+us.length)*s≤(ρ nm).c*s:=Nat.mul_le_mul_right _ hroom
 rw[Nat.add_mul] at hmul
 have hrest:us.length*s≤rest.length:=by rw[k5] at k6;omega
 have hovw:ovw (flatL vs++rest) (vs.length*s) (flatL us)=flatL (vs++us)++rest.drop (us.length*s):=by
  rw[ovw_spec _ _ _ (by rw[hus,List.length_append];omega),flatL_app,←k5]
  simp[hus,List.drop_append,List.append_assoc]
 refine ch_append_room (P:=Tryz.prog) (own:=⟨b,flatL vs++rest,e,true⟩::(l1++l2)) (m:=us.length) (ys:=flatL us) hx' hy' (.hd ..) hcs (fun w hh=>h6 w (hh.perm hperm.symm)) hus h5 hroom hd (fun a' w' rl=>?_) a w Q ⟨r.h.perm hperm,r.sz,frA_ok a,r.df⟩
 rw[hovw] at rl
 have hnd':=(List.pairwise_cons.1 rl.h.nd).1
 refine hk.run _ _ _ a' w' (rd.new' (x:=⟨some ⟨b,0,none⟩,vs.length+us.length,(ρ nm).c⟩) (B':= .c e s (ds++ds2) cap) (os:=[⟨b,flatL (vs++us)++rest.drop (us.length*s),e,true⟩]) (f:= .rw d) (y:= .slice (some ⟨b,0,none⟩) (vs.length+us.length) (ρ nm).c) hf' (GLe.refl _) rl.h
  ⟨vs++us, .inr ⟨b,rest.drop (us.length*s),true,by simp,rfl,flatL_len _ hall,?_,by simpa using hroom⟩,hv.app h3,hall,fun o ho=>by rw[List.mem_singleton.1 ho],by simpa using hcap⟩ (fun o ho=>by rw[List.mem_singleton.1 ho];exact List.mem_cons_self)
  (fun m B' hm e' o ho hmo=>?_) (by show _=_;simp) (putA_rel rl))
 ·rw[flatL_len _ hall,List.length_append,List.length_drop,Nat.add_mul]
  simp only[if_true]
  rw[k5] at k6;omega
 ·have hmn:m≠nm∧tb m=some B':=by
   simp only[Sx.upB] at e'
   split at e'
   ·cases e'
   ·exact⟨by assumption,e'⟩
  have hob:o.b≠b:=fun e6=>r.dj m nm B' _ hmn.2 (s2 _ _ hb) hmn.1 b (by rw[hmo,e6]) ha
  refine⟨?_,fun e6=>by cases e6;exact hob rfl⟩
  rcases List.mem_cons.1 (hperm.mem_iff.1 ho) with rfl|ho
  ·exact absurd rfl hob
  ·exact List.mem_cons_of_mem _ ho
end
end Go.Sx
end

section
set_option maxRecDepth 100000
namespace Go.Sx
open Go Go.Proofs
section
variable {GB:Gh} {C:Ctx} {n:Nat} {Q0:Exit→Act→World→Prop} {fr fr':FrX} {own own':OwX} {cf cf':Cf} {vc:List Prop}
theorem mkc[fu:Fu]{d e s b:Nat}{z:DV}{k':IntKind}(cap:Nat)(h:mkA fr cf=some ⟨d,e,s,b,z,0⟩)(hy:(match opC fr cf with|some ⟨_, .makeSlice _ _ y,_,_,_,_⟩=>evX (lkC fr cf) y|_=>none)=some (.d (.v (.int k' (cap:Nat)))))
  (hgo:goA tt n fu.n fr own cf (.rw d) [(d,some (.c e s [] cap))] [d]=⟨vc,fr',own',cf'⟩)(k:CfS Tryz.prog GB C n Q0 fr' own' cf')(hb:b*cap≤140737488355328:=by omega)(hl:cap≤1152921504606846976:=by omega)
  (hv:allP vc:=by first|exact trivial|(simp only[allP];kernel_rfl)|(simp only[allP];omega)):CfS Tryz.prog GB C n Q0 fr own cf:=by
 unfold mkA at h
 split at h<;>try (cases h;done)
 rename_i hh
 split at h<;>try (cases h;done)
 rename_i hx
 split at h<;>try (cases h;done)
 rename_i hT
 split at h<;>try (cases h;done)
 rename_i hi
 split at h<;>try (cases h;done)
 rename_i hz
 rw[cond_eq_ite] at h
 split at h<;>cases h
 rename_i hs
 rw[hh] at hy
 have:=ti_sl (tt_ok _ _ hT) rfl
 exact us hh (ok_mkc (tt_ok _ _ hi) hz hs hx hy hb hl) hgo hv k
structure ApcA where
 d:Nat
 nm:Nat
 e:Nat
 s:Nat
 ds:List DV
 ds2:List DV
 cap:Nat
def apcA(fr:FrX)(own:OwX)(cf:Cf):Option ApcA:=match opC fr cf with
 |some ⟨some d, .call ⟨.builtin .append,⟨[x,y]⟩,⟨[t,t']⟩⟩,_,_,_,_⟩=>match lookT tt t,lookT tt t' with
  |some ⟨.sl e s _,_,_,_⟩,some ⟨.sl _ _ _,_,_,_⟩=>match evX (lkC fr cf) x with
   |some (.rw nm)=>match bkC fr own cf nm,srcX (lkC fr cf) (bkC fr own cf) s y with
    |some (.c e' s' ds cap),some ds2=>bif (Nat.beq e' e&&Nat.beq s' s)&&!Nat.beq nm d then some ⟨d,nm,e,s,ds,ds2,cap⟩ else none
    |_,_=>none
   |_=>none
  |_,_=>none
 |_=>none
theorem apc[fu:Fu]{d nm e s cap:Nat}{ds ds2:List DV}(ds':List DV)(h:apcA fr own cf=some ⟨d,nm,e,s,ds,ds2,cap⟩)(hds:ds++ds2=ds')(ho2:slOk s ds2)(hc:ds.length+ds2.length≤cap)(hgo:goA tt n fu.n fr own cf (.rw d) [(nm,none),(d,some (.c e s ds' cap))] [d]=⟨vc,fr',own',cf'⟩)(k:CfS Tryz.prog GB C n Q0 fr' own' cf')
  (hp:0<ds2.length:=by simp)(hv:allP vc:=by first|exact trivial|(simp only[allP];kernel_rfl)|(simp only[allP];omega)):CfS Tryz.prog GB C n Q0 fr own cf:=by
 subst hds
 unfold apcA at h
 split at h<;>try (cases h;done)
 rename_i hh
 split at h<;>try (cases h;done)
 rename_i hT hT'
 split at h<;>try (cases h;done)
 rename_i hx
 split at h<;>try (cases h;done)
 rename_i hb hy
 rw[cond_eq_ite] at h
 split at h<;>cases h
 rename_i h2
 simp only[Bool.and_eq_true,Bool.not_eq_true'] at h2
 cases Nat.eq_of_beq_eq_true h2.1.1
 cases Nat.eq_of_beq_eq_true h2.1.2
 have:=ti_sl (tt_ok _ _ hT) rfl
 have hN:TyN Tryz.prog _:=⟨_,(ti_sl (tt_ok _ _ hT') rfl).un⟩
 exact us hh (ok_apc hx hb hy ho2 hc hp h2.2) hgo hv k
def PI(GB:Gh)(P:Program)(f:FuncId)(i:Int)(s:Nat)(ty ty2:TypeId)(ds:List DV)(x:DV)(cap:Nat)(dso:List DV):Prop:=
 ∀G w w2 B B2,GLe GB G→BufIs G ⟨w,s,ty,ds,false⟩ B→cap≤w.c→BufIs G ⟨w2,s,ty2,[x],false⟩ B2→FnO P f [.slice w.a w.n w.c, .int .i64 i, .slice w2.a w2.n w2.c] (B++B2) G fun v own' G'=> ∃w',v= .slice w'.a w'.n w'.c∧BufIs G' ⟨w',s,ty,dso,false⟩ own'
structure CiA where
 f:FuncId
 nm:Nat
 nm2:Nat
 i:Int
 ty:TypeId
 ty2:TypeId
 s:Nat
 ds:List DV
 x:DV
 cap:Nat
 d:Nat
def calI(fr:FrX)(own:OwX)(cf:Cf):Option CiA:=match opC fr cf with
 |some ⟨some d, .call ⟨.value fo,⟨[x1,x2,x3]⟩,_⟩,_,_,_,_⟩=>match evX (lkC fr cf) fo,evX (lkC fr cf) x1 with
  |some (.d (.v (.func (.func f) ⟨[]⟩ ⟨[]⟩))),some (.rw nm)=>match evX (lkC fr cf) x2,evX (lkC fr cf) x3 with
   |some (.d (.v (.int .i64 i))),some (.rw nm2)=>match bkC fr own cf nm,bkC fr own cf nm2 with
    |some (.c ty s ds cap),some (.b ty2 s2 [x] true)=>bif (!Nat.beq nm d&&!Nat.beq nm2 d)&&(!Nat.beq nm nm2&&(Nat.beq s2 s&&Nat.blt 0 cap)) then some ⟨f,nm,nm2,i,ty,ty2,s,ds,x,cap,d⟩ else none
    |_,_=>none
   |_,_=>none
  |_,_=>none
 |_=>none
theorem ok_callI{lk:LK}{bk:BM}{fo x1 x2 x3:Operand}{tys:Array TypeId}{f:FuncId}{nm nm2 d cap s:Nat}{i:Int}{ty0 ty2:TypeId}{ty:TypeId}{pos:String}{af:Array Edge}{gd:Option (Nat×Bool)}{ds dso:List DV}{x:DV}(hne:Nat.beq nm d=false)(hne2:Nat.beq nm2 d=false)(hn2:Nat.beq nm nm2=false)(hcp:0<cap)
  (h0:evX lk fo=some (.d (.v (.func (.func f) ⟨[]⟩ ⟨[]⟩))))(h1:evX lk x1=some (.rw nm))(h2:evX lk x2=some (.d (.v (.int .i64 i))))(h3:evX lk x3=some (.rw nm2))(hb:bk nm=some (.c ty0 s ds cap))(hb2:bk nm2=some (.b ty2 s [x] true))(hF:PI GB Tryz.prog f i s ty0 ty2 ds x cap dso):
  OpR Tryz.prog GB C n lk bk ⟨some d, .call ⟨.value fo,⟨[x1,x2,x3]⟩,tys⟩,ty,pos,af,gd⟩ (.rw d) [(nm,none),(nm2,none),(d,some (.b ty0 s dso true))] [d]:=by
 intro hd tl tb K' s1 s2 hf hk
 refine⟨fun ρ G ov a w r Q=>?_⟩
 have r1:=r.mono s1 s2
 obtain⟨y,hy,hy'⟩:=r1.ev h0
 rw[(is_v (G:=G)).1 hy'] at hy
 obtain⟨y1,p1,p1'⟩:=r1.ev h1
 cases (show y1=_ from p1')
 obtain⟨y2,p2,p2'⟩:=r1.ev h2
 rw[isX_int] at p2';subst p2'
 obtain⟨y3,p3,p3'⟩:=r1.ev h3
 cases (show y3=_ from p3')
 have hnn:nm≠d:=fun e=>by subst e;rw[Nat.beq_refl] at hne;cases hne
 have hnn2:nm2≠d:=fun e=>by subst e;rw[Nat.beq_refl] at hne2;cases hne2
 have hnm:nm≠nm2:=fun e=>by subst e;rw[Nat.beq_refl] at hn2;cases hn2
 obtain⟨B,g1,g2⟩:=r1.bx _ _ hb
 obtain⟨B2,k1,k2⟩:=r1.bx _ _ hb2
 obtain⟨vs,q1,q2,q3,q4,q5⟩:=g1
 have hB:BufIs G ⟨ρ nm,s,ty0,ds,false⟩ B:=⟨vs,q1,q2,q3,fun h=>by cases h⟩
 have hB2:BufIs G ⟨ρ nm2,s,ty2,[x],false⟩ B2:=BufIs.weak (lo:=true) k1
 have e1: ∃o,B=[o]∧(ρ nm).a=some ⟨o.b,0,none⟩:=by
  rcases q1 with⟨_,e,_⟩|⟨b,rest,lo',e,rfl,_⟩
  ·rw[e] at q5;simp at q5;omega
  ·exact⟨_,rfl,by rw[e]⟩
 have e2: ∃o,B2=[o]∧(ρ nm2).a=some ⟨o.b,0,none⟩:=by
  obtain⟨vs2,c1,c2,_⟩:=k1
  rcases c1 with⟨e,_,_⟩|⟨b,rest,lo',e,rfl,_⟩
  ·subst e;have:=c2.len;simp at this
  ·exact⟨_,rfl,by rw[e]⟩
 obtain⟨o1,rfl,a1⟩:=e1
 obtain⟨o2,rfl,a2⟩:=e2
 have hob:o1.b≠o2.b:=fun e=>r.dj nm nm2 _ _ (s2 _ _ hb) (s2 _ _ hb2) hnm _ a1 (by rw[a2,e])
 have hp: ∃rest,ov.Perm ([o1]++[o2]++rest):=by
  obtain⟨l1,l2,e3⟩:=List.append_of_mem (g2 _ List.mem_cons_self)
  have hm:=k2 _ List.mem_cons_self
  rw[e3] at hm⊢
  have hm2:o2∈l1++l2:=by
   rcases List.mem_append.1 hm with h|h
   ·exact List.mem_append_left _ h
   ·rcases List.mem_cons.1 h with h|h
    ·exact absurd (by rw[h]) hob
    ·exact List.mem_append_right _ h
  obtain⟨l3,l4,e4⟩:=List.append_of_mem hm2
  refine⟨l3++l4,List.perm_middle.trans ?_⟩
  rw[e4]
  exact(List.perm_middle (l₁:=l3) (l₂:=l4) (a:=o2)).cons o1
 obtain⟨rest,h5⟩:=hp
 have h6: ∀o∈ov,o.b≠o1.b→o.b≠o2.b→o∈rest:=fun o ho n1 n2=>by
  have:=h5.mem_iff.1 ho
  simp only[List.cons_append,List.nil_append,List.mem_cons] at this
  rcases this with rfl|rfl|h
  ·exact absurd rfl n1
  ·exact absurd rfl n2
  ·exact h
 have hlo2: ∀o∈[o2],o.lo=true:=by obtain⟨_,_,_,_,h⟩:=k1;exact h rfl
 have hall: ∀o∈[o1]++[o2],o.lo=true:=fun o ho=>by
  rcases List.mem_append.1 ho with h|h
  ·exact q4 o h
  ·exact hlo2 o h
 refine ch_callO (M:=[o1]++[o2]) (rest:=rest) (vs:=[.slice (ρ nm).a (ρ nm).n (ρ nm).c, .int .i64 i, .slice (ρ nm2).a (ρ nm2).n (ρ nm2).c]) hy (by simp only[opvs,p1,p2,p3]) h5 (hF G (ρ nm) (ρ nm2) [o1] [o2] r.gb hB q5 hB2) hd (fun v own1 G' hG hK a' w' rl=>?_) a w Q ⟨r.h,r.sz,frA_ok a,r.df⟩
 obtain⟨z,rfl,vs',k1',k2',k3',k4'⟩:=hK
 have hs1:=k1'.relo (flM ([o1]++[o2]))
 have e3: ∀o∈own1.map (relo (flM ([o1]++[o2]))),o.lo=true:=fun o ho=>by
  obtain⟨o',_,rfl⟩:=List.mem_map.1 ho
  exact flM_true _ hall
 generalize own1.map (relo (flM ([o1]++[o2])))=B' at rl e3 hs1
 have rl':Rel C n (Sx.put (frA a) (some d) (.slice z.a z.n z.c)) (B'++rest) G' a' w':=rl
 have hdis:=(List.pairwise_append.1 rl'.h.nd).2.2
 have rd:=(r.dropB nm).dropB nm2
 have hin: ∀q B0,Sx.upB (Sx.upB tb [(nm,none)]) [(nm2,none)] q=some B0→q≠nm∧q≠nm2∧tb q=some B0:=fun q B0 e=>by
  simp only[Sx.upB] at e
  split at e
  ·cases e
  ·split at e
   ·cases e
   ·exact⟨by assumption,by assumption,e⟩
 have hf2:FreshX [d] (some d) tl (Sx.upB (Sx.upB tb [(nm,none)]) [(nm2,none)]):=fun q hq=>by
  obtain⟨f1,f2⟩:=hf q hq
  exact⟨f1,fun k B e1 e=>f2 k B e1 (hin k B e).2.2⟩
 have hsep: ∀q B0,Sx.upB (Sx.upB tb [(nm,none)]) [(nm2,none)] q=some B0→ ∀o∈ov,(ρ q).a=some ⟨o.b,0,none⟩→o∈rest:=fun q B0 e o ho hbq=>by
  obtain⟨n1,n2,n3⟩:=hin q B0 e
  exact h6 o ho (fun e'=>r.dj nm q _ _ (s2 _ _ hb) n3 (Ne.symm n1) _ a1 (by rw[hbq,e'])) (fun e'=>r.dj nm2 q _ _ (s2 _ _ hb2) n3 (Ne.symm n2) _ a2 (by rw[hbq,e']))
 have r3:=rd.new' (x:=z) (B':= .b ty0 s dso true) (os:=B') (ov':=B'++rest) (f:= .rw d) (y:= .slice z.a z.n z.c) hf2 hG.le rl'.h ⟨vs',by simpa using hs1,k2',k3',fun _=>e3⟩ (fun o ho=>List.mem_append_left _ ho)
  (fun q B0 hq e o ho hbq=>⟨List.mem_append_right _ (hsep q B0 e o ho hbq),fun hc=>by
   have hx: ∃o1∈B',o1.b=o.b:=by
    rcases hs1 with⟨_,h,_⟩|⟨b0,rest0,lo0,h,hB,_⟩
    ·rw[show z=_ from h] at hc;cases hc
    ·rw[show z=_ from h] at hc;cases hc;exact⟨⟨_,flatL vs'++rest0,_,lo0⟩,by rw[hB];exact List.mem_cons_self,rfl⟩
   obtain⟨o3,ho3,he3⟩:=hx
   exact hdis o3 ho3 o (hsep q B0 e o ho hbq) he3⟩) (by show _=_;simp) (putA_rel rl')
 exact hk.run _ G' _ a' w' r3
theorem ci[fu:Fu]{f:FuncId}{nm nm2 d cap s:Nat}{i:Int}{ty ty2:TypeId}{ds dso:List DV}{x:DV}(dso':List DV)(ha:calI fr own cf=some ⟨f,nm,nm2,i,ty,ty2,s,ds,x,cap,d⟩)(hF:PI GB Tryz.prog f i s ty ty2 ds x cap dso)(he:dso=dso')
  (hgo:goA tt n fu.n fr own cf (.rw d) [(nm,none),(nm2,none),(d,some (.b ty s dso' true))] [d]=⟨vc,fr',own',cf'⟩)(k:CfS Tryz.prog GB C n Q0 fr' own' cf')
  (hv:allP vc:=by first|exact trivial|(simp only[allP];kernel_rfl)|(simp only[allP];omega)):CfS Tryz.prog GB C n Q0 fr own cf:=by
 subst he
 unfold calI at ha
 split at ha<;>try (cases ha;done)
 rename_i hh
 split at ha<;>try (cases ha;done)
 rename_i h0 h1
 split at ha<;>try (cases ha;done)
 rename_i h2 h3
 split at ha<;>try (cases ha;done)
 rename_i hb hb2
 rw[cond_eq_ite] at ha
 split at ha<;>cases ha
 rename_i hc
 simp only[Bool.and_eq_true,Bool.not_eq_true',Nat.blt_eq] at hc
 obtain⟨⟨c1,c2⟩,c3,c4,c5⟩:=hc
 cases Nat.eq_of_beq_eq_true c4
 exact us hh (ok_callI c1 c2 c3 c5 h0 h1 h2 h3 hb hb2 hF) hgo hv k
theorem kbT(d:Nat){ops:Array Oper}{r:List Oper}{K:List Kt}(hl:lookX fr d=some (.d (.v (.bool true))))(k:CfS Tryz.prog GB C n Q0 ((d, .tt)::fr) own (.ops ops r K)):CfS Tryz.prog GB C n Q0 fr own (.ops ops r K):=lookX_same (g:= .tt) hl (fun _ G _ e=>(is_v (G:=G)).1 e) k
theorem kbF(d:Nat){ops:Array Oper}{r:List Oper}{K:List Kt}(hl:lookX fr d=some (.d (.v (.bool false))))(k:CfS Tryz.prog GB C n Q0 ((d, .ff)::fr) own (.ops ops r K)):CfS Tryz.prog GB C n Q0 fr own (.ops ops r K):=lookX_same (g:= .ff) hl (fun _ G _ e=>(is_v (G:=G)).1 e) k
end
end Go.Sx
end

section
set_option maxRecDepth 100000
namespace Go.Sx
open Go Go.Proofs
section
variable {GB:Gh} {C:Ctx} {n:Nat} {Q0:Exit→Act→World→Prop} {fr fr':FrX} {own own':OwX} {cf cf':Cf} {vc:List Prop}
def xrA(fr:FrX)(cf:Cf):Option (Int×Int):=match opC fr cf with
 |some ⟨_, .binOp .xor _ x y _,_,_,_,_⟩=>match evX (lkC fr cf) x,evX (lkC fr cf) y with
  |some (.d (.v (.int .u32 p))),some (.d (.v (.int .u32 q)))=>some (p,q)
  |_,_=>none
 |_=>none
theorem xr[fu:Fu]{p q:Int}(u:Int)(h:xrA fr cf=some (p,q))(e:(((BitVec.ofInt 32 p^^^BitVec.ofInt 32 q).toNat:Nat):Int)=u)(hgo:goA tt n fu.n fr own cf (.d (.v (.int .u32 u))) [] []=⟨vc,fr',own',cf'⟩)(k:CfS Tryz.prog GB C n Q0 fr' own' cf')
  (hv:allP vc:=by first|exact trivial|(simp only[allP];kernel_rfl)|(simp only[allP];omega)):CfS Tryz.prog GB C n Q0 fr own cf:=by
 unfold xrA at h
 split at h<;>try (cases h;done)
 rename_i hh
 split at h<;>cases h
 rename_i h1 h2
 subst e
 exact us hh (.yd fun ρ G ov a w r=>by
  obtain⟨y1,h3,h4⟩:=r.ev h1
  obtain⟨y2,h5,h6⟩:=r.ev h2
  rw[isX_int] at h4 h6;subst h4 h6
  exact⟨_,isX_int.2 rfl,yd_int h3 h5 fun w=>by
   show(pure (Value.int .u32 (IntKind.u32.wrap ((BitVec.ofInt 32 p^^^BitVec.ofInt 32 q).toNat:Int))):Sem Value).run Tryz.prog w=_
   rw[wrapB32];rfl⟩) hgo hv k
def swA(fr:FrX)(cf:Cf):Option (Int×Int):=match opC fr cf with
 |some ⟨_, .binOp .sub _ x y _,_,_,_,_⟩=>match evX (lkC fr cf) x,evX (lkC fr cf) y with
  |some (.d (.v (.int .u32 p))),some (.d (.v (.int .u32 q)))=>some (p,q)
  |_,_=>none
 |_=>none
theorem sw[fu:Fu]{p q:Int}(u:Int)(h:swA fr cf=some (p,q))(e:(p-q)%4294967296=u)(hgo:goA tt n fu.n fr own cf (.d (.v (.int .u32 u))) [] []=⟨vc,fr',own',cf'⟩)(k:CfS Tryz.prog GB C n Q0 fr' own' cf')
  (hv:allP vc:=by first|exact trivial|(simp only[allP];kernel_rfl)|(simp only[allP];omega)):CfS Tryz.prog GB C n Q0 fr own cf:=by
 unfold swA at h
 split at h<;>try (cases h;done)
 rename_i hh
 split at h<;>cases h
 rename_i h1 h2
 subst e
 exact us hh (.yd fun ρ G ov a w r=>by
  obtain⟨y1,h3,h4⟩:=r.ev h1
  obtain⟨y2,h5,h6⟩:=r.ev h2
  rw[isX_int] at h4 h6;subst h4 h6
  exact⟨_,isX_int.2 rfl,by rw[←wrap_u32];exact yd_subw h3 h5⟩) hgo hv k
def ntA(fr:FrX)(cf:Cf):Option Int:=match opC fr cf with
 |some ⟨_, .unOp .xor _ x,_,_,_,_⟩=>match evX (lkC fr cf) x with
  |some (.d (.v (.int .u32 p)))=>some p
  |_=>none
 |_=>none
theorem nt[fu:Fu]{p:Int}(u:Int)(h:ntA fr cf=some p)(e:(((BitVec.ofInt 32 IntKind.u32.max^^^BitVec.ofInt 32 p).toNat:Nat):Int)=u)(hgo:goA tt n fu.n fr own cf (.d (.v (.int .u32 u))) [] []=⟨vc,fr',own',cf'⟩)(k:CfS Tryz.prog GB C n Q0 fr' own' cf')
  (hv:allP vc:=by first|exact trivial|(simp only[allP];kernel_rfl)|(simp only[allP];omega)):CfS Tryz.prog GB C n Q0 fr own cf:=by
 unfold ntA at h
 split at h<;>try (cases h;done)
 rename_i hh
 split at h<;>cases h
 rename_i hx
 subst e
 refine us hh (.x1 hx fun ρ G ov a w y _ r h1 h2=>?_) hgo hv k
 rw[isX_int] at h2;subst h2
 refine⟨_,isX_int.2 rfl,fun a w hf hh=>?_⟩
 simp only[execOp,opv_eval hf h1]
 refine value_of (w':=w) ?_
 show(pure (Value.int .u32 (IntKind.u32.wrap ((BitVec.ofInt 32 IntKind.u32.max^^^BitVec.ofInt 32 p).toNat:Int))):Sem Value).run Tryz.prog w=_
 rw[wrapB32];rfl
end
end Go.Sx
end

section
set_option maxRecDepth 100000
namespace Go.Sx
open Go Go.Proofs
theorem isNilS(G:Gh):Is G (.sl []) (.slice none 0 0):=is_sl.2 ⟨0,⟨none,0,0⟩,[],rfl,IsSl.nil G 0, .nil⟩
instance:TyZD Tryz.prog 27 (.agg ⟨[.int .i64 0, .slice none 0 0]⟩) [.v (.int .i64 0), .sl []]:=⟨inferInstance,(.cons ((is_v.2 rfl)) (.cons (isNilS _) .nil))⟩
instance:TyZD Tryz.prog 141 (.agg ⟨[.bool false, .slice none 0 0, .bool false, .slice none 0 0, .bool false, .slice none 0 0, .int .i64 0, .int .i64 0]⟩) [.v (.bool false), .sl [], .v (.bool false), .sl [], .v (.bool false), .sl [], .v (.int .i64 0), .v (.int .i64 0)]:=⟨inferInstance,(.cons ((is_v.2 rfl)) (.cons (isNilS _) (.cons ((is_v.2 rfl)) (.cons (isNilS _) (.cons ((is_v.2 rfl)) (.cons (isNilS _) (.cons ((is_v.2 rfl)) (.cons ((is_v.2 rfl)) .nil))))))))⟩
instance:TyZE Tryz.prog 141 (.ag [.v (.bool false), .sl [], .v (.bool false), .sl [], .v (.bool false), .sl [], .v (.int .i64 0), .v (.int .i64 0)]):=⟨⟨_,inferInstance,is_ag.2 ⟨_,rfl,(.cons ((is_v.2 rfl)) (.cons (isNilS _) (.cons ((is_v.2 rfl)) (.cons (isNilS _) (.cons ((is_v.2 rfl)) (.cons (isNilS _) (.cons ((is_v.2 rfl)) (.cons ((is_v.2 rfl)) .nil))))))))⟩,rfl⟩⟩
end Go.Sx
end

section
set_option maxRecDepth 100000
namespace Go.Sx
open Go
def dU(d:Nat):DV:= .v (.int .u32 (d:Int))
def dLi(ds:List Nat):DV:= .sl (ds.map dU)
def dN(n:Nat):DV:= .sl ((dg n).map dU)
def dD(n:Nat):DV:= .sl (if n=1 then [] else(dg n).map dU)
def eI(m:Int):DV:= .ag [.v (.bool (decide (m<0))),dN m.natAbs]
def eQ(q:Rat):DV:= .ag [.v (.bool (decide (q.num<0))),dN q.num.natAbs,dD q.den]
def eP(p:PtQ):DV:= .ag [.v (.bool (decide (p.x.num<0))),dN p.x.num.natAbs,dD p.x.den, .v (.bool (decide (p.y.num<0))),dN p.y.num.natAbs,dD p.y.den]
def eL(l:LnQ):DV:= .ag [.v (.bool (decide (l.a<0))),dN l.a.natAbs, .v (.bool (decide (l.b<0))),dN l.b.natAbs, .v (.bool (decide (l.c<0))),dN l.c.natAbs]
def eR(q:Rat):DV:= .ag [.v (.bool (decide (q.num<0))),dN q.num.natAbs,dN q.den]
def ePt(p:PtQ):DV:= .ag [.v (.bool (decide (p.x.num<0))),dN p.x.num.natAbs,dN p.x.den, .v (.bool (decide (p.y.num<0))),dN p.y.num.natAbs,dN p.y.den]
def vI(n:Int):DV:= .v (.int .i64 n)
def vB(b:Bool):DV:= .v (.bool b)
theorem dN_dg(n:Nat):dN n=dLi (dg n):=rfl
theorem dL_dv{ds:List Nat}(h:DOk ds):dLi (trimD ds)=dN (dv ds):=by unfold dLi dN;rw[dg_trim h]
theorem mapU_get{ds:List Nat}{i:Nat}(h:i<ds.length):(ds.map dU)[i]? =some (dU (ds.getD i 0)):=by
 rw[List.getElem?_map,List.getElem?_eq_getElem h,List.getD_eq_getElem?_getD,List.getElem?_eq_getElem h];rfl
theorem mapU_getI{ds:List Nat}{i:Nat}(h:i<ds.length):(ds.map dU)[(i:Int).toNat]? =some (dU (ds.getD i 0)):=by rw[Int.toNat_natCast];exact mapU_get h
theorem mapU_set(ds:List Nat)(i d:Nat):(ds.map dU).set i (.v (.int .u32 (d:Int)))=(ds.set i d).map dU:=by rw[List.map_set];rfl
theorem mapU_rep(n:Nat):List.replicate n (DV.v (.int .u32 0))=(List.replicate n 0).map dU:=by rw[List.map_replicate];rfl
theorem slOkU(ds:List Nat):slOk 1 (ds.map dU):=fun d hd=>by
 obtain⟨n,_,rfl⟩:=List.mem_map.1 hd;exact⟨rfl,rfl⟩
theorem dg_lt(n:Nat)(i:Nat):(dg n).getD i 0<4294967296:=(dg_spec n).2.1.get i
theorem dg_zero:dg 0=[]:=by rw[dg,dif_pos rfl]
theorem dg_one:dg 1=[1]:=by rw[dg,dif_neg (by decide)];simp[dg_zero]
theorem dg_len_zero{n:Nat}:(dg n).length=0↔n=0:=by
 constructor
 ·intro h
  have:=(dg_spec n).1
  rw[List.eq_nil_of_length_eq_zero h] at this
  exact this.symm
 ·rintro rfl;rw[dg_zero];rfl
theorem dN_zero:dN 0= .sl []:=by unfold dN;rw[dg_zero];rfl
/-! ### bridges -/
theorem isl_mapU{G:Gh}: ∀{ds:List Nat} {es:List Value},IsLs G (ds.map dU) es↔es=ds.map dI
 |[],es=>isl_nil
 |d::t,es=>by
  rw[List.map_cons,isl_cons]
  constructor
  ·rintro ⟨y,n,rfl,h1,h2⟩
   rw[is_v.1 h1,isl_mapU.1 h2];rfl
  ·rintro rfl
   exact⟨_,_,rfl,is_v.2 rfl,isl_mapU.2 rfl⟩
theorem is_dL{G:Gh}{ds:List Nat}{v:Value}:Is G (dLi ds) v↔ ∃x:SV,v= .slice x.a x.n x.c∧IsSl G 1 x (ds.map dI):=by
 unfold dLi
 rw[is_sl]
 constructor
 ·rintro ⟨s,x,es,rfl,h1,h2⟩
  have:=isl_mapU.1 h2
  subst this
  refine⟨x,rfl,?_⟩
  rcases sl_stride (s:=1) h1 h2 (slOkU ds) with h|h
  ·rw[h] at h1⊢
   exact⟨h1.len,h1.cap, .inl rfl⟩
  ·subst h;exact h1
 ·rintro ⟨x,rfl,h⟩
  exact⟨1,x,_,rfl,h,isl_mapU.2 rfl⟩
theorem is_dN{G:Gh}{n k:Nat}{v:Value}(hk:n<2^k):Is G (dN n) v↔ ∃x:SV,v= .slice x.a x.n x.c∧IsN k G x n:=by
 rw[dN_dg,is_dL]
 constructor
 ·rintro ⟨x,rfl,h⟩
  exact⟨x,rfl,⟨(dg_spec n).2.1,h⟩,hk⟩
 ·rintro ⟨x,rfl,h⟩
  exact⟨x,rfl,h.d.sl⟩
/-! ### spelled otherwise -/
theorem sd_eq(k:Nat){GB:Gh}{C:Ctx}{n:Nat}{fr:FrF}{own:List OwnD}{bs:List BufD}{Φ:Act→World→Prop}{f:FV}(f':FV)(hl:lookF fr k=some f)(e:f=f')(h:SD GB C n E0 ((k,f')::fr) own bs Φ):SD GB C n E0 fr own bs Φ:=
 sd_re k hl rfl (fun G y hy=>e▸hy) h
theorem sd_bh{GB:Gh}{C:Ctx}{n:Nat}{E:Ext}{fr:FrF}{own:List OwnD}{bs:List BufD}{Φ:Act→World→Prop}{w:SV}{s:Nat}{ty:TypeId}{ds:List DV}{lo:Bool}(ds':List DV)(e:ds=ds')(h:SD GB C n E fr own (⟨w,s,ty,ds',lo⟩::bs) Φ):SD GB C n E fr own (⟨w,s,ty,ds,lo⟩::bs) Φ:=e▸h
theorem mapU_getZ{ds:List Nat}{i:Int}{k:Nat}(hi:i=k)(h:k<ds.length):(ds.map dU)[i.toNat]? =some (dU (ds.getD k 0)):=by subst hi;exact mapU_getI h
/-! ### bounds -/
class BN (n:Nat) (k:outParam Nat):Prop where h:n<2^k
class BI (m:Int) (k:outParam Nat):Prop where h:m.natAbs<2^k
class BQ (q:Rat) (k:outParam Nat):Prop where
 hn:q.num.natAbs<2^k
 hd:q.den<2^k
theorem BN.mono{n k k':Nat}(h:BN n k)(hk:k≤k'):BN n k':=⟨Nat.lt_of_lt_of_le h.h (Nat.pow_le_pow_right (by decide) hk)⟩
theorem mul_lt_pow{a b i j:Nat}(h:a<2^i)(k:b<2^j):a*b<2^(i+j):=by rw[Nat.pow_add];exact Nat.mul_lt_mul'' h k
theorem add_lt_pow{a b i j:Nat}(h:a<2^i)(k:b<2^j):a+b<2^(i+j+1):=by
 have h1:2^i≤2^(i+j):=Nat.pow_le_pow_right (by decide) (by omega)
 have h2:2^j≤2^(i+j):=Nat.pow_le_pow_right (by decide) (by omega)
 rw[Nat.pow_succ];omega
instance BN.mul (a b i j:Nat) [h:BN a i] [k:BN b j]:BN (a*b) (i+j):=⟨mul_lt_pow h.h k.h⟩
instance BN.add (a b i j:Nat) [h:BN a i] [k:BN b j]:BN (a+b) (i+j+1):=⟨add_lt_pow h.h k.h⟩
instance BN.sub (a b i:Nat) [h:BN a i]:BN (a-b) i:=⟨by have:=h.h;omega⟩
instance BN.div (a b i:Nat) [h:BN a i]:BN (a/b) i:=⟨Nat.lt_of_le_of_lt (Nat.div_le_self _ _) h.h⟩
instance BN.abs (m:Int) (i:Nat) [h:BI m i]:BN m.natAbs i:=⟨h.h⟩
instance BN.den (q:Rat) (i:Nat) [h:BQ q i]:BN q.den i:=⟨h.hd⟩
theorem gcd_lt'{a b i j:Nat}(h:a<2^i)(k:b<2^j):Nat.gcd a b<2^(i+j):=by
 have h1:2^i≤2^(i+j):=Nat.pow_le_pow_right (by decide) (by omega)
 have h2:2^j≤2^(i+j):=Nat.pow_le_pow_right (by decide) (by omega)
 rcases Nat.eq_zero_or_pos a with h0|h0
 ·subst h0;rw[Nat.gcd_zero_left];omega
 ·have:=Nat.gcd_le_left b h0;omega
instance BN.gcd (a b i j:Nat) [h:BN a i] [k:BN b j]:BN (Nat.gcd a b) (i+j):=⟨gcd_lt' h.h k.h⟩
instance BN.one:BN 1 1:=⟨by decide⟩
instance BN.zero:BN 0 0:=⟨by decide⟩
instance BI.mul (a b:Int) (i j:Nat) [h:BI a i] [k:BI b j]:BI (a*b) (i+j):=⟨by rw[Int.natAbs_mul];exact mul_lt_pow h.h k.h⟩
instance BI.add (a b:Int) (i j:Nat) [h:BI a i] [k:BI b j]:BI (a+b) (i+j+1):=⟨Nat.lt_of_le_of_lt (Int.natAbs_add_le a b) (add_lt_pow h.h k.h)⟩
instance BI.sub (a b:Int) (i j:Nat) [h:BI a i] [k:BI b j]:BI (a-b) (i+j+1):=⟨Nat.lt_of_le_of_lt (Int.natAbs_sub_le a b) (add_lt_pow h.h k.h)⟩
instance BI.neg (a:Int) (i:Nat) [h:BI a i]:BI (-a) i:=⟨by rw[Int.natAbs_neg];exact h.h⟩
instance BI.num (q:Rat) (i:Nat) [h:BQ q i]:BI q.num i:=⟨h.hn⟩
instance BI.nat (n:Nat) (i:Nat) [h:BN n i]:BI (n:Int) i:=⟨by rw[Int.natAbs_natCast];exact h.h⟩
theorem den_pos'(q:Rat):0<q.den:=Nat.pos_of_ne_zero q.den_nz
theorem mkRat_bd{m:Int}{d i:Nat}(hd:0<d)(h:m.natAbs<2^i)(k:d<2^i):BQ (mkRat m d) i:=by
 refine⟨?_,?_⟩
 ·rw[Rat.num_mkRat,if_neg (by omega)]
  have:=Int.natAbs_ediv_le_natAbs m (d.gcd m.natAbs:Nat)
  omega
 ·rw[Rat.den_mkRat,if_neg (by omega)]
  have:=Nat.div_le_self d (d.gcd m.natAbs)
  omega
theorem BQ.mono{q:Rat}{k k':Nat}(h:BQ q k)(hk:k≤k'):BQ q k':=⟨Nat.lt_of_lt_of_le h.hn (Nat.pow_le_pow_right (by decide) hk),Nat.lt_of_lt_of_le h.hd (Nat.pow_le_pow_right (by decide) hk)⟩
theorem rat_mul_mk(p q:Rat):p*q=mkRat (p.num*q.num) (p.den*q.den):=by rw[Rat.mul_def,Rat.normalize_eq_mkRat]
theorem rat_add_mk(p q:Rat):p+q=mkRat (p.num*q.den+q.num*p.den) (p.den*q.den):=by rw[Rat.add_def,Rat.normalize_eq_mkRat]
instance BQ.mul (p q:Rat) (i j:Nat) [h:BQ p i] [k:BQ q j]:BQ (p*q) (i+j):=by
 rw[rat_mul_mk]
 exact mkRat_bd (Nat.mul_pos (den_pos' p) (den_pos' q)) (BI.mul p.num q.num i j).h (mul_lt_pow h.hd k.hd)
instance BQ.add (p q:Rat) (i j:Nat) [h:BQ p i] [k:BQ q j]:BQ (p+q) (i+j+1):=by
 rw[rat_add_mk]
 refine mkRat_bd (Nat.mul_pos (den_pos' p) (den_pos' q)) ?_ ?_
 ·have h1:=mul_lt_pow h.hn k.hd
  have h2:=mul_lt_pow k.hn h.hd
  have h3:(p.num*q.den+q.num*p.den).natAbs≤(p.num*q.den).natAbs+(q.num*p.den).natAbs:=Int.natAbs_add_le ..
  rw[Int.natAbs_mul,Int.natAbs_mul,Int.natAbs_natCast,Int.natAbs_natCast] at h3
  rw[Nat.add_comm j i] at h2
  rw[Nat.pow_succ];omega
 ·have h1:=mul_lt_pow h.hd k.hd
  rw[Nat.pow_succ];omega
instance BQ.neg (p:Rat) (i:Nat) [h:BQ p i]:BQ (-p) i:=⟨by rw[Rat.neg_num,Int.natAbs_neg];exact h.hn,by rw[Rat.neg_den];exact h.hd⟩
instance BQ.sub (p q:Rat) (i j:Nat) [h:BQ p i] [k:BQ q j]:BQ (p-q) (i+j+1):=by
 rw[Rat.sub_eq_add_neg]
 exact BQ.add p (-q) i j
instance BQ.ofInt (m:Int) (i:Nat) [h:BI m i]:BQ (m:Rat) (i+1):=by
 refine⟨?_,?_⟩
 ·rw[Rat.num_intCast];have:=h.h;rw[Nat.pow_succ];omega
 ·rw[Rat.den_intCast];have:0<2^i:=Nat.pow_pos (by decide);rw[Nat.pow_succ];omega
end Go.Sx
end

section
set_option maxRecDepth 100000
namespace Go.Sx
open Go Go.Proofs
def andN(p q:Int):Nat:=(BitVec.ofInt 32 p &&& BitVec.ofInt 32 q).toNat
def orN(p q:Int):Nat:=(BitVec.ofInt 32 p ||| BitVec.ofInt 32 q).toNat
def xorN(p q:Int):Nat:=(BitVec.ofInt 32 p^^^BitVec.ofInt 32 q).toNat
theorem trim_zero{ds:List Nat}{n:Nat}(h:0<n∧n≤ds.length)(hz:ds.getD (n-1) 0=0):trimD (ds.take n)=trimD (ds.take (n-1)):=by
 obtain⟨m,rfl⟩: ∃m,n=m+1:=⟨n-1,by omega⟩
 rw[List.take_succ_eq_append_getElem (by omega),Nat.add_sub_cancel]
 rw[Nat.add_sub_cancel,List.getD_eq_getElem?_getD,List.getElem?_eq_getElem (by omega)] at hz
 simp only[Option.getD_some] at hz
 rw[hz,trimD_snoc0]
theorem trim_stop{ds:List Nat}{n:Nat}(h:n≤ds.length)(hz:0<n→ds.getD (n-1) 0≠0):trimD (ds.take n)=ds.take n:=by
 rcases Nat.eq_zero_or_pos n with h0|h0
 ·subst h0;simp[trimD]
 ·obtain⟨m,rfl⟩: ∃m,n=m+1:=⟨n-1,by omega⟩
  have hz:=hz h0
  rw[List.take_succ_eq_append_getElem (by omega)]
  rw[Nat.add_sub_cancel,List.getD_eq_getElem?_getD,List.getElem?_eq_getElem (by omega)] at hz
  exact trimD_snoc (by simpa using hz)
theorem q_Add32{GB:Gh}{x y c:Nat}(hx:x<4294967296)(hy:y<4294967296)(hc:c≤1):PF GB Tryz.prog 266 [.v (.int .u32 (x:Int)), .v (.int .u32 (y:Int)), .v (.int .u32 (c:Int))] (.tp [.v (.int .u32 (((x+y+c)%4294967296:Nat):Int)), .v (.int .u32 (((x+y+c)/4294967296:Nat):Int))]):=by
 refine fn (hv:=by simp only[allP];exact⟨⟨⟨⟨⟨by omega,by omega⟩,by omega⟩,by omega⟩,by omega⟩,(by decide)⟩) Tryz.func266 J J Tryz.ntmps266 J J (fun C=>?_)
 exact rz rfl (by
  have e1:((x:Int)+y+c)%4294967296=(((x+y+c)%4294967296:Nat):Int):=by omega
  have e2:((x:Int)+y+c).fdiv (2^min (32:Int).toNat IntKind.u64.bits)%4294967296=(((x+y+c)/4294967296:Nat):Int):=by
   rw[show(2:Int)^min (32:Int).toNat IntKind.u64.bits=((4294967296:Nat):Int) from rfl,Int.fdiv_eq_ediv_of_nonneg _ (by decide)]
   omega
  show DV.tp [.v (.int _ _), .v (.int _ _)]=_
  rw[e1,e2])
theorem msb_ofInt(n:Nat)(h:n<4294967296):(BitVec.ofInt 32 (n:Int)).msb=decide (2147483648≤n):=by
 rw[show BitVec.ofInt 32 (n:Int)=BitVec.ofNat 32 n from BitVec.ofInt_natCast ..]
 rw[BitVec.msb_eq_decide,BitVec.toNat_ofNat,Nat.mod_eq_of_lt (by simpa using h)]
theorem toNat_msb(b:BitVec 32):b.toNat/2147483648=if b.msb then 1 else 0:=by
 have:=b.isLt
 rw[BitVec.msb_eq_decide]
 simp only[decide_eq_true_eq,Nat.reduceSub,Nat.reducePow] at*
 split<;>omega
theorem bv_toNat_ofInt(b:BitVec 32):BitVec.ofInt 32 (b.toNat:Int)=b:=by rw[BitVec.ofInt_natCast,BitVec.ofNat_toNat,BitVec.setWidth_eq]
theorem sub_borrow{x y c:Nat}(hx:x<4294967296)(hy:y<4294967296)(hc:c≤1):
  ((orN (andN (xorN IntKind.u32.max x:Nat) y:Nat) (andN (xorN IntKind.u32.max (xorN x y:Nat):Nat) (IntKind.u32.wrap (IntKind.u32.wrap ((x:Int)-y)-c)):Nat):Nat):Int).fdiv (2^min (31:Int).toNat IntKind.u32.bits)=(((if x<y+c then 1 else 0):Nat):Int):=by
 rw[show((2:Int)^min (31:Int).toNat IntKind.u32.bits)=((2147483648:Nat):Int) from rfl,Int.fdiv_eq_ediv_of_nonneg _ (by decide),←Int.natCast_ediv]
 congr 1
 have hd: ∃d:Nat,d<4294967296∧IntKind.u32.wrap (IntKind.u32.wrap ((x:Int)-y)-c)=(d:Int)∧((x≥y+c∧d=x-(y+c))∨(x<y+c∧d=x+4294967296-(y+c))):=by
  rw[wrap_u32,wrap_u32]
  refine⟨((((x:Int)-y)%4294967296-c)%4294967296).toNat,by omega,by omega,by omega⟩
 obtain⟨d,hd1,hd2,hd3⟩:=hd
 rw[hd2]
 unfold orN andN xorN
 simp only[bv_toNat_ofInt]
 rw[toNat_msb]
 simp only[BitVec.msb_or,BitVec.msb_and,BitVec.msb_xor,msb_ofInt x hx,msb_ofInt y hy,msb_ofInt d hd1]
 have h1:(BitVec.ofInt 32 IntKind.u32.max).msb=true:=by decide
 rw[h1]
 rcases Nat.lt_or_ge x 2147483648 with a|a<;>rcases Nat.lt_or_ge y 2147483648 with b|b<;>rcases Nat.lt_or_ge d 2147483648 with e|e<;>
  simp[Nat.not_le.2, *]<;>(first|omega|(split<;>omega))
theorem sub_diff{x y c:Nat}(hx:x<4294967296)(hy:y<4294967296)(hc:c≤1):IntKind.u32.wrap (IntKind.u32.wrap ((x:Int)-y)-c)=(((if x<y+c then x+4294967296-(y+c) else x-(y+c)):Nat):Int):=by
 rw[wrap_u32,wrap_u32]
 split<;>omega
theorem q_Sub32{GB:Gh}{x y c:Nat}(hx:x<4294967296)(hy:y<4294967296)(hc:c≤1):PF GB Tryz.prog 267 [.v (.int .u32 (x:Int)), .v (.int .u32 (y:Int)), .v (.int .u32 (c:Int))] (.tp [.v (.int .u32 (((if x<y+c then x+4294967296-(y+c) else x-(y+c)):Nat):Int)), .v (.int .u32 (((if x<y+c then 1 else 0):Nat):Int))]):=by
 refine fn (fu:=⟨10⟩) Tryz.func267 J J Tryz.ntmps267 J J (fun C=>?_)
 refine sw (fu:=⟨1⟩) _ rfl (wrap_u32 _).symm rfl<|sw (fu:=⟨6⟩) _ rfl (wrap_u32 _).symm rfl<|nt (fu:=⟨4⟩) _ J J J<|xr (fu:=⟨0⟩) _ J J J<|nt _ J J J<|?_
 exact rz rfl (by have h1:=sub_borrow hx hy hc;unfold orN andN xorN at h1;show DV.tp [.v (.int _ _), .v (.int _ _)]=_;rw[h1,sub_diff hx hy hc])
theorem q_Trim{GB:Gh}{ds:List Nat}(hl:ds.length≤1125899906842624):PF GB Tryz.prog 185 [dLi ds] (dLi (trimD ds)):=by
 refine fn Tryz.func185 J J Tryz.ntmps185 J J (fun C=>?_)
 refine lp (X:=Nat) (fun n=>[(0, .d (dLi ds)),(3, .d (vI (n:Nat)))]) (fun n=>[]) (fun n=>n≤ds.length∧trimD ds=trimD (ds.take n)) (fun n=>n) ds.length rfl ⟨Nat.le_refl _,by rw[List.take_length]⟩ (fun _=>rfl) (fun n hk=>?_)
 obtain⟨h1,h2⟩:=hk
 refine cs 8 J J J (fun hg8=>?_) (fun hg8=>?_)
 ·
  refine ix _ rfl (mapU_getZ (k:=n-1) (by omega) (by omega)) rfl<|?_
  refine br J J J (fun hc15=>?_) (fun hc15=>?_)
  ·
   have hz:ds.getD (n-1) 0=0:=by omega
   exact at_ (n-1) ⟨⟨by omega,by rw[h2,trim_zero (by omega) hz]⟩,(by omega)⟩
  ·
   refine sc' 0 n _ J J J J (slOkU _) (by omega) (by simp;omega) rfl<|?_
   exact rz rfl (by have:=trim_stop h1 (fun _ h=>hc15 (by omega));rw[←h2] at this;show DV.sl _=_;simp[dLi,this])
 ·
  refine sc' 0 n _ J J J J (slOkU _) (by omega) (by simp;omega) rfl<|?_
  exact rz rfl (by obtain rfl:n=0:=(by omega);show DV.sl _=_;simp[dLi,h2,trimD])
end Go.Sx
end

section
set_option maxRecDepth 100000
namespace Go.Sx
open Go Go.Proofs
theorem dg_len_bd{a k:Nat}(h:a<2^k)(hk:k≤1000000000):(dg a).length≤100000000:=by have:=dg_len_le h;omega
theorem dv_dg(a:Nat):dv (dg a)=a:=(dg_spec a).1
theorem dg_ok(a:Nat):DOk (dg a):=(dg_spec a).2.1
theorem mapU_len(ds:List Nat):(ds.map dU).length=ds.length:=List.length_map ..
theorem take_all{ds:List Nat}{n:Nat}(h:ds.length≤n):ds.take n=ds:=List.take_of_length_le h
theorem getD_out{ds:List Nat}{i:Nat}(h:ds.length≤i):ds.getD i 0=0:=by
 rw[List.getD_eq_getElem?_getD,List.getElem?_eq_none h];rfl
theorem dL_trim{ds:List Nat}{n:Nat}(h:DOk ds)(e:dv ds=n):dLi (trimD ds)=dN n:=by rw[dL_dv h,e]
theorem cmpN_lt{a b:Nat}(h:a<b):cmpN a b= -1:=by unfold cmpN;rw[if_pos h]
theorem cmpN_gt{a b:Nat}(h:b<a):cmpN a b=1:=by unfold cmpN;rw[if_neg (by omega),if_neg (by omega)]
theorem cmpN_eq{a b:Nat}(h:a=b):cmpN a b=0:=by unfold cmpN;rw[if_neg (by omega),if_pos h]
theorem sign_subN(m n:Nat):Int.sign ((m:Int)-n)=cmpN m n:=by
 unfold cmpN
 split
 ·exact Int.sign_eq_neg_one_of_neg (by omega)
 ·split
  ·rw[show(m:Int)-n=0 by omega];rfl
  ·exact Int.sign_eq_one_of_pos (by omega)
theorem cmpN_len{a b:Nat}(h:(dg a).length≠(dg b).length):cmpN (dg a).length (dg b).length=cmpN a b:=by
 rcases Nat.lt_or_gt_of_ne h with h|h
 ·have:=dv_len_lt (dg_ok a) (dg_spec b).2.2 h
  rw[dv_dg,dv_dg] at this
  rw[cmpN_lt h,cmpN_lt this]
 ·have:=dv_len_lt (dg_ok b) (dg_spec a).2.2 h
  rw[dv_dg,dv_dg] at this
  rw[cmpN_gt h,cmpN_gt this]
theorem cmp_dig{a b i:Nat}(hl:(dg a).length=(dg b).length)(hi:i<(dg a).length)(hs:(dg a).drop (i+1)=(dg b).drop (i+1)):
  ((dg a).getD i 0<(dg b).getD i 0→a<b)∧((dg b).getD i 0<(dg a).getD i 0→b<a)∧((dg a).getD i 0=(dg b).getD i 0→(dg a).drop i=(dg b).drop i):=by
 refine⟨fun h=>?_,fun h=>?_,fun h=>?_⟩
 ·have:=dv_cmp (dg_ok a) (dg_ok b) i hi (by omega) hl hs h
  rwa [dv_dg,dv_dg] at this
 ·have:=dv_cmp (dg_ok b) (dg_ok a) i (by omega) hi hl.symm hs.symm h
  rwa [dv_dg,dv_dg] at this
 ·rw[List.drop_eq_getElem_cons hi,List.drop_eq_getElem_cons (by omega:i<(dg b).length),hs]
  rw[List.getD_eq_getElem?_getD,List.getD_eq_getElem?_getD,List.getElem?_eq_getElem hi,List.getElem?_eq_getElem (by omega:i<(dg b).length)] at h
  simp only[Option.getD_some] at h
  rw[h]
theorem q_sign{GB:Gh}{z:Int}:PF GB Tryz.prog 257 [vI z] (vI z.sign):=by
 refine fn Tryz.func257 J J Tryz.ntmps257 J J (fun C=>?_)
 refine br J J J (fun hc4=>?_) (fun hc4=>?_)
 ·
  exact rz rfl (by show DV.v (.int _ 1)=DV.v (.int _ _);rw[Int.sign_eq_one_of_pos (by omega)])
 ·
  refine br J J J (fun hc6=>?_) (fun hc6=>?_)
  ·
   exact rz rfl (by show DV.v (.int _ (-1))=DV.v (.int _ _);rw[Int.sign_eq_neg_one_of_neg (by omega)])
  ·
   exact rz rfl (by show DV.v (.int _ 0)=DV.v (.int _ _);rw[show z=0 by omega];rfl)
theorem u64_split(u:Nat):dv [u%4294967296,u/4294967296]=u:=by simp only[dv];omega
theorem u64_ok{u:Nat}(h:u<18446744073709551616):DOk [u%4294967296,u/4294967296]:= .cons (by omega) (.cons (by omega) .nil)
theorem fdiv32(u:Nat):(u:Int).fdiv (2^min (32:Int).toNat IntKind.u64.bits)=((u/4294967296:Nat):Int):=by
 rw[show(2:Int)^min (32:Int).toNat IntKind.u64.bits=((4294967296:Nat):Int) from rfl,Int.fdiv_eq_ediv_of_nonneg _ (by decide)];rfl
theorem q_Word{GB:Gh}{u:Nat}(hu:u<18446744073709551616):PF GB Tryz.prog 184 [.v (.int .u64 (u:Int))] (dN u):=by
 refine fn (fu:=⟨11⟩) (hv:=by simp only[allP];exact(by decide)) Tryz.func184 J J Tryz.ntmps184 J J (fun C=>?_)
 refine eqF 6 (.d (.v (.int .u64 (u/4294967296:Nat)))) rfl (by rw[fdiv32]) ?_
 refine gx rfl<|rf (fu:=⟨0⟩) J J<|?_
 refine eqF 8 (.d (dLi [u%4294967296,u/4294967296])) rfl (by show FX.d (.sl [.v (.int _ _), .v (.int _ _)])= .d (.sl [.v (.int _ _), .v (.int _ _)]);congr 6;omega) ?_
 refine gx rfl<|cl rfl (q_Trim (ds:=[u%4294967296,u/4294967296]) (by simp)) rfl<|?_
 exact rz rfl (dL_trim (u64_ok hu) (u64_split u))
theorem q_One{GB:Gh}:PF GB Tryz.prog 186 [] (dN 1):=by
 refine fn Tryz.func186 J J Tryz.ntmps186 J J (fun C=>?_)
 refine rf J J<|?_
 exact rz rfl (by unfold dN;rw[dg_one];rfl)
theorem q_Cmp{GB:Gh}{a b:Nat}(ha:(dg a).length≤100000000)(hb:(dg b).length≤100000000):PF GB Tryz.prog 218 [dN a,dN b] (vI (cmpN a b)):=by
 have hla:=mapU_len (dg a)
 have hlb:=mapU_len (dg b)
 refine fn Tryz.func218 J J Tryz.ntmps218 J J (fun C=>?_)
 refine br J J J (fun hc10=>?_) (fun hc10=>?_)
 ·
  refine cl rfl q_sign rfl<|?_
  exact rz rfl (by show DV.v (.int _ _)=DV.v (.int _ _);rw[hla,hlb,sign_subN,cmpN_len (by omega)])
 ·
  have hl:(dg a).length=(dg b).length:=by omega
  refine lp (X:=Nat) (fun k=>[(0, .d (dN a)),(1, .d (dN b)),(5, .d (vI ((k:Nat)-1)))]) (fun k=>[]) (fun k=>k≤(dg a).length∧(dg a).drop k=(dg b).drop k) (fun k=>k) (dg a).length rfl ⟨Nat.le_refl _,by rw[List.drop_length,hl,List.drop_length]⟩ (fun _=>rfl) (fun k hk=>?_)
  obtain⟨h1,h2⟩:=hk
  refine br J J J (fun hc21=>?_) (fun hc21=>?_)
  ·
   obtain⟨k,rfl⟩: ∃m,k=m+1:=⟨k-1,by omega⟩
   refine ix _ rfl (mapU_getZ (k:=k) (by omega) (by omega)) rfl<|ix _ rfl (mapU_getZ (k:=k) (by omega) (by omega)) rfl<|?_
   refine br J J J (fun hc32=>?_) (fun hc32=>?_)
   ·
    exact rz rfl (by show DV.v (.int _ 1)=DV.v (.int _ _);rw[cmpN_gt ((cmp_dig hl (by omega) h2).2.1 (by omega))])
   ·
    refine ix _ rfl (mapU_getZ (k:=k) (by omega) (by omega)) rfl<|ix _ rfl (mapU_getZ (k:=k) (by omega) (by omega)) rfl<|?_
    refine br J J J (fun hc41=>?_) (fun hc41=>?_)
    ·
     exact rz rfl (by show DV.v (.int _ (-1))=DV.v (.int _ _);rw[cmpN_lt ((cmp_dig hl (by omega) h2).1 (by omega))])
    ·
     exact at_ k ⟨⟨by omega,(cmp_dig (i:=k) hl (by omega) h2).2.2 (by omega)⟩,(by omega)⟩
  ·
   exact rz rfl (by show DV.v (.int _ 0)=DV.v (.int _ _);rw[cmpN_eq];obtain rfl:k=0:=(by omega);rw[List.drop_zero,List.drop_zero] at h2;rw[←dv_dg a,h2,dv_dg])
theorem sum_inv{A B W:List Nat}{i c:Nat}(hi:i<W.length)(h:dv (W.take i)+4294967296^i*c=dv (A.take i)+dv (B.take i)):
  dv ((W.set i ((A.getD i 0+B.getD i 0+c)%4294967296)).take (i+1))+4294967296^(i+1)*((A.getD i 0+B.getD i 0+c)/4294967296)=dv (A.take (i+1))+dv (B.take (i+1)):=by
 rw[dv_set_take hi,dv_take_succ A,dv_take_succ B,Nat.pow_succ,show A.getD i 0+B.getD i 0+c=c+A.getD i 0+B.getD i 0 by omega]
 exact add_step h
theorem sum_end{a b n:Nat}{W:List Nat}{c:Nat}(hn:n=max (dg a).length (dg b).length)(hl:W.length=n+1)(h:dv (W.take n)+4294967296^n*c=dv ((dg a).take n)+dv ((dg b).take n)):dv (W.set n c)=a+b:=by
 have e:=dv_set_take (ws:=W) (k:=n) (d:=c) (by omega)
 rw[take_all (by rw[List.length_set];omega)] at e
 rw[e,h,take_all (by omega),take_all (by omega),dv_dg,dv_dg]
set_option maxHeartbeats 1000000 in
theorem q_Sum{GB:Gh}{a b ia ib:Nat}[ha:BN a ia][hb:BN b ib](hi:ia≤1000000000:=by decide)(hj:ib≤1000000000:=by decide):PF GB Tryz.prog 234 [dN a,dN b] (dN (a+b)):=by
 have hla:=mapU_len (dg a)
 have hlb:=mapU_len (dg b)
 have hba:=dg_len_bd ha.h hi
 have hbb:=dg_len_bd hb.h hj
 refine fn (fu:=⟨12⟩) Tryz.func234 J J Tryz.ntmps234 J J (fun C=>?_)
 obtain⟨n,hn⟩: ∃n,n=max (dg a).length (dg b).length:=⟨_,rfl⟩
 refine eqF 15 (.d (vI (n:Nat))) rfl (by show FX.d (.v (.int _ _))= .d (.v (.int _ _));congr 3;split<;>omega) ?_
 refine gx rfl<|mk ((List.replicate (n+1) 0).map dU) J J (by rw[←mapU_rep];rfl) rfl<|?_
 refine lp (X:=List Nat×Nat×Nat) (fun⟨W,c,i⟩=>[(0, .d (dN a)),(1, .d (dN b)),(5, .d (vI (n:Nat))),(6, .rw 18),(7, .d (.v (.int .u32 (c:Nat)))),(8, .d (vI (i:Nat)))]) (fun⟨W,c,i⟩=>[(18,some (.b 279 1 (W.map dU) true))]) (fun⟨W,c,i⟩=>W.length=n+1∧DOk W∧c≤1∧i≤n∧dv (W.take i)+4294967296^i*c=dv ((dg a).take i)+dv ((dg b).take i)) (fun⟨W,c,i⟩=>n-i) ⟨List.replicate (n+1) 0,0,0⟩ rfl ⟨by simp, .replicate _,by omega,by omega,by simp[dv]⟩ (fun _=>rfl) (fun⟨W,c,i⟩ hk=>?_)
 dsimp only at hk⊢
 obtain⟨h1,h2,h3,h4,h5⟩:=hk
 have hlw:=mapU_len W
 have hda:=dg_lt a i
 have hdb:=dg_lt b i
 refine br (fu1:=⟨11⟩) J J J (fun hc21=>?_) (fun hc21=>?_)
 ·
  refine mg (fu:=⟨1⟩) (X:=Unit) (fun _=>[(0, .d (dN a)),(1, .d (dN b)),(5, .d (vI (n:Nat))),(6, .rw 18),(7, .d (.v (.int .u32 (c:Nat)))),(8, .d (vI (i:Nat))),(9, .d (dU ((dg a).getD i 0))),(10, .d (.v (.int .u32 0)))]) (fun _=>[(18,some (.b 279 1 (W.map dU) true))]) (fun _=>True) [0,1,5,6,7,8,9,10] [18] rfl ?_ (fun _=>rfl) (fun _ hm=>?_)
  ·
   refine gx rfl<|?_
   refine br J J J (fun hc27=>?_) (fun hc27=>?_)
   ·
    refine ix _ rfl (mapU_getI (by omega)) rfl<|?_
    exact at_ () trivial
   ·
    refine eqF 9 (.d (dU ((dg a).getD i 0))) rfl (by rw[getD_out (by omega)];rfl) ?_
    exact at_ () trivial
  ·
   refine mg (X:=Unit) (fun _=>[(0, .d (dN a)),(1, .d (dN b)),(5, .d (vI (n:Nat))),(6, .rw 18),(7, .d (.v (.int .u32 (c:Nat)))),(8, .d (vI (i:Nat))),(9, .d (dU ((dg a).getD i 0))),(10, .d (dU ((dg b).getD i 0)))]) (fun _=>[(18,some (.b 279 1 (W.map dU) true))]) (fun _=>True) [0,1,5,6,7,8,9,10] [18] rfl ?_ (fun _=>rfl) (fun _ hm=>?_)
   ·
    refine gx rfl<|?_
    refine br J J J (fun hc35=>?_) (fun hc35=>?_)
    ·
     refine ix _ rfl (mapU_getI (by omega)) rfl<|?_
     exact at_ () trivial
    ·
     refine eqF 10 (.d (dU ((dg b).getD i 0))) rfl (by rw[getD_out (by omega)];rfl) ?_
     exact at_ () trivial
   ·
    refine cl rfl (q_Add32 (by omega) (by omega) (by omega)) rfl<|sb _ ((W.set i (((dg a).getD i 0+(dg b).getD i 0+c)%4294967296)).map dU) rfl (mapU_getI (by omega)) rfl (by rw[←mapU_set];rfl) rfl<|?_
    exact at_ ⟨W.set i (((dg a).getD i 0+(dg b).getD i 0+c)%4294967296),((dg a).getD i 0+(dg b).getD i 0+c)/4294967296,i+1⟩ (by dsimp only;exact⟨⟨by simpa using h1,h2.set _ (by omega),by omega,by omega,sum_inv (by omega) h5⟩,(by omega)⟩)
 ·
  obtain rfl:i=n:=by omega
  refine sb _ ((W.set i c).map dU) rfl (mapU_getI (by omega)) rfl (by rw[←mapU_set];rfl) rfl<|fz 18 J J<|cl rfl (q_Trim (ds:=W.set i c) (by simp;omega)) rfl<|?_
  exact rz rfl (dL_trim (h2.set _ (by omega)) (sum_end hn h1 h5))
theorem less_inv{A B W:List Nat}{i c d c2:Nat}(hA:DOk A)(hB:DOk B)(hi:i<W.length)(hc:c≤1)(h:dv (W.take i)+dv (B.take i)=dv (A.take i)+4294967296^i*c)
  (hd:d=if A.getD i 0<B.getD i 0+c then A.getD i 0+4294967296-(B.getD i 0+c) else A.getD i 0-(B.getD i 0+c))(hc2:c2=if A.getD i 0<B.getD i 0+c then 1 else 0):
  dv ((W.set i d).take (i+1))+dv (B.take (i+1))=dv (A.take (i+1))+4294967296^(i+1)*c2:=by
 have h1:=hA.get i
 have h2:=hB.get i
 rw[dv_set_take hi,dv_take_succ A,dv_take_succ B,Nat.pow_succ]
 split at hd
 ·rename_i q
  rw[if_pos q] at hc2
  subst hc2 hd
  rw[Nat.add_comm (B.getD i 0) c]
  exact sub_yes h (by omega) (by omega)
 ·rename_i q
  rw[if_neg q] at hc2
  subst hc2 hd
  rw[Nat.add_comm (B.getD i 0) c]
  exact sub_no h (by omega)
theorem less_end{a b c:Nat}{W:List Nat}(hw:DOk W)(hl:W.length=(dg a).length)(hb:b≤a)(h:dv (W.take (dg a).length)+dv ((dg b).take (dg a).length)=dv ((dg a).take (dg a).length)+4294967296^(dg a).length*c):dv W=a-b:=by
 have hlb:(dg b).length≤(dg a).length:=by
  rcases Nat.lt_or_ge (dg a).length (dg b).length with q|q
  ·have:=dv_len_lt (dg_ok a) (dg_spec b).2.2 q
   rw[dv_dg,dv_dg] at this
   omega
  ·exact q
 rw[take_all (by omega),take_all hlb,take_all (Nat.le_refl _),dv_dg,dv_dg] at h
 have h2:=dv_lt hw
 rw[hl] at h2
 rcases Nat.eq_zero_or_pos c with q|q
 ·subst q;omega
 ·have:4294967296^(dg a).length*1≤4294967296^(dg a).length*c:=Nat.mul_le_mul_left _ q
  omega
set_option maxHeartbeats 1000000 in
theorem q_Less{GB:Gh}{a b ia:Nat}[ha:BN a ia](hb:b≤a)(hi:ia≤1000000000:=by decide):PF GB Tryz.prog 235 [dN a,dN b] (dN (a-b)):=by
 have hla:=mapU_len (dg a)
 have hlb:=mapU_len (dg b)
 have hba:=dg_len_bd ha.h hi
 refine fn (fu:=⟨9⟩) Tryz.func235 J J Tryz.ntmps235 J J (fun C=>?_)
 refine eqF 10 (.d (vI ((dg a).length:Nat))) rfl (by rw[hla];rfl) ?_
 refine gx rfl<|mk (fu:=⟨13⟩) ((List.replicate (dg a).length 0).map dU) J J (by rw[←mapU_rep];rfl) rfl<|?_
 refine eqF 13 (.d (vI ((dg a).length:Nat))) rfl (by rw[hla];rfl) ?_
 refine gx rfl<|?_
 refine lp (X:=List Nat×Nat×Nat) (fun⟨W,c,i⟩=>[(0, .d (dN a)),(1, .d (dN b)),(5, .rw 11),(6, .d (.v (.int .u32 (c:Nat)))),(13, .d (vI ((dg a).length:Nat))),(14, .d (vI (i:Nat)))]) (fun⟨W,c,i⟩=>[(11,some (.b 279 1 (W.map dU) true))]) (fun⟨W,c,i⟩=>W.length=(dg a).length∧DOk W∧c≤1∧i≤(dg a).length∧dv (W.take i)+dv ((dg b).take i)=dv ((dg a).take i)+4294967296^i*c) (fun⟨W,c,i⟩=>(dg a).length-i) ⟨List.replicate (dg a).length 0,0,0⟩ rfl ⟨by simp, .replicate _,by omega,by omega,by simp[dv]⟩ (fun _=>rfl) (fun⟨W,c,i⟩ hk=>?_)
 dsimp only at hk⊢
 obtain⟨h1,h2,h3,h4,h5⟩:=hk
 have hlw:=mapU_len W
 have hda:=dg_lt a i
 have hdb:=dg_lt b i
 refine br (fu1:=⟨16⟩) J J J (fun hc15=>?_) (fun hc15=>?_)
 ·
  refine mg (X:=Unit) (fun _=>[(0, .d (dN a)),(1, .d (dN b)),(5, .rw 11),(6, .d (.v (.int .u32 (c:Nat)))),(13, .d (vI ((dg a).length:Nat))),(14, .d (vI (i:Nat))),(7, .d (vI (i:Nat))),(8, .d (dU ((dg b).getD i 0)))]) (fun _=>[(11,some (.b 279 1 (W.map dU) true))]) (fun _=>True) [0,1,5,6,13,14,7,8] [11] rfl ?_ (fun _=>rfl) (fun _ hm=>?_)
  ·
   refine gx rfl<|?_
   refine br J J J (fun hc20=>?_) (fun hc20=>?_)
   ·
    refine ix _ rfl (mapU_getI (by omega)) rfl<|?_
    exact at_ () trivial
   ·
    refine eqF 8 (.d (dU ((dg b).getD i 0))) rfl (by rw[getD_out (by omega)];rfl) ?_
    exact at_ () trivial
  ·
   refine ix _ rfl (mapU_getI (by omega)) rfl<|cl rfl (q_Sub32 (by omega) (by omega) (by omega)) rfl<|sb _ ((W.set i (if(dg a).getD i 0<(dg b).getD i 0+c then(dg a).getD i 0+4294967296-((dg b).getD i 0+c) else(dg a).getD i 0-((dg b).getD i 0+c))).map dU) rfl (mapU_getI (by omega)) rfl (by rw[←mapU_set];rfl) rfl<|?_
   exact at_ ⟨W.set i (if(dg a).getD i 0<(dg b).getD i 0+c then(dg a).getD i 0+4294967296-((dg b).getD i 0+c) else(dg a).getD i 0-((dg b).getD i 0+c)),(if(dg a).getD i 0<(dg b).getD i 0+c then 1 else 0),i+1⟩ (by dsimp only;exact⟨⟨by simpa using h1,h2.set _ (by split<;>omega),by split<;>omega,by omega,less_inv (dg_ok a) (dg_ok b) (by omega) h3 h5 J J⟩,(by omega)⟩)
 ·
  obtain rfl:i=(dg a).length:=by omega
  refine fz 11 J J<|cl rfl (q_Trim (ds:=W) (by omega)) rfl<|?_
  exact rz rfl (dL_trim h2 (less_end h2 h1 hb h5))
end Go.Sx
end
