/-
  The abstract machine: rows, slices, elements. The abstract machine: stores to elements, slices, names anew; the steps as a proof spells them. The abstract machine: the steps as a proof spells them. The abstract machine: names anew; calls that borrow a variable. The abstract machine: functions whose result is one of a family. The abstract machine: calls whose outcome is one of a family (borrowed variables, new variables, rows handed back). The abstract machine: calls that borrow a variable and hand back a row. The abstract machine: functions that hand back a new variable.
-/
import Derived.Test.YtlnphbkcelfboaaGreatDoorMs8
set_option linter.unusedSimpArgs false
set_option linter.unusedVariables false
section
set_option maxRecDepth 100000
namespace Go.Sx
open Go Go.Proofs
section
variable {P:Program} {T:TT} {GB:Gh} {C:Ctx} {n:Nat} {lk:LK} {bk:BM} {ρ:NE} {G:Gh} {ov:List Own} {a:Act} {w:World}
variable {dst:Option Nat} {t t' ty':TypeId} {pos:String} {af:Array Edge} {gd:Option (Nat×Bool)} {x y:Operand} {e s by_:Nat}
/-! ### what the operations do -/
theorem ok_ixF[hT:TySl P t e s by_]{k:IntKind}{l:List DV}{d:DV}{i:Int}(hx:evD lk x=some (.sl l))(hy:evX lk y=some (.d (.v (.int k i))))(h0:0≤i)(he:l[i.toNat]? =some d)(hd:(d.okc&&Nat.beq d.cells.length s)=true):
  OpR P GB C n lk bk ⟨dst, .indexAddr t x y,ty',pos,af,gd⟩ (.ep d.cells) [] []:= .yd fun ρ G ov a w r=>by
 simp only[Bool.and_eq_true] at hd
 obtain⟨hd,hs⟩:=hd
 obtain⟨u,h1,h2⟩:=r.evD hx
 obtain⟨q,g1,g2⟩:=r.ev hy
 rw[isX_int] at g2;subst g2
 obtain⟨s',z,es,rfl,hsl,hl⟩:=is_sl.1 h2
 obtain⟨v,h3,h4⟩:=hl.get he
 obtain⟨h5,h6⟩:=List.getElem?_eq_some_iff.1 h3
 have hc:=(h4.cells hd).1.len
 replace hs:=Nat.eq_of_beq_eq_true hs
 rcases hsl.mem with h|⟨b,off,cs,ha,hg,hcs⟩
 ·rw[h] at h5;simp at h5
 ·have h7:=hcs i.toNat h5
  rw[h6] at h7
  have h8:=takeL_len h7
  have:s'=s:=by omega
  subst this
  rw[ha] at h1
  have hn:=hsl.len
  refine⟨.pointer (some ⟨b,off+i.toNat*s',none⟩),⟨b,_,cs,cellsL v,rfl,hg,?_,(h4.cells hd).1⟩,yd_index h1 g1 h0 (by omega)⟩
  rw[←hc,h8]
  exact h7
def ldE(ag:Option Nat)(cs:List DV)(j:Nat):Option DV:=match ag with
 |some k=>match takeD cs j k with
  |some l=>some (.ag l)
  |none=>none
 |none=>cs[j]?
theorem ok_ldB{i:TI}{ag:Option Nat}{nm sz k j:Nat}{ty:TypeId}{ds:List DV}{lo:Bool}{d c:DV}(hi:tiOf P t=some i)(ha:i.ag=some ag)(hx:evX lk x=some (.be nm sz k j))(hb:bk nm=some (.b ty sz ds lo))(he:ds[k]? =some d)(hd:d.okc=true)(hl:ldE ag d.cells j=some c):
  OpR P GB C n lk bk ⟨dst, .load t x,ty',pos,af,gd⟩ (.d c) [] []:= .x1 hx fun ρ G ov a w y _ r h1 h2=>by
 obtain⟨b,hwb,rfl⟩:=h2
 obtain⟨B,hB,hmem⟩:=r.row (y:= .nilFunc) hb
 obtain⟨b',m,rest,lo',l0,e1,rfl,h3,h4⟩:=hB.elem he hd
 simp only[] at e1 h3
 rw[hwb] at e1;cases e1
 have oat:OAt ov b (m++rest) ty lo':=⟨hmem _ List.mem_cons_self⟩
 cases ag with
 |some k'=>
  have:=ti_agA hi ha
  simp only[ldE] at hl
  split at hl<;>cases hl
  rename_i hl
  obtain⟨l',h5,h6⟩:=h4.takeD hl
  exact⟨.agg ⟨l'⟩,is_ag.2 ⟨l',rfl,h6⟩,yd_load_own h1 (takeL_sub h3 h5)⟩
 |none=>
  have:=ti_agS hi ha
  simp only[ldE] at hl
  obtain⟨l',h5,h6⟩:=h4.get hl
  have hj:j<sz:=by
   have:=takeL_len h3
   have h7:=(List.getElem?_eq_some_iff.1 h5).1
   omega
  exact⟨l',h6,yd_load_own1 h1 (by rw[get_of_takeL h3 hj];exact h5)⟩
theorem BufIs.toBk{nm:Nat}{s:Nat}{ty:TypeId}{ds:List DV}{lo:Bool}{B:List Own}{x:SV}(h:BufIs G ⟨x,s,ty,ds,lo⟩ B)(e:ρ nm=x):BkIs ρ G nm (.b ty s ds lo) B:=by
 obtain⟨vs,h1,h2,h3,h4⟩:=h
 exact⟨vs,by rw[e];exact h1,h2,h3,h4⟩
theorem RlX.newRow(r:RlX GB C n lk bk ρ G ov a w){d:Nat}{z:SV}{ty:TypeId}{s:Nat}{ds:List DV}{B ov':List Own}{K:Act→World→Prop}{a':Act}{w':World}(hf:FreshX [d] (some d) lk bk)(hB:BufIs G ⟨z,s,ty,ds,true⟩ B)(hos: ∀o∈B,o∈ov')
  (hov: ∀m B',m≠d→bk m=some B'→ ∀o∈ov,(ρ m).a=some ⟨o.b,0,none⟩→o∈ov'∧z.a≠some ⟨o.b,0,none⟩)
  (hk:SX GB C n (upL lk (some d) (.rw d)) (Sx.upB bk [(d,some (.b ty s ds true))]) K)(rl:Rel C n (Sx.put (frA a) (some d) (.slice z.a z.n z.c)) ov' G a' w'):K a' w':=
 hk.run _ _ _ a' w' (r.new' (x:=z) (f:= .rw d) (y:= .slice z.a z.n z.c) hf (GLe.refl _) rl.h (hB.toBk (by simp)) hos hov (by show _=_;simp) (putA_rel rl))
def zeE(i:TI):Option DV:=match i.z with
 |some z=>match toDXs z with
  |some zs=>bif i.za then(bif zs.all DV.flat then some (.ag zs) else none) else(match zs with
   |[d]=>bif d.flat then some d else none
   |_=>none)
  |none=>none
 |none=>none
theorem flat_cellsD{d:DV}(h:d.flat=true):d.cells=[d]∧d.okc=true:=by
 cases d<;>first|exact⟨rfl,h⟩|cases h
theorem zeE_ok{i:TI}{d:DV}(hi:tiOf P e=some i)(h:zeE i=some d): ∃v,TyZ P e v∧(∀G,Is G d v)∧d.okc=true:=by
 obtain⟨j,hj,hij⟩:=ti_info hi
 unfold zeE at h
 split at h<;>try (cases h;done)
 rename_i z hz
 split at h<;>try (cases h;done)
 rename_i zs hzs
 obtain⟨v,h1,h2⟩:=ti_zero hi hz
 have h3: ∀G,IsLs G zs (cellsL v):=fun G=>toDXs_is (h2 (fun _=>⟨none,0,0⟩) G) hzs
 have hzv:j.zero=some v:=by have:=h1.inf;rw[hj] at this;simpa using this
 have hza:i.za=isAg (some v):=by rw[hij,←hzv]
 cases hb:i.za with
 |true=>
  rw[hb] at h hza
  cases hc:zs.all DV.flat with
  |false=>rw[hc] at h;cases h
  |true=>
   rw[hc] at h;cases h
   cases v<;>first|(cases hza;done)|skip
   rename_i cs
   exact⟨_,h1,fun G=>is_ag.2 ⟨cs.toList,by simp,h3 G⟩,hc⟩
 |false=>
  rw[hb,cond_false] at h
  rw[hb] at hza
  split at h<;>try (cases h;done)
  rename_i u
  cases hc:u.flat with
  |false=>rw[hc] at h;cases h
  |true=>
   rw[hc] at h;cases h
   have hv:cellsL v=[v]:=by cases v<;>first|rfl|(cases hza;done)
   refine⟨v,h1,fun G=>?_,(flat_cellsD hc).2⟩
   have:=h3 G
   rw[hv] at this
   exact this.uncons.1
theorem ok_make{d:Nat}{i:TI}{z:DV}{k k':IntKind}{l:Int}{ds:List DV}[hT:TySl P t e s by_](hi:tiOf P e=some i)(hz:zeE i=some z)(hs:Nat.beq z.cells.length s=true)(hx:evX lk x=some (.d (.v (.int k l))))(hy:evX lk y=some (.d (.v (.int k' l))))(h0:0≤l)(hb:by_*l≤140737488355328)(hl:l≤1152921504606846976)(hds:List.replicate l.toNat z=ds):
  OpR P GB C n lk bk ⟨some d, .makeSlice t x y,ty',pos,af,gd⟩ (.rw d) [(d,some (.b e s ds true))] [d]:=by
 intro hd tl tb K s1 s2 hf hk
 refine⟨fun ρ G ov a w r Q=>?_⟩
 subst hds
 obtain⟨v,hz1,hz2,hz3⟩:=zeE_ok hi hz
 obtain⟨q1,p1,p2⟩:=(r.mono s1 s2).ev hx
 obtain⟨q2,p3,p4⟩:=(r.mono s1 s2).ev hy
 rw[isX_int] at p2 p4;subst p2 p4
 have c1:=((hz2 G).cells hz3).1.len
 replace hs:=Nat.eq_of_beq_eq_true hs
 have e1: ∀u∈List.replicate l.toNat v,(cellsL u).length=s:=fun u hu=>by rw[List.eq_of_mem_replicate hu,c1,hs]
 refine ch_make p1 p3 h0 hb hl (by rw[c1,hs]) hd (fun b a' w' rl=>?_) a w Q ⟨r.h,r.sz,frA_ok a,r.df⟩
 have hnd:=(List.pairwise_cons.1 rl.h.nd).1
 refine r.newRow (z:=⟨some ⟨b,0,none⟩,l.toNat,l.toNat⟩) (B:=[⟨b,zeros v l.toNat,e,true⟩]) hf ⟨List.replicate l.toNat v, .inr ⟨b,[],true,by simp,by rw[flatL_replicate,List.append_nil],flatL_len _ e1,by rw[flatL_len _ e1];simp,by simp⟩,isL_replicate (hz2 G) _,e1,fun _ o ho=>by rw[List.mem_singleton.1 ho]⟩
  (fun o ho=>by rw[List.mem_singleton.1 ho];exact List.mem_cons_self) (fun m B' _ _ o ho _=>⟨List.mem_cons_of_mem _ ho,fun e'=>?_⟩) hk rl
 cases e';exact hnd o ho rfl
/-! literal rows -/
def rowX(lk:LK):Nat→List (Nat×Operand)→Option (List DV)
 |_,[]=>some []
 |j,(i,x)::r=>match evD lk x,rowX lk (j+1) r with
  |some d,some l=>bif Nat.beq i j then some (d::l) else none
  |_,_=>none
theorem rowX_bldS(r:RlX GB C n lk bk ρ G ov a w){zv:Value}(hz:(cellsL zv).length=s): ∀(ps:List (Nat×Operand)) (j:Nat) (pre:List Value) (ds:List DV),rowX lk j ps=some ds→pre.length=j*s→(∀d∈ds,d.okc=true∧d.cells.length=s)→
  ∃vs,bldS (frA a) s (pre++zeros zv ps.length) ps=some (pre++flatL vs)∧IsLs G ds vs∧(∀v∈vs,(cellsL v).length=s)∧vs.length=ps.length
 |[],j,pre,ds,e,hp,hd=>by
  simp only[rowX] at e;cases e
  exact⟨[],by simp[bldS,zeros,flatL], .nil,by simp,rfl⟩
 |(i,x)::ps,j,pre,ds,e,hp,hd=>by
  simp only[rowX] at e
  split at e
  ·rename_i d l hx hl
   cases hb:Nat.beq i j with
   |false=>rw[hb] at e;cases e
   |true=>
    rw[hb] at e
    cases e
    have:=Nat.eq_of_beq_eq_true hb
    subst this
    obtain⟨y,hy,hy'⟩:=r.evD hx
    obtain⟨k1,k2⟩:=hd d List.mem_cons_self
    have c1:=(hy'.cells k1).1.len
    have hov:ovw (pre++zeros zv (ps.length+1)) (i*s) (cellsL y)=(pre++cellsL y)++zeros zv ps.length:=by
     rw[zeros_succ,←hp,ovw_app _ _ _ _ (by rw[c1,k2,hz]),List.append_assoc]
    obtain⟨vs,h1,h2,h3,h4⟩:=rowX_bldS r hz ps (i+1) (pre++cellsL y) l hl (by rw[List.length_append,c1,k2,hp,Nat.succ_mul]) (fun d hd'=>hd d (List.mem_cons_of_mem _ hd'))
    refine⟨y::vs,?_, .cons hy' h2,fun v hv=>?_,by simp[h4]⟩
    ·simp only[bldS,hy,List.length_cons]
     rw[if_pos ⟨by rw[c1,k2],by rw[List.length_append,zeros_len,hz,hp,Nat.succ_mul];omega⟩,hov,h1]
     simp[flatL]
    ·rcases List.mem_cons.1 hv with rfl|hv
     ·rw[c1,k2]
     ·exact h3 v hv
  ·cases e
theorem ok_row{d:Nat}{i:TI}{z:DV}{len:Nat}{parts:Array (Nat×Operand)}{ds:List DV}[hT:TySl P t e s by_](hi:tiOf P e=some i)(hz:zeE i=some z)(hs:Nat.beq z.cells.length s=true)(hb:rowX lk 0 parts.toList=some ds)(hok:okRow s ds=true)(hlen:Nat.beq parts.toList.length len=true)(hsm:Nat.ble (len*s) 1000=true)(hs0:Nat.blt 0 (len*s)=true):
  OpR P GB C n lk bk ⟨some d, .buildSlice t len parts,ty',pos,af,gd⟩ (.rw d) [(d,some (.b e s ds true))] [d]:=by
 intro hd tl tb K s1 s2 hf hk
 refine⟨fun ρ G ov a w r Q=>?_⟩
 obtain⟨v,hz1,hz2,hz3⟩:=zeE_ok hi hz
 have c1:=((hz2 G).cells hz3).1.len
 replace hs:=Nat.eq_of_beq_eq_true hs
 have hlen':=Nat.eq_of_beq_eq_true hlen
 obtain⟨vs,h1,h2,h3,h4⟩:=rowX_bldS (r.mono s1 s2) (s:=s) (zv:=v) (by rw[c1,hs]) parts.toList 0 [] ds hb (by simp) (okRow_spec hok)
 rw[List.nil_append,List.nil_append] at h1
 refine ch_slice (z:=v) (out:=flatL vs) (by rw[c1,hs]) (by rw[←hlen'];exact h1) hsm hs0 hd (fun b a' w' rl=>?_) a w Q ⟨r.h,r.sz,frA_ok a,r.df⟩
 have hnd:=(List.pairwise_cons.1 rl.h.nd).1
 have hvl:vs.length=len:=by rw[h4,hlen']
 refine r.newRow (z:=⟨some ⟨b,0,none⟩,len,len⟩) (B:=[⟨b,flatL vs,e,true⟩]) hf ⟨vs, .inr ⟨b,[],true,by rw[hvl],by rw[List.append_nil],flatL_len _ h3,by rw[flatL_len _ h3,hvl];simp,by rw[hvl];exact Nat.le_refl _⟩,h2,h3,fun _ o ho=>by rw[List.mem_singleton.1 ho]⟩
  (fun o ho=>by rw[List.mem_singleton.1 ho];exact List.mem_cons_self) (fun m B' _ _ o ho _=>⟨List.mem_cons_of_mem _ ho,fun e'=>?_⟩) hk rl
 cases e';exact hnd o ho rfl
theorem ok_row0{d:Nat}[hT:TySl P t e s by_]:OpR P GB C n lk bk ⟨some d, .buildSlice t 0 #[],ty',pos,af,gd⟩ (.rw d) [(d,some (.b e s [] true))] [d]:=by
 intro hd tl tb K s1 s2 hf hk
 refine⟨fun ρ G ov a w r Q=>?_⟩
 refine ch_slice0 hd (fun b a' w' rl=>?_) a w Q ⟨r.h,r.sz,frA_ok a,r.df⟩
 have hnd:=(List.pairwise_cons.1 rl.h.nd).1
 refine r.newRow (z:=⟨some ⟨b,0,none⟩,0,0⟩) (B:=[⟨b,[],e,true⟩]) hf ⟨[], .inr ⟨b,[],true,rfl,by simp[flatL],by simp[flatL],by simp[flatL],by simp⟩, .nil,by simp,fun _ o ho=>by rw[List.mem_singleton.1 ho]⟩
  (fun o ho=>by rw[List.mem_singleton.1 ho];exact List.mem_cons_self) (fun m B' _ _ o ho _=>⟨List.mem_cons_of_mem _ ho,fun e'=>?_⟩) hk rl
 cases e';exact hnd o ho rfl
theorem OpR.frz{o:Oper}{d:Nat}{B:Bk}{f:FX}{v:DV}(hd:o.dst=some d)(h:OpR P GB C n lk bk o f [(d,some B)] [d])
  (hz: ∀lk bk ρ G ov a w,RlX GB C n lk bk ρ G ov a w→bk d=some B→ ∃G' ov',GLe G G'∧HRel C ov' G' w∧(∀o∈ov,(ρ d).a≠some ⟨o.b,0,none⟩→o∈ov')∧ ∀y,IsX ρ G f y→Is G' v y):OpR P GB C n lk bk o (.d v) [(d,none)] [d]:=by
 intro hd' tl tb K s1 s2 hf hk
 refine h hd' tl tb K s1 s2 hf ?_
 rw[hd] at hk⊢
 refine⟨fun ρ G ov a w r=>?_⟩
 have hbd:Sx.upB tb [(d,some B)] d=some B:=by simp[Sx.upB]
 obtain⟨G',ov',h1,h2,h3,h4⟩:=hz _ _ ρ G ov a w r hbd
 refine hk.run ρ G' ov' a w ⟨r.gb.trans h1,h2,r.sz,r.df,fun k g e=>?_,fun m B' e=>?_,fun m m' B1 B2 e e'=>?_⟩
 ·by_cases hk:k=d
  ·subst hk
   simp only[upL,if_true] at e;cases e
   obtain⟨y,g1,g2⟩:=r.fx k f (by simp[upL])
   exact⟨y,g1,h4 y g2⟩
  ·simp only[upL,hk,if_false] at e
   obtain⟨y,g1,g2⟩:=r.fx k g (by simp[upL,hk,e])
   exact⟨y,g1,g2.up h1⟩
 ·simp only[Sx.upB] at e
  split at e
  ·cases e
  ·rename_i hm
   have e':Sx.upB tb [(d,some B)] m=some B':=by simp[Sx.upB,hm,e]
   obtain⟨os,g1,g2⟩:=r.bx m B' e'
   exact⟨os,g1.up h1,fun o ho=>h3 o (g2 o ho) fun hc=>r.dj m d B' B e' hbd hm _ (g1.blk ho) hc⟩
 ·simp only[Sx.upB] at e e'
  split at e
  ·cases e
  ·rename_i hm
   split at e'
   ·cases e'
   ·rename_i hm'
    exact r.dj m m' B1 B2 (by simp[Sx.upB,hm,e]) (by simp[Sx.upB,hm',e'])
theorem OpR.frzRow{o:Oper}{d:Nat}{ty:TypeId}{s:Nat}{ds:List DV}(hd:o.dst=some d)(h:OpR P GB C n lk bk o (.rw d) [(d,some (.b ty s ds true))] [d]):OpR P GB C n lk bk o (.d (.sl ds)) [(d,none)] [d]:=
 h.frz hd fun _ _ _ _ _ _ _ r hb=>r.frzRow hb
theorem ok_boxF{d:Nat}{f:FX}{l:List DV}(e:evX lk x=some f)(hc:f.okc=true)(hn:nmNe f d=true)(hl:toDXs f.cells=some l):OpR P GB C n lk bk ⟨some d, .box t x,ty',pos,af,gd⟩ (.d (.pt l)) [(d,none)] [d]:=
 (ok_box e hc hn).frz rfl fun _ _ _ _ _ _ _ r hb=>r.frzVar hb hl
/-! append -/
def srcX(lk:LK)(bk:BM)(s:Nat)(y:Operand):Option (List DV):=match evX lk y with
 |some (.rw nm)=>match bk nm with
  |some (.b _ s' ds _)=>bif Nat.beq s' s then some ds else none
  |_=>none
 |some f=>match toDX f with
  |some (.sl l)=>some l
  |_=>none
 |none=>none
theorem src_ok{ds:List DV}(r:RlX GB C n lk bk ρ G ov a w)(h:srcX lk bk s y=some ds)(hk:slOk s ds):
  ∃(z:SV) (vs:List Value),opv (frA a) y=some (.slice z.a z.n z.c)∧z.n=vs.length∧IsLs G ds vs∧(∀v∈vs,(cellsL v).length=s)∧(∀v∈flatL vs,Sx.flat v=true)∧Src P C ov G s z.n (.slice z.a z.n z.c) (flatL vs):=by
 have hfl: ∀vs:List Value,IsLs G ds vs→(∀v∈vs,(cellsL v).length=s)∧ ∀v∈flatL vs,Sx.flat v=true:=by
  intro vs hl
  refine⟨fun v hv=>?_,fun v hv=>?_⟩
  ·obtain⟨d,hd,h3⟩:=hl.all v hv
   obtain⟨k1,k2⟩:=hk d hd
   rw[(h3.cells k1).1.len,k2]
  ·simp only[flatL,List.mem_flatten,List.mem_map] at hv
   obtain⟨l,⟨u,hu,rfl⟩,hv⟩:=hv
   obtain⟨d,hd,h3⟩:=hl.all u hu
   exact(h3.cells (hk d hd).1).2 v hv
 unfold srcX at h
 split at h
 ·rename_i nm hy
  split at h<;>try (cases h;done)
  rename_i ty s' ds' lo hb
  cases hs:Nat.beq s' s with
  |false=>rw[hs] at h;cases h
  |true=>
   rw[hs] at h;cases h
   cases Nat.eq_of_beq_eq_true hs
   obtain⟨u,h1,h2⟩:=r.ev hy
   cases h2
   obtain⟨B,⟨vs,hB,hv,hs,_⟩,hmem⟩:=r.row (y:= .nilFunc) hb
   obtain⟨f1,f2⟩:=hfl _ hv
   refine⟨ρ nm,vs,h1,hB.len,hv,f1,f2,?_⟩
   rcases hB with⟨e1,e2,e3⟩|⟨b,rest,lo',h3,h4,h5,h6,h7⟩
   ·simp only[] at e2
    subst e1
    rw[e2]
    exact src_zero
   ·simp only[] at h3 h4 h5 h6 h7
    have oat:OAt ov b (flatL vs++rest) ty lo':=⟨hmem _ (by rw[h4];exact List.mem_cons_self)⟩
    rw[show(ρ nm).a=some ⟨b,0,none⟩ by rw[h3],show(ρ nm).n=vs.length by rw[h3]]
    refine src_own oat ?_
    rw[takeL_of _ _ _ (by rw[List.length_append];omega),List.drop_zero,List.take_append_of_le_length (by omega),List.take_of_length_le (by omega)]
 ·rename_i f _ hy
  split at h<;>cases h
  rename_i hd
  obtain⟨u,h3,h4⟩:=r.ev hy
  obtain⟨s',z,es,rfl,hsl,hl⟩:=is_sl.1 (toDX_is h4 hd)
  obtain⟨f1,f2⟩:=hfl _ hl
  refine⟨z,es,h3,hsl.len,hl,f1,f2,?_⟩
  rcases sl_stride hsl hl hk with he|he
  ·subst he
   rw[hsl.len]
   exact src_zero
  ·subst he;exact src_sl hsl
 ·cases h
theorem ok_apnd{d nm:Nat}{i:TI}{z:DV}{ds ds2:List DV}[hT:TySl P t e s by_][hN:TyN P t'](hi:tiOf P e=some i)(hz:zeE i=some z)(hs:Nat.beq z.cells.length s=true)(hx:evX lk x=some (.rw nm))(hb:bk nm=some (.b e s ds true))(hy:srcX lk bk s y=some ds2)(hk2:slOk s ds2)
  (hby:Nat.blt 0 by_=true)(hbd:(ds.length+ds2.length)*by_≤140737488355328)(hnd:Nat.beq nm d=false){ds':List DV}(hds:ds++ds2=ds'):
  OpR P GB C n lk bk ⟨some d, .call ⟨.builtin .append, #[x,y], #[t,t']⟩,ty',pos,af,gd⟩ (.rw d) [(nm,none),(d,some (.b e s ds' true))] [d]:=by
 intro hd tl tb K s1 s2 hf hk
 refine⟨fun ρ G ov a w r Q=>?_⟩
 subst hds
 have r1:=r.mono s1 s2
 obtain⟨v,hz1,hz2,hz3⟩:=zeE_ok hi hz
 have cz:=((hz2 G).cells hz3).1.len
 replace hs:=Nat.eq_of_beq_eq_true hs
 rw[Nat.blt_eq] at hby
 have hne:nm≠d:=fun e=>by subst e;simp at hnd
 obtain⟨u,hx',hx2⟩:=r1.ev hx
 cases hx2
 obtain⟨B,⟨vs,hB,hv,hvs,hlo⟩,hBo⟩:=r1.row (y:= .nilFunc) hb
 simp only[] at hB hv hvs
 obtain⟨w2,us,hy',h2,h3,h4,h5,h6⟩:=src_ok (P:=P) r1 hy hk2
 have hus:(flatL us).length=us.length*s:=flatL_len us h4
 have hbd':(vs.length+us.length)*by_≤140737488355328:=by rw[hv.len,h3.len];exact hbd
 have hall: ∀v∈vs++us,(cellsL v).length=s:=fun v hv=>by
  rcases List.mem_append.1 hv with hv|hv
  ·exact hvs v hv
  ·exact h4 v hv
 have rd:=r.dropB nm
 have hf':FreshX [d] (some d) tl (Sx.upB tb [(nm,none)]):=fun m hm=>by
  obtain⟨g1,g2⟩:=hf m hm
  refine⟨g1,fun k B' hk e=>g2 k B' hk ?_⟩
  simp only[Sx.upB] at e
  split at e
  ·cases e
  ·exact e
 have hbk: ∀m B',(Sx.upB tb [(nm,none)]) m=some B'→m≠nm∧tb m=some B':=fun m B' e=>by
  simp only[Sx.upB] at e
  split at e
  ·cases e
  ·exact⟨by assumption,e⟩
 have hfin: ∀(b:Nat) (cap':Nat) (rest':List Value) (ov1:List Own) a' w',vs.length+us.length≤cap'→rest'.length+(vs.length+us.length)*s=cap'*s→(∀o∈ov,(ρ nm).a≠some ⟨o.b,0,none⟩→o∈ov1)→
   Rel C n (put (frA a) (some d) (.slice (some ⟨b,0,none⟩) (vs.length+us.length) cap')) (⟨b,flatL (vs++us)++rest',e,true⟩::ov1) G a' w'→K a' w':=by
  intro b cap' rest' ov1 a' w' hc hr ho1 rl
  have hnd':=(List.pairwise_cons.1 rl.h.nd).1
  refine rd.newRow (z:=⟨some ⟨b,0,none⟩,vs.length+us.length,cap'⟩) (B:=[⟨b,flatL (vs++us)++rest',e,true⟩]) hf' ⟨vs++us, .inr ⟨b,rest',true,by simp,rfl,flatL_len _ hall,?_,by simpa using hc⟩,hv.app h3,hall,fun _ o ho=>by rw[List.mem_singleton.1 ho]⟩
   (fun o ho=>by rw[List.mem_singleton.1 ho];exact List.mem_cons_self) (fun m B' hm e o ho hmo=>?_) hk rl
  ·rw[flatL_len _ hall,List.length_append]
   simp only[]
   omega
  ·obtain⟨h7,h8⟩:=hbk m B' e
   have ho2:=ho1 o ho fun hc=>r.dj m nm B' _ h8 (s2 _ _ hb) h7 _ hmo hc
   exact⟨List.mem_cons_of_mem _ ho2,fun e'=>by cases e';exact hnd' o ho2 rfl⟩
 rcases hB with⟨e1,e2,e3⟩|⟨b,rest,lo',k3,k4,k5,k6,k7⟩
 ·subst e1
  rw[e2] at hx'
  by_cases hne:us=[]
  ·subst hne
   have:ds2=[]:=List.eq_nil_of_length_eq_zero (by rw[←h3.len];rfl)
   subst this
   rw[h2] at hy'
   refine ch_append_nil hx' hy' hd (fun a' w' rl=>?_) a w Q ⟨r.h,r.sz,frA_ok a,r.df⟩
   refine rd.newRow (z:=⟨none,0,0⟩) (B:=[]) hf' ⟨[], .inl ⟨rfl,rfl,rfl⟩,by simpa using hv,by simp,fun _ o ho=>by cases ho⟩ (fun o ho=>by cases ho) (fun m B' hm e o ho hmo=>⟨ho,fun e'=>by cases e'⟩) hk rl
  ·have hup:0<us.length:=List.length_pos_iff.2 hne
   rw[h2] at hy' h6
   refine ch_append_grow (z:=v) (xs:=[]) (ys:=flatL us) hx' hy' src_zero h6 (by show(0:Nat)<0+us.length;omega) hby (by simpa using hbd') hd (fun b cap' hc a' w' rl=>?_) a w Q ⟨r.h,r.sz,frA_ok a,r.df⟩
   exact hfin b cap' (zeros v (cap'-us.length)) ov a' w' (by simpa using hc) (by rw[zeros_len,cz,hs,←Nat.add_mul];simp at hc⊢;congr 1;omega) (fun o ho _=>ho) (by simpa using rl)
 ·have hl:=hlo rfl
  subst k4
  have hlo':lo'=true:=hl _ List.mem_cons_self
  subst hlo'
  have ha:(ρ nm).a=some ⟨b,0,none⟩:=by rw[k3]
  have hn:(ρ nm).n=vs.length:=by rw[k3]
  rw[ha,hn] at hx'
  rw[h2] at hy' h6
  obtain⟨ov1,o1,o2⟩:=ORem.of_mem (hBo _ List.mem_cons_self)
  refine ch_append_own (z:=v) (xs:=flatL vs) (ys:=flatL us) (rest:=rest) (own1:=ov1) hx' hy' o1 k5 k6 k7 h6 hus h5 hby hbd' (by rw[cz,hs]) hd (fun b' cap' rest' hc hr a' w' rl=>?_) a w Q ⟨r.h,r.sz,frA_ok a,r.df⟩
  rw[←flatL_app] at rl
  exact hfin b' cap' rest' ov1 a' w' hc hr (fun o ho hne=>o2 o ho fun e'=>hne (by rw[ha,e'])) rl
end
end Go.Sx
end

section
set_option maxRecDepth 100000
namespace Go.Sx
open Go Go.Proofs
section
variable {P:Program} {T:TT} {GB:Gh} {C:Ctx} {n:Nat} {lk:LK} {bk:BM} {ρ:NE} {G:Gh} {ov:List Own} {a:Act} {w:World}
variable {dst:Option Nat} {t t' ty':TypeId} {pos:String} {af:Array Edge} {gd:Option (Nat×Bool)} {x y:Operand} {e s by_:Nat}
theorem flatL_put{vs:List Value}{rest cs:List Value}{i sz j:Nat}{v':Value}(hil:i<vs.length)(hvs: ∀v∈vs,(cellsL v).length=sz)(hv':cellsL v'=ovw (cellsL vs[i]) j cs)(hj:j+cs.length≤sz):ovw (flatL vs++rest) (i*sz+j) cs=flatL (vs.set i v')++rest:=by
 have hm:(cellsL vs[i]).length=sz:=hvs _ (List.getElem_mem hil)
 have hl':(cellsL v').length=sz:=by rw[hv',ovw_len,hm]
 rw[←flatL_set (rest:=rest) (u:=v') vs i hil hvs hl',hv']
 have hlv:=flatL_len vs hvs
 have hle:i*sz+sz≤vs.length*sz:=by rw[←Nat.succ_mul];exact Nat.mul_le_mul_right _ hil
 generalize hmm:cellsL vs[i]=m at*
 have hX:flatL vs++rest=(flatL vs).take (i*sz)++(m++((flatL vs).drop (i*sz+sz)++rest)):=by
  have t1:=takeL_flat (rest:=rest) hvs hil
  rw[hmm] at t1
  obtain⟨_,t2⟩:=takeL_eq t1
  have t3:m=((flatL vs).drop (i*sz)).take sz:=by
   have:m=((flatL vs++rest).drop (i*sz)).take sz:=t2
   rw[this,List.drop_append_of_le_length (by omega),List.take_append_of_le_length (by rw[List.length_drop];omega)]
  rw[t3]
  conv=>lhs;rw[←List.take_append_drop (i*sz) (flatL vs),←List.take_append_drop sz ((flatL vs).drop (i*sz)),List.drop_drop]
  simp[List.append_assoc]
 have hP:((flatL vs).take (i*sz)).length=i*sz:=by rw[List.length_take];omega
 generalize (flatL vs).take (i*sz)=A at hX hP
 generalize (flatL vs).drop (i*sz+sz)++rest=Z at hX
 rw[hX,←hP,ovw_app A m Z (ovw m j cs) (by rw[ovw_len])]
 rw[ovw_spec _ m j (by omega),ovw_spec _ _ _ (by simp only[List.length_append];omega)]
 rw[List.take_append,List.take_of_length_le (by omega),Nat.add_sub_cancel_left,List.take_append_of_le_length (by omega)]
 rw[List.drop_append,List.drop_of_length_le (by omega),List.nil_append,show A.length+j+cs.length-A.length=j+cs.length by omega,List.drop_append_of_le_length (by omega)]
 simp[List.append_assoc]
def stE(ag:Option Nat)(d:DV)(j:Nat)(u:DV):Option DV:=match d with
 | .ag l=>match ag with
  |some k=>bif u.okc&&(Nat.beq u.cells.length k&&Nat.ble (j+k) l.length) then some (.ag (ovD l j u.cells)) else none
  |none=>bif u.flat&&Nat.blt j l.length then some (.ag (l.set j u)) else none
 |d=>match ag with
  |some _=>none
  |none=>bif d.flat&&(u.flat&&Nat.beq j 0) then some u else none
theorem RlX.wroteRow{nm b:Nat}{ty:TypeId}{sz:Nat}{ds ds':List DV}{lo lo':Bool}{m':List Value}{own':List Own}(r:RlX GB C n lk bk ρ G ov a w)(hb:bk nm=some (.b ty sz ds lo))(ha:(ρ nm).a=some ⟨b,0,none⟩)(hB:BufIs G ⟨ρ nm,sz,ty,ds',lo⟩ [⟨b,m',ty,lo'⟩])
  (h1:⟨b,m',ty,lo'⟩∈own')(h2: ∀o∈ov,o.b≠b→o∈own'){K:Act→World→Prop}(hk:SX GB C n (upL lk dst .un) (Sx.upB bk [(nm,some (.b ty sz ds' lo))]) K){a':Act}{w':World}(rl:Rel C n (Sx.put (frA a) dst undef) own' G a' w'):K a' w':=by
 have r2:=r.upB (G':=G) (ov':=own') (w':=w') (B':= .b ty sz ds' lo) (GLe.refl _) rl.h (hB.toBk rfl) (fun o ho=>by rw[List.mem_singleton.1 ho];exact h1) (fun o ho hne=>h2 o ho fun e=>hne (by rw[ha,e])) ⟨_,hb⟩
 exact hk.run _ _ _ a' w' (r2.put rfl (putA_rel rl))
theorem ovw_one(cs:List Value)(o:Nat)(v:Value):ovw cs o [v]=cs.set o v:=rfl
theorem ok_stB{i:TI}{ag:Option Nat}{nm sz k j:Nat}{ty:TypeId}{ds ds':List DV}{lo:Bool}{d d' u:DV}(hi:tiOf P t=some i)(ha:i.ag=some ag)(hx:evX lk x=some (.be nm sz k j))(hb:bk nm=some (.b ty sz ds lo))(hy:evD lk y=some u)(he:ds[k]? =some d)(hl:stE ag d j u=some d')(hds:ds.set k d'=ds'):
  OpR P GB C n lk bk ⟨dst, .store t x y,ty',pos,af,gd⟩ .un [(nm,some (.b ty sz ds' lo))] []:=by
 intro hd tl tb K s1 s2 hf hk
 refine⟨fun ρ G ov a w r Q=>?_⟩
 subst hds
 have r1:=r.mono s1 s2
 obtain⟨y',h1,h2⟩:=r1.evD hy
 obtain⟨x',h3,b,hwb,rfl⟩:=r1.ev hx
 obtain⟨B,hB,hBo⟩:=r1.row (y:= .nilFunc) hb
 obtain⟨b',vs,rest,lo',e1,rfl,hv,hvs,hil,hup⟩:=hB.upd he
 rw[hwb] at e1;cases e1
 obtain⟨v,g1,g2⟩:=hv.get he
 obtain⟨g3,g4⟩:=List.getElem?_eq_some_iff.1 g1
 have hlv:=flatL_len vs hvs
 have hle:k*sz+sz≤vs.length*sz:=by rw[←Nat.succ_mul];exact Nat.mul_le_mul_right _ hil
 have hml:(cellsL v).length=sz:=hvs _ (List.mem_of_getElem? g1)
 cases ag with
 |some q=>
  have:=ti_agA hi ha
  unfold stE at hl
  split at hl
  ·rename_i l
   simp only at hl
   cases hc:(u.okc&&(Nat.beq u.cells.length q&&Nat.ble (j+q) l.length)) with
   |false=>rw[hc] at hl;cases hl
   |true=>
    rw[hc] at hl;cases hl
    simp only[Bool.and_eq_true,Nat.ble_eq] at hc
    obtain⟨c1,c2,c3⟩:=hc
    replace c2:=Nat.eq_of_beq_eq_true c2
    obtain⟨c4,c5⟩:=h2.cells c1
    obtain⟨m,rfl,hm⟩:=is_ag.1 g2
    have hcl:(cellsL y').length=q:=by rw[c4.len,c2]
    have hmd:=hm.len
    have hsz:m.length=sz:=hml
    have key:=hup (.agg ⟨ovw m j (cellsL y')⟩) (.ag (ovD l j u.cells)) (is_ag.2 ⟨_,rfl,hm.ov c4⟩) (by show(ovw m j (cellsL y')).length=sz;rw[ovw_len,hsz])
    have hov:=flatL_put (rest:=rest) (v':= .agg ⟨ovw m j (cellsL y')⟩) (cs:=cellsL y') (j:=j) hil hvs (by rw[g4];rfl) (by omega)
    obtain⟨own',u1,u2,u3⟩:=OUpd.of_mem (cs':=ovw (flatL vs++rest) (k*sz+j) (cellsL y')) (hBo _ List.mem_cons_self)
    refine ch_store h3 h1 u1 hcl (by rw[List.length_append];omega) (List.all_eq_true.2 c5) hd (fun a' w' rl=>?_) a w Q ⟨r.h,r.sz,frA_ok a,r.df⟩
    rw[hov] at u2
    exact r.wroteRow (s2 _ _ hb) hwb key u2 u3 hk rl
  ·simp at hl
 |none=>
  have:=ti_agS hi ha
  unfold stE at hl
  split at hl
  ·rename_i l
   simp only at hl
   cases hc:(u.flat&&Nat.blt j l.length) with
   |false=>rw[hc] at hl;cases hl
   |true=>
    rw[hc] at hl;cases hl
    simp only[Bool.and_eq_true,Nat.blt_eq] at hc
    obtain⟨c1,c2⟩:=hc
    have hfl:=h2.flat c1
    have hcl:=cellsL_flat hfl
    obtain⟨m,rfl,hm⟩:=is_ag.1 g2
    have hmd:=hm.len
    have hsz:m.length=sz:=hml
    have key:=hup (.agg ⟨m.set j y'⟩) (.ag (l.set j u)) (is_ag.2 ⟨_,rfl,hm.set j h2⟩) (by show(m.set j y').length=sz;rw[List.length_set,hsz])
    have hov:=flatL_put (rest:=rest) (v':= .agg ⟨m.set j y'⟩) (cs:=[y']) (j:=j) hil hvs (by rw[g4];rfl) (by simp;omega)
    rw[ovw_one] at hov
    obtain⟨own',u1,u2,u3⟩:=OUpd.of_mem (cs':=(flatL vs++rest).set (k*sz+j) y') (hBo _ List.mem_cons_self)
    refine ch_store1 h3 h1 u1 (by rw[List.length_append];omega) hfl hd (fun a' w' rl=>?_) a w Q ⟨r.h,r.sz,frA_ok a,r.df⟩
    rw[hov] at u2
    exact r.wroteRow (s2 _ _ hb) hwb key u2 u3 hk rl
  ·rename_i hna
   simp only at hl
   cases hc:(d.flat&&(u.flat&&Nat.beq j 0)) with
   |false=>rw[hc] at hl;cases hl
   |true=>
    rw[hc] at hl;cases hl
    simp only[Bool.and_eq_true] at hc
    obtain⟨c0,c1,c2⟩:=hc
    cases Nat.eq_of_beq_eq_true c2
    have hfl:=h2.flat c1
    have hcl:=cellsL_flat hfl
    have hvl:=cellsL_flat (g2.flat c0)
    have h1z:1=sz:=by rw[←hml,hvl];rfl
    have key:=hup y' d' h2 (by rw[hcl,←h1z];rfl)
    have hov:=flatL_put (rest:=rest) (v':=y') (cs:=[y']) (j:=0) hil hvs (by rw[g4,hvl,hcl];rfl) (by simp;omega)
    rw[ovw_one] at hov
    obtain⟨own',u1,u2,u3⟩:=OUpd.of_mem (cs':=(flatL vs++rest).set (k*sz+0) y') (hBo _ List.mem_cons_self)
    refine ch_store1 h3 h1 u1 (by rw[List.length_append];omega) hfl hd (fun a' w' rl=>?_) a w Q ⟨r.h,r.sz,frA_ok a,r.df⟩
    rw[hov] at u2
    exact r.wroteRow (s2 _ _ hb) hwb key u2 u3 hk rl
/-! slices -/
def bdX(lk:LK)(dflt:Nat):Option Operand→Option Int
 |none=>some (dflt:Nat)
 |some o=>match evX lk o with
  |some (.d (.v (.int .i64 i)))=>some i
  |_=>none
theorem ok_slc{l:List DV}{lo hi:Option Operand}{nlo nhi:Nat}[hT:TySl P t e s by_](hx:evD lk x=some (.sl l))(ho:slOk s l)(hlo:bdX lk 0 lo=some (nlo:Int))(hhi:bdX lk l.length hi=some (nhi:Int))(h1:nlo≤nhi)(h2:nhi≤l.length):
  OpR P GB C n lk bk ⟨dst, .slice t x lo hi none,ty',pos,af,gd⟩ (.d (.sl ((l.take nhi).drop nlo))) [] []:= .yd fun ρ G ov a w r=>by
 obtain⟨u,h3,h4⟩:=r.evD hx
 obtain⟨s',z,es,rfl,hsl,hl⟩:=is_sl.1 h4
 have hn:=hsl.len
 have hcap:=hsl.cap
 have hll:=hl.len
 have key: ∀mx',nhi≤mx'→mx'≤z.c→Is G (.sl ((l.take nhi).drop nlo)) (slTo z.a z.n z.c nlo nhi mx' s):=by
  intro mx' hm1 hm2
  rcases sl_stride hsl hl ho with he|he
  ·subst he
   have:l=[]:=List.eq_nil_of_length_eq_zero (by rw[←hll];rfl)
   subst this
   have e1:nhi=0:=by simp at h2;exact h2
   have e2:nlo=0:=by omega
   subst e1 e2
   refine is_sl.2 ⟨s,⟨_,0,mx'⟩,[],rfl,⟨rfl,Nat.zero_le _, .inl rfl⟩,by simpa using IsLs.nil⟩
  ·subst he
   refine is_sl.2 ⟨s',⟨_,_,_⟩,_,rfl,hsl.sub nlo nhi mx' h1 (by omega) hm1 hm2,(hl.take nhi).drop nlo⟩
 have bnd: ∀{o:Operand} {d:Nat} {i:Int},bdX lk d (some o)=some i→opv (frA a) o=some (.int .i64 i):=fun{o d i} h=>by
  simp only[bdX] at h
  split at h<;>cases h
  rename_i he
  obtain⟨q,g1,g2⟩:=r.ev he
  rw[isX_int] at g2;subst g2;exact g1
 match lo,hi,hlo,hhi with
 |none,none,hlo,hhi=>
  simp only[bdX,Option.some.injEq] at hlo hhi
  have e1:nlo=0:=by omega
  have e2:nhi=l.length:=by omega
  subst e1 e2
  refine⟨_,key z.c (by omega) (Nat.le_refl _),?_⟩
  intro a w0 hf hh
  simp only[execOp,opv_eval hf h3,Option.map_none]
  have h9:=run_slice (P:=P) (t:=t) (ad:=z.a) (len:=z.n) (cap:=z.c) w0 (lo:=none) (hi:=none) (mx:=none) (l:=0) (h:=l.length) (m:=z.c) (fun w0=>by
   simp[Instr.sliceBounds,Result.andThen,run_pure];omega)
  exact value_of h9
 |none,some o2,hlo,hhi=>
  simp only[bdX,Option.some.injEq] at hlo
  have e1:nlo=0:=by omega
  subst e1
  refine⟨_,key z.c (by omega) (Nat.le_refl _),?_⟩
  have h9:=yd_slice_hi (P:=P) (C:=C) (own:=ov) (G:=G) (t:=t) (dst:=dst) (ty':=ty') (pos:=pos) (af:=af) (gd:=gd) h3 (bnd hhi) (by omega) (by omega)
  have e9:slTo z.a z.n z.c 0 nhi z.c s= .slice z.a nhi z.c:=by
   unfold slTo
   cases z.a with
   |none=>simp
   |some ad=>simp[Addr.add]
  rw[e9]
  simpa using h9
 |some o1,none,hlo,hhi=>
  simp only[bdX,Option.some.injEq] at hhi
  have e2:nhi=l.length:=by omega
  subst e2
  refine⟨_,key z.c (by omega) (Nat.le_refl _),?_⟩
  have h9:=yd_slice_lo (P:=P) (C:=C) (own:=ov) (G:=G) (t:=t) (dst:=dst) (ty':=ty') (pos:=pos) (af:=af) (gd:=gd) h3 (bnd hlo) (by omega) (by omega)
  have e9:z.n=l.length:=by omega
  rw[Int.toNat_natCast,e9] at h9
  rw[e9]
  exact h9
 |some o1,some o2,hlo,hhi=>
  refine⟨_,key z.c (by omega) (Nat.le_refl _),?_⟩
  have h9:=yd_slice_lohi (P:=P) (C:=C) (own:=ov) (G:=G) (t:=t) (dst:=dst) (ty':=ty') (pos:=pos) (af:=af) (gd:=gd) h3 (bnd hlo) (bnd hhi) (by omega) (by omega) (by omega)
  simpa using h9
theorem ok_slc3{l:List DV}{hi mx:Operand}{nhi:Nat}[hT:TySl P t e s by_](hx:evD lk x=some (.sl l))(ho:slOk s l)(hhi:bdX lk 0 (some hi)=some (nhi:Int))(hmx:bdX lk 0 (some mx)=some (nhi:Int))(h2:nhi≤l.length):
  OpR P GB C n lk bk ⟨dst, .slice t x none (some hi) (some mx),ty',pos,af,gd⟩ (.ct (l.take nhi)) [] []:= .yd fun ρ G ov a w r=>by
 obtain⟨u,h3,h4⟩:=r.evD hx
 obtain⟨s',z,es,rfl,hsl,hl⟩:=is_sl.1 h4
 have hn:=hsl.len
 have hcap:=hsl.cap
 have hll:=hl.len
 have bnd: ∀{o:Operand} {d:Nat} {i:Int},bdX lk d (some o)=some i→opv (frA a) o=some (.int .i64 i):=fun{o d i} h=>by
  simp only[bdX] at h
  split at h<;>cases h
  rename_i he
  obtain⟨q,g1,g2⟩:=r.ev he
  rw[isX_int] at g2;subst g2;exact g1
 refine⟨.slice z.a nhi nhi,⟨⟨_,_,rfl⟩,slice_key hsl hl ho h2 (Nat.le_refl _) (by omega)⟩,?_⟩
 have h9:=yd_slice_3 (P:=P) (C:=C) (own:=ov) (G:=G) (t:=t) (dst:=dst) (ty':=ty') (pos:=pos) (af:=af) (gd:=gd) h3 (bnd hhi) (bnd hmx) (by omega) (Int.le_refl _) (by omega)
 simpa using h9
theorem ok_appC{d:Nat}{i:TI}{z:DV}{ds ds2:List DV}[hT:TySl P t e s by_][hN:TyN P t'](hi:tiOf P e=some i)(hz:zeE i=some z)(hs:Nat.beq z.cells.length s=true)(hx:evX lk x=some (.ct ds)∨(evX lk x=some .nl∧ds=[]))(ox:slOk s ds)(hy:srcX lk bk s y=some ds2)(hk2:slOk s ds2)(hne:0<ds2.length)
  (hby:Nat.blt 0 by_=true)(hbd:(ds.length+ds2.length)*by_≤140737488355328){ds':List DV}(hds:ds++ds2=ds'):
  OpR P GB C n lk bk ⟨some d, .call ⟨.builtin .append, #[x,y], #[t,t']⟩,ty',pos,af,gd⟩ (.rw d) [(d,some (.b e s ds' true))] [d]:=by
 intro hd tl tb K s1 s2 hf hk
 refine⟨fun ρ G ov a w r Q=>?_⟩
 subst hds
 have r1:=r.mono s1 s2
 obtain⟨v,hz1,hz2,hz3⟩:=zeE_ok hi hz
 have cz:=((hz2 G).cells hz3).1.len
 replace hs:=Nat.eq_of_beq_eq_true hs
 rw[Nat.blt_eq] at hby
 obtain⟨w2,us,h1,h2,h3,h4,h5,h6⟩:=src_ok (P:=P) r1 hy hk2
 have hxs:srcX lk bk s x=some ds:=by
  unfold srcX
  rcases hx with hx|⟨hx,rfl⟩<;>rw[hx]<;>rfl
 obtain⟨w1,vs,g1,g2,g3,g4,g5,g6⟩:=src_ok (P:=P) r1 hxs ox
 have hc1:w1.c=w1.n:=by
  rcases hx with hx|⟨hx,rfl⟩
  ·obtain⟨y1,k1,⟨a1,n1,rfl⟩,_⟩:=r1.ev hx
   rw[k1] at g1
   simp only[Option.some.injEq,Value.slice.injEq] at g1
   omega
  ·obtain⟨y1,k1,k2⟩:=r1.ev hx
   cases k2
   rw[k1] at g1
   simp only[Option.some.injEq,Value.slice.injEq] at g1
   omega
 have hl3:=h3.len
 have hl4:=g3.len
 have hall: ∀v∈vs++us,(cellsL v).length=s:=fun v hv=>by
  rcases List.mem_append.1 hv with hv|hv
  ·exact g4 v hv
  ·exact h4 v hv
 refine ch_append_grow (z:=v) (xs:=flatL vs) (ys:=flatL us) (ad:=w1.a) (len:=w1.n) (cap:=w1.c) g1 h1 g6 h6 (by omega) hby (by rw[g2,h2,hl3,hl4];exact hbd) hd (fun b cap' hc a' w' rl=>?_) a w Q ⟨r.h,r.sz,frA_ok a,r.df⟩
 rw[←flatL_app] at rl
 have hnd':=(List.pairwise_cons.1 rl.h.nd).1
 refine r.newRow (z:=⟨some ⟨b,0,none⟩,w1.n+w2.n,cap'⟩) (B:=[⟨b,flatL (vs++us)++zeros v (cap'-(w1.n+w2.n)),e,true⟩]) hf ⟨vs++us, .inr ⟨b,_,true,by simp[g2,h2],rfl,flatL_len _ hall,?_,by simpa[g2,h2] using hc⟩,g3.app h3,hall,fun _ o ho=>by rw[List.mem_singleton.1 ho]⟩
  (fun o ho=>by rw[List.mem_singleton.1 ho];exact List.mem_cons_self) (fun m B' hm e o ho _=>⟨List.mem_cons_of_mem _ ho,fun e'=>by cases e';exact hnd' o ho rfl⟩) hk rl
 rw[flatL_len _ hall,List.length_append,zeros_len,cz,hs,←Nat.add_mul,g2,h2]
 congr 1
 rw[g2,h2] at hc
 dsimp only
 omega
end
end Go.Sx
end

section
set_option maxRecDepth 100000
namespace Go.Sx
open Go Go.Proofs
section
variable {GB:Gh} {C:Ctx} {n:Nat} {Q0:Exit→Act→World→Prop} {fr fr':FrX} {own own':OwX} {cf cf':Cf} {vc:List Prop} {ops:Array Oper} {o:Oper} {K:List Kt} {r:List Oper}
def opC(fr:FrX)(cf:Cf):Option Oper:=match hdC cf with
 |some (ops,o)=>bif grd ops (lkC fr cf) o.guard then some o else none
 |none=>none
theorem opC_ok(h:opC fr cf=some o): ∃ops,hdC cf=some (ops,o)∧grd ops (lkC fr cf) o.guard=true:=by
 unfold opC at h
 split at h<;>try (cases h;done)
 rename_i ops o' hh
 cases hg:grd ops (lkC fr cf) o'.guard with
 |false=>rw[hg] at h;cases h
 |true=>rw[hg] at h;cases h;exact⟨ops,hh,hg⟩
theorem us{q:Nat}{f:FX}{bl:List (Nat×Option Bk)}{nw:List Nat}(hh:opC fr cf=some o)(h:OpR Tryz.prog GB C n (lkC fr cf) (bkC fr own cf) o f bl nw)
  (hgo:goA tt n q fr own cf f bl nw=⟨vc,fr',own',cf'⟩)(hv:allP vc)(k:CfS Tryz.prog GB C n Q0 fr' own' cf'):CfS Tryz.prog GB C n Q0 fr own cf:=by
 obtain⟨ops,h1,h2⟩:=opC_ok hh
 exact uo h1 h2 h hgo hv k
/-! calls -/
def calA(fr:FrX)(cf:Cf):Option (FuncId×List DV):=match opC fr cf with
 |some ⟨_, .call ⟨.value fo,args,_⟩,_,_,_,_⟩=>cargs (lkC fr cf) fo args
 |_=>none
theorem cl[fu:Fu]{f:FuncId}{ds:List DV}{rv:DV}(ha:calA fr cf=some (f,ds))(hF:PF GB Tryz.prog f ds rv)(hgo:goA tt n fu.n fr own cf (.d rv) [] []=⟨vc,fr',own',cf'⟩)(k:CfS Tryz.prog GB C n Q0 fr' own' cf')
  (hv:allP vc:=by first|exact trivial|(simp only[allP];kernel_rfl)|(simp only[allP];omega)|(simp only[allP,List.length_map,List.length_set,List.length_replicate];omega)):CfS Tryz.prog GB C n Q0 fr own cf:=by
 unfold calA at ha
 split at ha<;>try (cases ha;done)
 rename_i hh
 exact us hh (ok_call ha hF) hgo hv k
/-! elements of what is written no more -/
def ixA(fr:FrX)(cf:Cf):Option (List DV×Int×Nat):=match opC fr cf with
 |some ⟨_, .indexAddr t x y,_,_,_,_⟩=>match evD (lkC fr cf) x with
  |some (.sl l)=>match evX (lkC fr cf) y with
   |some (.d (.v (.int _ i)))=>match lookT tt t with
    |some ⟨.sl _ s _,_,_,_⟩=>some (l,i,s)
    |_=>none
   |_=>none
  |_=>none
 |_=>none
def ixG(n q:Nat)(fr:FrX)(own:OwX)(cf:Cf)(d:DV)(s:Nat):Res:=bif d.okc&&Nat.beq d.cells.length s then fcL d.cells fun cs=>goA tt n q fr own cf (.ep cs) [] [] else bad
theorem ix[fu:Fu](d:DV){l:List DV}{i:Int}{s:Nat}(h:ixA fr cf=some (l,i,s))(he:l[i.toNat]? =some d)(hgo:ixG n fu.n fr own cf d s=⟨vc,fr',own',cf'⟩)(k:CfS Tryz.prog GB C n Q0 fr' own' cf')(h0:0≤i:=by omega)
  (hv:allP vc:=by first|exact trivial|(simp only[allP];kernel_rfl)|(simp only[allP];omega)|(simp only[allP,List.length_map,List.length_set,List.length_replicate];omega)):CfS Tryz.prog GB C n Q0 fr own cf:=by
 unfold ixA at h
 split at h<;>try (cases h;done)
 rename_i hh
 split at h<;>try (cases h;done)
 rename_i hx
 split at h<;>try (cases h;done)
 rename_i hy
 split at h<;>cases h
 rename_i hT
 have:=ti_sl (tt_ok _ _ hT) rfl
 unfold ixG at hgo
 cases hc:(d.okc&&Nat.beq d.cells.length s) with
 |false=>simp only[hc,cond_false,bad] at hgo;cases hgo;exact absurd hv (fun x=>x)
 |true=>
  simp only[hc,cond_true,fcL_eq] at hgo
  exact us hh (ok_ixF hx hy h0 he hc) hgo hv k
/-! elements of rows -/
structure LbA where
 ds:List DV
 k:Nat
 j:Nat
 ag:Option Nat
def ldbA(fr:FrX)(own:OwX)(cf:Cf):Option LbA:=match opC fr cf with
 |some ⟨_, .load t x,_,_,_,_⟩=>match evX (lkC fr cf) x with
  |some (.be nm sz k j)=>match bkC fr own cf nm with
   |some (.b _ s ds _)=>bif Nat.beq s sz then(match lookT tt t with
    |some i=>match i.ag with
     |some ag=>some ⟨ds,k,j,ag⟩
     |none=>none
    |none=>none) else none
   |_=>none
  |_=>none
 |_=>none
def ldbG(n q:Nat)(fr:FrX)(own:OwX)(cf:Cf)(d:DV)(ag:Option Nat)(j:Nat):Res:=bif d.okc then(match ldE ag d.cells j with
 |some c=>goA tt n q fr own cf (.d c) [] []
 |none=>bad) else bad
theorem lb[fu:Fu](d:DV){ds:List DV}{k' j:Nat}{ag:Option Nat}(h:ldbA fr own cf=some ⟨ds,k',j,ag⟩)(he:ds[k']? =some d)(hgo:ldbG n fu.n fr own cf d ag j=⟨vc,fr',own',cf'⟩)(k:CfS Tryz.prog GB C n Q0 fr' own' cf')
  (hv:allP vc:=by first|exact trivial|(simp only[allP];kernel_rfl)|(simp only[allP];omega)|(simp only[allP,List.length_map,List.length_set,List.length_replicate];omega)):CfS Tryz.prog GB C n Q0 fr own cf:=by
 unfold ldbA at h
 split at h<;>try (cases h;done)
 rename_i hh
 split at h<;>try (cases h;done)
 rename_i hx
 split at h<;>try (cases h;done)
 rename_i ty s ds' lo hb
 rw[cond_eq_ite] at h
 split at h<;>try (cases h;done)
 rename_i hs
 cases Nat.eq_of_beq_eq_true hs
 split at h<;>try (cases h;done)
 rename_i hT
 split at h<;>cases h
 rename_i ha
 unfold ldbG at hgo
 cases hc:d.okc with
 |false=>simp only[hc,cond_false,bad] at hgo;cases hgo;exact absurd hv (fun x=>x)
 |true=>
  simp only[hc,cond_true] at hgo
  cases hl:ldE ag d.cells j with
  |none=>simp only[hl,bad] at hgo;cases hgo;exact absurd hv (fun x=>x)
  |some c=>simp only[hl] at hgo;exact us hh (ok_ldB (tt_ok _ _ hT) ha hx hb he hc hl) hgo hv k
structure SbA where
 nm:Nat
 ty:TypeId
 s:Nat
 ds:List DV
 lo:Bool
 k:Nat
 j:Nat
 ag:Option Nat
 u:DV
def stbA(fr:FrX)(own:OwX)(cf:Cf):Option SbA:=match opC fr cf with
 |some ⟨_, .store t x y,_,_,_,_⟩=>match evX (lkC fr cf) x with
  |some (.be nm sz k j)=>match bkC fr own cf nm with
   |some (.b ty s ds lo)=>bif Nat.beq s sz then(match lookT tt t with
    |some i=>match i.ag with
     |some ag=>match evD (lkC fr cf) y with
      |some u=>some ⟨nm,ty,s,ds,lo,k,j,ag,u⟩
      |none=>none
     |none=>none
    |none=>none) else none
   |_=>none
  |_=>none
 |_=>none
theorem sb[fu:Fu](d:DV){nm:Nat}{ty:TypeId}{s:Nat}{ds:List DV}{lo:Bool}{k' j:Nat}{ag:Option Nat}{u d':DV}(ds':List DV)(h:stbA fr own cf=some ⟨nm,ty,s,ds,lo,k',j,ag,u⟩)(he:ds[k']? =some d)(hl:stE ag d j u=some d')(hds:ds.set k' d'=ds')
  (hgo:goA tt n fu.n fr own cf .un [(nm,some (.b ty s ds' lo))] []=⟨vc,fr',own',cf'⟩)(k:CfS Tryz.prog GB C n Q0 fr' own' cf')
  (hv:allP vc:=by first|exact trivial|(simp only[allP];kernel_rfl)|(simp only[allP];omega)|(simp only[allP,List.length_map,List.length_set,List.length_replicate];omega)):CfS Tryz.prog GB C n Q0 fr own cf:=by
 unfold stbA at h
 split at h<;>try (cases h;done)
 rename_i hh
 split at h<;>try (cases h;done)
 rename_i hx
 split at h<;>try (cases h;done)
 rename_i hb
 rw[cond_eq_ite] at h
 split at h<;>try (cases h;done)
 rename_i hs
 cases Nat.eq_of_beq_eq_true hs
 split at h<;>try (cases h;done)
 rename_i hT
 split at h<;>try (cases h;done)
 rename_i ha
 split at h<;>cases h
 rename_i hy
 exact us hh (ok_stB (tt_ok _ _ hT) ha hx hb hy he hl hds) hgo hv k
/-! rows made -/
structure MkA where
 d:Nat
 e:Nat
 s:Nat
 b:Nat
 z:DV
 l:Int
def mkA(fr:FrX)(cf:Cf):Option MkA:=match opC fr cf with
 |some ⟨some d, .makeSlice t x y,_,_,_,_⟩=>match evX (lkC fr cf) x with
  |some (.d (.v (.int _ l)))=>match lookT tt t with
   |some ⟨.sl e s b,_,_,_⟩=>match lookT tt e with
    |some i=>match zeE i with
     |some z=>bif Nat.beq z.cells.length s then some ⟨d,e,s,b,z,l⟩ else none
     |none=>none
    |none=>none
   |_=>none
  |_=>none
 |_=>none
theorem mk[fu:Fu]{d e s b:Nat}{z:DV}{l:Int}{k':IntKind}(ds:List DV)(h:mkA fr cf=some ⟨d,e,s,b,z,l⟩)(hy:(match opC fr cf with|some ⟨_, .makeSlice _ _ y,_,_,_,_⟩=>evX (lkC fr cf) y|_=>none)=some (.d (.v (.int k' l))))(hds:List.replicate l.toNat z=ds)
  (hgo:goA tt n fu.n fr own cf (.rw d) [(d,some (.b e s ds true))] [d]=⟨vc,fr',own',cf'⟩)(k:CfS Tryz.prog GB C n Q0 fr' own' cf')(h0:0≤l:=by omega)(hb:b*l≤140737488355328:=by omega)(hl:l≤1152921504606846976:=by omega)
  (hv:allP vc:=by first|exact trivial|(simp only[allP];kernel_rfl)|(simp only[allP];omega)|(simp only[allP,List.length_map,List.length_set,List.length_replicate];omega)):CfS Tryz.prog GB C n Q0 fr own cf:=by
 unfold mkA at h
 split at h<;>try (cases h;done)
 rename_i hh
 split at h<;>try (cases h;done)
 rename_i hx
 split at h<;>try (cases h;done)
 rename_i hT
 split at h<;>try (cases h;done)
 rename_i hi
 split at h<;>try (cases h;done)
 rename_i hz
 rw[cond_eq_ite] at h
 split at h<;>cases h
 rename_i hs
 rw[hh] at hy
 have:=ti_sl (tt_ok _ _ hT) rfl
 exact us hh (ok_make (tt_ok _ _ hi) hz hs hx hy h0 hb hl hds) hgo hv k
structure RwA where
 d:Nat
 e:Nat
 s:Nat
 ds:List DV
def rowA(fr:FrX)(cf:Cf):Option RwA:=match opC fr cf with
 |some ⟨some d, .buildSlice t len parts,_,_,_,_⟩=>match lookT tt t with
  |some ⟨.sl e s _,_,_,_⟩=>match lookT tt e with
   |some i=>match zeE i with
    |some z=>match rowX (lkC fr cf) 0 parts.toList with
     |some ds=>bif Nat.beq z.cells.length s&&(okRow s ds&&(Nat.beq parts.toList.length len&&(Nat.ble (len*s) 1000&&Nat.blt 0 (len*s)))) then some ⟨d,e,s,ds⟩ else none
     |none=>none
    |none=>none
   |none=>none
  |_=>none
 |_=>none
theorem rowA_ok{d e s:Nat}{ds:List DV}(h:rowA fr cf=some ⟨d,e,s,ds⟩): ∃o,opC fr cf=some o∧o.dst=some d∧OpR Tryz.prog GB C n (lkC fr cf) (bkC fr own cf) o (.rw d) [(d,some (.b e s ds true))] [d]:=by
 unfold rowA at h
 split at h<;>try (cases h;done)
 rename_i hh
 split at h<;>try (cases h;done)
 rename_i hT
 split at h<;>try (cases h;done)
 rename_i hi
 split at h<;>try (cases h;done)
 rename_i hz
 split at h<;>try (cases h;done)
 rename_i hr
 rw[cond_eq_ite] at h
 split at h<;>cases h
 rename_i hc
 simp only[Bool.and_eq_true] at hc
 have:=ti_sl (tt_ok _ _ hT) rfl
 exact⟨_,hh,rfl,ok_row (tt_ok _ _ hi) hz hc.1 hr hc.2.1 hc.2.2.1 hc.2.2.2.1 hc.2.2.2.2⟩
theorem ro[fu:Fu]{d e s:Nat}{ds:List DV}(h:rowA fr cf=some ⟨d,e,s,ds⟩)(hgo:goA tt n fu.n fr own cf (.rw d) [(d,some (.b e s ds true))] [d]=⟨vc,fr',own',cf'⟩)(k:CfS Tryz.prog GB C n Q0 fr' own' cf')
  (hv:allP vc:=by first|exact trivial|(simp only[allP];kernel_rfl)|(simp only[allP];omega)|(simp only[allP,List.length_map,List.length_set,List.length_replicate];omega)):CfS Tryz.prog GB C n Q0 fr own cf:=by
 obtain⟨o,h1,_,h3⟩:=rowA_ok (GB:=GB) (C:=C) (n:=n) (own:=own) h
 exact us h1 h3 hgo hv k
theorem rf[fu:Fu]{d e s:Nat}{ds:List DV}(h:rowA fr cf=some ⟨d,e,s,ds⟩)(hgo:goA tt n fu.n fr own cf (.d (.sl ds)) [(d,none)] [d]=⟨vc,fr',own',cf'⟩)(k:CfS Tryz.prog GB C n Q0 fr' own' cf')
  (hv:allP vc:=by first|exact trivial|(simp only[allP];kernel_rfl)|(simp only[allP];omega)|(simp only[allP,List.length_map,List.length_set,List.length_replicate];omega)):CfS Tryz.prog GB C n Q0 fr own cf:=by
 obtain⟨o,h1,h2,h3⟩:=rowA_ok (GB:=GB) (C:=C) (n:=n) (own:=own) h
 exact us h1 (h3.frzRow h2) hgo hv k
def isRow0(fr:FrX)(cf:Cf):Option (Nat×Nat×Nat):=match opC fr cf with
 |some ⟨some d, .buildSlice t 0 ⟨[]⟩,_,_,_,_⟩=>match lookT tt t with
  |some ⟨.sl e s _,_,_,_⟩=>some (d,e,s)
  |_=>none
 |_=>none
theorem ro0[fu:Fu]{d e s:Nat}(h:isRow0 fr cf=some (d,e,s))(hgo:goA tt n fu.n fr own cf (.rw d) [(d,some (.b e s [] true))] [d]=⟨vc,fr',own',cf'⟩)(k:CfS Tryz.prog GB C n Q0 fr' own' cf')
  (hv:allP vc:=by first|exact trivial|(simp only[allP];kernel_rfl)|(simp only[allP];omega)|(simp only[allP,List.length_map,List.length_set,List.length_replicate];omega)):CfS Tryz.prog GB C n Q0 fr own cf:=by
 unfold isRow0 at h
 split at h<;>try (cases h;done)
 rename_i hh
 split at h<;>cases h
 rename_i hT
 have:=ti_sl (tt_ok _ _ hT) rfl
 exact us hh ok_row0 hgo hv k
/-! append -/
structure ApA where
 d:Nat
 nm:Option Nat
 e:Nat
 s:Nat
 b:Nat
 ds:List DV
 ds2:List DV
def appA(fr:FrX)(own:OwX)(cf:Cf):Option ApA:=match opC fr cf with
 |some ⟨some d, .call ⟨.builtin .append,⟨[x,y]⟩,⟨[t,t']⟩⟩,_,_,_,_⟩=>match lookT tt t with
  |some ⟨.sl e s b,_,_,_⟩=>match lookT tt t' with
   |some ⟨.sl _ _ _,_,_,_⟩=>match lookT tt e with
    |some i=>match zeE i with
     |some z=>bif Nat.beq z.cells.length s&&Nat.blt 0 b then(match srcX (lkC fr cf) (bkC fr own cf) s y with
      |some ds2=>match evX (lkC fr cf) x with
       |some (.rw nm)=>match bkC fr own cf nm with
        |some (.b e' s' ds true)=>bif (Nat.beq e' e&&Nat.beq s' s)&&!Nat.beq nm d then some ⟨d,some nm,e,s,b,ds,ds2⟩ else none
        |_=>none
       |some (.ct ds)=>some ⟨d,none,e,s,b,ds,ds2⟩
       |some .nl=>some ⟨d,none,e,s,b,[],ds2⟩
       |_=>none
      |none=>none) else none
     |none=>none
    |none=>none
   |_=>none
  |_=>none
 |_=>none
def aBl(d:Nat)(nm:Option Nat)(B:Bk):List (Nat×Option Bk):=match nm with
 |some nm=>[(nm,none),(d,some B)]
 |none=>[(d,some B)]
theorem appA_ok{d:Nat}{nm:Option Nat}{e s b:Nat}{ds ds2:List DV}(h:appA fr own cf=some ⟨d,nm,e,s,b,ds,ds2⟩)(ds':List DV)(hds:ds++ds2=ds')(ho:nm.isNone=true→slOk s ds∧0<ds2.length)(ho2:slOk s ds2)(hbd:(ds.length+ds2.length)*b≤140737488355328):
  ∃o,opC fr cf=some o∧o.dst=some d∧OpR Tryz.prog GB C n (lkC fr cf) (bkC fr own cf) o (.rw d) (aBl d nm (.b e s ds' true)) [d]:=by
 unfold appA at h
 split at h<;>try (cases h;done)
 rename_i hh
 split at h<;>try (cases h;done)
 rename_i hT
 split at h<;>try (cases h;done)
 rename_i hT'
 split at h<;>try (cases h;done)
 rename_i hi
 split at h<;>try (cases h;done)
 rename_i hz
 rw[cond_eq_ite] at h
 split at h<;>try (cases h;done)
 rename_i hc
 simp only[Bool.and_eq_true] at hc
 split at h<;>try (cases h;done)
 rename_i hy
 have:=ti_sl (tt_ok _ _ hT) rfl
 have hN:TyN Tryz.prog _:=⟨_,(ti_sl (tt_ok _ _ hT') rfl).un⟩
 refine⟨_,hh,?_⟩
 split at h<;>try (cases h;done)
 ·rename_i hx
  split at h<;>try (cases h;done)
  rename_i hb
  rw[cond_eq_ite] at h
  split at h<;>cases h
  rename_i hq
  simp only[Bool.and_eq_true,Bool.not_eq_true'] at hq
  cases Nat.eq_of_beq_eq_true hq.1.1
  cases Nat.eq_of_beq_eq_true hq.1.2
  exact⟨rfl,ok_apnd (tt_ok _ _ hi) hz hc.1 hx hb hy ho2 hc.2 hbd hq.2 hds⟩
 ·rename_i hx
  cases h
  obtain⟨h1,h2⟩:=ho rfl
  exact⟨rfl,ok_appC (tt_ok _ _ hi) hz hc.1 (.inl hx) h1 hy ho2 h2 hc.2 hbd hds⟩
 ·rename_i hx
  cases h
  obtain⟨h1,h2⟩:=ho rfl
  exact⟨rfl,ok_appC (tt_ok _ _ hi) hz hc.1 (.inr ⟨hx,rfl⟩) h1 hy ho2 h2 hc.2 hbd hds⟩
theorem ap[fu:Fu]{d:Nat}{nm:Option Nat}{e s b:Nat}{ds ds2:List DV}(ds':List DV)(h:appA fr own cf=some ⟨d,nm,e,s,b,ds,ds2⟩)(hds:ds++ds2=ds')(ho2:slOk s ds2)(hgo:goA tt n fu.n fr own cf (.rw d) (aBl d nm (.b e s ds' true)) [d]=⟨vc,fr',own',cf'⟩)(k:CfS Tryz.prog GB C n Q0 fr' own' cf')
  (ho:nm.isNone=true→slOk s ds∧0<ds2.length:=by intro h;first|(cases h;done)|exact⟨okRow_spec rfl,by simp⟩)(hbd:(ds.length+ds2.length)*b≤140737488355328:=by simp;omega)
  (hv:allP vc:=by first|exact trivial|(simp only[allP];kernel_rfl)|(simp only[allP];omega)|(simp only[allP,List.length_map,List.length_set,List.length_replicate];omega)):CfS Tryz.prog GB C n Q0 fr own cf:=by
 obtain⟨o,h1,_,h3⟩:=appA_ok (GB:=GB) (C:=C) (n:=n) h ds' hds ho ho2 hbd
 exact us h1 h3 hgo hv k
/-! slices -/
def slcA(fr:FrX)(cf:Cf):Option (List DV×Int×Int×Nat×Bool):=match opC fr cf with
 |some ⟨_, .slice t x lo hi mx,_,_,_,_⟩=>match evD (lkC fr cf) x with
  |some (.sl l)=>match lookT tt t with
   |some ⟨.sl _ s _,_,_,_⟩=>match bdX (lkC fr cf) 0 lo,bdX (lkC fr cf) l.length hi with
    |some i,some j=>match mx with
     |none=>some (l,i,j,s,false)
     |some _=>none
    |_,_=>none
   |_=>none
  |_=>none
 |_=>none
theorem sc'[fu:Fu]{l:List DV}{i j:Int}{s:Nat}(nlo nhi:Nat)(ls:List DV)(h:slcA fr cf=some (l,i,j,s,false))(ei:i=nlo)(ej:j=nhi)(hls:(l.take nhi).drop nlo=ls)(ho:slOk s l)(h1:nlo≤nhi)(h2:nhi≤l.length)
  (hgo:goA tt n fu.n fr own cf (.d (.sl ls)) [] []=⟨vc,fr',own',cf'⟩)(k:CfS Tryz.prog GB C n Q0 fr' own' cf')
  (hv:allP vc:=by first|exact trivial|(simp only[allP];kernel_rfl)|(simp only[allP];omega)|(simp only[allP,List.length_map,List.length_set,List.length_replicate];omega)):CfS Tryz.prog GB C n Q0 fr own cf:=by
 unfold slcA at h
 split at h<;>try (cases h;done)
 rename_i hh
 split at h<;>try (cases h;done)
 rename_i hx
 split at h<;>try (cases h;done)
 rename_i hT
 split at h<;>try (cases h;done)
 rename_i hi hj
 split at h<;>cases h
 have:=ti_sl (tt_ok _ _ hT) rfl
 subst ei ej hls
 exact us hh (ok_slc hx ho hi hj h1 h2) hgo hv k
def sl3A(fr:FrX)(cf:Cf):Option (List DV×Int×Int×Nat):=match opC fr cf with
 |some ⟨_, .slice t x none (some hi) (some mx),_,_,_,_⟩=>match evD (lkC fr cf) x with
  |some (.sl l)=>match lookT tt t with
   |some ⟨.sl _ s _,_,_,_⟩=>match bdX (lkC fr cf) 0 (some hi),bdX (lkC fr cf) 0 (some mx) with
    |some i,some j=>some (l,i,j,s)
    |_,_=>none
   |_=>none
  |_=>none
 |_=>none
theorem s3[fu:Fu]{l:List DV}{i j:Int}{s:Nat}(nhi:Nat)(ls:List DV)(h:sl3A fr cf=some (l,i,j,s))(ei:i=nhi)(ej:j=nhi)(hls:l.take nhi=ls)(ho:slOk s l)(h2:nhi≤l.length)
  (hgo:goA tt n fu.n fr own cf (.ct ls) [] []=⟨vc,fr',own',cf'⟩)(k:CfS Tryz.prog GB C n Q0 fr' own' cf')
  (hv:allP vc:=by first|exact trivial|(simp only[allP];kernel_rfl)|(simp only[allP];omega)|(simp only[allP,List.length_map,List.length_set,List.length_replicate];omega)):CfS Tryz.prog GB C n Q0 fr own cf:=by
 unfold sl3A at h
 split at h<;>try (cases h;done)
 rename_i hh
 split at h<;>try (cases h;done)
 rename_i hx
 split at h<;>try (cases h;done)
 rename_i hT
 split at h<;>cases h
 rename_i hi hj
 have:=ti_sl (tt_ok _ _ hT) rfl
 subst ei ej hls
 exact us hh (ok_slc3 hx ho hi hj h2) hgo hv k
def boxA(fr:FrX)(cf:Cf):Option (Nat×List DV):=match opC fr cf with
 |some ⟨some d, .box _ x,_,_,_,_⟩=>match evX (lkC fr cf) x with
  |some f=>bif f.okc&&nmNe f d then(match toDXs f.cells with
   |some l=>some (d,l)
   |none=>none) else none
  |none=>none
 |_=>none
end
end Go.Sx
end

section
set_option maxRecDepth 100000
namespace Go.Sx
open Go Go.Proofs
section
variable {GB:Gh} {C:Ctx} {n:Nat} {Q0:Exit→Act→World→Prop} {fr fr':FrX} {own own':OwX} {cf cf':Cf} {vc:List Prop} {ops:Array Oper} {o:Oper} {K:List Kt} {r:List Oper}
/-! ### names anew -/
def rnN(x y m:Nat)(k:Option Nat):Option Nat:=bif Nat.beq m x then some y else bif Nat.beq m y then none else k
def rnX(x y:Nat):FX→FX
 | .rw m=>bif Nat.beq m x then .rw y else bif Nat.beq m y then .no else .rw m
 | .ov m o=>bif Nat.beq m x then .ov y o else bif Nat.beq m y then .no else .ov m o
 | .be m s i j=>bif Nat.beq m x then .be y s i j else bif Nat.beq m y then .no else .be m s i j
 | .bx tp pre m post=>bif Nat.beq m x then .bx tp pre y post else bif Nat.beq m y then .no else .bx tp pre m post
 |f=>f
def rnB(x y:Nat):Option Bk→Option Bk
 |some (.o ty cs lo)=>some (.o ty (cs.map (rnX x y)) lo)
 |B=>B
def rnK(x y k:Nat):Nat:=bif Nat.beq k x then y else bif Nat.beq k y then x else k
def mapK{α:Type}(g:FX→FX):List FX→(List FX→α)→α
 |[],k=>k []
 |f::t,k=>mapK g t fun t'=>fcX (g f) fun f'=>k (f'::t')
theorem mapK_eq{α:Type}{g:FX→FX}: ∀{cs:List FX} {k:List FX→α},mapK g cs k=k (cs.map g)
 |[],k=>rfl
 |f::t,k=>by simp only[mapK,fcX_eq];rw[mapK_eq];rfl
def mapF{α:Type}(g:FX→FX):FrX→(FrX→α)→α
 |[],k=>k []
 |(j,f)::t,k=>mapF g t fun t'=>fcX (g f) fun f'=>k ((j,f')::t')
theorem mapF_eq{α:Type}{g:FX→FX}: ∀{fr:FrX} {k:FrX→α},mapF g fr k=k (fr.map fun e=>(e.1,g e.2))
 |[],k=>rfl
 |(j,f)::t,k=>by simp only[mapF,fcX_eq];rw[mapF_eq];rfl
def rnO{α:Type}(x y:Nat):OwX→(OwX→α)→α
 |[],k=>k []
 |(j,B)::t,k=>rnO x y t fun t'=>bif Nat.beq j y then k ((x,none)::t') else match B with
  |some (.o ty cs lo)=>mapK (rnX x y) cs fun cs'=>bif Nat.beq j x then k ((y,some (.o ty cs' lo))::t') else k ((j,some (.o ty cs' lo))::t')
  |B=>bif Nat.beq j x then k ((y,B)::t') else k ((j,B)::t')
theorem rnO_eq{α:Type}{x y:Nat}: ∀{own:OwX} {k:OwX→α},rnO x y own k=k (own.map fun e=>(bif Nat.beq e.1 y then x else bif Nat.beq e.1 x then y else e.1,bif Nat.beq e.1 y then none else rnB x y e.2))
 |[],k=>rfl
 |(j,B)::t,k=>by
  simp only[rnO,rnO_eq (own:=t),List.map_cons]
  cases Nat.beq j y with
  |true=>rfl
  |false=>
   cases B with
   |none=>cases Nat.beq j x<;>rfl
   |some B=>cases B<;>cases Nat.beq j x<;>simp only[cond_false,cond_true,mapK_eq,rnB]
theorem rnO_look{x y:Nat}(hxy:x≠y): ∀{own:OwX} {k:Nat},lookO (own.map fun e=>(bif Nat.beq e.1 y then x else bif Nat.beq e.1 x then y else e.1,bif Nat.beq e.1 y then none else rnB x y e.2)) k=if k=x then none else if k=y then rnB x y (lookO own x) else rnB x y (lookO own k)
 |[],k=>by simp[lookO,rnB]
 |(j,B)::t,k=>by
  have bq: ∀a b:Nat,Nat.beq a b=decide (a=b):=fun a b=>by
   by_cases h:a=b
   ·subst h;simp
   ·rw[decide_eq_false h]
    cases hb:Nat.beq a b with
    |false=>rfl
    |true=>exact absurd (Nat.eq_of_beq_eq_true hb) h
  simp only[List.map_cons]
  rw[lookO_cons,rnO_look hxy (own:=t),lookO_cons,lookO_cons]
  by_cases h1:j=y
  ·subst h1
   simp only[bq,decide_true,cond_true]
   by_cases h2:k=x
   ·simp[h2]
   ·by_cases h3:k=j
    ·subst h3;simp[h2,Ne.symm h2,hxy]
    ·simp[h2,h3]
  ·by_cases h4:j=x
   ·subst h4
    simp only[bq,h1,decide_false,cond_false,decide_true,cond_true]
    by_cases h2:k=y
    ·subst h2;simp[Ne.symm h1]
    ·by_cases h3:k=j
     ·subst h3;simp[h1]
     ·simp[h2,h3]
   ·simp only[bq,h1,h4,decide_false,cond_false]
    by_cases h2:k=j
    ·subst h2;simp[h1,h4]
    ·by_cases h3:k=x
     ·subst h3;simp[h2]
     ·by_cases h5:k=y
      ·subst h5;simp[h2,h3,Ne.symm h4]
      ·simp[h2,h3,h5]
theorem rnX_is{x y:Nat}(hxy:x≠y){ρ:NE}{G:Gh}{f:FX}{v:Value}(h:IsX ρ G f v):IsX (fun k=>if k=y then ρ x else ρ k) G (rnX x y f) v:=by
 have key: ∀m:Nat,Nat.beq m y=false→(fun k=>if k=y then ρ x else ρ k) m=ρ m:=fun m hm=>if_neg fun e=>by subst e;simp at hm
 cases f with
 |rw m=>
  simp only[rnX]
  cases hb:Nat.beq m x with
  |true=>cases Nat.eq_of_beq_eq_true hb;simp only[cond_true];show v=_;simp;exact h
  |false=>
   cases hb':Nat.beq m y with
   |true=>trivial
   |false=>simp only[cond_false];show v=_;rw[key m hb'];exact h
 |ov m off=>
  simp only[rnX]
  cases hb:Nat.beq m x with
  |true=>cases Nat.eq_of_beq_eq_true hb;simp only[cond_true];obtain⟨b,h1,h2⟩:=h;exact⟨b,by simp;exact h1,h2⟩
  |false=>
   cases hb':Nat.beq m y with
   |true=>trivial
   |false=>simp only[cond_false];obtain⟨b,h1,h2⟩:=h;exact⟨b,by rw[key m hb'];exact h1,h2⟩
 |be m s i j=>
  simp only[rnX]
  cases hb:Nat.beq m x with
  |true=>cases Nat.eq_of_beq_eq_true hb;simp only[cond_true];obtain⟨b,h1,h2⟩:=h;exact⟨b,by simp;exact h1,h2⟩
  |false=>
   cases hb':Nat.beq m y with
   |true=>trivial
   |false=>simp only[cond_false];obtain⟨b,h1,h2⟩:=h;exact⟨b,by rw[key m hb'];exact h1,h2⟩
 |bx tp pre m post=>
  simp only[rnX]
  cases hb:Nat.beq m x with
  |true=>cases Nat.eq_of_beq_eq_true hb;simp only[cond_true];obtain⟨m1,m2,e,h1,h2⟩:=h;exact⟨m1,m2,by simpa using e,h1,h2⟩
  |false=>
   cases hb':Nat.beq m y with
   |true=>trivial
   |false=>simp only[cond_false];obtain⟨m1,m2,e,h1,h2⟩:=h;exact⟨m1,m2,by rw[key m hb'];exact e,h1,h2⟩
 |_=>exact h
theorem rnXs_is{x y:Nat}(hxy:x≠y){ρ:NE}{G:Gh}: ∀{cs:List FX} {m:List Value},IsXs ρ G cs m→IsXs (fun k=>if k=y then ρ x else ρ k) G (cs.map (rnX x y)) m
 |[],m,h=>h
 |f::t,m,⟨v,q,e,h1,h2⟩=>⟨v,q,e,rnX_is hxy h1,rnXs_is hxy h2⟩
def rnA(x y:Nat)(fr:FrX)(own:OwX):Option FzR:=bif Nat.beq x y then none else mapF (rnX x y) fr fun fr'=>rnO x y own fun own'=>some ⟨fr',own'⟩
theorem rnA_ok{x y:Nat}{Φ:Act→World→Prop}{R:FzR}(h:rnA x y fr own=some R)(hk:SX GB C n (lookX R.fr) (lookO R.own) Φ):SX GB C n (lookX fr) (lookO own) Φ:=by
 unfold rnA at h
 rw[cond_eq_ite] at h
 split at h<;>try (cases h;done)
 rename_i hb
 have hxy:x≠y:=fun e=>hb (by subst e;simp)
 rw[mapF_eq,rnO_eq] at h;cases h
 refine⟨fun ρ G ov a w r=>hk.run (fun k=>if k=y then ρ x else ρ k) G ov a w ?_⟩
 have inv: ∀m B,lookO (own.map fun e=>(bif Nat.beq e.1 y then x else bif Nat.beq e.1 x then y else e.1,bif Nat.beq e.1 y then none else rnB x y e.2)) m=some B→ ∃m0 B0,lookO own m0=some B0∧rnB x y (some B0)=some B∧(m=y∧m0=x∨m≠y∧m≠x∧m0=m):=fun m B e=>by
  rw[rnO_look hxy] at e
  split at e
  ·cases e
  ·rename_i hm
   split at e
   ·cases hl:lookO own x with
    |none=>rw[hl] at e;cases e
    |some B0=>rw[hl] at e;exact⟨x,B0,hl,e, .inl ⟨by assumption,rfl⟩⟩
   ·cases hl:lookO own m with
    |none=>rw[hl] at e;cases e
    |some B0=>rw[hl] at e;exact⟨m,B0,hl,e, .inr ⟨by assumption,hm,rfl⟩⟩
 have rho: ∀m m0,(m=y∧m0=x∨m≠y∧m≠x∧m0=m)→(fun k=>if k=y then ρ x else ρ k) m=ρ m0:=fun m m0 h=>by
  rcases h with⟨h1,h2⟩|⟨h1,_,h2⟩
  ·subst h1 h2;simp
  ·subst h2;exact if_neg h1
 refine⟨r.gb,r.h,r.sz,r.df,fun k f e=>?_,fun m B e=>?_,fun m m' B B' e e' hne=>?_⟩
 ·rw[look_map] at e
  cases hf:lookX fr k with
  |none=>rw[hf] at e;cases e
  |some g=>
   rw[hf] at e;cases e
   obtain⟨v,h1,h2⟩:=r.fx k g hf
   exact⟨v,h1,rnX_is hxy h2⟩
 ·obtain⟨m0,B0,h1,h2,h3⟩:=inv m B e
  obtain⟨os,h4,h5⟩:=r.bx m0 B0 h1
  refine⟨os,?_,h5⟩
  have hr:=rho m m0 h3
  cases B0 with
  |b=>cases h2;obtain⟨vs,q1,q2,q3,q4⟩:=h4;exact⟨vs,by rw[hr];exact q1,q2,q3,q4⟩
  |c=>cases h2;obtain⟨vs,q1,q2,q3,q4,q5⟩:=h4;exact⟨vs,by rw[hr];exact q1,q2,q3,q4,by rw[hr];exact q5⟩
  |o ty cs lo=>cases h2;obtain⟨b,q,q1,q2,q3⟩:=h4;exact⟨b,q,by rw[hr];exact q1,q2,rnXs_is hxy q3⟩
 ·obtain⟨m0,B0,h1,_,h3⟩:=inv m B e
  obtain⟨m1,B1,h4,_,h6⟩:=inv m' B' e'
  have q1:=rho m m0 h3
  have q2:=rho m' m1 h6
  simp only at q1 q2
  rw[q1,q2]
  refine r.dj m0 m1 B0 B1 h1 h4 fun e=>?_
  rcases h3 with⟨h7,h8⟩|⟨h7,h8,h9⟩<;>rcases h6 with⟨g7,g8⟩|⟨g7,g8,g9⟩
  ·exact hne (h7.trans g7.symm)
  ·exact g8 (by rw[←g9,←e,h8])
  ·exact h8 (by rw[←h9,e,g8])
  ·exact hne (by rw[←h9,e,g9])
theorem rnE(x y:Nat){fr1:FrX}{own1:OwX}{e:Exit}(h:rnA x y fr own=some ⟨fr1,own1⟩)(k:CfS Tryz.prog GB C n Q0 fr1 own1 (.ex e K)):CfS Tryz.prog GB C n Q0 fr own (.ex e K):=rnA_ok h k
theorem lookX_nl{d nm:Nat}(hl:lookX fr d=some .nl){Φ:Act→World→Prop}{ty s:Nat}(hf:FreshX [nm] none (lookX fr) (lookO own))(h:SX GB C n (lookX ((d, .rw nm)::fr)) (lookO (setO own nm (some (.b ty s [] true)))) Φ):SX GB C n (lookX fr) (lookO own) Φ:=by
 refine⟨fun ρ G ov a w r=>?_⟩
 obtain⟨f1,f2⟩:=hf nm List.mem_cons_self
 have hset:lookO (setO own nm (some (.b ty s [] true)))=upB (lookO own) [(nm,some (.b ty s [] true))]:=by funext j;rw[lookO_set];rfl
 rw[hset] at h
 refine h.run (fun k=>if k=nm then⟨none,0,0⟩ else ρ k) G ov a w ⟨r.gb,r.h,r.sz,r.df,fun k f e=>?_,fun m B e=>?_,fun m m' B B' e e' hne=>?_⟩
 ·rw[lookX_cons] at e
  split at e
  ·cases e;rename_i hk;subst hk
   obtain⟨v,h1,h2⟩:=r.fx _ _ hl
   exact⟨v,h1,by rw[show v=_ from h2];show _=_;simp⟩
  ·obtain⟨v,h1,h2⟩:=r.fx k f e
   exact⟨v,h1,h2.ren fun m hm=>neN _ fun hc=>f1 k f (by simp) e (by rw[hm,hc])⟩
 ·simp only[upB] at e
  by_cases hm:m=nm
  ·subst hm;simp only[if_true] at e;cases e
   exact⟨[],⟨[],by simp only[if_true];exact .inl ⟨rfl,rfl,rfl⟩, .nil,by simp,fun _ o ho=>by cases ho⟩,fun o ho=>by cases ho⟩
  ·simp only[hm,if_false] at e
   obtain⟨os,h1,h2⟩:=r.bx m B e
   exact⟨os,h1.ren (if_neg hm) fun q hq=>neN _ fun hc=>f2 m B hm e (by rw[←hc];exact hq),h2⟩
 ·simp only[upB] at e e'
  intro b hb hb'
  by_cases hm:m=nm
  ·simp[hm] at hb
  ·by_cases hm':m'=nm
   ·simp[hm'] at hb'
   ·simp only[hm,hm',if_false] at e e' hb hb'
    exact r.dj m m' B B' e e' hne b hb hb'
theorem nr(d nm ty s:Nat){own1:OwX}{c:Code}(hl:lookX fr d=some .nl)(hf:freshL [nm] none fr own=true)(ho:setK own nm (some (.b ty s [] true)) id=own1)(k:CfS Tryz.prog GB C n Q0 ((d, .rw nm)::fr) own1 (.code c K)):CfS Tryz.prog GB C n Q0 fr own (.code c K):=by
 subst ho
 exact lookX_nl hl (freshL_ok hf) k
/-! ### calls that borrow a variable -/
def mkP:List (Option DV)→Nat→List DV
 |[],_=>[]
 |some d::t,b=>d::mkP t b
 |none::t,b=> .v (.pointer (some ⟨b,0,none⟩))::mkP t b
def evMs(lk:LK):List Operand→Option (Option Nat×List (Option DV))
 |[]=>some (none,[])
 |x::t=>match evX lk x,evMs lk t with
  |some (.ov nm 0),some (none,l)=>some (some nm,none::l)
  |some f,some (q,l)=>match toDX f with
   |some d=>some (q,some d::l)
   |none=>none
  |_,_=>none
def cargM(lk:LK)(fo:Operand)(args:Array Operand):Option (FuncId×Nat×List (Option DV)):=match evX lk fo with
 |some (.d (.v (.func (.func f) ⟨[]⟩ ⟨[]⟩)))=>match evMs lk args.toList with
  |some (some nm,l)=>some (f,nm,l)
  |_=>none
 |_=>none
theorem evMs_ok{lk:LK}{bk:BM}{ρ:NE}{G:Gh}{ov:List Own}{a:Act}{w:World}(r:RlX GB C n lk bk ρ G ov a w){b:Nat}: ∀{x:List Operand} {q:Option Nat} {l:List (Option DV)},evMs lk x=some (q,l)→(∀nm,q=some nm→(ρ nm).a=some ⟨b,0,none⟩)→
  ∃y,opvs (frA a) x=some y∧IsLs G (mkP l b) y
 |[],q,l,e,_=>by cases e;exact⟨[],rfl, .nil⟩
 |x::t,q,l,e,hb=>by
  simp only[evMs] at e
  split at e
  ·rename_i nm l' h1 h2
   cases e
   obtain⟨y,h3,b',h4,rfl⟩:=r.ev h1
   have:=hb nm rfl
   rw[h4] at this;cases this
   obtain⟨ys,h5,h6⟩:=evMs_ok r (b:=b) h2 (fun nm e=>by cases e)
   exact⟨_::ys,by simp only[opvs,h3,h5], .cons ((is_v (G:=G)).2 rfl) h6⟩
  ·rename_i f q' l' _ h1 h2
   cases hd:toDX f with
   |none=>rw[hd] at e;cases e
   |some d=>
   rw[hd] at e;cases e
   obtain⟨y,h3,h4⟩:=r.ev h1
   obtain⟨ys,h5,h6⟩:=evMs_ok r (b:=b) h2 hb
   exact⟨y::ys,by simp only[opvs,h3,h5], .cons (toDX_is h4 hd) h6⟩
  ·cases e
theorem RlX.lend{lk:LK}{bk:BM}{ρ:NE}{G:Gh}{ov:List Own}{a:Act}{w:World}{nm:Nat}{ty:TypeId}{cs:List FX}{lo:Bool}{csd:List DV}(r:RlX GB C n lk bk ρ G ov a w)(hb:bk nm=some (.o ty cs lo))(hc:toDXs cs=some csd):
  ∃b m rest,(ρ nm).a=some ⟨b,0,none⟩∧IsLs G csd m∧ov.Perm ([⟨b,m,ty,lo⟩]++rest)∧ ∀o∈ov,o.b≠b→o∈rest:=by
 obtain⟨os,⟨b,m,h1,rfl,h2⟩,h3⟩:=r.bx _ _ hb
 obtain⟨l1,l2,rfl⟩:=List.append_of_mem (h3 _ List.mem_cons_self)
 refine⟨b,m,l1++l2,h1,toDXs_is h2 hc,List.perm_middle,fun o ho hne=>?_⟩
 rcases List.mem_append.1 ho with ho|ho
 ·exact List.mem_append_left _ ho
 ·rcases List.mem_cons.1 ho with rfl|ho
  ·exact absurd rfl hne
  ·exact List.mem_append_right _ ho
theorem ok_callM{P:Program}{lk:LK}{bk:BM}{fo:Operand}{args:Array Operand}{tys:Array TypeId}{f:FuncId}{nm:Nat}{l:List (Option DV)}{rv:DV}{dst:Option Nat}{ty ty0:TypeId}{pos:String}{af:Array Edge}{gd:Option (Nat×Bool)}{cs:List FX}{csd cs':List DV}{lo:Bool}
  (ha:cargM lk fo args=some (f,nm,l))(hb:bk nm=some (.o ty0 cs lo))(hc:toDXs cs=some csd)(hF: ∀b,PM GB P f (mkP l b) b ty0 csd rv cs'){csx:List FX}(hx:cs'.map .d=csx):OpR P GB C n lk bk ⟨dst, .call ⟨.value fo,args,tys⟩,ty,pos,af,gd⟩ (.d rv) [(nm,some (.o ty0 csx lo))] []:=by
 intro hd tl tb K' s1 s2 hf hk
 refine⟨fun ρ G ov a w r Q=>?_⟩
 subst hx
 have r1:=r.mono s1 s2
 unfold cargM at ha
 split at ha<;>try (cases ha;done)
 rename_i h1
 split at ha<;>cases ha
 rename_i h2
 obtain⟨y,hy,hy'⟩:=r1.ev h1
 rw[(is_v (G:=G)).1 hy'] at hy
 obtain⟨b,m,rest,h3,h4,h5,h6⟩:=r1.lend hb hc
 obtain⟨vs,h7,h8⟩:=evMs_ok r1 (b:=b) h2 (fun nm e=>by cases e;exact h3)
 refine ch_callM (M:=[⟨b,m,ty0,lo⟩]) (rest:=rest) hy h7 h5 (hF b G vs m lo r.gb h8 h4) hd (fun v css G' hG hl hK a' w' rl=>?_) a w Q ⟨r.h,r.sz,frA_ok a,r.df⟩
 obtain⟨hr,m',rfl,hm'⟩:=hK
 have rl':Rel C n (Sx.put (frA a) dst v) (⟨b,m',ty0,lo⟩::rest) G' a' w':=rl
 have r2:=r.upB (G':=G') (ov':=⟨b,m',ty0,lo⟩::rest) (w':=w') (B':= .o ty0 (cs'.map .d) lo) (os:=[⟨b,m',ty0,lo⟩]) hG.le rl'.h ⟨b,m',h3,rfl,isXs_d hm'⟩ (fun o ho=>by rw[List.mem_singleton.1 ho];exact List.mem_cons_self)
  (fun o ho hne=>List.mem_cons_of_mem _ (h6 o ho fun e=>hne (by rw[h3,e]))) ⟨_,s2 _ _ hb⟩
 exact hk.run ρ G' _ a' w' (r2.put (f:= .d rv) hr (putA_rel rl'))
structure CmA where
 f:FuncId
 nm:Nat
 l:List (Option DV)
 ty:TypeId
 cs:List DV
 lo:Bool
def calM(fr:FrX)(own:OwX)(cf:Cf):Option CmA:=match opC fr cf with
 |some ⟨_, .call ⟨.value fo,args,_⟩,_,_,_,_⟩=>match cargM (lkC fr cf) fo args with
  |some (f,nm,l)=>match bkC fr own cf nm with
   |some (.o ty cs lo)=>match toDXs cs with
    |some csd=>some ⟨f,nm,l,ty,csd,lo⟩
    |none=>none
   |_=>none
  |none=>none
 |_=>none
def mapD{α:Type}:List DV→(List FX→α)→α
 |[],k=>k []
 |d::t,k=>mapD t fun t'=>k (.d d::t')
theorem mapD_eq{α:Type}: ∀{l:List DV} {k:List FX→α},mapD l k=k (l.map .d)
 |[],k=>rfl
 |d::t,k=>by simp only[mapD];rw[mapD_eq];rfl
theorem cm[fu:Fu]{f:FuncId}{nm:Nat}{l:List (Option DV)}{ty:TypeId}{cs cs':List DV}{lo:Bool}{rv:DV}(ha:calM fr own cf=some ⟨f,nm,l,ty,cs,lo⟩)(hF: ∀b,PM GB Tryz.prog f (mkP l b) b ty cs rv cs')
  (hgo:(mapD cs' fun csx=>goA tt n fu.n fr own cf (.d rv) [(nm,some (.o ty csx lo))] [])=⟨vc,fr',own',cf'⟩)(k:CfS Tryz.prog GB C n Q0 fr' own' cf')
  (hv:allP vc:=by first|exact trivial|(simp only[allP];kernel_rfl)|(simp only[allP];omega)|(simp only[allP,List.length_map,List.length_set,List.length_replicate];omega)):CfS Tryz.prog GB C n Q0 fr own cf:=by
 unfold calM at ha
 split at ha<;>try (cases ha;done)
 rename_i hh
 split at ha<;>try (cases ha;done)
 rename_i h1
 split at ha<;>try (cases ha;done)
 rename_i h2
 split at ha<;>cases ha
 rename_i h3
 rw[mapD_eq] at hgo
 exact us hh (ok_callM h1 h2 h3 hF rfl) hgo hv k
abbrev NM:Nat:=1000000
def args0M:Nat→List (Option DV)→FrX
 |_,[]=>[]
 |i,some v::t=>(i, .d v)::args0M (i+1) t
 |i,none::t=>(i, .ov NM 0)::args0M (i+1) t
theorem mkP_len(b:Nat): ∀l:List (Option DV),(mkP l b).length=l.length
 |[]=>rfl
 |some d::t=>by simp[mkP,mkP_len b t]
 |none::t=>by simp[mkP,mkP_len b t]
theorem look_args0M{b:Nat}{ρ:NE}{G:Gh}(hρ:(ρ NM).a=some ⟨b,0,none⟩): ∀{ds:List (Option DV)} {vs:List Value} (i:Nat),IsLs G (mkP ds b) vs→ ∀k f,lookX (args0M i ds) k=some f→ ∃y,(∃j,k=i+j∧vs[j]? =some y)∧IsX ρ G f y
 |[],vs,i,h,k,f,e=>by cases e
 |some d::t,vs,i,h,k,f,e=>by
  obtain⟨y,m,rfl,h1,h2⟩:=isl_cons.1 h
  simp only[args0M] at e
  rw[lookX_cons] at e
  split at e
  ·cases e;rename_i hk;exact⟨y,⟨0,hk,rfl⟩,h1⟩
  ·obtain⟨u,⟨j,hj,hu⟩,h3⟩:=look_args0M hρ (i+1) h2 k f e
   exact⟨u,⟨j+1,by omega,by simpa using hu⟩,h3⟩
 |none::t,vs,i,h,k,f,e=>by
  obtain⟨y,m,rfl,h1,h2⟩:=isl_cons.1 h
  simp only[args0M] at e
  rw[lookX_cons] at e
  split at e
  ·cases e;rename_i hk;exact⟨y,⟨0,hk,rfl⟩,b,hρ,(is_v (G:=G)).1 h1⟩
  ·obtain⟨u,⟨j,hj,hu⟩,h3⟩:=look_args0M hρ (i+1) h2 k f e
   exact⟨u,⟨j+1,by omega,by simpa using hu⟩,h3⟩
def PMpost(C:Ctx)(b:Nat)(m:List Value)(ty:TypeId)(lo:Bool)(rv:DV)(cs':List DV):Ending→World→Prop:=RPostM C [⟨b,m,ty,lo⟩] (fun v css G'=>Is G' rv v∧ ∃m',css=[m']∧IsLs G' cs' m')
theorem fnM[fu:Fu]{b:Nat}{f:FuncId}{fb:Func}{c:Code}{k:Nat}{l:List (Option DV)}{cs cs':List DV}{ty:TypeId}{rv:DV}(hf:Tryz.prog.funcs[f]? =some fb)(hb:fb.body=some c)(hn:(fb.name== "runtime.NumGoroutine")=false)(hm:fb.ntmps=k)(hlen:Nat.ble l.length k=true)
  (hgo:(mapD cs fun csx=>go tt k fu.n [] (args0M 0 l) [(NM,some (.o ty csx false))] (.code c []))=⟨vc,fr,own,cf⟩)(h: ∀C b m lo,C.mb=[b]→CfS Tryz.prog GB C k (bodyPost Tryz.prog fb (PMpost C b m ty lo rv cs')) fr own cf)
  (hv:allP vc:=by first|exact trivial|(simp only[allP];kernel_rfl)|(simp only[allP];omega)|(simp only[allP,List.length_map,List.length_set,List.length_replicate];omega)):PM GB Tryz.prog f (mkP l b) b ty cs rv cs':=by
 intro G vs m lo hg hvs hm'
 refine FnM.intro hf hb hn hm (by rw[hvs.len,mkP_len];exact hlen) fun C _ hmb=>?_
 intro a w rl
 rw[mapD_eq] at hgo
 have h1:=gx' (GB:=GB) (C:=C) (Q0:=bodyPost Tryz.prog fb (PMpost C b m ty lo rv cs')) hgo hv (h C b m lo (by simpa using hmb))
 refine h1.run (fun _=>⟨some ⟨b,0,none⟩,0,0⟩) G [⟨b,m,ty,false⟩] a w ⟨hg,rl.h,rl.sz,rl.df,fun k f e=>?_,fun nm B e=>?_,fun nm nm' B B' e e' hne=>?_⟩
 ·obtain⟨y,⟨j,hj,hy⟩,h2⟩:=look_args0M (ρ:=fun _=>⟨some ⟨b,0,none⟩,0,0⟩) (b:=b) rfl 0 hvs k f e
  refine⟨y,rl.fr k y ?_,h2⟩
  rw[hj];exact look_args0' vs 0 j y hy
 ·rw[lookO_cons] at e
  split at e
  ·cases e;exact⟨[⟨b,m,ty,false⟩],⟨b,m,rfl,rfl,isXs_d hm'⟩,fun o ho=>ho⟩
  ·cases e
 ·rw[lookO_cons] at e e'
  split at e<;>split at e'
  ·rename_i h2 h3;exact absurd (h2.trans h3.symm) hne
  ·cases e'
  ·cases e
  ·cases e
def ownD(own:OwX)(nm:Nat):Option (TypeId×List DV):=match lookO own nm with
 |some (.o ty cs false)=>match toDXs cs with
  |some l=>some (ty,l)
  |none=>none
 |_=>none
theorem rzM{fb:Func}{b:Nat}{m:List Value}{ty:TypeId}{lo:Bool}{ds cs1 cs':List DV}{rv:DV}(hmb:C.mb=[b])(hr:resX tt fr own fb.results.toList=some ds)(ho:ownD own NM=some (ty,cs1))(hd:tupD ds=rv)(hc:cs1=cs'):
  CfS Tryz.prog GB C n (bodyPost Tryz.prog fb (PMpost C b m ty lo rv cs')) fr own (.ex .ret []):=by
 refine⟨fun ρ G ov a w r=>?_⟩
 obtain⟨vs,h1,h2⟩:=resX_ok r hr
 have hk:Is G rv (tupled vs):=hd▸tupD_is h2
 unfold ownD at ho
 split at ho<;>try (cases ho;done)
 rename_i hb
 split at ho<;>cases ho
 rename_i hl
 obtain⟨b',m',rest,h3,h4,h5,h6⟩:=r.lend hb hl
 have hbb:b'=b:=by
  have:=(r.h.hown _ (h5.mem_iff.2 (List.mem_append_left _ List.mem_cons_self))).2.2.2 rfl
  rw[hmb] at this;simpa using this
 subst hbb hc
 exact st_doneM (C:=C) (n:=n) (fr:=frA a) (own:=ov) (G:=G) (M:=[⟨b',m,ty,lo⟩]) (css:=[m']) (K:=fun v css G'=>Is G' rv v∧ ∃m',css=[m']∧IsLs G' cs1 m') h1 rfl ([⟨b',m',ty,false⟩]++rest) h5 (List.sublist_append_left _ _) ⟨hk,m',rfl,h4⟩ a w ⟨r.h,r.sz,frA_ok a,r.df⟩
end
end Go.Sx
end

section
set_option maxRecDepth 100000
namespace Go.Sx
open Go Go.Proofs
section
variable {GB:Gh} {C:Ctx} {n:Nat} {fr1 fr2:FrX} {own1 own2:OwX} {cf1 cf2:Cf} {vc1 vc2:List Prop} {Q0:Exit→Act→World→Prop} {fr fr':FrX} {own own':OwX} {cf cf':Cf} {vc:List Prop} {ops:Array Oper} {o:Oper} {K:List Kt} {r:List Oper}
theorem csd[fu1:Fu][fu2:Fu](d:Nat){p:Prop}{hp:Decidable p}(hl:lookX fr d=some (.d (.v (.bool (@decide p hp)))))(g1:go tt n fu1.n [] ((d, .tt)::fr) own (.ops ops r K)=⟨vc1,fr1,own1,cf1⟩)(g2:go tt n fu2.n [] ((d, .ff)::fr) own (.ops ops r K)=⟨vc2,fr2,own2,cf2⟩)
  (k1:p→CfS Tryz.prog GB C n Q0 fr1 own1 cf1)(k2: ¬p→CfS Tryz.prog GB C n Q0 fr2 own2 cf2)
  (v1:p→allP vc1:=by intro;first|exact trivial|(simp only[allP];omega)|(simp only[allP,List.length_map,List.length_set,List.length_replicate];omega))(v2: ¬p→allP vc2:=by intro;first|exact trivial|(simp only[allP];omega)|(simp only[allP,List.length_map,List.length_set,List.length_replicate];omega)):CfS Tryz.prog GB C n Q0 fr own (.ops ops r K):=
 csb (fu1:=fu1) (fu2:=fu2) d hl g1 g2 (fun h=>k1 (of_decide_eq_true h)) (fun h=>k2 (of_decide_eq_false h)) (fun h=>v1 (of_decide_eq_true h)) (fun h=>v2 (of_decide_eq_false h))
theorem nlC(d:Nat)(hl:lookX fr d=some .nl){c:Code}(h:CfS Tryz.prog GB C n Q0 ((d, .d (.sl []))::fr) own (.code c K)):CfS Tryz.prog GB C n Q0 fr own (.code c K):=
 lookX_same (g:= .d (.sl [])) hl (fun ρ G y hy=>(show Is G (.sl []) y from toDX_is (ρ:=ρ) (f:= .nl) hy rfl)) h
theorem OpR.to{lk:LK}{bk:BM}{o:Oper}{f g:FX}(h:OpR Tryz.prog GB C n lk bk o f [] [])(e: ∀ρ G y,IsX ρ G f y→IsX ρ G g y):OpR Tryz.prog GB C n lk bk o g [] []:=fun hd tl tb Q h1 h2 hf hk=>
 h hd tl tb Q h1 h2 hf ⟨fun ρ G ov a w r=>hk.run ρ G ov a w ⟨r.gb,r.h,r.sz,r.df,fun k f' e'=>by
  cases ho:o.dst with
  |none=>exact r.fx k f' (by simpa only[ho,upL] using e')
  |some d=>
   have hr:=r.fx
   simp only[ho,upL] at e' hr
   by_cases q:k=d
   ·rw[if_pos q] at e';cases e'
    obtain⟨y,h3,h4⟩:=hr k f (by rw[if_pos q])
    exact⟨y,h3,e _ _ _ h4⟩
   ·rw[if_neg q] at e'
    exact hr k f' (by rw[if_neg q];exact e'),r.bx,r.dj⟩⟩
def opS(fr:FrX)(own:OwX)(cf:Cf):Option (Oper×FX):=match opC fr cf with
 |some o=>match core tt (lkC fr cf) (bkC fr own cf) o.dst o.op with
  |some ⟨none,f,[],[]⟩=>some (o,f)
  |_=>none
 |none=>none
theorem csS[fu1:Fu][fu2:Fu]{f:FX}{p:Prop}{hp:Decidable p}(hs:opS fr own cf=some (o,f))(hb:toB f=some (@decide p hp))(g1:goA tt n fu1.n fr own cf .tt [] []=⟨vc1,fr1,own1,cf1⟩)(g2:goA tt n fu2.n fr own cf .ff [] []=⟨vc2,fr2,own2,cf2⟩)
  (k1:p→CfS Tryz.prog GB C n Q0 fr1 own1 cf1)(k2: ¬p→CfS Tryz.prog GB C n Q0 fr2 own2 cf2)
  (v1:p→allP vc1:=by intro;first|exact trivial|(simp only[allP];kernel_rfl)|(simp only[allP];omega)|(simp only[allP,List.length_map,List.length_set,List.length_replicate];omega))(v2: ¬p→allP vc2:=by intro;first|exact trivial|(simp only[allP];kernel_rfl)|(simp only[allP];omega)|(simp only[allP,List.length_map,List.length_set,List.length_replicate];omega)):CfS Tryz.prog GB C n Q0 fr own cf:=by
 unfold opS at hs
 split at hs<;>try (cases hs;done)
 rename_i o' hh
 split at hs<;>cases hs
 rename_i hc
 obtain⟨dst,op,ty,pos,af,gd⟩:=o
 have h0:=core_ok (P:=Tryz.prog) (GB:=GB) (C:=C) (n:=n) (ty':=ty) (pos:=pos) (af:=af) (gd:=gd) tt_ok hc (fun p e=>by cases e)
 by_cases h:p
 ·exact us hh (OpR.to h0 fun ρ G y hy=>by rw[toB_is hy hb,decide_eq_true h];exact rfl) g1 (v1 h) (k1 h)
 ·exact us hh (OpR.to h0 fun ρ G y hy=>by rw[toB_is hy hb,decide_eq_false h];exact rfl) g2 (v2 h) (k2 h)
theorem frz_sx{tl:LK}{tb:BM}{Ψ:Act→World→Prop}{d:Nat}{B:Bk}{f:FX}{v:DV}
  (hz: ∀lk bk ρ G ov a w,RlX GB C n lk bk ρ G ov a w→bk d=some B→ ∃G' ov',GLe G G'∧HRel C ov' G' w∧(∀o∈ov,(ρ d).a≠some ⟨o.b,0,none⟩→o∈ov')∧ ∀y,IsX ρ G f y→Is G' v y)(hk:SX GB C n (upL tl (some d) (.d v)) (Sx.upB tb [(d,none)]) Ψ):SX GB C n (upL tl (some d) f) (Sx.upB tb [(d,some B)]) Ψ:=by
 refine⟨fun ρ G ov a w r=>?_⟩
 have hbd:Sx.upB tb [(d,some B)] d=some B:=by simp[Sx.upB]
 obtain⟨G',ov',h1,h2,h3,h4⟩:=hz _ _ ρ G ov a w r hbd
 refine hk.run ρ G' ov' a w ⟨r.gb.trans h1,h2,r.sz,r.df,fun k g e=>?_,fun m B' e=>?_,fun m m' B1 B2 e e'=>?_⟩
 ·by_cases hk:k=d
  ·subst hk
   simp only[upL,if_true] at e;cases e
   obtain⟨y,g1,g2⟩:=r.fx k f (by simp[upL])
   exact⟨y,g1,h4 y g2⟩
  ·simp only[upL,hk,if_false] at e
   obtain⟨y,g1,g2⟩:=r.fx k g (by simp[upL,hk,e])
   exact⟨y,g1,g2.up h1⟩
 ·simp only[Sx.upB] at e
  split at e
  ·cases e
  ·rename_i hm
   have e':Sx.upB tb [(d,some B)] m=some B':=by simp[Sx.upB,hm,e]
   obtain⟨os,g1,g2⟩:=r.bx m B' e'
   exact⟨os,g1.up h1,fun o ho=>h3 o (g2 o ho) fun hc=>r.dj m d B' B e' hbd hm _ (g1.blk ho) hc⟩
 ·simp only[Sx.upB] at e e'
  split at e
  ·cases e
  ·rename_i hm
   split at e'
   ·cases e'
   ·rename_i hm'
    exact r.dj m m' B1 B2 (by simp[Sx.upB,hm,e]) (by simp[Sx.upB,hm',e'])
theorem OpR.frz2{lk:LK}{bk:BM}{o:Oper}{d nm:Nat}{B:Bk}{f:FX}{v:DV}(hd:o.dst=some d)(h:OpR Tryz.prog GB C n lk bk o f [(nm,none),(d,some B)] [d])
  (hz: ∀lk bk ρ G ov a w,RlX GB C n lk bk ρ G ov a w→bk d=some B→ ∃G' ov',GLe G G'∧HRel C ov' G' w∧(∀o∈ov,(ρ d).a≠some ⟨o.b,0,none⟩→o∈ov')∧ ∀y,IsX ρ G f y→Is G' v y):OpR Tryz.prog GB C n lk bk o (.d v) [(nm,none),(d,none)] [d]:=by
 intro hd' tl tb K s1 s2 hf hk
 refine h hd' tl tb K s1 s2 hf ?_
 rw[hd] at hk⊢
 exact frz_sx (tb:=Sx.upB tb [(nm,none)]) hz hk
def aBlN(d:Nat)(nm:Option Nat):List (Nat×Option Bk):=match nm with
 |some nm=>[(nm,none),(d,none)]
 |none=>[(d,none)]
theorem apf[fu:Fu]{d:Nat}{nm:Option Nat}{e s b:Nat}{ds ds2:List DV}(ds':List DV)(h:appA fr own cf=some ⟨d,nm,e,s,b,ds,ds2⟩)(hds:ds++ds2=ds')(ho2:slOk s ds2)(hgo:goA tt n fu.n fr own cf (.d (.sl ds')) (aBlN d nm) [d]=⟨vc,fr',own',cf'⟩)(k:CfS Tryz.prog GB C n Q0 fr' own' cf')
  (ho:nm.isNone=true→slOk s ds∧0<ds2.length:=by intro h;first|(cases h;done)|exact⟨okRow_spec rfl,by simp⟩)(hbd:(ds.length+ds2.length)*b≤140737488355328:=by simp;omega)
  (hv:allP vc:=by first|exact trivial|(simp only[allP];kernel_rfl)|(simp only[allP];omega)|(simp only[allP,List.length_map,List.length_set,List.length_replicate];omega)):CfS Tryz.prog GB C n Q0 fr own cf:=by
 obtain⟨o,h1,h2,h3⟩:=appA_ok (GB:=GB) (C:=C) (n:=n) h ds' hds ho ho2 hbd
 cases nm with
 |none=>exact us h1 (h3.frzRow h2) hgo hv k
 |some nm=>exact us h1 (OpR.frz2 h2 h3 fun _ _ _ _ _ _ _ r hb=>r.frzRow hb) hgo hv k
theorem knT[fu:Fu]{f:FX}(hs:opS fr own cf=some (o,f))(hb:toB f=some true)(hgo:goA tt n fu.n fr own cf .tt [] []=⟨vc,fr',own',cf'⟩)(k:CfS Tryz.prog GB C n Q0 fr' own' cf')
  (hv:allP vc:=by first|exact trivial|(simp only[allP];kernel_rfl)|(simp only[allP];omega)|(simp only[allP,List.length_map,List.length_set,List.length_replicate];omega)):CfS Tryz.prog GB C n Q0 fr own cf:=by
 unfold opS at hs
 split at hs<;>try (cases hs;done)
 rename_i o' hh
 split at hs<;>cases hs
 rename_i hc
 obtain⟨dst,op,ty,pos,af,gd⟩:=o
 have h0:=core_ok (P:=Tryz.prog) (GB:=GB) (C:=C) (n:=n) (ty':=ty) (pos:=pos) (af:=af) (gd:=gd) tt_ok hc (fun p e=>by cases e)
 exact us hh (OpR.to h0 fun ρ G y hy=>by rw[toB_is hy hb];exact rfl) hgo hv k
theorem knF[fu:Fu]{f:FX}(hs:opS fr own cf=some (o,f))(hb:toB f=some false)(hgo:goA tt n fu.n fr own cf .ff [] []=⟨vc,fr',own',cf'⟩)(k:CfS Tryz.prog GB C n Q0 fr' own' cf')
  (hv:allP vc:=by first|exact trivial|(simp only[allP];kernel_rfl)|(simp only[allP];omega)|(simp only[allP,List.length_map,List.length_set,List.length_replicate];omega)):CfS Tryz.prog GB C n Q0 fr own cf:=by
 unfold opS at hs
 split at hs<;>try (cases hs;done)
 rename_i o' hh
 split at hs<;>cases hs
 rename_i hc
 obtain⟨dst,op,ty,pos,af,gd⟩:=o
 have h0:=core_ok (P:=Tryz.prog) (GB:=GB) (C:=C) (n:=n) (ty':=ty) (pos:=pos) (af:=af) (gd:=gd) tt_ok hc (fun p e=>by cases e)
 exact us hh (OpR.to h0 fun ρ G y hy=>by rw[toB_is hy hb];exact rfl) hgo hv k
theorem dpE(nm:Nat){ty:TypeId}{cs:List FX}{lo:Bool}{ds:List DV}{own1:OwX}{e:Exit}(hb:lookO own nm=some (.o ty cs lo))(hc:toDXs cs=some ds)(ho:(nm,some (.o ty (ds.map .d) lo))::own=own1)(k:CfS Tryz.prog GB C n Q0 fr own1 (.ex e K)):CfS Tryz.prog GB C n Q0 fr own (.ex e K):=by
 subst ho
 have old: ∀m B,lookO ((nm,some (.o ty (ds.map .d) lo))::own) m=some B→ ∃B0,lookO own m=some B0:=fun m B e=>by
  rw[lookO_cons] at e
  split at e
  ·rename_i h;subst h;exact⟨_,hb⟩
  ·exact⟨_,e⟩
 refine⟨fun ρ G ov a w r=>k.run ρ G ov a w ⟨r.gb,r.h,r.sz,r.df,r.fx,fun m B e=>?_,fun m m' B B' e e'=>?_⟩⟩
 ·rw[lookO_cons] at e
  split at e
  ·rename_i h;subst h;cases e
   obtain⟨os,⟨b,m,h1,rfl,h2⟩,h3⟩:=r.bx _ _ hb
   exact⟨_,⟨b,m,h1,rfl,isXs_d (toDXs_is h2 hc)⟩,h3⟩
  ·exact r.bx _ _ e
 ·obtain⟨B0,h0⟩:=old _ _ e
  obtain⟨B1,h1⟩:=old _ _ e'
  exact r.dj m m' B0 B1 h0 h1
end
end Go.Sx
end

section
set_option maxRecDepth 100000
namespace Go.Sx
open Go Go.Proofs
section
variable {GB:Gh} {C:Ctx} {n:Nat} {Q0:Exit→Act→World→Prop} {fr fr':FrX} {own own':OwX} {cf cf':Cf} {vc:List Prop} {ops:Array Oper} {o:Oper} {K:List Kt} {r:List Oper}
def OpF(GB:Gh)(C:Ctx)(n:Nat)(lk:LK)(bk:BM)(o:Oper)(ι:Type)(f:ι→FX)(bl:ι→List (Nat×Option Bk))(nw:List Nat):Prop:=
 dstOk n o.dst=true→ ∀(tl:LK) (tb:BM) (K:Act→World→Prop),SubX lk tl→SubX bk tb→FreshX nw o.dst tl tb→(∀x,SX GB C n (upL tl o.dst (f x)) (Sx.upB tb (bl x)) K)→SX GB C n tl tb (fun a w=> ∀Q,o.wp Tryz.prog a w K Q)
def hdO:Cf→Option (Array Oper×Oper×List Oper×List Kt)
 | .ops ops (o::r) K=>some (ops,o,r,K)
 |_=>none
def goF(n q:Nat)(fr:FrX)(own:OwX)(cf:Cf)(f:FX)(bl:List (Nat×Option Bk)):Res:=match cf with
 | .ops ops (o::r) K=>setsK own bl fun own'=>putK fr o.dst f fun fr'=>go tt n q [] fr' own' (.ops ops r K)
 |_=>bad
def okF(n:Nat)(fr:FrX)(own:OwX)(cf:Cf)(nw:List Nat):Bool:=match cf with
 | .ops ops (o::_) _=>freshL nw o.dst fr own&&dstOk n o.dst&&grd ops (lookX fr) o.guard
 |_=>false
theorem usF{q:Nat}{ι:Type}{f:ι→FX}{bl:ι→List (Nat×Option Bk)}{nw:List Nat}{vc:ι→List Prop}{fr':ι→FrX}{own':ι→OwX}{cf':ι→Cf}(hh:opC fr cf=some o)(ho:okF n fr own cf nw=true)(h:OpF GB C n (lkC fr cf) (bkC fr own cf) o ι f bl nw)
  (hgo: ∀x,goF n q fr own cf (f x) (bl x)=⟨vc x,fr' x,own' x,cf' x⟩)(hv: ∀x,allP (vc x))(k: ∀x,CfS Tryz.prog GB C n Q0 (fr' x) (own' x) (cf' x)):CfS Tryz.prog GB C n Q0 fr own cf:=by
 obtain⟨ops,h1,h2⟩:=opC_ok hh
 cases cf with
 |ops ops' r K=>
  cases r with
  |nil=>cases h1
  |cons o' r=>
   cases h1
   simp only[okF,Bool.and_eq_true] at ho
   refine⟨fun ρ G ov a w rl=>?_⟩
   show wpL _ _ _ (o::r) a w
   unfold wpL
   rw[if_pos (grd_ok ho.2 ρ G ov a w rl)]
   refine(h ho.1.2 _ _ (wpL Tryz.prog ops (cQ Tryz.prog Q0 K) r) (SubX.refl _) (SubX.refl _) (freshL_ok ho.1.1) (fun x=>?_)).run ρ G ov a w rl _
   have hx:=hgo x
   unfold goF at hx
   simp only[setsK_eq,putK_eq] at hx
   have:=gx' (GB:=GB) (C:=C) (Q0:=Q0) hx (hv x) (k x)
   show SX GB C n (upL (lookX fr) o.dst (f x)) (Sx.upB (lookO own) (bl x)) _
   rw[←lookX_put,←lookO_sets]
   exact this
 |_=>cases ho
theorem ok_callN{lk:LK}{bk:BM}{fo:Operand}{args:Array Operand}{tys:Array TypeId}{f:FuncId}{d:Nat}{ds:List DV}{ι:Type}{ty ty0:TypeId}{pos:String}{af:Array Edge}{gd:Option (Nat×Bool)}{cs':ι→List DV}
  (ha:cargs lk fo args=some (f,ds))(hF:PN GB Tryz.prog f ds ty0 ι cs'):OpF GB C n lk bk ⟨some d, .call ⟨.value fo,args,tys⟩,ty,pos,af,gd⟩ ι (fun _=> .ov d 0) (fun x=>[(d,some (.o ty0 ((cs' x).map .d) true))]) [d]:=by
 intro hd tl tb K' s1 s2 hf hk
 refine⟨fun ρ G ov a w r Q=>?_⟩
 have r1:=r.mono s1 s2
 obtain⟨h1,h2⟩:=cargs_ok ha
 obtain⟨y,hy,hy'⟩:=r1.ev h1
 rw[(is_v (G:=G)).1 hy'] at hy
 obtain⟨vs,h3,h4⟩:=r1.evDs h2
 refine ch_callO (M:=[]) (rest:=ov) hy h3 (List.Perm.refl _) (hF G vs r.gb h4) hd (fun v own1 G' hG hK a' w' rl=>?_) a w Q ⟨r.h,r.sz,frA_ok a,r.df⟩
 obtain⟨x,b,m,rfl,rfl,hm⟩:=hK
 have rl':Rel C n (Sx.put (frA a) (some d) (.pointer (some ⟨b,0,none⟩))) (⟨b,m,ty0,true⟩::ov) G' a' w':=by simpa[relo,flM] using rl
 have hnd:=(List.pairwise_cons.1 rl'.h.nd).1
 exact(hk x).run _ G' _ a' w' (r.new (x:=⟨some ⟨b,0,none⟩,0,0⟩) (B':= .o ty0 ((cs' x).map .d) true) (os:=[⟨b,m,ty0,true⟩]) hf hG.le rl'.h ⟨b,m,by simp,rfl,isXs_d hm⟩ (fun o ho=>by rw[List.mem_singleton.1 ho];exact List.mem_cons_self)
  (fun o ho=>List.mem_cons_of_mem _ ho) (fun o ho e=>by cases e;exact hnd o ho rfl) (f:= .ov d 0) (y:= .pointer (some ⟨b,0,none⟩)) ⟨b,by simp,rfl⟩ (putA_rel rl'))
def calN(fr:FrX)(cf:Cf):Option (FuncId×List DV×Nat):=match opC fr cf with
 |some ⟨some d, .call ⟨.value fo,args,_⟩,_,_,_,_⟩=>match cargs (lkC fr cf) fo args with
  |some (f,ds)=>some (f,ds,d)
  |none=>none
 |_=>none
theorem cn[fu:Fu]{f:FuncId}{d:Nat}{ds:List DV}{ty:TypeId}{ι:Type}{cs':ι→List DV}{vc:ι→List Prop}{fr':ι→FrX}{own':ι→OwX}{cf':ι→Cf}(ha:calN fr cf=some (f,ds,d))(hF:PN GB Tryz.prog f ds ty ι cs')
  (hgo: ∀x,(mapD (cs' x) fun csx=>goF n fu.n fr own cf (.ov d 0) [(d,some (.o ty csx true))])=⟨vc x,fr' x,own' x,cf' x⟩)(k: ∀x,CfS Tryz.prog GB C n Q0 (fr' x) (own' x) (cf' x))(ho:okF n fr own cf [d]=true:=by rfl)
  (hv: ∀x,allP (vc x):=by intro;first|exact trivial|(simp only[allP];kernel_rfl)|(simp only[allP];omega)|(simp only[allP,List.length_map,List.length_set,List.length_replicate];omega)):CfS Tryz.prog GB C n Q0 fr own cf:=by
 unfold calN at ha
 split at ha<;>try (cases ha;done)
 rename_i hh
 split at ha<;>cases ha
 rename_i h1
 simp only[mapD_eq] at hgo
 exact usF hh ho (ok_callN h1 hF) hgo hv k
def PMXpost(C:Ctx)(b:Nat)(m:List Value)(ty:TypeId)(lo:Bool)(ι:Type)(rv:ι→DV)(cs':ι→List DV):Ending→World→Prop:=RPostM C [⟨b,m,ty,lo⟩] (fun v css G'=> ∃x,Is G' (rv x) v∧ ∃m',css=[m']∧IsLs G' (cs' x) m')
end
end Go.Sx
end

section
set_option maxRecDepth 100000
namespace Go.Sx
open Go Go.Proofs
section
variable {GB:Gh} {C:Ctx} {n:Nat} {Q0:Exit→Act→World→Prop} {fr fr':FrX} {own own':OwX} {cf cf':Cf} {vc:List Prop} {ops:Array Oper} {o:Oper} {K:List Kt} {r:List Oper}
/-! ### a row handed back beside the borrowed variable -/
def dstC(fr:FrX)(cf:Cf):Option Nat:=match opC fr cf with
 |some o=>o.dst
 |none=>none
def PMRpost(C:Ctx)(b:Nat)(ty:TypeId)(s:Nat)(ty2:TypeId)(ι:Type)(rows cs':ι→List DV):Ending→World→Prop:=RPostO C (fun v own' G'=> ∃x w m' B,v= .slice w.a w.n w.c∧own'=⟨b,m',ty,false⟩::B∧IsLs G' (cs' x) m'∧BufIs G' ⟨w,s,ty2,rows x,true⟩ B∧ ∀o∈B,b≠o.b)
end
end Go.Sx
end

section
set_option maxRecDepth 100000
namespace Go.Sx
open Go Go.Proofs
section
variable {GB:Gh} {C:Ctx} {n:Nat} {Q0:Exit→Act→World→Prop} {fr fr':FrX} {own own':OwX} {cf cf':Cf} {vc:List Prop} {ops:Array Oper} {o:Oper} {K:List Kt} {r:List Oper}
def PNpost(C:Ctx)(ty:TypeId)(ι:Type)(cs:ι→List DV):Ending→World→Prop:=RPostO C (fun v own' G'=> ∃x b m,v= .pointer (some ⟨b,0,none⟩)∧own'=[⟨b,m,ty,true⟩]∧IsLs G' (cs x) m)
theorem fnN[fu:Fu]{f:FuncId}{fb:Func}{c:Code}{m:Nat}{ds:List DV}{ty:TypeId}{ι:Type}{cs:ι→List DV}(hf:Tryz.prog.funcs[f]? =some fb)(hb:fb.body=some c)(hn:(fb.name== "runtime.NumGoroutine")=false)(hm:fb.ntmps=m)(hlen:Nat.ble ds.length m=true)
  (hgo:go tt m fu.n [] (args0X 0 ds) [] (.code c [])=⟨vc,fr,own,cf⟩)(k: ∀C:Ctx,C.mb=[]→CfS Tryz.prog GB C m (bodyPost Tryz.prog fb (PNpost C ty ι cs)) fr own cf)
  (hv:allP vc:=by first|exact trivial|(simp only[allP];kernel_rfl)|(simp only[allP];omega)|(simp only[allP,List.length_map,List.length_set,List.length_replicate];omega)):PN GB Tryz.prog f ds ty ι cs:=by
 intro G vs hg hvs
 refine FnO.intro hf hb hn hm (by rw[hvs.len];exact hlen) fun C _ hmb=>?_
 intro a w rl
 have h:=gx' (GB:=GB) (C:=C) (Q0:=bodyPost Tryz.prog fb (PNpost C ty ι cs)) hgo hv (k C (by simpa using hmb))
 exact h.run (fun _=>⟨none,0,0⟩) G [] a w ⟨hg,rl.h,rl.sz,rl.df,(fun k f e=>args_fr hvs rl.fr k f e),(fun nm B e=>by cases e),(fun nm nm' B B' e=>by cases e)⟩
theorem rzN{fb:Func}{t d:Nat}{ty:TypeId}{ι:Type}{cs:ι→List DV}{cs1:List FX}{l:List DV}(x:ι)(hr:fb.results.toList=[.tmp t])(hl:lookX fr t=some (.ov d 0))(hw:lookO own d=some (.o ty cs1 true))(hc:toDXs cs1=some l)(hd:l=cs x):
  CfS Tryz.prog GB C n (bodyPost Tryz.prog fb (PNpost C ty ι cs)) fr own (.ex .ret []):=by
 refine⟨fun ρ G ov a w r=>?_⟩
 subst hd
 obtain⟨b,m,rest,h3,h4,h5,h6⟩:=r.lend hw hc
 obtain⟨y,hy,b',hb',hy'⟩:=r.ev (x:= .tmp t) (f:= .ov d 0) hl
 rw[h3] at hb';cases hb';subst hy'
 exact st_doneO' (C:=C) (n:=n) (fr:=frA a) (own:=ov) (G:=G) (vs:=[.pointer (some ⟨b,0,none⟩)]) (by rw[hr];exact .tmp hy .nil) (⟨b,m,ty,true⟩::rest) [⟨b,m,ty,true⟩] (by simpa using h5) (.cons_cons _ (List.nil_sublist _)) (fun _=>⟨x,b,m,rfl,rfl,h4⟩) a w ⟨r.h,r.sz,frA_ok a,r.df⟩
theorem bxf[fu:Fu]{d:Nat}{l:List DV}(h:boxA fr cf=some (d,l))(hgo:goA tt n fu.n fr own cf (.d (.pt l)) [(d,none)] [d]=⟨vc,fr',own',cf'⟩)(k:CfS Tryz.prog GB C n Q0 fr' own' cf')
  (hv:allP vc:=by first|exact trivial|(simp only[allP];kernel_rfl)|(simp only[allP];omega)|(simp only[allP,List.length_map,List.length_set,List.length_replicate];omega)):CfS Tryz.prog GB C n Q0 fr own cf:=by
 unfold boxA at h
 split at h<;>try (cases h;done)
 rename_i hh
 split at h<;>try (cases h;done)
 rename_i g hx
 rw[cond_eq_ite] at h
 split at h<;>try (cases h;done)
 rename_i hc
 simp only[Bool.and_eq_true] at hc
 split at h<;>cases h
 rename_i hl
 exact us hh (ok_boxF hx hc.1 hc.2 hl) hgo hv k
end
end Go.Sx
end
