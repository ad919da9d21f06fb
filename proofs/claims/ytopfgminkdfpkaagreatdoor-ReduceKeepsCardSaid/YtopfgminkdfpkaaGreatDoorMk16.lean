/- Part 16 of a proof. -/
import Derived.Test.YtopfgminkdfpkaaGreatDoorMk15
import Derived.Shelf.SlSortCmp.NoneTotal
import Derived.Test.YtopfgminkdfpkaaGreatDoorProg
set_option linter.unusedSimpArgs false
set_option maxHeartbeats 4000000
set_option maxRecDepth 100000
set_option linter.unusedVariables false
section
namespace Go.Sx
open Go Go.Proofs Tryz
def PW(GB:Gh)(P:Program)(f:FuncId)(l:List (Option DV))(s:Nat)(ty:TypeId)(dsi:List DV)(rv:DV)(dso:List DV):Prop:=
 ∀G w vs B,GLe GB G→aaX G ⟨w,s,ty,dsi,false⟩ B→IsLs G (mkB l w) vs→FnO P f vs B G (fun v own' G'=>Is G' rv v∧aaX G' ⟨w,s,ty,dso,false⟩ own')
theorem asp{B:List Own}{G:Gh}{w:SV}{s:Nat}{ty:TypeId}{ds:List DV}{lo:Bool}{ov:List Own}(h:aaX G ⟨w,s,ty,ds,lo⟩ B)(g: ∀o∈B,o∈ov): ∃rest,ov.Perm (B++rest)∧ ∀o∈ov,(∀o'∈B,o.b≠o'.b)→o∈rest:=by
 rcases h with⟨vs',⟨_,_,e⟩|⟨b0,r0,lo0,_,e,_⟩,_⟩
 ·rw[e];exact⟨ov,List.Perm.refl _,fun o ho _=>ho⟩
 ·rw[e] at g⊢
  obtain⟨l1,l2,e2⟩:=jQ (g _ aQ)
  rw[e2]
  refine⟨l1++l2,kW,fun o ho hno=>?_⟩
  rcases bS.1 ho with ho|ho
  ·exact bW _ ho
  ·rcases aS.1 ho with rfl|ho
   ·exact absurd rfl (hno _ aQ)
   ·exact bR _ ho
section
variable {GB:Gh} {C:Ctx} {n:Nat} {Q0:Exit→Act→World→Prop} {fr fr':FrX} {own own':OwX} {cf cf':Cf} {vc:List Prop} {lk:LK} {bk:BM}
variable {dst:Option Nat} {t t' ty':TypeId} {pos:String} {af:Array Edge} {gd:Option (Nat×Bool)} {x y:Operand}
theorem aqH{fo:Operand}{args:Array Operand}{tys:Array TypeId}{f:FuncId}{nm:Nat}{l:List (Option DV)}{s:Nat}{ty0:TypeId}{dsi dso:List DV}{lo:Bool}{rv:DV}
  (ha:ajg lk fo args=some (f,nm,l))(hb:bk nm=some (.b ty0 s dsi lo))(hF:PW GB prog f l s ty0 dsi rv dso):OpR prog GB C n lk bk ⟨dst, .call ⟨.value fo,args,tys⟩,ty',pos,af,gd⟩ (.d rv) [(nm,some (.b ty0 s dso lo))] []:=by
 intro hd tl tb K' s1 s2 hf hk
 refine⟨fun ρ G ov a w r Q=>?_⟩
 have r1:=r.mono s1 s2
 unfold ajg at ha
 split at ha<;>try (cases ha;done)
 rename_i h1
 split at ha<;>cases ha
 rename_i h2
 obtain⟨y,hy,hy'⟩:=r1.ev h1
 rw[(aaM (G:=G)).1 hy'] at hy
 obtain⟨B,g1,g2⟩:=r1.bx _ _ hb
 have hB:aaX G ⟨ρ nm,s,ty0,dsi,lo⟩ B:=g1
 obtain⟨vs,h7,h8⟩:=ag7 r1 (z:=ρ nm) h2 (fun nm e=>by cases e;rfl)
 obtain⟨rest,h5,h6⟩:=asp hB g2
 refine ac3 (M:=B) (rest:=rest) hy h7 h5 (hF G (ρ nm) vs B r.gb hB.weak h8) hd (fun v own1 G' hG hK a' w' rl=>?_) a w Q ⟨r.h,r.sz,aaK a,r.df⟩
 obtain⟨hr,vs',k1,k2,k3,k4⟩:=hK
 have k1':=k1.relo (flM B)
 have e2:lo=true→ ∀o∈own1.map (relo (flM B)),o.lo=true:=fun hl o ho=>by
  obtain⟨o',_,rfl⟩:=bM.1 ho
  obtain⟨_,_,_,_,hlo⟩:=hB
  exact afb _ (hlo hl)
 generalize own1.map (relo (flM B))=B' at rl e2 k1'
 have r2:=r.upB (G':=G') (ov':=B'++rest) (w':=w') (B':= .b ty0 s dso lo) (os:=B') hG.le rl.h ⟨vs',by simpa using k1',k2,k3,e2⟩ (fun o ho=>bW _ ho)
  (fun o ho hne=>bR _ (h6 o ho fun o' ho' he=>hne (by rw[g1.blk ho',he]))) ⟨_,s2 _ _ hb⟩
 exact hk.run _ G' _ a' w' (r2.put hr (aa8 rl))
def aAO(fr:FrX)(own:OwX)(cf:Cf):Option (FuncId×Nat×List (Option DV)×TypeId×Nat×List DV×Bool):=match opC fr cf with
 |some ⟨_, .call ⟨.value fo,args,_⟩,_,_,_,_⟩=>match ajg (lkC fr cf) fo args with
  |some (f,nm,l)=>match bkC fr own cf nm with
   |some (.b ty s ds lo)=>some (f,nm,l,ty,s,ds,lo)
   |_=>none
  |none=>none
 |_=>none
theorem cw[fu:Fu]{f:FuncId}{nm:Nat}{l:List (Option DV)}{ty:TypeId}{s:Nat}{dsi dso:List DV}{lo:Bool}{rv:DV}(dso':List DV)(ha:aAO fr own cf=some (f,nm,l,ty,s,dsi,lo))(hF:PW GB prog f l s ty dsi rv dso)(he:dso=dso')
  (hgo:goA tt n fu.n fr own cf (.d rv) [(nm,some (.b ty s dso' lo))] []=⟨vc,fr',own',cf'⟩)(k:CfS prog GB C n Q0 fr' own' cf')
  (hv:aag vc:=by first|exact trivial|(simp only[aag];kernel_rfl)|(simp only[aag];omega)|(simp only[aag,aX,aY,aV];omega)):CfS prog GB C n Q0 fr own cf:=by
 subst he
 unfold aAO at ha
 split at ha<;>try (cases ha;done)
 rename_i hh
 split at ha<;>try (cases ha;done)
 rename_i h1
 split at ha<;>cases ha
 rename_i h2
 exact us hh (aqH h1 h2 hF) hgo hv k
/-! slices of a row -/
theorem asR{G:Gh}{w:SV}{s:Nat}{ty:TypeId}{ds:List DV}{lo:Bool}{B:List Own}(h:aaX G ⟨w,s,ty,ds,lo⟩ B)(hn:0<ds.length): ∃b,w=⟨some ⟨b,0,none⟩,ds.length,w.c⟩∧ds.length≤w.c:=by
 obtain⟨vs,h1,h2,_⟩:=h
 rcases h1 with⟨e1,_,_⟩|⟨b,rest,lo',e1,_,_,_,h5⟩
 ·subst e1;have:=h2.len;simp at this;omega
 ·exact⟨b,by rw[←h2.len];exact e1,by rw[←h2.len];exact h5⟩
theorem ayz{P:Program}{e s by_:Nat}[hT:ab7 P t e s by_]{nm:Nat}{k:IntKind}{j m:Nat}{ty:TypeId}{ds:List DV}{lo:Bool}(hx:evX lk x=some (.rw nm))(hb:bk nm=some (.b ty s ds lo))(hy:evX lk y=some (.d (.v (.int k j))))(hm:j+m=ds.length)(h1:0<m):
  OpR P GB C n lk bk ⟨dst, .slice t x (some y) none none,ty',pos,af,gd⟩ (.rs nm s j m) [] []:= .yd fun ρ G ov a w r=>by
 obtain⟨u,hu,hu2⟩:=r.ev hx
 cases (show u=_ from hu2)
 obtain⟨v,hv,hv2⟩:=r.ev hy
 rw[aas] at hv2;subst hv2
 obtain⟨B,hB,_⟩:=r.row (y:= .nilFunc) hb
 obtain⟨b,hw,hc⟩:=asR hB (by omega)
 rw[hw] at hu
 have hs:=adR (P:=P) (C:=C) (own:=ov) (G:=G) (dst:=dst) (ty':=ty') (pos:=pos) (af:=af) (gd:=gd) (t:=t) hu hv (by omega) (by show(j:Int)≤(ds.length:Nat);omega)
 have hne:(ρ nm).c≠j:=by omega
 refine⟨_,⟨b,(ρ nm).c-j,by rw[hw],?_,?_⟩,hs⟩
 ·unfold akJ
  rw[aT,if_neg hne,iV,ace,cN,show ds.length-j=m by omega]
 ·omega
theorem awf{P:Program}{e s by_:Nat}[hT:ab7 P t e s by_]{nm sz off m:Nat}(hx:evX lk x=some (.rs nm sz off m)):OpR P GB C n lk bk ⟨dst, .call ⟨.builtin .len, #[x], #[t]⟩,ty',pos,af,gd⟩ (.d (.v (.int .i64 (m:Nat)))) [] []:= .x1 hx fun ρ G ov a w y _ r h1 h2=>by
 obtain⟨b,c,_,rfl,_⟩:=h2
 exact⟨_,aas.2 rfl,adv h1⟩
theorem ayu{P:Program}{e s by_:Nat}[hT:ab7 P t e s by_]{nm off m j:Nat}{k:IntKind}{i:Int}(hx:evX lk x=some (.rs nm s off m))(hy:evX lk y=some (.d (.v (.int k i))))(h0:0≤i)(h1:i<(m:Nat))(hj:(off:Int)+i=(j:Nat)):
  OpR P GB C n lk bk ⟨dst, .indexAddr t x y,ty',pos,af,gd⟩ (.be nm s j 0) [] []:= .yd fun ρ G ov a w r=>by
 obtain⟨u,hu,hu2⟩:=r.ev hx
 obtain⟨b,c,hb,rfl,hc⟩:=hu2
 obtain⟨v,hv,hv2⟩:=r.ev hy
 rw[aas] at hv2;subst hv2
 have:=afo (P:=P) (C:=C) (own:=ov) (G:=G) (dst:=dst) (ty':=ty') (pos:=pos) (af:=af) (gd:=gd) (t:=t) hu hv h0 h1
 obtain rfl:off+i.toNat=j:=by omega
 exact⟨_,⟨b,hb,rfl⟩,by rw[dQ,bN];exact this⟩
def aAW(fr:FrX)(own:OwX)(cf:Cf):Option (Nat×Nat×List DV×Int):=match opC fr cf with
 |some ⟨_, .slice t x (some y) none none,_,_,_,_⟩=>match aa9 tt t with
  |some ⟨.sl _ s' _,_,_,_⟩=>match evX (lkC fr cf) x with
   |some (.rw nm)=>match bkC fr own cf nm with
    |some (.b _ s ds _)=>match evX (lkC fr cf) y with
     |some (.d (.v (.int _ i)))=>bif Nat.beq s s' then some (nm,s,ds,i) else none
     |_=>none
    |_=>none
   |_=>none
  |_=>none
 |_=>none
theorem rsl[fu:Fu]{nm s:Nat}{ds:List DV}{i:Int}(k m:Nat)(h:aAW fr own cf=some (nm,s,ds,i))(hi:i=(k:Nat))(hm:k+m=ds.length)(hp:0<m)(hgo:goA tt n fu.n fr own cf (.rs nm s k m) [] []=⟨vc,fr',own',cf'⟩)(kk:CfS prog GB C n Q0 fr' own' cf')
  (hv:aag vc:=by first|exact trivial|(simp only[aag];kernel_rfl)|(simp only[aag];omega)|(simp only[aag,aX,aY,aV];omega)):CfS prog GB C n Q0 fr own cf:=by
 subst hi
 unfold aAW at h
 split at h<;>try (cases h;done)
 rename_i hh
 split at h<;>try (cases h;done)
 rename_i hT
 split at h<;>try (cases h;done)
 rename_i hx
 split at h<;>try (cases h;done)
 rename_i hb
 split at h<;>try (cases h;done)
 rename_i hy
 rw[cond_eq_ite] at h
 split at h<;>cases h
 rename_i hq
 cases aW hq
 have:=adh (abt _ _ hT) rfl
 exact us hh (ayz hx hb hy hm hp) hgo hv kk
def aAJ(fr:FrX)(cf:Cf):Option Nat:=match opC fr cf with
 |some ⟨_, .call ⟨.builtin .len,⟨[x]⟩,⟨[t]⟩⟩,_,_,_,_⟩=>match aa9 tt t with
  |some ⟨.sl _ _ _,_,_,_⟩=>match evX (lkC fr cf) x with
   |some (.rs _ _ _ m)=>some m
   |_=>none
  |_=>none
 |_=>none
theorem rsn[fu:Fu]{m:Nat}(h:aAJ fr cf=some m)(hgo:goA tt n fu.n fr own cf (.d (.v (.int .i64 (m:Nat)))) [] []=⟨vc,fr',own',cf'⟩)(kk:CfS prog GB C n Q0 fr' own' cf')
  (hv:aag vc:=by first|exact trivial|(simp only[aag];kernel_rfl)|(simp only[aag];omega)|(simp only[aag,aX,aY,aV];omega)):CfS prog GB C n Q0 fr own cf:=by
 unfold aAJ at h
 split at h<;>try (cases h;done)
 rename_i hh
 split at h<;>try (cases h;done)
 rename_i hT
 split at h<;>cases h
 rename_i hx
 have:=adh (abt _ _ hT) rfl
 exact us hh (awf hx) hgo hv kk
def aA1(fr:FrX)(cf:Cf):Option (Nat×Nat×Nat×Nat×Int):=match opC fr cf with
 |some ⟨_, .indexAddr t x y,_,_,_,_⟩=>match aa9 tt t with
  |some ⟨.sl _ s' _,_,_,_⟩=>match evX (lkC fr cf) x with
   |some (.rs nm s off m)=>match evX (lkC fr cf) y with
    |some (.d (.v (.int _ i)))=>bif Nat.beq s s' then some (nm,s,off,m,i) else none
    |_=>none
   |_=>none
  |_=>none
 |_=>none
theorem rsi[fu:Fu]{nm s off m:Nat}{i:Int}(k:Nat)(h:aA1 fr cf=some (nm,s,off,m,i))(hk:(off:Int)+i=(k:Nat))(h0:0≤i)(h1:i<(m:Nat))(hgo:goA tt n fu.n fr own cf (.be nm s k 0) [] []=⟨vc,fr',own',cf'⟩)(kk:CfS prog GB C n Q0 fr' own' cf')
  (hv:aag vc:=by first|exact trivial|(simp only[aag];kernel_rfl)|(simp only[aag];omega)|(simp only[aag,aX,aY,aV];omega)):CfS prog GB C n Q0 fr own cf:=by
 unfold aA1 at h
 split at h<;>try (cases h;done)
 rename_i hh
 split at h<;>try (cases h;done)
 rename_i hT
 split at h<;>try (cases h;done)
 rename_i hx
 split at h<;>try (cases h;done)
 rename_i hy
 rw[cond_eq_ite] at h
 split at h<;>cases h
 rename_i hq
 cases aW hq
 have:=adh (abt _ _ hT) rfl
 exact us hh (ayu hx hy h0 h1 hk) hgo hv kk
/-! a row cut short, under a new name -/
theorem Buf.cut{s:Nat}{ty:TypeId}{z:SV}{vs:List Value}{B:List Own}(h:Buf s ty z vs B)(hs: ∀v∈vs,(aad v).length=s){k:Nat}(hk:k≤vs.length)(hne:0<vs.length):Buf s ty ⟨z.a,k,z.c⟩ (vs.take k) B:=by
 rcases h with⟨h1,_,_⟩|⟨b,rest,lo,h1,h2,h3,h4,h5⟩
 ·subst h1;simp at hne
 ·have e:aaf vs=aaf (vs.take k)++aaf (vs.drop k):=by rw[←aa2,kM]
  have hl:=aam (vs.take k) fun v hv=>hs v (dT hv)
  have hm:(vs.take k).length=k:=by rw[cW];omega
  refine .inr ⟨b,aaf (vs.drop k)++rest,lo,by rw[hm,h1],by rw[h2,e,cY],hl,?_,by rw[hm];show k≤z.c;omega⟩
  show _=z.c*s
  rw[←h4,e,aU,aU];omega
theorem axr{P:Program}{e s by_:Nat}[hT:ab7 P t e s by_]{nm d:Nat}{k:IntKind}{j:Nat}{ty:TypeId}{ds:List DV}{lo:Bool}(hne:Nat.beq nm d=false)(hx:evX lk x=some (.rw nm))(hb:bk nm=some (.b ty s ds lo))(hy:evX lk y=some (.d (.v (.int k j))))(h1:j<ds.length):
  OpR P GB C n lk bk ⟨some d, .slice t x none (some y) none,ty',pos,af,gd⟩ (.rw d) [(nm,none),(d,some (.b ty s (ds.take j) lo))] [d]:=by
 intro hd tl tb K s1 s2 hf hk
 refine⟨fun ρ G ov a w r Q=>?_⟩
 have r1:=r.mono s1 s2
 obtain⟨u,hu,hu2⟩:=r1.ev hx
 cases (show u=_ from hu2)
 obtain⟨v,hv,hv2⟩:=r1.ev hy
 rw[aas] at hv2;subst hv2
 obtain⟨B,hB0,hBo⟩:=r1.bx _ _ hb
 have hB:aaX G ⟨ρ nm,s,ty,ds,lo⟩ B:=hB0
 obtain⟨b,hw,hc⟩:=asR hB (by omega)
 obtain⟨vs,g1,g2,g3,g4⟩:=hB
 have hvl:=g2.len
 have hcut:aaX G ⟨⟨(ρ nm).a,j,(ρ nm).c⟩,s,ty,ds.take j,lo⟩ B:=⟨vs.take j,Buf.cut g1 g3 (by simp only at hvl⊢;omega) (by simp only at hvl⊢;omega),g2.take _,fun v hv=>g3 v (dT hv),g4⟩
 have hs:=aci (P:=P) (C:=C) (own:=ov) (G:=G) (dst:=some d) (ty':=ty') (pos:=pos) (af:=af) (gd:=gd) (t:=t) hu hv (by omega) (by omega)
 have hnn:nm≠d:=fun e=>by subst e;rw[mX] at hne;cases hne
 have r2:=r.dropB nm
 have hf2:acg [d] (some d) tl (Sx.upB tb [(nm,none)]):=fun q hq=>by
  obtain⟨f1,f2⟩:=hf q hq
  refine⟨f1,fun k B e1 e=>?_⟩
  simp only[Sx.upB] at e
  split at e
  ·cases e
  ·exact f2 k B e1 e
 have r3:=r2.new' (x:=⟨(ρ nm).a,j,(ρ nm).c⟩) (B':= .b ty s (ds.take j) lo) (os:=B) (ov':=ov) (f:= .rw d) (y:= .slice (ρ nm).a j (ρ nm).c) hf2 (GLe.refl _) r.h (hcut.toBk (by simp)) hBo
  (fun m B' hm e o ho hmo=>⟨ho,fun hc=>by
   simp only[Sx.upB] at e
   split at e
   ·cases e
   ·rename_i hmn
    exact r.dj m nm B' _ e (s2 _ _ hb) hmn _ hmo hc⟩) (by simp[IsX]) (r.putA (.slice (ρ nm).a j (ρ nm).c) hd)
 exact aa6 (hs a w (aaK a) r.h) (hk.run _ G _ _ w r3)
def aAM(fr:FrX)(own:OwX)(cf:Cf):Option (Nat×Nat×TypeId×Nat×List DV×Bool×Int):=match opC fr cf with
 |some ⟨some d, .slice t x none (some y) none,_,_,_,_⟩=>match aa9 tt t with
  |some ⟨.sl _ s' _,_,_,_⟩=>match evX (lkC fr cf) x with
   |some (.rw nm)=>match bkC fr own cf nm with
    |some (.b ty s ds lo)=>match evX (lkC fr cf) y with
     |some (.d (.v (.int _ i)))=>bif Nat.beq s s'&&!Nat.beq nm d then some (d,nm,ty,s,ds,lo,i) else none
     |_=>none
    |_=>none
   |_=>none
  |_=>none
 |_=>none
theorem rct[fu:Fu]{d nm s:Nat}{ty:TypeId}{ds:List DV}{lo:Bool}{i:Int}(ds':List DV)(k:Nat)(h:aAM fr own cf=some (d,nm,ty,s,ds,lo,i))(hi:i=(k:Nat))(hl:k<ds.length)(hd:ds.take k=ds')(hgo:goA tt n fu.n fr own cf (.rw d) [(nm,none),(d,some (.b ty s ds' lo))] [d]=⟨vc,fr',own',cf'⟩)(kk:CfS prog GB C n Q0 fr' own' cf')
  (hv:aag vc:=by first|exact trivial|(simp only[aag];kernel_rfl)|(simp only[aag];omega)|(simp only[aag,aX,aY,aV];omega)):CfS prog GB C n Q0 fr own cf:=by
 subst hi hd
 unfold aAM at h
 split at h<;>try (cases h;done)
 rename_i hh
 split at h<;>try (cases h;done)
 rename_i hT
 split at h<;>try (cases h;done)
 rename_i hx
 split at h<;>try (cases h;done)
 rename_i hb
 split at h<;>try (cases h;done)
 rename_i hy
 rw[cond_eq_ite] at h
 split at h<;>cases h
 rename_i hq
 simp only[bK,fT] at hq
 cases aW hq.1
 have:=adh (abt _ _ hT) rfl
 exact us hh (axr hq.2 hx hb hy hl) hgo hv kk
/-! the rest of a row cleared -/
theorem ajh(v:Value)(m:Nat):aaf (List.replicate m v)=aaT v m:=by
 unfold aaT
 induction m with
 |zero=>rfl
 |succ m ih=>rw[gQ,gQ,jX,←ih];rfl
theorem alC{G:Gh}{z:DV}{v:Value}(h:Is G z v): ∀m:Nat,IsLs G (List.replicate m z) (List.replicate m v)
 |0=> .nil
 |m+1=>by rw[gQ,gQ];exact .cons h (alC h m)
theorem awz{P:Program}{e s by_:Nat}[hT:ab7 P t e s by_]{i:TI}{z:DV}(hi:aeh P e=some i)(hz:zeE i=some z)(hzs:z.cells.length=s){nm off m:Nat}{ty:TypeId}{ds:List DV}{lo:Bool}(hx:evX lk x=some (.rs nm s off (m+1)))(hb:bk nm=some (.b ty s ds lo))(hm:off+(m+1)=ds.length):
  OpR P GB C n lk bk ⟨dst, .call ⟨.builtin .clear, #[x], #[t]⟩,ty',pos,af,gd⟩ (.d (.tp [])) [(nm,some (.b ty s (ds.take off++List.replicate (m+1) z) lo))] []:=by
 intro hd tl tb K s1 s2 hf hk
 refine⟨fun ρ G ov a w r Q=>?_⟩
 have r1:=r.mono s1 s2
 obtain⟨v,hz1,hz2,hz3⟩:=agI hi hz
 have cz:=((hz2 G).cells hz3).1.len
 have cf:=((hz2 G).cells hz3).2
 rw[hzs] at cz
 obtain⟨u,hu,b,c,hbq,rfl,hc⟩:=r1.ev hx
 obtain⟨B,hB0,hBo⟩:=r1.bx _ _ hb
 have hB:aaX G ⟨ρ nm,s,ty,ds,lo⟩ B:=hB0
 obtain⟨vs,g1,g2,g3,g4⟩:=hB
 simp only at g1 g2 g3 g4
 have hvl:=g2.len
 rcases g1 with⟨e1,e2,_⟩|⟨b',rest,lo',k1,k2,k3,k4,k5⟩
 ·subst e1;simp at hvl;omega
 ·have hbe:b'=b:=by rw[k1] at hbq;cases hbq;rfl
  subst hbe
  subst k2
  have hmem:=hBo _ aQ
  have hblk:=(r.h.hown _ hmem).1
  simp only at hblk
  have hzl:(aaT v (m+1)).length=(m+1)*s:=by rw[abe,cz]
  have hls:vs.length*s=off*s+(m+1)*s:=by rw[←bN];congr 1;omega
  have hst:=abz (P:=P) (aaT v (m+1)) w (off*s) 0 (aaf vs++rest) (fun q hq=>by
   unfold aaT at hq
   obtain⟨l,hl,hql⟩:=List.mem_flatten.1 hq
   rw[jR hl] at hql
   exact cf q hql) hblk (by rw[hzl,aU];omega)
  rw[dQ] at hst
  have htk:=aam (vs.take off) fun q hq=>g3 q (dT hq)
  have hov:ovw (aaf vs++rest) (off*s) (aaT v (m+1))=aaf (vs.take off++List.replicate (m+1) v)++rest:=by
   rw[abZ _ _ _ (by rw[hzl,aU];omega),aa2,ajh]
   have e1:(aaf vs++rest).take (off*s)=aaf (vs.take off):=by
    rw[cM (by omega),aem vs off g3 (by omega)]
   rw[e1,hzl,←hls,gS (by omega),fQ (by omega),gN]
  have hrun:(Builtin.clear_ #[t] ty' #[.slice (some ⟨b',off*s,none⟩) (m+1) c]).run P w= .ok (.tuple #[]) (abh w b' (.cells ⟨aaf (vs.take off++List.replicate (m+1) v)++rest⟩ ty (0,0))):=by
   unfold Builtin.clear_
   show(underlying t>>=_).run P w=_
   rw[aaa (hT.u w)]
   show(zeroValue e>>=fun q=>storeCells ⟨b',off*s,none⟩ (Builtin.zeroCells q.cells (m+1)).toList>>=fun _=>pure (Value.tuple #[])).run P w=_
   rw[aaa (hz1.zero w)]
   show(storeCells ⟨b',off*s,none⟩ (Builtin.zeroCells v.cells (m+1)).toList>>=fun _=>pure (Value.tuple #[])).run P w=_
   rw[ab1,afe,aaa (hov▸hst)];rfl
  obtain⟨own',u1,u2,u3⟩:=aeR.of_mem (cs':=aaf (vs.take off++List.replicate (m+1) v)++rest) hmem
  have r2:=r.upB (G':=G) (ov':=own') (w':=abh w b' (.cells ⟨aaf (vs.take off++List.replicate (m+1) v)++rest⟩ ty (0,0))) (B':= .b ty s (ds.take off++List.replicate (m+1) z) lo) (os:=[⟨b',aaf (vs.take off++List.replicate (m+1) v)++rest,ty,lo'⟩]) (GLe.refl _) (r.h.store u1)
   ⟨vs.take off++List.replicate (m+1) v, .inr ⟨b',rest,lo',?_,rfl,?_,?_,?_⟩,(g2.take _).app (alC (hz2 G) _),?_,?_⟩ (fun o ho=>by rw[aN.1 ho];exact u2) (fun o ho hne=>u3 o ho fun e=>hne (by rw[hbq,e])) ⟨_,s2 _ _ hb⟩
  ·have h3:=hk.run _ G _ _ _ (r2.put (f:= .d (.tp [])) (y:= .tuple #[]) (acQ.2 ⟨[],rfl, .nil⟩) (r2.putA (.tuple #[]) hd))
   refine aa6 (v:= .tuple #[]) ?_ h3
   simp only[execOp,resolve,eK,bL,gM,aac (aaK a) hu]
   exact aal hrun
  ·rw[k1,aU,cW,aV,eJ (by omega)]
   simp only[SV.mk.injEq,true_and,and_true];omega
  ·refine aam _ fun q hq=>?_
   rcases bS.1 hq with hq|hq
   ·exact g3 q (dT hq)
   ·rw[jR hq,cz]
  ·rw[aa2,ajh,aU,htk,hzl,cW,eJ (by omega)]
   omega
  ·rw[aU,cW,aV,eJ (by omega)];omega
  ·intro q hq
   rcases bS.1 hq with hq|hq
   ·exact g3 q (dT hq)
   ·rw[jR hq,cz]
  ·intro hl o ho
   have:=g4 hl _ aQ
   rw[aN.1 ho];exact this
def aAr(fr:FrX)(own:OwX)(cf:Cf):Option (Nat×TypeId×Nat×List DV×Bool×Nat×Nat×DV):=match opC fr cf with
 |some ⟨_, .call ⟨.builtin .clear,⟨[x]⟩,⟨[t]⟩⟩,_,_,_,_⟩=>match aa9 tt t with
  |some ⟨.sl e s' _,_,_,_⟩=>match evX (lkC fr cf) x with
   |some (.rs nm s off m)=>match bkC fr own cf nm with
    |some (.b ty s2 ds lo)=>match aa9 tt e with
     |some i=>match zeE i with
      |some z=>bif Nat.beq s s'&&(Nat.beq s s2&&Nat.beq z.cells.length s) then some (nm,ty,s,ds,lo,off,m,z) else none
      |none=>none
     |none=>none
    |_=>none
   |_=>none
  |_=>none
 |_=>none
theorem rcl[fu:Fu]{nm s off m:Nat}{ty:TypeId}{ds:List DV}{lo:Bool}{z:DV}(ds':List DV)(h:aAr fr own cf=some (nm,ty,s,ds,lo,off,m,z))(hm:off+m=ds.length)(hp:0<m)(hd:ds.take off++List.replicate m z=ds')(hgo:goA tt n fu.n fr own cf (.d (.tp [])) [(nm,some (.b ty s ds' lo))] []=⟨vc,fr',own',cf'⟩)(kk:CfS prog GB C n Q0 fr' own' cf')
  (hv:aag vc:=by first|exact trivial|(simp only[aag];kernel_rfl)|(simp only[aag];omega)|(simp only[aag,aX,aY,aV];omega)):CfS prog GB C n Q0 fr own cf:=by
 subst hd
 obtain⟨m,rfl⟩: ∃q,m=q+1:=⟨m-1,by omega⟩
 unfold aAr at h
 split at h<;>try (cases h;done)
 rename_i hh
 split at h<;>try (cases h;done)
 rename_i hT
 split at h<;>try (cases h;done)
 rename_i hx
 split at h<;>try (cases h;done)
 rename_i hb
 split at h<;>try (cases h;done)
 rename_i hi
 split at h<;>try (cases h;done)
 rename_i hz
 rw[cond_eq_ite] at h
 split at h<;>cases h
 rename_i hq
 simp only[bK] at hq
 cases aW hq.1
 cases aW hq.2.1
 have:=adh (abt _ _ hT) rfl
 exact us hh (awz (abt _ _ hi) hz (aW hq.2.2) hx hb hm) hgo hv kk
end
theorem aoh{GB:Gh}{u v:PtQ}{i j:Nat}[hp:BPt u i][hq:BPt v j](hi:i≤10000000:=by decide)(hj:j≤10000000:=by decide):PF GB prog 211 [eZ u,eZ v] (vB (decide (aaG u v=0))):=by
 refine fn func211 J J ntmps211 J J (fun C=>?_)
 refine cl rfl (akW (u:=u) (v:=v) hi hj) rfl<|?_
 exact rz J J
def aja(x:PtQ):List PtQ→List PtQ
 |[]=>[]
 |y::l=>if aaG y x=0 then aja y l else y::aja y l
def ahA:List PtQ→List PtQ
 |[]=>[]
 |x::l=>x::aja x l
theorem aii{l:List PtQ}{k:Nat}{x y:PtQ}(h:l[k]? =some y):aja x (l.drop k)=if aaG y x=0 then aja y (l.drop (k+1)) else y::aja y (l.drop (k+1)):=by
 obtain⟨h1,h2⟩:=bZ.1 h
 rw[bT h1,h2,aja]
theorem apO{l:List PtQ}{k:Nat}{y:PtQ}(h:l[k]? =some y):l.take (k+1)=l.take k++[y]:=by
 rw[List.take_add_one,h];rfl
def vZ:DV:= .ag [vI 0,vI 0, .v (.pointer none),vI 0,vI 0, .v (.pointer none)]
theorem ar6(l:List PtQ)(k:Nat)(y:PtQ):(l.map eZ).set k (eZ y)=(l.set k y).map eZ:=(oS ..).symm
theorem alq{l:List PtQ}(h:l.length<2):ahA l=l:=by
 cases l with
 |nil=>rfl
 |cons x l=>cases l with
  |nil=>rfl
  |cons y l=>simp at h;omega
theorem avl{l:List PtQ}{x:PtQ}(h:l[0]? =some x):ahA l=l.take 1++aja x (l.drop 1):=by
 cases l with
 |nil=>cases h
 |cons y l=>cases h;rfl
theorem aol{r l:List PtQ}{a b:Nat}(h:a≤b)(e:r.drop a=l.drop a):r[b]? =l[b]? :=by
 have:=congrArg (·[b-a]?) e
 simpa[mQ,show a+(b-a)=b by omega] using this
theorem ap6{r l:List PtQ}{a b:Nat}(h:a≤b)(e:r.drop a=l.drop a):r.drop b=l.drop b:=by
 have:=congrArg (List.drop (b-a)) e
 simpa[qY,show a+(b-a)=b by omega] using this
theorem aiR{r:List PtQ}{i:Nat}{u:PtQ}(h:i<r.length):(r.set i u).take (i+1)=r.take i++[u]:=by
 rw[List.take_add_one,oL h,List.take_set_of_le (bQ _)];rfl
theorem ap1{r:List PtQ}{i:Nat}(h:i<r.length):(r.map eZ)[(i:Int).toNat]? =some (eZ r[i]):=by simp[h]
theorem apR{GB:Gh}{l:List PtQ}{i0:Nat}(hb: ∀d∈l,BPt d i0)(hn:l.length≤10000000)(hi:i0≤10000000):PB GB prog 210 (mkB [none,some (.v (.func (.func 211) #[] #[]))]) 6 104 (l.map eZ) (fun w=> .v (.slice w.a w.n w.c)) ((ahA l).map eZ):=by
 have hml:(l.map eZ).length=l.length:=aX ..
 refine fnQ (fu:=⟨10⟩) func210 J J ntmps210 J J (fun C=>?_)
 refine eqF 9 (.d (vI (l.length:Nat))) rfl (by rw[hml]<;>rfl) ?_
 refine gx rfl<|?_
 refine br J J J (fun hc10=>?_) (fun hc10=>?_)
 ·
  exact rzQ J J J (by rw[alq (by omega)])
 ·
  obtain⟨x0,hx0⟩: ∃x,l[0]? =some x:=⟨_,aJ (by omega)⟩
  refine lp (fu:=⟨6⟩) (X:=Nat×PtQ) (fun⟨k,x⟩=>[(5, .d (vI (k:Nat)))]) (fun⟨k,x⟩=>[]) (fun⟨k,x⟩=>1≤k∧k≤l.length∧l[k-1]? =some x∧ahA l=l.take k++aja x (l.drop k)) (fun⟨k,x⟩=>l.length-k) ⟨1,x0⟩ rfl ⟨bQ _,by omega,hx0,by rw[avl hx0]⟩ (fun _=>rfl) (fun⟨k,x⟩ hk=>?_)
  try dsimp only at hk⊢
  obtain⟨h1,h2,h3,h4⟩:=hk
  refine eqF 14 (.d (vI (l.length:Nat))) rfl (by rw[hml]<;>rfl) ?_
  refine gx rfl<|?_
  refine br J J J (fun hc15=>?_) (fun hc15=>?_)
  ·
   obtain⟨y,hy⟩: ∃y,l[k]? =some y:=⟨_,aJ (by omega)⟩
   haveI:=hb y (cZ hy)
   haveI:=hb x (cZ h3)
   refine lb (fu:=⟨3⟩) _ rfl (abr hy) rfl<|?_
   refine eqF 25 (.d (vI ((k-1:Nat):Int))) rfl (by rw[Int.ofNat_sub h1]<;>rfl) ?_
   refine gx rfl<|lb (fu:=⟨0⟩) _ rfl (abr h3) rfl<|cl rfl (aoh (u:=y) (v:=x) hi hi) rfl<|?_
   refine bd (fu1:=⟨4⟩) J J J (fun hc28=>?_) (fun hc28=>?_)
   ·
    have hc28':=hc28
    refine rsl k (l.length-k) J J (by omega) (by omega) rfl<|?_
    refine lp (fu:=⟨5⟩) (X:=Nat×Nat×PtQ×List PtQ) (fun⟨i,m,z,r⟩=>[(5, .d (vI (i:Nat))),(7, .d (vI (m:Nat)))]) (fun⟨i,m,z,r⟩=>[(1000000,some (.b 104 6 (r.map eZ) false))]) (fun⟨i,m,z,r⟩=>1≤m∧k+m≤l.length∧i+1≤k+m∧r.length=l.length∧r.drop (k+m-1)=l.drop (k+m-1)∧l[k+m-1]? =some z∧ahA l=r.take i++aja z (l.drop (k+m))) (fun⟨i,m,z,r⟩=>l.length-m) ⟨k,1,y,l⟩ rfl ⟨bQ _,by omega,by omega,rfl,rfl,by rw[kS];exact hy,by rw[h4,aii hy,if_pos hc28']⟩ (fun _=>rfl) (fun⟨i,m,z,r⟩ hk=>?_)
    try dsimp only at hk⊢
    obtain⟨g1,g2,g3,g4,g5,g6,g7⟩:=hk
    have hrl:(r.map eZ).length=r.length:=aX ..
    refine rsn J J<|?_
    refine br (fu1:=⟨9⟩) (fu2:=⟨9⟩) J J J (fun hc35=>?_) (fun hc35=>?_)
    ·
     obtain⟨u,hu⟩: ∃u,l[k+m]? =some u:=⟨_,aJ (by omega)⟩
     haveI:=hb u (cZ hu)
     haveI:=hb z (cZ g6)
     have g8:r[k+m]? =some u:=by rw[←hu];exact aol (by omega) g5
     have g10:r[k+m-1]? =some z:=by rw[←g6];exact aol (bQ _) g5
     have g9:r.drop (k+m)=l.drop (k+m):=ap6 (by omega) g5
     refine rsi (k+m) rfl (by omega) (by omega) (by omega) rfl<|lb (fu:=⟨3⟩) _ rfl (abr g8) rfl<|rsi (k+m-1) rfl (by omega) (by omega) (by omega) rfl<|?_
     refine lb (fu:=⟨0⟩) _ rfl (abr g10) rfl<|cl rfl (aoh (u:=u) (v:=z) hi hi) rfl<|?_
     refine bb (fu1:=⟨6⟩) J J J (fun hc49=>?_) (fun hc49=>?_)
     ·
      have hc49': ¬aaG u z=0:=by simpa using hc49
      refine rsi (k+m) rfl (by omega) (by omega) (by omega) rfl<|lb _ rfl (abr g8) rfl<|sb _ ((r.set i u).map eZ) rfl (ap1 (by omega)) rfl (by rw[←ar6]<;>rfl) rfl<|?_
      exact at_ ⟨i+1,m+1,u,r.set i u⟩ (by dsimp only;exact⟨⟨by omega,by omega,by omega,by rw[aY];exact g4,by rw[show k+(m+1)-1=k+m by omega,nT (by omega)];exact g9,by rw[show k+(m+1)-1=k+m by omega];exact hu,by rw[g7,aii hu,if_neg hc49',aiR (by omega),cY];rfl⟩,(by omega)⟩)
     ·
      have hc49':aaG u z=0:=by simpa using hc49
      exact at_ ⟨i,m+1,u,r⟩ (by dsimp only;exact⟨⟨by omega,by omega,by omega,g4,by rw[show k+(m+1)-1=k+m by omega];exact g9,by rw[show k+(m+1)-1=k+m by omega];exact hu,by rw[g7,aii hu,if_pos hc49'];rfl⟩,(by omega)⟩)
    ·
     obtain hm:k+m=l.length:=by omega
     refine rsl i (l.length-i) J J (by omega) (by omega) rfl<|rcl (fu:=⟨6⟩) _ rfl (by rw[hrl];omega) (by omega) J J<|rct ((r.take i).map eZ) i J J (by rw[aU,cW,aV,hrl];omega) (by rw[cM (by rw[cW,hrl];omega),List.take_take,Nat.min_self,mY]) rfl<|?_
     exact rzQ J J J (by rw[g7,hm,iU,aja,gV])
   ·
    have hc28':=hc28
    exact at_ ⟨k+1,y⟩ (by dsimp only;exact⟨⟨by omega,by omega,hy,by rw[h4,aii hy,if_neg hc28',apO hy,cY];rfl⟩,(by omega)⟩)
  ·
   exact rzQ J J J (by rw[h4,show k=l.length by omega,iU,aja,gV,nY])
theorem aqR{v:Value}(h:Go.Sx.flat v=true):v.oneCell'=true:=by cases v<;>first|rfl|cases h
theorem agS{α:Type}{k:Nat}: ∀(l:List (List α)) (t:Nat),(∀x∈l,x.length=k)→t<l.length*k→l.flatten[t]? =(l[t/k]?).bind (·[t%k]?)
 |[],t,_,h=>by simp at h
 |x::l,t,h,ht=>by
  have hx:=h x aQ
  have hk:0<k:=by
   rcases dZ k with e|e
   ·subst e;simp at ht
   ·exact e
  rw[jX]
  by_cases q:t<k
  ·rw[gL (by omega),iQ q,dY q];rfl
  ·rw[gW (by omega),hx,agS l (t-k) (fun y hy=>h y (aZ _ hy)) (by rw[bY,bN] at ht;omega)]
   have e1:t/k=(t-k)/k+1:=by rw[Nat.div_eq_sub_div hk (by omega)]
   have e2:t%k=(t-k)%k:=by rw[Nat.mod_eq_sub_mod (by omega)]
   rw[e1,e2];rfl
section
variable {α:Type} [Inhabited α]
theorem ar3(enc:α→List Value)(k:Nat)(hk: ∀x,(enc x).length=k)(d:Array α):(Go.Sort.flatK enc k d).toList=(d.toList.map enc).flatten:=by
 apply jM
 intro t
 have hlen:(d.toList.map enc).flatten.length=d.size*k:=by
  have: ∀l:List α,(l.map enc).flatten.length=l.length*k:=fun l=>by
   induction l with
   |nil=>simp
   |cons x l ih=>rw[bL,jX,aU,ih,hk,bY,bN];omega
  simpa using this d.toList
 by_cases ht:t<d.size*k
 ·have hk0:0<k:=by
   rcases dZ k with e|e
   ·subst e;simp at ht
   ·exact e
  have hi:t/k<d.size:=pS (by rwa [bX])
  rw[agS (k:=k) _ _ (fun x hx=>by obtain⟨y,_,rfl⟩:=bM.1 hx;exact hk y) (by simpa using ht)]
  simp only[Go.Sort.flatK,pW,Array.toList_range,fR]
  rw[qV ht]
  have hj:t%k<(enc d[t/k]).length:=by rw[hk];exact cS _ hk0
  simp only[iV]
  rw[getElem!_pos d (t/k) hi,getElem!_pos (enc d[t/k]) (t%k) hj]
  simp[hi,hj]
 ·rw[cV (by simp[Go.Sort.flatK];omega),cV (by rw[hlen];omega)]
theorem anE(enc:α→List Value)(k:Nat)(w:World)(b m:Nat)(dk:Array α)(os:Array Obj){q:Nat}(hq:q<w.heap.size):
  (sortWorldK enc k w b 0 m dk os).heap[q]? =if q=b then(w.heap[q]?).map (Go.Sort.onCells (Go.Sort.putCells id 0 (Go.Sort.flatK enc k dk))) else w.heap[q]? :=by
 show((w.heap.modify b _)++os)[q]? =_
 rw[kY (by simpa using hq),Array.getElem?_modify]
 by_cases e:b=q
 ·subst e;simp
 ·simp[e,Ne.symm e]
theorem aoE{F:Array Value}{xs rest:List Value}(h:xs.length=F.size):Go.Sort.putCells id 0 F ⟨xs++rest⟩=⟨F.toList++rest⟩:=by
 apply Array.ext'
 apply jM
 intro k
 simp only[Go.Sort.putCells,Array.toList_mapIdx,List.getElem?_mapIdx]
 by_cases hk:k<F.size
 ·rw[gL (by omega),gL (by simpa using hk),aJ (by omega)]
  simp[hk]
 ·rw[gW (by omega),gW (by simp;omega),h]
  simp only[nR]
  cases rest[k-F.size]? with
  |none=>rfl
  |some v=>simp[hk]
end
def ans{A:Type}(cf:A→A→Int)(ds:List A):List A:=ds.mergeSort fun x y=>!decide (cf y x<0)
theorem adw{A:Type}(cf:A→A→Int)(ds:List A):(ans cf ds).Perm ds:=List.mergeSort_perm ..
theorem amB{A:Type}{cf:A→A→Int}(hO:Go.Sort.SWO (Go.Proofs.ltOf cf))(ds:List A):(ans cf ds).Pairwise fun x y=> ¬cf y x<0:=by
 have:=List.pairwise_mergeSort (le:=fun x y=>!decide (cf y x<0)) (fun a b c h1 h2=>by
  have h1':Go.Proofs.ltOf cf b a=false:=by simpa[Go.Proofs.ltOf] using h1
  have h2':Go.Proofs.ltOf cf c b=false:=by simpa[Go.Proofs.ltOf] using h2
  have:=hO.ntrans c b a h2' h1'
  simpa[Go.Proofs.ltOf] using this) (fun a b=>by
  cases h1:Go.Proofs.ltOf cf b a with
  |false=>have: ¬cf b a<0:=(by simpa[Go.Proofs.ltOf] using h1);simp;omega
  |true=>
   cases h2:Go.Proofs.ltOf cf a b with
   |false=>have: ¬cf a b<0:=(by simpa[Go.Proofs.ltOf] using h2);simp;omega
   |true=>have:=hO.trans _ _ _ h1 h2;rw[hO.irrefl] at this;cases this) ds
 exact this.imp fun h=>by simpa using h
theorem azl{P:Program}{ρ:Go.Shelf.Ren}{GB:Gh}(L:SlLaysF0.n6 P ρ)(ha:acD P (ρ.f 6)){s:Nat}(hAg: ∀w,(isAgg (ρ.t 24)).run P w= .ok true w)(hZs: ∀w,(sizeOf (ρ.t 24)).run P w= .ok s w)
  {A:Type}(e:A→DV)(V:A→Prop)(hA: ∀x,∃l,e x= .ag l∧(DV.ag l).okc=true∧l.length=s)(cf:A→A→Int)(hO:Go.Sort.SWO (Go.Proofs.ltOf cf)){g:FuncId}(hg:acD P g)
  (hc: ∀x y,V x→V y→PF GB P g [e x,e y] (.v (.int .i64 (cf x y)))){ty:TypeId}{ds:List A}(hV: ∀x∈ds,V x)(hn:ds.length<4611686018427387904)(hu: ∀x∈ds,∀y∈ds,¬cf x y<0→ ¬cf y x<0→x=y):
  PW GB P (ρ.f 6) [none,some (.v (.func (.func g) #[] #[]))] s ty (ds.map e) (.tp []) ((ans cf ds).map e):=by
 intro G z vs B hgb hB hvs
 refine⟨ha,fun w hw=>?_⟩
 obtain⟨v1,m1,rfl,q1,hvs⟩:=aab.1 hvs
 obtain⟨v2,m2,rfl,q2,hvs⟩:=aab.1 hvs
 cases aaz.1 hvs
 rw[aaM] at q1 q2
 subst q1 q2
 obtain⟨es,k1,k2,k3,_⟩:=hB
 simp only at k1 k2 k3
 have hlen:es.length=ds.length:=by rw[k2.len,aX]
 by_cases h0:ds=[]
 ·subst h0
  have hes:es=[]:=bV (by simpa using hlen)
  have hz:z.n=0:=by rw[k1.len,hes];rfl
  rw[hz]
  refine(AnyF.slices_SortFunc_none L z.a z.c _ w).mono fun r w' ⟨h1,h2⟩=>?_
  subst h2
  exact⟨_,asB B,G,h1,hw,acQ.2 ⟨[],rfl, .nil⟩,es,k1.asB,by subst hes;show IsLs G ((ans cf []).map e) [];unfold ans;rw[List.mergeSort_nil];exact .nil,k3,fun h=>by cases h⟩
 ·have hpos:0<es.length:=by rw[hlen];exact nS.2 h0
  rcases k1 with⟨e1,_,_⟩|⟨b,rest,lo,e1,e2,e3,e4,e5⟩
  ·rw[e1] at hpos;simp at hpos
  subst e2
  -- elements with their cells
  have lift: ∀{ds:List A} {es:List Value},IsLs G (ds.map e) es→(∀x∈ds,V x)→ ∃qs:List {q:A×List Value//V q.1∧Is G (e q.1) (.agg ⟨q.2⟩)},qs.map (·.1.1)=ds∧qs.map (fun q=>Value.agg ⟨q.1.2⟩)=es:=by
   intro ds
   induction ds with
   |nil=>intro es h _;cases aaz.1 h;exact⟨[],rfl,rfl⟩
   |cons x ds ih=>
    intro es h hV
    obtain⟨y,n,rfl,g1,g2⟩:=aab.1 h
    obtain⟨qs,g3,g4⟩:=ih g2 fun x hx=>hV x (aZ _ hx)
    obtain⟨l,hl,_⟩:=hA x
    have g1':=g1
    rw[hl] at g1'
    obtain⟨m,rfl,_⟩:=abl.1 g1'
    exact⟨⟨(x,m),hV x aQ,g1⟩::qs,by simp[g3],by simp[g4]⟩
  obtain⟨qs,hq1,hq2⟩:=lift k2 hV
  have:Inhabited {q:A×List Value//V q.1∧Is G (e q.1) (.agg ⟨q.2⟩)}:=⟨qs.head (fun e=>by rw[e] at hq1;exact h0 hq1.symm)⟩
  let enc:{q:A×List Value//V q.1∧Is G (e q.1) (.agg ⟨q.2⟩)}→List Value:=fun q=>q.1.2
  have henc: ∀q,(enc q).length=s∧ ∀v∈enc q,Go.Sx.flat v=true:=fun q=>by
   obtain⟨l,hl,h1,h2⟩:=hA q.1.1
   have h3:=q.2.2
   rw[hl] at h3
   obtain⟨m,hm,h4⟩:=abl.1 h3
   cases hm
   exact⟨by show q.1.2.length=s;rw[h4.len,h2],fun v hv=>h4.flat h1 v hv⟩
  have hk: ∀q,(enc q).length=s:=fun q=>(henc q).1
  have hqs:qs.toArray.size=es.length:=by rw[lX,←hq2,aX]
  have hfl: ∀d:Array {q:A×List Value//V q.1∧Is G (e q.1) (.agg ⟨q.2⟩)},(Go.Sort.flatK enc s d).toList=aaf (d.toList.map fun q=>Value.agg ⟨q.1.2⟩):=fun d=>by
   rw[ar3 enc s hk]
   unfold aaf
   rw[List.map_map];rfl
  have hfe:(Go.Sort.flatK enc s qs.toArray).toList=aaf es:=by rw[hfl,←hq2]
  have hown:=hw.hown ⟨b,aaf es++rest,ty,false⟩ aQ
  obtain⟨hb,hGb,_,_⟩:=hown
  simp only at hb hGb
  have hblt:=ach hb
  have hH:Go.Sort.HoldsK enc s w b 0 qs.toArray:=by
   intro j hj
   refine⟨?_,by simp[World.frozen?,hb]⟩
   rw[acb hb,cN]
   have hj':j<(aaf es).length:=by rw[←hfe];simpa using hj
   rw[gL hj',←hfe]
   show _=some ((Go.Sort.flatK enc s qs.toArray)[j]!)
   rw[getElem!_pos _ j hj]
   simp
  have hsz: ∀dk:Array {q:A×List Value//V q.1∧Is G (e q.1) (.agg ⟨q.2⟩)},dk.size=qs.toArray.size→(aaf es).length=(Go.Sort.flatK enc s dk).size:=fun dk hd=>by rw[←hfe];simp[hd]
  have hblk: ∀(m:Nat) (os:Array Obj) (dk:Array _),dk.size=qs.toArray.size→(sortWorldK enc s w b 0 m dk os).heap[b]? =some (.cells ⟨(Go.Sort.flatK enc s dk).toList++rest⟩ ty (0,0)):=fun m os dk hd=>by
   rw[anE enc s w b m dk os hblt,if_pos rfl,hb]
   show some (Obj.cells (Go.Sort.putCells id 0 (Go.Sort.flatK enc s dk) ⟨aaf es++rest⟩) ty (0,0))=_
   rw[aoE (hsz dk hd)]
  have hoth: ∀(m:Nat) (os:Array Obj) (dk:Array _) (q:Nat),q<w.heap.size→q≠b→(sortWorldK enc s w b 0 m dk os).heap[q]? =w.heap[q]? :=fun m os dk q hq hne=>by rw[anE enc s w b m dk os hq,if_neg hne]
  have hsub: ∀(m:Nat) (os:Array Obj) (dk:Array _) (c:Nat) (cs:List Value),G c=some cs→ ∃ty fz,(sortWorldK enc s w b 0 m dk os).heap[c]? =some (.cells ⟨cs⟩ ty fz):=fun m os dk c cs hcs=>by
   obtain⟨ty',fz,h⟩:=hw.sub c cs hcs
   exact⟨ty',fz,by rw[hoth m os dk c (ach h) (fun e=>by subst e;rw[hGb] at hcs;cases hcs)];exact h⟩
  have hsize: ∀(m:Nat) (os:Array Obj) (dk:Array _),w.heap.size≤(sortWorldK enc s w b 0 m dk os).heap.size:=fun m os dk=>by
   show _≤((w.heap.modify b _)++os).size
   simp
  have hcmp:Go.Proofs.CmpLays P g #[] enc s (fun q r=>cf q.1.1 r.1.1) b 0 qs.toArray.size w:=by
   intro m os dk _ x y
   have hF:=hc x.1.1 y.1.1 x.2.1 y.2.1 G [.agg ⟨x.1.2⟩, .agg ⟨y.1.2⟩] hgb (.cons x.2.2 (.cons y.2.2 .nil))
   refine(hF.run _ (hsub m os dk)).mono fun r W ⟨v,G',h1,h2,h3⟩=>?_
   rw[aaM] at h3
   subst h3
   refine⟨h1,W.drawn-(sortWorldK enc s w b 0 m dk os).drawn,W.heap.extract (sortWorldK enc s w b 0 m dk os).heap.size W.heap.size,?_⟩
   have hdr:=h2.dr
   have hos:=h2.os
   have htp:=h2.tape
   have hou:=h2.output
   have hkp:=h2.keep
   have hss:=h2.size
   simp only at hdr hos htp hou hkp hss
   generalize sortWorldK enc s w b 0 m dk os=W0 at*
   cases W with
   |mk heap tape drawn os' output=>
    simp only at*
    unfold Go.Sort.grow World.drewN
    simp only[World.mk.injEq]
    refine⟨?_,htp,by omega,hos,hou⟩
    apply Array.ext_getElem?
    intro k
    rw[Array.getElem?_append]
    split
    ·rename_i hk';exact hkp k hk' (by simp)
    ·rename_i hk'
     rw[Array.getElem?_extract]
     split
     ·congr 1;omega
     ·rw[oY (by omega)]
  have hO':Go.Sort.SWO (Go.Proofs.ltOf fun(q r:{q:A×List Value//V q.1∧Is G (e q.1) (.agg ⟨q.2⟩)})=>cf q.1.1 r.1.1):=⟨fun x=>hO.irrefl x.1.1,fun x y z=>hO.trans x.1.1 y.1.1 z.1.1,fun x y z=>hO.ntrans x.1.1 y.1.1 z.1.1⟩
  have hrun:=AnyQ.slices_SortFunc L s hAg hZs enc hk (fun q v hv=>aqR ((henc q).2 v hv)) (fun q r=>cf q.1.1 r.1.1) hO' g #[] b 0 z.c qs.toArray w (fun args w=>af8 hg args w) hcmp hH hblt (by rw[hqs,hlen];exact hn)
  have ez:z=⟨some ⟨b,0,none⟩,qs.toArray.size,z.c⟩:=by rw[hqs];exact e1
  have ea:(⟨[Value.slice z.a z.n z.c, .func (.func g) #[] #[]]⟩:Array Value)= #[.slice (some ⟨b,0,none⟩) qs.toArray.size z.c, .func (.func g) #[] #[]]:=by rw[ez]
  rw[ea]
  refine hrun.mono fun r w' ⟨h1,d',n,os,hp,hs,h2⟩=>?_
  subst h2
  have hdz:d'.size=qs.toArray.size:=hp.1
  have hperm:d'.toList.Perm qs:=by
   have:=hp.2.2
   have e1:d'.toList.take qs.length=d'.toList:=aR (by rw[nR,hdz];simp)
   simpa[e1] using this
  have hasc:d'.toList.Pairwise fun x y=> ¬cf y.1.1 x.1.1<0:=by
   rw[List.pairwise_iff_getElem]
   intro i j hi hj hij
   have:=hs i j (cX _) hij (by rw[←hdz];simpa using hj)
   rw[getElem!_pos d' j (by simpa using hj),getElem!_pos d' i (by simpa using hi)] at this
   simpa[Go.Proofs.ltOf] using this
  have hds:d'.toList.map (·.1.1)=ans cf ds:=by
   refine List.Perm.eq_of_pairwise (le:=fun x y=> ¬cf y x<0) (fun x y hx hy k1 k2=>?_) ?_ (amB hO ds) ?_
   ·have m1:x∈ds:=by
     obtain⟨q,hq,rfl⟩:=bM.1 hx
     rw[←hq1];exact bM.2 ⟨q,hperm.mem_iff.1 hq,rfl⟩
    exact hu x m1 y ((adw cf ds).mem_iff.1 hy) k2 k1
   ·rw[oU];exact hasc
   ·refine(hperm.map _).trans ?_
    rw[hq1];exact(adw cf ds).symm
  have hlen':(d'.toList.map fun q=>Value.agg ⟨q.1.2⟩).length=es.length:=by rw[aX,nR,hdz,hqs]
  have hIs: ∀l:List {q:A×List Value//V q.1∧Is G (e q.1) (.agg ⟨q.2⟩)},IsLs G ((l.map (·.1.1)).map e) (l.map fun q=>Value.agg ⟨q.1.2⟩):=fun l=>by
   induction l with
   |nil=>exact .nil
   |cons q l ih=>exact .cons q.2.2 ih
  have hcell: ∀v∈d'.toList.map (fun q=>Value.agg ⟨q.1.2⟩),(aad v).length=s:=fun v hv=>by
   obtain⟨q,_,rfl⟩:=bM.1 hv
   exact hk q
  refine⟨_,[⟨b,aaf (d'.toList.map fun q=>Value.agg ⟨q.1.2⟩)++rest,ty,false⟩],G,h1,?_,acQ.2 ⟨[],rfl, .nil⟩,d'.toList.map (fun q=>Value.agg ⟨q.1.2⟩), .inr ⟨b,rest,false,by rw[hlen'];exact e1,rfl,aam _ hcell,?_,by rw[hlen'];exact e5⟩,by rw[←hds];exact hIs _,hcell,fun h=>by cases h⟩
  ·refine⟨rfl,rfl,rfl,hsize n os d',fun q hq hqm=>hoth n os d' q hq fun e=>hqm (by rw[e];exact aQ),hsub n os d',GLe.refl _,fun _ _=>rfl,fun o ho=>?_,List.pairwise_singleton _ _,?_⟩
   ·rw[aN.1 ho]
    exact⟨by rw[←hfl];exact hblk n os d' hdz,hGb,(fun h=>by cases h),fun _=>aQ⟩
   ·show w.drawn≤w.drawn+n
    omega
  ·rw[←e4,aam _ hcell,e3,hlen']
theorem aiv(u:PtQ): ¬Bef u u:=by
 rintro (h|⟨_,h⟩)
 ·omega
 ·have:u.cross u=0:=by unfold PtQ.cross;grind
  rw[this] at h;exact absurd h (by decide)
theorem arE{u v:PtQ}(h:Bef u v)(k:Bef v u):False:=aiv u (aeX h k)
theorem axT{a b c:PtQ}(h:Bef c a):Bef c b∨Bef b a:=by
 by_cases h1:c.half<b.half
 ·exact .inl (.inl h1)
 ·by_cases h2:b.half<a.half
  ·exact .inr (.inl h2)
  ·rcases h with h|⟨h,k⟩
   ·omega
   ·have e1:c.half=b.half:=by omega
    have e2:b.half=a.half:=by omega
    by_cases q1:0<c.cross b
    ·exact .inl (.inr ⟨e1,q1⟩)
    ·by_cases q2:0<b.cross a
     ·exact .inr (.inr ⟨e2,q2⟩)
     ·exfalso
      have i1:b.y*c.cross a=a.y*c.cross b+c.y*b.cross a:=by unfold PtQ.cross;grind
      have i2:b.x*c.cross a=a.x*c.cross b+c.x*b.cross a:=by unfold PtQ.cross;grind
      have q1':c.cross b≤0:=by grind
      have q2':b.cross a≤0:=by grind
      rcases aaP b with⟨eb,kb⟩|⟨eb,kb⟩|⟨eb,kb⟩<;>rcases aaP a with⟨ea,ka⟩|⟨ea,ka⟩|⟨ea,ka⟩<;>rcases aaP c with⟨ec,kc⟩|⟨ec,kc⟩|⟨ec,kc⟩<;>first|omega|skip
      ·have ha:0≤a.y:=by grind
       have hc:0≤c.y:=by grind
       rcases kb with kb|⟨kb,kb'⟩
       ·have g1:=lR ha (show 0≤ -c.cross b by grind)
        have g2:=lR hc (show 0≤ -b.cross a by grind)
        have g3:=aae kb k
        grind
       ·have hx:b.cross a=b.x*a.y:=by unfold PtQ.cross;rw[kb];grind
        have ha0:a.y=0:=by
         rcases ka with ka|ka
         ·have:=aae kb' ka;grind
         ·exact ka.1
        have hax:0<a.x:=by grind
        have hy:c.cross a= -(c.y*a.x):=by unfold PtQ.cross;rw[ha0];grind
        have:=lR hc (show 0≤a.x by grind)
        grind
      ·have ha:0≤ -a.y:=by grind
       have hc:0≤ -c.y:=by grind
       rcases kb with kb|⟨kb,kb'⟩
       ·have g1:=lR ha (show 0≤ -c.cross b by grind)
        have g2:=lR hc (show 0≤ -b.cross a by grind)
        have g3:=aae (show 0< -b.y by grind) k
        grind
       ·have hx:b.cross a=b.x*a.y:=by unfold PtQ.cross;rw[kb];grind
        have ha0:a.y=0:=by
         rcases ka with ka|ka
         ·have:=aae (show 0< -b.x by grind) (show 0< -a.y by grind);grind
         ·exact ka.1
        have hax:0< -a.x:=by grind
        have hy:c.cross a= -(c.y*a.x):=by unfold PtQ.cross;rw[ha0];grind
        have:=lR hc (show 0≤ -a.x by grind)
        grind
      ·have hy:c.cross a=0:=by unfold PtQ.cross;rw[ka.1,ka.2];grind
       rw[hy] at k;exact absurd k (by decide)
theorem anw:Go.Sort.SWO (Go.Proofs.ltOf aaG):=by
 have e: ∀x y,Go.Proofs.ltOf aaG x y=true↔Bef x y:=fun x y=>by rw[←adf];simp[Go.Proofs.ltOf]
 have e2: ∀x y,Go.Proofs.ltOf aaG x y=false↔ ¬Bef x y:=fun x y=>by rw[←e];simp
 refine⟨fun x=>(e2 x x).2 (aiv x),fun x y z h k=>(e x z).2 (aeX ((e x y).1 h) ((e y z).1 k)),fun x y z h k=>(e2 x z).2 fun q=>?_⟩
 rcases axT (b:=y) q with q|q
 ·exact(e2 x y).1 h q
 ·exact(e2 y z).1 k q
theorem atw: ∀{l m:List PtQ},l.Pairwise Bef→m.Pairwise Bef→(∀x,x∈l↔x∈m)→l=m
 |[],[],_,_,_=>rfl
 |[],b::m,_,_,h=>absurd ((h b).2 aQ) (by simp)
 |a::l,[],_,_,h=>absurd ((h a).1 aQ) (by simp)
 |a::l,b::m,h1,h2,h=>by
  obtain⟨p1,p2⟩:=bU.1 h1
  obtain⟨q1,q2⟩:=bU.1 h2
  have e:a=b:=by
   rcases aS.1 ((h a).1 aQ) with e|e
   ·exact e
   ·rcases aS.1 ((h b).2 aQ) with f|f
    ·exact f.symm
    ·exact(arE (q1 a e) (p1 b f)).elim
  subst e
  congr 1
  refine atw p2 q2 fun x=>⟨fun hx=>?_,fun hx=>?_⟩
  ·rcases aS.1 ((h x).1 (aZ _ hx)) with e|e
   ·subst e;exact(aiv _ (p1 _ hx)).elim
   ·exact e
  ·rcases aS.1 ((h x).2 (aZ _ hx)) with e|e
   ·subst e;exact(aiv _ (q1 _ hx)).elim
   ·exact e
def akB(l:List PtQ):Prop:= ∀x∈l,∀y∈l,aaG x y=0→x=y
theorem apx{x y:PtQ}(h: ¬Bef x y)(k: ¬Bef y x):aaG x y=0:=by
 rw[←adf] at h k
 unfold aaG at*
 split at h<;>try omega
 split at h<;>try omega
 split at k<;>try omega
 rw[show y.cross x= -(x.cross y) by unfold PtQ.cross;grind,kK,Int.sign_neg] at k
 omega
theorem asZ: ∀{l:List PtQ} {x:PtQ},(x::l).Pairwise (fun a b=> ¬Bef b a)→akB (x::l)→(aja x l).Pairwise Bef∧(∀y∈aja x l,Bef x y)∧ ∀y,y∈x::aja x l↔y∈x::l
 |[],_,_,_=>⟨.nil,(fun y hy=>by cases hy),fun _=>Iff.rfl⟩
 |z::l,x,h,ht=>by
  obtain⟨p1,p2⟩:=bU.1 h
  obtain⟨i1,i2,i3⟩:=asZ p2 fun a ha b hb=>ht a (aZ _ ha) b (aZ _ hb)
  rw[aja]
  by_cases e:aaG z x=0
  ·rw[if_pos e]
   obtain rfl:=ht z (by simp) x (by simp) e
   exact⟨i1,i2,fun y=>by rw[i3];simp⟩
  ·rw[if_neg e]
   have hb:Bef x z:=by
    by_cases q:Bef x z
    ·exact q
    ·exact absurd (apx (p1 z aQ) q) e
   refine⟨bU.2 ⟨i2,i1⟩,fun y hy=>?_,fun y=>?_⟩
   ·rcases aS.1 hy with rfl|hy
    ·exact hb
    ·exact aeX hb (i2 y hy)
   ·rw[aS,i3,aS (b:=x) (l:=z::l)]
theorem ami: ∀(l:List PtQ) (x:PtQ),(aja x l).length≤l.length
 |[],_=>bQ _
 |y::l,x=>by
  have:=ami l y
  rw[aja]
  split<;>simp only[bY]<;>omega
theorem aob(l:List PtQ):(ahA l).length≤l.length:=by
 cases l with
 |nil=>exact bQ _
 |cons x l=>have:=ami l x;simp only[ahA,bY];omega
theorem auZ{l:List PtQ}(h:l.Pairwise fun a b=> ¬Bef b a)(ht:akB l):(ahA l).Pairwise Bef∧ ∀y,y∈ahA l↔y∈l:=by
 cases l with
 |nil=>exact⟨.nil,fun _=>Iff.rfl⟩
 |cons x l=>
  obtain⟨i1,i2,i3⟩:=asZ h ht
  exact⟨bU.2 ⟨i2,i1⟩,i3⟩
theorem aml{l:List PtQ}(ht:akB l)(y:PtQ):y∈agd l↔y∈l:=by
 have h2: ∀y,y∈agd l→y∈l:=fun y hy=>by
  rcases ad4 aaG hy with h|h
  ·exact h
  ·cases h
 refine⟨h2 y,fun hy=>?_⟩
 obtain⟨e,e1,e2⟩:=aiL aaG (o:=[]) hy
 rcases e2 with rfl|e2
 ·exact e1
 ·rw[←ht e (h2 e e1) y hy e2];exact e1
theorem amo{l:List PtQ}(ht:akB l):ahA (ans aaG l)=agd l:=by
 have hm: ∀y,y∈ans aaG l↔y∈l:=fun y=>(adw aaG l).mem_iff
 have h1:(ans aaG l).Pairwise fun a b=> ¬Bef b a:=(amB anw l).imp fun h=>by rw[←adf];exact h
 obtain⟨k1,k2⟩:=auZ h1 fun a ha b hb=>ht a ((hm a).1 ha) b ((hm b).1 hb)
 exact atw k1 (alY l) fun x=>by rw[k2,hm,aml ht]
theorem arh{t:Tr}(ht:t.all LnQ.ok)(p:PtQ):akB (abf t p):=fun x hx y hy h=>by
 obtain⟨l,k1,k2⟩:=abw.1 hx
 obtain⟨m,k3,k4⟩:=abw.1 hy
 obtain⟨a1,a2⟩:=abM k1
 obtain⟨b1,b2⟩:=abM k3
 exact ath (adV ht _ a1) (adV ht _ b1) a2 b2 k2 k4 h
end Go.Sx
end
section
namespace Go.Proofs
open Go.Shelf
def Tryz.sortPt_ren:Go.Shelf.Ren:=⟨fun|6=>208|15=>255|14=>254|28=>294|29=>295|20=>286|21=>287|22=>288|23=>289|24=>290|25=>291|26=>292|27=>293|46=>307|47=>308|48=>309|49=>310|50=>311|57=>320|n=>n,fun|22=>230|24=>104|25=>287|3=>3|39=>290|0=>0|53=>262|55=>282|4=>4|46=>366|45=>365|50=>359|5=>5|9=>9|66=>384|70=>388|76=>394|77=>395|n=>n,fun|n=>n⟩
theorem Tryz.sortPt:Go.Proofs.SlLaysF0.n6 Tryz.prog Tryz.sortPt_ren:={
 mixed:=by kernel_rfl
 f6:=⟨Tryz.f208.name,by decide,Tryz.func208.trans (congrArg some (by kernel_rfl))⟩
 f14:=⟨Tryz.f254.name,by decide,Tryz.func254.trans (congrArg some (by kernel_rfl))⟩
 f15:=Tryz.func255.trans (congrArg some (by kernel_rfl))
 f20:=⟨Tryz.f286.name,by decide,Tryz.func286.trans (congrArg some (by kernel_rfl))⟩
 f21:=⟨Tryz.f287.name,by decide,Tryz.func287.trans (congrArg some (by kernel_rfl))⟩
 f22:=⟨Tryz.f288.name,by decide,Tryz.func288.trans (congrArg some (by kernel_rfl))⟩
 f23:=⟨Tryz.f289.name,by decide,Tryz.func289.trans (congrArg some (by kernel_rfl))⟩
 f24:=⟨Tryz.f290.name,by decide,Tryz.func290.trans (congrArg some (by kernel_rfl))⟩
 f25:=⟨Tryz.f291.name,by decide,Tryz.func291.trans (congrArg some (by kernel_rfl))⟩
 f26:=⟨Tryz.f292.name,by decide,Tryz.func292.trans (congrArg some (by kernel_rfl))⟩
 f27:=⟨Tryz.f293.name,by decide,Tryz.func293.trans (congrArg some (by kernel_rfl))⟩
 f28:=Tryz.func294.trans (congrArg some (by kernel_rfl))
 f29:=Tryz.func295.trans (congrArg some (by kernel_rfl))
 f46:=⟨Tryz.f307.name,by decide,Tryz.func307.trans (congrArg some (by kernel_rfl))⟩
 f47:=Tryz.func308.trans (congrArg some (by kernel_rfl))
 f48:=Tryz.func309.trans (congrArg some (by kernel_rfl))
 f49:=⟨Tryz.f310.name,by decide,Tryz.func310.trans (congrArg some (by kernel_rfl))⟩
 f50:=⟨Tryz.f311.name,by decide,Tryz.func311.trans (congrArg some (by kernel_rfl))⟩
 f57:=⟨Tryz.f320.name,by decide,Tryz.func320.trans (congrArg some (by kernel_rfl))⟩
 t0:=Tryz.underlying0
 a0:=Tryz.isAgg0
 z0:=Tryz.sizeOf0
 v0:=Tryz.zeroValue0
 t3:=Tryz.underlying3
 a3:=Tryz.isAgg3
 z3:=Tryz.sizeOf3
 v3:=Tryz.zeroValue3
 t4:=Tryz.underlying4
 a4:=Tryz.isAgg4
 z4:=Tryz.sizeOf4
 v4:=Tryz.zeroValue4
 t5:=Tryz.underlying5
 a5:=Tryz.isAgg5
 z5:=Tryz.sizeOf5
 v5:=Tryz.zeroValue5
 t9:=Tryz.underlying9
 a9:=Tryz.isAgg9
 z9:=Tryz.sizeOf9
 v9:=Tryz.zeroValue9
 t22:=Tryz.underlying230
 a22:=Tryz.isAgg230
 z22:=Tryz.sizeOf230
 v22:=Tryz.zeroValue230
 t25:=Tryz.underlying287
 a25:=Tryz.isAgg287
 z25:=Tryz.sizeOf287
 v25:=Tryz.zeroValue287
 t39:=Tryz.underlying290
 a39:=Tryz.isAgg290
 z39:=Tryz.sizeOf290
 v39:=Tryz.zeroValue290
 t45:=Tryz.underlying365
 a45:=Tryz.isAgg365
 z45:=Tryz.sizeOf365
 v45:=Tryz.zeroValue365
 t46:=Tryz.underlying366
 a46:=Tryz.isAgg366
 z46:=Tryz.sizeOf366
 v46:=Tryz.zeroValue366
 t50:=Tryz.underlying359
 a50:=Tryz.isAgg359
 z50:=Tryz.sizeOf359
 v50:=Tryz.zeroValue359
 t53:=Tryz.underlying262
 a53:=Tryz.isAgg262
 z53:=Tryz.sizeOf262
 v53:=Tryz.zeroValue262
 t55:=Tryz.underlying282
 a55:=Tryz.isAgg282
 z55:=Tryz.sizeOf282
 v55:=Tryz.zeroValue282
 t66:=Tryz.underlying384
 a66:=Tryz.isAgg384
 z66:=Tryz.sizeOf384
 v66:=Tryz.zeroValue384
 t70:=Tryz.underlying388
 a70:=Tryz.isAgg388
 z70:=Tryz.sizeOf388
 v70:=Tryz.zeroValue388
 t76:=Tryz.underlying394
 a76:=Tryz.isAgg394
 z76:=Tryz.sizeOf394
 v76:=Tryz.zeroValue394
 t77:=Tryz.underlying395
 a77:=Tryz.isAgg395
 z77:=Tryz.sizeOf395
 v77:=Tryz.zeroValue395}
end Go.Proofs
end
section
namespace Go.Sx
open Go Go.Proofs Tryz
variable {GB:Gh}
section
variable {GB:Gh} {C:Ctx} {n:Nat} {Q0:Exit→Act→World→Prop} {fr fr':FrX} {own own':OwX} {cf cf':Cf} {vc:List Prop}
def aB9(fr:FrX)(cf:Cf):Option (TypeId×Nat×Nat×Int):=match opC fr cf with
 |some ⟨_, .indexAddr t x y,_,_,_,_⟩=>match evX (lkC fr cf) x with
  |some (.ov nm off)=>match evX (lkC fr cf) y with
   |some (.d (.v (.int _ i)))=>some (t,nm,off,i)
   |_=>none
  |_=>none
 |_=>none
def aB6(fr:FrX)(cf:Cf):Option (Nat×List FX):=match opC fr cf with
 |some ⟨some d, .build t ⟨ps⟩,_,_,_,_⟩=>match aa9 tt t with
  |some ⟨.st fo,_,some zx,_⟩=>match at1 (lkC fr cf) fo zx ps with
   |some l=>some (d,l)
   |none=>none
  |_=>none
 |_=>none
end
def sp1(f:FrQ)(m:LnQ)(k:Nat):List FrQ:=if k=0 then [] else al8 f m 1
def sp2(f:FrQ)(m:LnQ)(k:Nat):List FrQ:=if k≤1 then [] else al8 f m (-1)
def eZp(p:ZP):DV:=eP p.q
def eRg(r:List ZP):DV:= .sl (r.map eZp)
def aBz(rs:List (List ZP)):List LnQ:=(aqd rs).map FrQ.l
def eRR(rs:List (List ZP))(fill:Int):DV:= .ag [.sl (rs.map eRg), .v (.int .i64 fill), .sl ((aeJ (aBz rs)).map eL)]
def eAr(r:List ZP):DV:= .sl ((r.map ZP.q).map ePt)

def p7:PtQ:=⟨mkRat 1 7,mkRat 1 5⟩
structure LP (l:LnQ):Prop where
 s:LS l
 p:0<l.value p7
def lsR(es:List Int):Nat→Nat→List LnQ×Nat
 |0,a=>([],a)
 |i+1,a=>((lF es a).1::(lsR es i (lF es a).2).1,(lsR es i (lF es a).2).2)
def lsF(es:List Int)(most a:Nat):List LnQ×Nat:=lsR es (aak es ((most:Int)+1) a).1 (aak es ((most:Int)+1) a).2
def ax9(l:LnQ):LnQ:=if(l.value p7).num.sign<0 then l.rev else l
def aBF(xs:List LnQ)(i:Nat):List LnQ:=(xs.take i).map ax9++xs.drop i
def aBp(es:List Int)(a:Nat):List LnQ×Nat:=((lsF es 3 a).1.map ax9,(lsF es 3 a).2)
theorem asG(xs ys:List NQ)(n:NQ):((xs++(n::ys)).map eN)[((xs.length:Nat):Int).toNat]? =some (eN n):=by simp
theorem asT(xs ys:List NQ)(n m:NQ)(e:DV)(h:e=eN m):((xs++(n::ys)).map eN).set ((xs.length:Nat):Int).toNat e=(xs++(m::ys)).map eN:=by subst h;simp
theorem aj1{ns:List NQ}:PB GB prog 49 (mkB [some (eT (.leaf true)),none]) 8 135 (ns.map eN) (fun w=> .tp ([]++ .v (.slice w.a w.n w.c)::[.v (.int .i64 (Tr.num (.leaf true) ns.length))])) ((ns++Tr.wr (.leaf true) ns.length).map eN):=by
 refine fnB (fu:=⟨12⟩) func49 J J ntmps49 J J (fun C=>?_)
 refine knT (fu:=⟨9⟩) J J J<|knT J J J<|?_
 exact rzB J J J J J (by simp[Tr.wr]) rfl
theorem aiY{ns:List NQ}:PB GB prog 49 (mkB [some (eT (.leaf false)),none]) 8 135 (ns.map eN) (fun w=> .tp ([]++ .v (.slice w.a w.n w.c)::[.v (.int .i64 (Tr.num (.leaf false) ns.length))])) ((ns++Tr.wr (.leaf false) ns.length).map eN):=by
 refine fnB (fu:=⟨12⟩) func49 J J ntmps49 J J (fun C=>?_)
 refine knT (fu:=⟨9⟩) J J J<|knF J J J<|?_
 exact rzB J J J J J (by simp[Tr.wr]) rfl
theorem ajv{l:LnQ}{s u:Tr}{ns:List NQ}(hl:BL l 96)(hs:ns.length+(1+s.size+u.size)≤1000000)(ihs: ∀{ns:List NQ},ns.length+s.size≤1000000→PB GB prog 49 (mkB [some (eT s),none]) 8 135 (ns.map eN) (fun w=> .tp ([]++ .v (.slice w.a w.n w.c)::[.v (.int .i64 (Tr.num s ns.length))])) ((ns++Tr.wr s ns.length).map eN))(ihu: ∀{ns:List NQ},ns.length+u.size≤1000000→PB GB prog 49 (mkB [some (eT u),none]) 8 135 (ns.map eN) (fun w=> .tp ([]++ .v (.slice w.a w.n w.c)::[.v (.int .i64 (Tr.num u ns.length))])) ((ns++Tr.wr u ns.length).map eN)):PB GB prog 49 (mkB [some (eT (.node l s u)),none]) 8 135 (ns.map eN) (fun w=> .tp ([]++ .v (.slice w.a w.n w.c)::[.v (.int .i64 (Tr.num (.node l s u) ns.length))])) ((ns++Tr.wr (.node l s u) ns.length).map eN):=by
 refine fnB (fu:=⟨12⟩) func49 J J ntmps49 J J (fun C=>?_)
 refine knF (fu:=⟨9⟩) J J J<|?_
 refine eqF 20 (.d (.v (.int .i64 (ns.length:Nat)))) rfl (by simp) ?_
 refine gx rfl<|cl rfl (az5 hl) rfl<|rf J J<|apB ((ns++[(⟨l,0,0⟩:NQ)]).map eN) rfl (by rw[gJ]<;>rfl) (azH [(⟨l,0,0⟩:NQ)]) rfl<|?_
 refine cb _ rfl (ihs (ns:=ns++[(⟨l,0,0⟩:NQ)]) (by simp;omega)) J J<|cb (hv:=by simp only[aag];exact(by simp;omega)) ((ns++((⟨l,0,0⟩:NQ)::(s.wr (ns.length+1)++u.wr (ns.length+1+s.size)))).map eN) rfl (ihu (ns:=ns++[(⟨l,0,0⟩:NQ)]++s.wr (ns++[(⟨l,0,0⟩:NQ)]).length) (by simp[Tr.wr_len];omega)) (by simp[Tr.wr_len,iW,iZ 1]) rfl<|?_
 refine sb (hv:=by simp only[aag];exact(by simp;omega)) (eN ⟨l,0,0⟩) ((ns++((⟨l,s.num (ns.length+1),0⟩:NQ)::(s.wr (ns.length+1)++u.wr (ns.length+1+s.size)))).map eN) rfl (asG ns _ ⟨l,0,0⟩) rfl (by rw[asT _ _ _ ⟨l,s.num (ns.length+1),0⟩ _ (by simp[eN,DV.cells])]) rfl<|?_
 refine sb (eN ⟨l,s.num (ns.length+1),0⟩) ((ns++Tr.wr (.node l s u) ns.length).map eN) rfl (asG ns _ ⟨l,s.num (ns.length+1),0⟩) rfl (by rw[asT _ _ _ ⟨l,s.num (ns.length+1),u.num (ns.length+1+s.size)⟩ _ (by simp[eN,DV.cells,Tr.wr_len,iW,iZ 1])];simp[Tr.wr]) rfl<|?_
 exact rzB J J J J J J J
theorem akA: ∀{t:Tr} {ns:List NQ},t.all (fun l=>BL l 96)→ns.length+t.size≤1000000→PB GB prog 49 (mkB [some (eT t),none]) 8 135 (ns.map eN) (fun w=> .tp ([]++ .v (.slice w.a w.n w.c)::[.v (.int .i64 (Tr.num t ns.length))])) ((ns++Tr.wr t ns.length).map eN)
 | .leaf true,ns,_,_=>aj1
 | .leaf false,ns,_,_=>aiY
 | .node l s u,ns,hb,hs=>ajv hb.1 hs (fun h=>akA hb.2.1 h) (fun h=>akA hb.2.2 h)
theorem avP{t:Tr}(hb:t.all (fun l=>BL l 96))(hs:t.size≤1000000):PF GB prog 11 [eT t] (eA t):=by
 refine fn func11 J J ntmps11 J J (fun C=>?_)
 refine cbn _ rfl (akA (t:=t) (ns:=[]) hb (by simpa using hs)) J J<|?_
 refine fzE 6 rfl ?_
 exact rz J J
theorem azs(ds:List Int):aef 1 (ds.map vI):=fun d hd=>by
 obtain⟨n,_,rfl⟩:=bM.1 hd;exact⟨rfl,rfl⟩
theorem amD{ns:List NQ}{i:Nat}(h:i<ns.length):(ns.map eN)[(i:Int).toNat]? =some (eN ns[i]):=by simp[h]
theorem amQ(ns:List NQ):(ns.map eN).length=ns.length:=aX ..
theorem adz{ns ms:List NQ}(hl:ns.length=ms.length)(h: ∀j (h1:j<ns.length) (h2:j<ms.length),ns[j]=ms[j]):ns=ms:=List.ext_getElem hl h
theorem ass(es:List Int):(es.map vI).take (min es.length 400)=(es.take 400).map vI:=by
 rw[mY]
 rcases Nat.le_total es.length 400 with h|h
 ·rw[eJ h,aR (by simp),aR (by simpa using h)]
 ·rw[Nat.min_eq_right h]
theorem azy{es:List Int}(hb:es.length≤1125899906842624):PN GB prog 9 [.sl (es.map vI)] 94 Unit (fun _=>[.sl ((es.take 400).map vI), .v (.int .i64 (0:Nat))]):=by
 have hel:(es.map vI).length=es.length:=by simp
 refine fnN func9 J J ntmps9 J J (fun C hmb=>?_)
 refine sc' 0 (min es.length 400) ((es.take 400).map vI) J J (by rw[hel];show(if _ then _ else _:Int)=_;split<;>omega) (ass es) (azs _) (by omega) (by omega) rfl<|?_
 exact rzN () J J J J J
theorem au6{s t:Tr}(hs:s.all (fun l=>BL l 96))(ht:t.all (fun l=>BL l 96))(hn:s.size≤1000000):PF GB prog 24 [eA s,eA t] (vB (decide (s.num 0=t.num 0∧s.wr 0=t.wr 0))):=by
 have hbs:=Tr.all_wr 0 hs
 have hbt:=Tr.all_wr 0 ht
 have hsl:=s.wr_len 0
 have hls:=amQ (s.wr 0)
 have hlt:=amQ (t.wr 0)
 unfold eA
 generalize hns:s.wr 0=ns at*
 generalize hms:t.wr 0=ms at*
 generalize ha:s.num 0=a at*
 generalize hb:t.num 0=b at*
 refine fn func24 J J ntmps24 J J (fun C=>?_)
 refine cs 13 J J J (fun hg13=>?_) (fun hg13=>?_)
 ·
  exact rz rfl (by first|(rw[decide_eq_true (⟨Decidable.not_not.1 hg13,adz (by omega) (fun j p q=>h2 j p q (by omega))⟩:a=b∧ns=ms)];rfl)|(rw[decide_eq_false (fun e:a=b∧ns=ms=>by obtain⟨e1,e2⟩:=e;subst e2;first|exact hg13 e1|exact hc21 rfl|exact hg40 rfl|exact hg47 rfl|(simp at hc54))];rfl))
 ·
  refine br (fu2:=⟨8⟩) J J J (fun hc21=>?_) (fun hc21=>?_)
  ·
   exact rz rfl (by first|(rw[decide_eq_true (⟨Decidable.not_not.1 hg13,adz (by omega) (fun j p q=>h2 j p q (by omega))⟩:a=b∧ns=ms)];rfl)|(rw[decide_eq_false (fun e:a=b∧ns=ms=>by obtain⟨e1,e2⟩:=e;subst e2;first|exact hg13 e1|exact hc21 rfl|exact hg40 rfl|exact hg47 rfl|(simp at hc54))];rfl))
  ·
   refine eqF 24 (.d (vI (ns.length:Nat))) rfl (by rw[hls]<;>rfl) ?_
   refine gx rfl<|?_
   refine lp (X:=Nat) (fun i=>[(25, .d (vI (i:Nat)))]) (fun i=>[]) (fun i=>i≤ns.length∧ ∀j (h1:j<ns.length) (h2:j<ms.length),j<i→ns[j]=ms[j]) (fun i=>ns.length-i) 0 rfl ⟨cX _,fun j _ _ hj=>absurd hj (by omega)⟩ (fun _=>rfl) (fun i hk=>?_)
   obtain⟨h1,h2⟩:=hk
   have hi2:i<ns.length→i<ms.length:=fun h=>by omega
   refine br J J J (fun hc26=>?_) (fun hc26=>?_)
   ·
    refine ix _ rfl (amD (by omega)) rfl<|ix _ rfl (amD (by omega)) rfl<|?_
    refine cs 40 J J J (fun hg40=>?_) (fun hg40=>?_)
    ·
     exact rz rfl (by first|(rw[decide_eq_true (⟨Decidable.not_not.1 hg13,adz (by omega) (fun j p q=>h2 j p q (by omega))⟩:a=b∧ns=ms)];rfl)|(rw[decide_eq_false (fun e:a=b∧ns=ms=>by obtain⟨e1,e2⟩:=e;subst e2;first|exact hg13 e1|exact hc21 rfl|exact hg40 rfl|exact hg47 rfl|(simp at hc54))];rfl))
    ·
     refine cs 47 J J J (fun hg47=>?_) (fun hg47=>?_)
     ·
      exact rz rfl (by first|(rw[decide_eq_true (⟨Decidable.not_not.1 hg13,adz (by omega) (fun j p q=>h2 j p q (by omega))⟩:a=b∧ns=ms)];rfl)|(rw[decide_eq_false (fun e:a=b∧ns=ms=>by obtain⟨e1,e2⟩:=e;subst e2;first|exact hg13 e1|exact hc21 rfl|exact hg40 rfl|exact hg47 rfl|(simp at hc54))];rfl))
     ·
      refine cl rfl (avS (l:=(ns[i]'(by omega)).l) (m:=(ms[i]'(by omega)).l) (hbs _ (fM (by omega))) (hbt _ (fM (by omega)))) rfl<|?_
      refine bb J J J (fun hc54=>?_) (fun hc54=>?_)
      ·
       exact rz rfl (by first|(rw[decide_eq_true (⟨Decidable.not_not.1 hg13,adz (by omega) (fun j p q=>h2 j p q (by omega))⟩:a=b∧ns=ms)];rfl)|(rw[decide_eq_false (fun e:a=b∧ns=ms=>by obtain⟨e1,e2⟩:=e;subst e2;first|exact hg13 e1|exact hc21 rfl|exact hg40 rfl|exact hg47 rfl|(simp at hc54))];rfl))
      ·
       exact at_ (i+1) ⟨⟨by omega,fun j p q hj=>by by_cases e:j=i;(subst e;exact NQ.ext' (by simpa using hc54) (Decidable.not_not.1 hg40) (Decidable.not_not.1 hg47));exact h2 j p q (by omega)⟩,(by omega)⟩
   ·
    exact rz rfl (by first|(rw[decide_eq_true (⟨Decidable.not_not.1 hg13,adz (by omega) (fun j p q=>h2 j p q (by omega))⟩:a=b∧ns=ms)];rfl)|(rw[decide_eq_false (fun e:a=b∧ns=ms=>by obtain⟨e1,e2⟩:=e;subst e2;first|exact hg13 e1|exact hc21 rfl|exact hg40 rfl|exact hg47 rfl|(simp at hc54))];rfl))



def azV:DV:= .v (.pointer none)
def cTd(l:LnQ)(p q:DV):List DV:=[.v (.bool false), .v (.bool false), .v (.bool (decide (l.a<0))),dN l.a.natAbs, .v (.bool (decide (l.b<0))),dN l.b.natAbs, .v (.bool (decide (l.c<0))),dN l.c.natAbs,p,q]
inductive RF (ns:List RN):Int→(Nat→Bool)→DV→Bool→(Nat→Bool)→Prop where
 |leaf (b:Bool) (f:Nat→Bool):RF ns (acs b) f (eT (.leaf b)) true f
 |bad (rt:Int) (f:Nat→Bool) (h1:rt≠ -1) (h2:rt≠ -2) (h:rt<0∨(ns.length:Int)≤rt∨(∃k:Nat,rt=k∧k<ns.length∧f k=true)):RF ns rt f azV false f
 |line (k:Nat) (n:RN) (f:Nat→Bool) (h:ns[k]? =some n) (hf:f k=false) (hl:n.g.ln=none):RF ns (k:Int) f azV false (aj3 f k)
 |left (k:Nat) (n:RN) (l:LnQ) (f f2:Nat→Bool) (p:DV) (h:ns[k]? =some n) (hf:f k=false) (hl:n.g.ln=some l) (h1:RF ns n.l (aj3 f k) p false f2):RF ns (k:Int) f azV false f2
 |node (k:Nat) (n:RN) (l:LnQ) (f f2 f3:Nat→Bool) (p q:DV) (ok:Bool) (h:ns[k]? =some n) (hf:f k=false) (hl:n.g.ln=some l) (h1:RF ns n.l (aj3 f k) p true f2) (h2:RF ns n.r f2 q ok f3):RF ns (k:Int) f (.pt (cTd l p q)) ok f3
def aBX(n:Nat)(f:Nat→Bool):Bool:=(List.range n).all f
theorem Tr.all_imp{p q:LnQ→Prop}(h: ∀l,p l→q l): ∀{t:Tr},t.all p→t.all q
 | .leaf _,_=>trivial
 | .node _ _ _,⟨h0,h1,h2⟩=>⟨h _ h0,Tr.all_imp h h1,Tr.all_imp h h2⟩
theorem aAg{t:Tr}(hs:t.size≤65536):((t.wr 0).map RN.of).length≤65536:=by rw[aX,t.wr_len];exact hs
def l00:LnQ:=⟨0,1,0⟩
def t00:Tr:= .node l00 (.leaf true) (.leaf false)
theorem awC:aqT 0 0 1 0=l00:=by kernel_rfl
theorem awh:LB l00:=⟨⟨by decide,by decide,by decide⟩⟩
theorem atd:l00.ok:=by decide
structure TrX (k:Nat) (t:Tr):Prop where
 o:awd k t
 s:t.size≤3000
theorem TrX.gd{k:Nat}{t:Tr}(h:TrX k t):t.gd:=h.o.gd
theorem TrX.lb{k:Nat}{t:Tr}(h:TrX k t):t.all LB:=h.o.gd.lb
theorem TrX.ok{k:Nat}{t:Tr}(h:TrX k t):t.all LnQ.ok:=h.o.gd.ok
theorem TrX.bl{k:Nat}{t:Tr}(h:TrX k t):t.all (fun l=>BL l 96):=Tr.all_imp (fun _ h=>h.bl) h.o.gd.lb
theorem TrX.dp{k:Nat}{t:Tr}(h:TrX k t):t.depth≤k:=h.o.dp
theorem TrX.restrict{k:Nat}{t:Tr}(h:TrX k t)(c:aat):TrX k (t.restrict c):=⟨h.o.restrict c,dK (t.restrict_size c) h.s⟩
def aBs(es:List Int)(a:Nat):(Tr×Tr)×Nat:=
 let x:=adS es 0 a
 let y:=adS es 0 x.2
 let k:=aak es 3 y.2
 let u:=if(k.1:Int)=0 then abd es 3 k.2 else(x.1,k.2)
 let j:=aak es 3 u.2
 let v:=if(j.1:Int)=0 then abd es 3 j.2 else(y.1,j.2)
 ((u.1,v.1),v.2)
def aBw(es:List Int)(a:Nat):(Tr×Tr)×Nat:=
 let x:=adS es 0 a
 let y:=adS es 0 x.2
 let k:=aak es 6 y.2
 if(k.1:Int)=0 then((x.1, .node (lF es k.2).1 x.1 x.1),(lF es k.2).2)
 else if(k.1:Int)=1 then((x.1,y.1.mergeQ 1 x.1 []),k.2)
 else if(k.1:Int)=2 then((x.1,y.1.mergeQ 3 x.1 []),k.2)
 else if(k.1:Int)=3 then((x.1,(abd es 3 k.2).1),(abd es 3 k.2).2)
 else((x.1,y.1),k.2)
def axu(es:List Int):Nat→Nat→List Tr×Nat
 |0,a=>([],a)
 |n+1,a=>((adS es 0 a).1::(axu es n (adS es 0 a).2).1,(axu es n (adS es 0 a).2).2)
def aBD(r:List ZP)(i k:Nat):Bool:=decide (k=i)||decide (k=(i+1)%r.length)||decide (0<akF (r.getD i (0,0)).q (asw r i).q (r.getD k (0,0)).q)
def azO(r:List ZP):Bool:=(List.range r.length).all fun i=>(List.range r.length).all fun k=>aBD r i k
section
variable {GB:Gh} {C:Ctx} {n:Nat} {Q0:Exit→Act→World→Prop} {fr fr' fr1 fr2:FrX} {own own' own1 own2:OwX} {cf cf' cf1 cf2:Cf} {vc vc1 vc2:List Prop}
def aCz(fr:FrX)(cf:Cf):Option Int:=match opC fr cf with
 |some ⟨_, .binOp .and _ x (.const (.int .i64 3)) _,_,_,_,_⟩=>match evX (lkC fr cf) x with
  |some (.d (.v (.int .i64 p)))=>some p
  |_=>none
 |_=>none
end
theorem axz{es0 es:List Int}(hb:es0.length≤1125899906842624)(he:es=es0.take 400):PN GB prog 9 [.sl (es0.map vI)] 94 Unit (fun _=>[.sl (es.map vI), .v (.int .i64 (0:Nat))]):=by
 subst he;exact azy hb
theorem arD{s t:Tr}(hs:s.all (fun l=>BL l 96))(h:t=s)(hn:s.size≤1000000):PF GB prog 24 [eA s,eA t] (.v (.bool true)):=by
 subst h
 have:=au6 (GB:=GB) hs hs hn
 rw[decide_eq_true (⟨rfl,rfl⟩:_∧_)] at this
 exact this
theorem amG{k:Nat}{t:Tr}(h:TrX k t):PF GB prog 11 [eT t] (eA t):=avP h.bl (by have:=h.s;omega)
theorem arm{k:Nat}{s t:Tr}(hs:TrX k s)(h:t=s):PF GB prog 24 [eA s,eA t] (.v (.bool true)):=arD hs.bl h (by have:=hs.s;omega)
section
variable {GB:Gh} {C:Ctx} {n:Nat} {Q0:Exit→Act→World→Prop} {fr fr':FrX} {own own':OwX} {cf cf':Cf} {vc:List Prop} {ops:Array Oper} {r:List Oper} {K:List Kt}
def aCg(fr:FrX)(cf:Cf):Option (FuncId×Value):=match opC fr cf with
 |some ⟨_, .makeFunc (.func f) ⟨[x]⟩ ⟨[]⟩,_,_,_,_⟩=>match evX (lkC fr cf) x with
  |some (.d (.v pv))=>some (f,pv)
  |_=>none
 |_=>none
def aB7(fr:FrX)(cf:Cf):Option (FuncId×List Value×List DV):=match opC fr cf with
 |some ⟨_, .call ⟨.value fo,args,_⟩,_,_,_,_⟩=>match evX (lkC fr cf) fo,evDs (lkC fr cf) args.toList with
  |some (.d (.v (.func (.func f) ⟨c1⟩ ⟨[]⟩))),some ds=>some (f,c1,ds)
  |_,_=>none
 |_=>none
/-! an array of constants -/
def asH:List (Nat×Operand)→Option (List (Nat×Value))
 |[]=>some []
 |(i, .const v)::t=>match asH t with
  |some l=>some ((i,v)::l)
  |none=>none
 |_::_=>none
def aBW(cf:Cf)(fr:FrX):Option (TypeId×List (Nat×Value)):=match opC fr cf with
 |some ⟨_, .build t ⟨ps⟩,_,_,_,_⟩=>match asH ps with
  |some vs=>some (t,vs)
  |none=>none
 |_=>none
def aCs(fr:FrX)(own:OwX)(cf:Cf):Option (TypeId×Nat×Nat×List FX×Bool×FX):=match opC fr cf with
 |some ⟨_, .store t x y,_,_,_,_⟩=>match evX (lkC fr cf) x with
  |some (.ov nm 0)=>match bkC fr own cf nm with
   |some (.o ty cs lo)=>match evX (lkC fr cf) y with
    |some fv=>some (t,nm,ty,cs,lo,fv)
    |_=>none
   |_=>none
  |_=>none
 |_=>none
def aB8(fr:FrX)(cf:Cf):Option RwA:=match opC fr cf with
 |some ⟨some d, .buildSlice t len parts,_,_,_,_⟩=>match aa9 tt t with
  |some ⟨.sl e s _,_,_,_⟩=>match auB (lkC fr cf) 0 parts.toList with
   |some ds=>bif asf s ds&&(Nat.beq parts.toList.length len&&(Nat.ble (len*s) 1000&&Nat.blt 0 (len*s))) then some ⟨d,e,s,ds⟩ else none
   |none=>none
  |_=>none
 |_=>none
def aCt(fr:FrX)(cf:Cf):Option (TypeId×List DV):=match opC fr cf with
 |some ⟨_, .load t x,_,_,_,_⟩=>match evX (lkC fr cf) x with
  |some (.ep l)=>some (t,l)
  |_=>none
 |_=>none
def aCh:TypeDesc→Bool
 | .struct _=>false
 | .array _ _=>false
 |_=>true
end
def ePr(a b:Tr):DV:= .ag [eU a,eU b]
def prZ:DV:= .ag [.v (.pointer none), .v (.pointer none)]
theorem azZ{k:Nat}{t:Tr}(h:TrX k t):PF GB prog 74 [eA t] (.tp [eU t,vB true]):=by
 have:=awW (GB:=GB) (rt:=t.num 0) (au5 h.lb) (aAg (by have:=h.s;omega)) (alv h.ok)
 rw[←auP] at this
 exact this
theorem aqC{ds:List PtQ}{i:Nat}(hb: ∀d∈ds,BPt d i)(hi:i≤10000000)(hn:ds.length≤10000000)(ht:akB ds):PW GB prog 208 [none,some (.v (.func (.func 209) #[] #[]))] 6 104 (ds.map eZ) (.tp []) ((ans aaG ds).map eZ):=
 azl (GB:=GB) Tryz.sortPt ⟨_,func208,rfl,rfl⟩ isAgg104 sizeOf104 eZ (fun d=>BPt d i) (fun x=>⟨_,rfl,rfl,rfl⟩) aaG anw ⟨_,func209,rfl,rfl⟩ (fun x y hx hy=>akW (i:=i) (j:=i) hi hi) hb (by omega)
  (fun x hx y hy h k=>ht x hx y hy (apx (by rw[←adf];exact h) (by rw[←adf];exact k)))
theorem axn{ds:List PtQ}{i:Nat}(hb: ∀d∈ds,BPt d i)(hi:i≤10000000)(hn:ds.length≤10000000)(ht:akB ds):PB GB prog 150 (mkB [none]) 6 104 (ds.map eZ) (fun w=> .v (.slice w.a w.n w.c)) ((agd ds).map eZ):=by
 have hsm: ∀d∈ans aaG ds,BPt d i:=fun d hd=>hb d ((adw aaG ds).mem_iff.1 hd)
 have hsl:(ans aaG ds).length=ds.length:=(adw aaG ds).length_eq
 refine fnQ func150 J J ntmps150 J J (fun C=>?_)
 refine cw _ rfl (aqC hb hi hn ht) J J<|cq ((agd ds).map eZ) rfl (apR (i0:=i) hsm (by omega) hi) (by rw[amo ht]) rfl<|?_
 exact rzQ J J J J
theorem auk{t:Tr}(hb:t.all LB)(p:PtQ): ∀d∈abf t p,BPt d 500:=fun d hd=>by
 obtain⟨l,h1,h2⟩:=abw.1 hd
 haveI:=adg.1 hb l (abM h1).1
 rcases h2 with rfl|rfl<;>infer_instance
theorem awj{ds:List PtQ}{i:Nat}(h: ∀d∈ds,BPt d i)(h2:2≤i): ∀v∈adY ds,BPt v (i+i+1):=fun v hv=>by
 have up: ∀{q:PtQ},BPt q i→BPt q (i+i+1):=fun hq=>⟨hq.x.mono (by omega),hq.y.mono (by omega)⟩
 unfold adY at hv
 split at hv
 ·rw[aN] at hv
  subst hv
  exact⟨BQ.mono (k:=2) ⟨by decide,by decide⟩ (by omega),BQ.mono (k:=2) ⟨by decide,by decide⟩ (by omega)⟩
 ·obtain⟨k,hk,rfl⟩:=bM.1 hv
  have hk':=mM.1 hk
  have g: ∀{j:Nat},j<ds.length→BPt (ds.getD j ⟨0,0⟩) i:=fun{j} hj=>by
   rw[aK,aJ hj];exact h _ (fM hj)
  haveI:=g hk'
  haveI:=g (cS (k+1) (show 0<ds.length by omega))
  unfold amU
  split
  ·exact inferInstance
  ·exact up inferInstance
theorem avH(ds:List PtQ):(adY ds).length≤ds.length+1:=by
 unfold adY
 split
 ·simp
 ·rw[aX,pQ];omega
theorem amF{vs:List PtQ}{f:PtQ→Bool}{k:Nat}{v:PtQ}(h:vs[k]? =some v):(vs.drop k).any f=(f v||(vs.drop (k+1)).any f):=by
 obtain⟨h1,h2⟩:=bZ.1 h
 rw[bT h1,h2,List.any_cons]
theorem alQ{vs:List PtQ}{f:PtQ→Bool}{k:Nat}{v:PtQ}(h:vs[k]? =some v):(vs.drop k).all f=(f v&&(vs.drop (k+1)).all f):=by
 obtain⟨h1,h2⟩:=bZ.1 h
 rw[bT h1,h2,List.all_cons]
theorem apS{b c:Bool}:PF GB prog 153 [vB b,vB c] (vI (if b&&c then 2 else if b then 1 else 0)):=by
 refine fn func153 J J ntmps153 J J (fun C=>?_)
 refine csb 7 J J J (fun hg7=>?_) (fun hg7=>?_)
 ·refine bb J J J (fun hc5=>?_) (fun hc5=>?_)
  ·exact rz rfl (by subst hg7 hc5;rfl)
  ·refine bb J J J (fun hc10=>?_) (fun hc10=>?_)
   ·exact rz rfl (by subst hg7 hc5;rfl)
   ·subst hg7;cases hc10
 ·refine bb J J J (fun hc10=>?_) (fun hc10=>?_)
  ·subst hg7;cases hc10
  ·exact rz rfl (by subst hg7;rfl)
theorem ast{t:Tr}{p:PtQ}{i:Nat}[hp:BPt p i](hb:t.all LB)(ho:t.all LnQ.ok)(hs:t.size≤400000)(hi:i≤10000000:=by decide):PF GB prog 75 [eU t,eZ p] (vI (agb t p)):=by
 have hrl:=ae9 t p
 have hrb:=auk hb p
 have hrt:=arh ho p
 have hdb: ∀d∈agd (abf t p),BPt d 500:=fun d hd=>hrb d ((aml hrt d).1 hd)
 have hdl:(agd (abf t p)).length≤(abf t p).length:=by rw[←amo hrt];exact dK (aob _) (Nat.le_of_eq (adw aaG _).length_eq)
 have hsb:=awj hdb (by decide)
 obtain⟨vs,hvs⟩: ∃vs,vs=adY (agd (abf t p)):=⟨_,rfl⟩
 have hvl:vs.length≤(agd (abf t p)).length+1:=by rw[hvs];exact avH _
 rw[←hvs] at hsb
 have hml:(vs.map eZ).length=vs.length:=aX ..
 refine fn func75 J J ntmps75 J J (fun C=>?_)
 refine cqn ((abf t p).map eZ) rfl (akp (p:=p) (o:=[]) hi hb (by rw[eY];omega)) J J<|cq ((agd (abf t p)).map eZ) rfl (axn hrb (by decide) (by omega) hrt) J J<|?_
 refine fz 14 J J<|cl (fu:=⟨0⟩) rfl (anX (ds:=agd (abf t p)) (i:=500) hdb (by omega)) rfl<|?_
 refine eqF 15 (.d (.sl (vs.map eZ))) rfl (by rw[hvs]) ?_
 refine gx (fu:=⟨1⟩) rfl<|?_
 refine eqF 16 (.d (vI (vs.length:Nat))) rfl (by rw[hml]<;>rfl) ?_
 refine gx rfl<|?_
 refine dvC 5 _ J J ?_
 refine dvC 6 _ J J ?_
 refine lp (X:=Bool×Bool×Nat) (fun⟨a,c,k⟩=>[(17, .d (vI (k:Nat))),(5, .d (vB a)),(6, .d (vB c))]) (fun⟨a,c,k⟩=>[]) (fun⟨a,c,k⟩=>(a||(vs.drop k).any (fun v=>(aeQ t p v).1))=inP t p∧(c&&(vs.drop k).all (fun v=>(aeQ t p v).1))=alP t p∧k≤vs.length) (fun⟨a,c,k⟩=>vs.length-k) ⟨false,true,0⟩ rfl ⟨by rw[hvs];simp[inP],by rw[hvs];simp[alP],cX _⟩ (fun _=>rfl) (fun⟨a,c,k⟩ hk=>?_)
 try dsimp only at hk⊢
 obtain⟨h1,h2,h3⟩:=hk
 refine br J J J (fun hc18=>?_) (fun hc18=>?_)
 ·
  obtain⟨v,hx⟩: ∃v,vs[k]? =some v:=⟨_,aJ (by omega)⟩
  haveI:=hsb v (cZ hx)
  refine ix _ rfl (abr hx) rfl<|cl rfl (an3 (t:=t) (p:=p) (v:=v) (i:=i) (j:=500+500+1) hb hi (by decide)) rfl<|?_
  refine bb J J J (fun hc28=>?_) (fun hc28=>?_)
  ·
   refine dvE 5 _ J J ?_
   exact at_ ⟨true,c,k+1⟩ (by dsimp only;exact⟨⟨by rw[←h1,amF hx,hc28];simp,by rw[←h2,alQ hx,hc28];simp,by omega⟩,(by omega)⟩)
  ·
   refine dvE 6 _ J J ?_
   exact at_ ⟨a,false,k+1⟩ (by dsimp only;exact⟨⟨by rw[←h1,amF hx,hc28];simp,by rw[←h2,alQ hx,hc28];simp,by omega⟩,(by omega)⟩)
 ·
  obtain rfl:k=vs.length:=by omega
  rw[iU] at h1 h2
  have e1:a=inP t p:=by simpa using h1
  have e2:c=alP t p:=by simpa using h2
  refine cl rfl (apS (b:=a) (c:=c)) rfl<|?_
  exact rz rfl (by rw[e1,e2];rfl)
theorem asS{k i:Nat}{t:Tr}{p:PtQ}[hp:BPt p i](h:TrX k t)(hi:i≤10000000:=by decide):PF GB prog 27 [eA t,ePt p] (.tp [vI (agb t p), .v .nilIface]):=by
 have hts:=h.s
 refine fn func27 J J ntmps27 J J (fun C=>?_)
 refine cl (fu:=⟨11⟩) rfl (azZ h) rfl<|?_
 refine kbT 13 rfl ?_
 refine gx rfl<|cl rfl (axy (p:=p) (i:=i) (by omega)) rfl<|cl rfl (ast (t:=t) (p:=p) (i:=i) h.lb h.ok (by omega) hi) rfl<|?_
 exact rz J J
theorem afF{ai al ae:Addr}(hE:EG GB ai al ae){k:Nat}{t u:Tr}(h:TrX k t)(hk:k≤1000)(hu:t.restrict []=u):PF GB prog 22 [eA t] (.tp [eA u, .v .nilIface]):=by
 subst hu
 have:=aph hE (rt:=t.num 0) (au5 h.lb) (aAg (by have:=h.s;omega)) (fun u hu=>by rw[alv h.ok] at hu;cases hu;have:=h.dp;omega)
 rw[alv h.ok,←auP] at this;exact this
theorem anf{ai al ae:Addr}(hE:EG GB ai al ae){k:Nat}{t:Tr}(h:TrX k t)(hk:k≤1000)(hr:t.restrict []=t):PF GB prog 23 [eA t] (.tp [vB true, .v .nilIface]):=
 anc hE h.gd (by have:=h.s;omega) (by have:=h.dp;omega) hr
theorem anY{t:Tr}:(((((t.wr 0).map eN).length:Nat)):Int)=(t.size:Int):=by rw[aX,t.wr_len]
theorem arB{es:List Int}{a:Nat}(ha:a≤es.length):TrX 18 (abd es 4 a).1∧(abd es 4 a).2≤es.length:=by
 obtain⟨h1,h2⟩:=av1 (d:=4) ha (by decide)
 have h5:=Tr.size_lt (abd es 4 a).1
 have h6:(2:Nat)^(abd es 4 a).1.depth≤2^4:=aL (by decide) (ae5 (d:=4) ha).1
 exact⟨⟨h1,by omega⟩,h2⟩
theorem avB{b:Nat}{es:List Int}(hes:es.length≤400){t:Tr}{a:Nat}(ht:t=(abd es 4 0).1)(ha:a=(abd es 4 0).2):PM GB prog 21 (mkP [none,some (.v (.int .i64 4))] b) b 94 [.sl (es.map vI), .v (.int .i64 (0:Nat))] (eT t) [.sl (es.map vI), .v (.int .i64 (a:Nat))]:=by
 subst ht ha;exact at6 (a:=0) (d:=4) hes (cX _) (by decide)
def t17:Tr:= .node l00 (.leaf true) (.leaf true)
theorem ax8:TrX 1 t17:=⟨⟨⟨⟨awh,trivial,trivial⟩,⟨atd,trivial,trivial⟩⟩,by decide,[l00],by decide,(fun l hl=>by rw[aN.1 hl];exact atd),⟨⟨l00,aQ, .inl rfl⟩,trivial,trivial⟩⟩,by decide⟩
theorem aoA{ai al ae:Addr}(hE:EG GB ai al ae):PF GB prog 28 [] (.v (.bool true)):=by
 refine fn func28 J J ntmps28 J J (fun C=>?_)
 refine cl rfl (ayM (m:=0) (n:=0) (by decide) (by decide)) rfl<|cl rfl (ayM (m:=1) (n:=0) (by decide) (by decide)) rfl<|cl (fu:=⟨2⟩) rfl (ajP (m:=0) (n:=0) (m':=1) (n':=0) (by decide) (by decide) (by decide) (by decide) (by decide)) rfl<|?_
 refine eqF 9 (.d (eL l00)) rfl (by rw[awC]) ?_
 refine gx rfl<|cl rfl aio rfl<|cl (fu:=⟨1⟩) rfl aio rfl<|bxf J J<|cl rfl (amG (t:=t17) ax8) rfl<|cl (fu:=⟨15⟩) rfl (afF hE (t:=t17) (u:= .leaf true) ax8 (by decide) rfl) rfl<|?_
 refine knT (fu:=⟨5⟩) J J J<|knT J J J<|?_
 exact rz J J
theorem ais{ai al ae:Addr}(hE:EG GB ai al ae){es0:List Int}(hb:es0.length≤1125899906842624):PF GB prog 4 [.sl (es0.map vI)] (.v (.bool true)):=by
 obtain⟨es,hee⟩: ∃es,es=es0.take 400:=⟨_,rfl⟩
 have hes:es.length≤400:=by rw[hee];simp;omega
 obtain⟨hT,hta⟩:=arB (es:=es) (cX es.length)
 obtain⟨t,ht⟩: ∃t,t=(abd es 4 0).1:=⟨_,rfl⟩
 obtain⟨a,ha⟩: ∃a,a=(abd es 4 0).2:=⟨_,rfl⟩
 rw[←ht] at hT
 rw[←ha] at hta
 have hR:=hT.restrict []
 have hrs:=t.restrict_size []
 have hkp:=alo (t:=t) hT.ok
 have hrr:=Tr.red_restrict (Tr.restrict_red t [])
 have hTs:=hT.s
 obtain⟨L,hL⟩: ∃L,L=aeJ t.lns:=⟨_,rfl⟩
 have hpl:=auO (L:=L) (fun l hl=>aoX (adg.1 hT.lb) l (by rw[←hL];exact hl)) hta
 obtain⟨p,hp⟩: ∃p,p=(ala es L a).1:=⟨_,rfl⟩
 rw[←hp] at hpl
 haveI:=hpl.1
 have hkq:=hkp p
 obtain⟨R,hRe⟩: ∃R,R=t.restrict []:=⟨_,rfl⟩
 rw[←hRe] at hR hrs hrr hkq
 refine fn func4 J J ntmps4 J J (fun C=>?_)
 refine cn rfl ((axz hb hee)) (fun _=>rfl) (fun _=>?_)
 refine cm rfl (fun b=>(avB hes ht ha)) rfl<|cl rfl (amG hT) rfl<|cl rfl (afF hE hT (by decide) hRe.symm) rfl<|cl rfl (afF hE hR (by decide) hrr) rfl<|?_
 refine cl (fu:=⟨2⟩) rfl (anf hE hR (by decide) hrr) rfl<|?_
 refine kbT 36 rfl ?_
 refine gx (fu:=⟨20⟩) rfl<|knF J J J<|cl (fu:=⟨0⟩) rfl (arm hR rfl) rfl<|knF (fu:=⟨5⟩) J J J<|?_
 refine eqF 61 (.d (vI (R.size:Nat))) rfl (by show FX.d (.v (.int .i64 _))=_;rw[anY];rfl) ?_
 refine gx (fu:=⟨3⟩) rfl<|?_
 refine eqF 64 (.d (vI (t.size:Nat))) rfl (by show FX.d (.v (.int .i64 _))=_;rw[anY];rfl) ?_
 refine gx (fu:=⟨0⟩) rfl<|knF rfl (by show some (decide _)=some false;rw[decide_eq_false (by omega)]) rfl<|cm (fu:=⟨0⟩) rfl (fun b=>(arL (t:=t) (L:=L) hes hta hL hT.lb hT.ok (by omega))) rfl<|?_
 refine eqF 69 (.d (eP p)) rfl (by rw[hp]) ?_
 refine gx rfl<|cl rfl (azR (p:=p) (i:=1200)) rfl<|cl rfl (asS (t:=t) (p:=p) (i:=1200) hT) rfl<|cl (fu:=⟨0⟩) rfl (asS (t:=R) (p:=p) (i:=1200) hR) rfl<|?_
 refine eqF 80 (.d (.tp [vI (agb t p), .v .nilIface])) rfl (by rw[hkq]) ?_
 refine gx rfl<|cl (fu:=⟨0⟩) rfl (aoA hE) rfl<|?_
 refine kbT 83 rfl ?_
 refine gx (fu:=⟨11⟩) rfl<|knT rfl (by show some (decide _)=some true;rw[decide_eq_true rfl]) rfl<|?_
 exact rz J J
end Go.Sx
end
