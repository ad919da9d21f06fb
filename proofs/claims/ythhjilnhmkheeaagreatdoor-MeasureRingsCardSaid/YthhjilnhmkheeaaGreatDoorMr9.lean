import Derived.Test.YthhjilnhmkheeaaGreatDoorMr8
set_option linter.all false
set_option maxHeartbeats 4000000
set_option maxRecDepth 100000
section
namespace Go.Sx
open Go Go.Proofs Tryz
variable {GB:Gh}
def PW(GB:Gh)(P:Program)(f:FuncId)(l:List (Option DV))(s:Nat)(ty:TypeId)(dsi:List DV)(rv:DV)(dso:List DV):Prop:=
 ∀G w vs B,cc GB G->eB G ⟨w,s,ty,dsi,false⟩ B->IsLs G (e8 l w) vs->oO P f vs B G (fun v own' G'=>Is G' rv v/\eB G' ⟨w,s,ty,dso,false⟩ own')
def Zz{B:List az}{G:Gh}{w:SV}{s:Nat}{ty:TypeId}{ds:List DV}{lo:Bool}{ov:List az}(h:eB G ⟨w,s,ty,ds,lo⟩ B)(g: ∀o∈B,o∈ov): ∃rest,ov.Perm (B++rest)/\ ∀o∈ov,(∀o'∈B,o.b≠o'.b)->o∈rest:=by
 rcases h with⟨vs',⟨_,_,e⟩|⟨b0,r0,lo0,_,e,_⟩,_⟩
 .rw[e];exact⟨ov,List.Perm.refl _,fun o ho _=>ho⟩
 .rw[e] at g⊢
  obtain⟨l1,l2,e2⟩:=lV (g _ aQ);rw[e2];refine⟨l1++l2,nJ,fun o ho hno=>?_⟩;rcases bJ.1 ho with ho|ho
  .exact bK _ ho
  .rcases aW.1 ho with rfl|ho
   .exact absurd J (hno _ aQ)
   .exact bW _ ho
section
variable {GB:Gh} {C:aH} {n:Nat} {Q0:Exit->Act->World->Prop} {fr fr':aD} {own own':aO} {cf cf':Cf} {vc:List Prop} {lk:LK} {bk:BM}
variable {dst:Option Nat} {t t' ty':TypeId} {pos:String} {af:Array Edge} {gd:Option (Nat×Bool)} {x y:Operand}
def aAG{fo:Operand}{args:Array Operand}{tys:Array TypeId}{f:FuncId}{nm:Nat}{l:List (Option DV)}{s:Nat}{ty0:TypeId}{dsi dso:List DV}{lo:Bool}{rv:DV}
  (ha:wz lk fo args=some (f,nm,l))(hb:bk nm=some (.b ty0 s dsi lo))(hF:PW GB prog f l s ty0 dsi rv dso):cg prog GB C n lk bk ⟨dst, .call ⟨.value fo,args,tys⟩,ty',pos,af,gd⟩ (.d rv) [(nm,some (.b ty0 s dso lo))] []:=by
 intro hd tl tb K' s1 s2 hf hk;refine⟨fun ρ G ov a w r Q=>?_⟩;have r1:=r.mono s1 s2;unfold wz at ha;split at ha<;>try (cases ha;done)
 rename_i h1;split at ha<;>cases ha;rename_i h2;obtain⟨y,hy,hy'⟩:=r1.ev h1;rw[(bE (G:=G)).1 hy'] at hy;obtain⟨B,g1,g2⟩:=r1.bx _ _ hb;have hB:eB G ⟨ρ nm,s,ty0,dsi,lo⟩ B:=g1;obtain⟨vs,h7,h8⟩:=Bg r1 (z:=ρ nm) h2 (fun nm e=>by cases e;rfl);obtain⟨rest,h5,h6⟩:=Zz hB g2;refine wn (M:=B) (rest:=rest) hy h7 h5 (hF G (ρ nm) vs B r.gb hB.weak h8) hd (fun v own1 G' hG hK a' w' rl=>?_) a w Q ⟨r.h,r.sz,dt a,r.df⟩;obtain⟨hr,vs',k1,k2,k3,k4⟩:=hK;have k1':=k1.relo (iB B);have e2:lo=true-> ∀o∈own1.map (relo (iB B)),o.lo=true:=fun hl o ho=>by
  obtain⟨o',_,rfl⟩:=aS.1 ho;obtain⟨_,_,_,_,hlo⟩:=hB;exact C0 _ (hlo hl)
 generalize own1.map (relo (iB B))=B' at rl e2 k1';have r2:=r.upB (G':=G') (ov':=B'++rest) (w':=w') (B':= .b ty0 s dso lo) (os:=B') hG.le rl.h ⟨vs',by simpa using k1',k2,k3,e2⟩ (fun o ho=>bK _ ho)
  (fun o ho hne=>bW _ (h6 o ho fun o' ho' he=>hne (by rw[g1.blk ho',he]))) ⟨_,s2 _ _ hb⟩
 exact hk.run _ G' _ a' w' (r2.put hr (ld rl))
def M2(fr:aD)(own:aO)(cf:Cf):Option (FuncId×Nat×List (Option DV)×TypeId×Nat×List DV×Bool):=match dw fr cf with
 |some ⟨_, .call ⟨.value fo,args,_⟩,_,_,_,_⟩=>match wz (co fr cf) fo args with
  |some (f,nm,l)=>match i6 fr own cf nm with
   |some (.b ty s ds lo)=>some (f,nm,l,ty,s,ds,lo)
   |_=>none
  |none=>none
 |_=>none
def cw[fu:Fu]{f:FuncId}{nm:Nat}{l:List (Option DV)}{ty:TypeId}{s:Nat}{dsi dso:List DV}{lo:Bool}{rv:DV}(dso':List DV)(ha:M2 fr own cf=some (f,nm,l,ty,s,dsi,lo))(hF:PW GB prog f l s ty dsi rv dso)(he:dso=dso')
  (hgo:dl tt n fu.n fr own cf (.d rv) [(nm,some (.b ty s dso' lo))] []=⟨vc,fr',own',cf'⟩)(k:ao prog GB C n Q0 fr' own' cf')
  (hv:autoParam (ae vc) fn._auto_1):ao prog GB C n Q0 fr own cf:=by
 subst he;unfold M2 at ha;split at ha<;>try (cases ha;done)
 rename_i hh;split at ha<;>try (cases ha;done)
 rename_i h1;split at ha<;>cases ha;rename_i h2;exact us hh (aAG h1 h2 hF) hgo hv k
def MX{G:Gh}{w:SV}{s:Nat}{ty:TypeId}{ds:List DV}{lo:Bool}{B:List az}(h:eB G ⟨w,s,ty,ds,lo⟩ B)(hn:0<ds.length:=by omega): ∃b,w=⟨some ⟨b,0,none⟩,ds.length,w.c⟩/\ds.length<=w.c:=by
 obtain⟨vs,h1,h2,_⟩:=h;rcases h1 with⟨e1,_,_⟩|⟨b,rest,lo',e1,_,_,_,h5⟩
 .subst e1;have:=h2.len;simp at this;omega
 .exact⟨b,by rw[<-h2.len];exact e1,by rw[<-h2.len];exact h5⟩
def VG{P:Program}{e s by_:Nat}[hT:cO P t e s by_]{nm:Nat}{k:IntKind}{j m:Nat}{ty:TypeId}{ds:List DV}{lo:Bool}(hx:ba lk x=some (.rw nm))(hb:bk nm=some (.b ty s ds lo))(hy:ba lk y=some (.d (.v (.int k j))))(hm:j+m=ds.length)(h1:0<m):
  cg P GB C n lk bk ⟨dst, .slice t x (some y) none none,ty',pos,af,gd⟩ (.rs nm s j m) [] []:= .yd fun ρ G ov a w r=>by
 obtain⟨u,hu,hu2⟩:=r.ev hx
 cases (show u=_ from hu2)
 obtain⟨v,hv,hv2⟩:=r.ev hy;rw[dq] at hv2;subst hv2;obtain⟨B,hB,_⟩:=r.row (y:= .nilFunc) hb;obtain⟨b,hw,hc⟩:=MX hB;rw[hw] at hu;have hs:=EH (P:=P) (C:=C) (own:=ov) (G:=G) (dst:=dst) (ty':=ty') (pos:=pos) (af:=af) (gd:=gd) (t:=t) hu hv we (by show(j:Int)<=(ds.length:Nat);omega);have hne:(ρ nm).c≠j:=by omega
 refine⟨_,⟨b,(ρ nm).c-j,by rw[hw],?_,?_⟩,hs⟩
 .unfold nP
  rw[dR,if_neg hne,jN,rH,fX,show ds.length-j=m by omega]
 .omega
def Z3{P:Program}{e s by_:Nat}[hT:cO P t e s by_]{nm sz off m:Nat}(hx:ba lk x=some (.rs nm sz off m)):cg P GB C n lk bk ⟨dst, .call ⟨.builtin .len, #[x], #[t]⟩,ty',pos,af,gd⟩ (.d (.v (.int .i64 (m:Nat)))) [] []:= .x1 hx fun ρ G ov a w y _ r h1 h2=>by
 obtain⟨b,c,_,rfl,_⟩:=h2;exact⟨_,dq.2 J,vZ h1⟩
def aGJ{P:Program}{e s by_:Nat}[hT:cO P t e s by_]{nm off m j:Nat}{k:IntKind}{i:Int}(hx:ba lk x=some (.rs nm s off m))(hy:ba lk y=some (.d (.v (.int k i))))(h0:0<=i)(h1:i<(m:Nat))(hj:(off:Int)+i=(j:Nat)):
  cg P GB C n lk bk ⟨dst, .indexAddr t x y,ty',pos,af,gd⟩ (.be nm s j 0) [] []:= .yd fun ρ G ov a w r=>by
 obtain⟨u,hu,hu2⟩:=r.ev hx;obtain⟨b,c,hb,rfl,hc⟩:=hu2;obtain⟨v,hv,hv2⟩:=r.ev hy;rw[dq] at hv2;subst hv2;have:=Af (P:=P) (C:=C) (own:=ov) (G:=G) (dst:=dst) (ty':=ty') (pos:=pos) (af:=af) (gd:=gd) (t:=t) hu hv h0 h1;obtain rfl:off+i.toNat=j:=by omega
 exact⟨_,⟨b,hb,J⟩,by rw[gW,dW];exact this⟩
def Ow(fr:aD)(own:aO)(cf:Cf):Option (Nat×Nat×List DV×Int):=match dw fr cf with
 |some ⟨_, .slice t x (some y) none none,_,_,_,_⟩=>match eH tt t with
  |some ⟨.sl _ s' _,_,_,_⟩=>match ba (co fr cf) x with
   |some (.rw nm)=>match i6 fr own cf nm with
    |some (.b _ s ds _)=>match ba (co fr cf) y with
     |some (.d (.v (.int _ i)))=>bif Nat.beq s s' then some (nm,s,ds,i) else none
     |_=>none
    |_=>none
   |_=>none
  |_=>none
 |_=>none
def NK[fu:Fu]{nm s:Nat}{ds:List DV}{i:Int}(k m:Nat)(h:Ow fr own cf=some (nm,s,ds,i))(hi:i=(k:Nat))(hm:k+m=ds.length)(hp:0<m)(hgo:dl tt n fu.n fr own cf (.rs nm s k m) [] []=⟨vc,fr',own',cf'⟩)(kk:ao prog GB C n Q0 fr' own' cf')
  (hv:autoParam (ae vc) fn._auto_1):ao prog GB C n Q0 fr own cf:=by
 subst hi;unfold Ow at h;split at h<;>try (cases h;done)
 rename_i hh;split at h<;>try (cases h;done)
 rename_i hT;split at h<;>try (cases h;done)
 rename_i hx;split at h<;>try (cases h;done)
 rename_i hb;split at h<;>try (cases h;done)
 rename_i hy;rw[cond_eq_ite] at h;split at h<;>cases h;rename_i hq
 cases aL hq
 have:=jD (fp _ _ hT) J;exact us hh (VG hx hb hy hm hp) hgo hv kk
def QI(fr:aD)(cf:Cf):Option Nat:=match dw fr cf with
 |some ⟨_, .call ⟨.builtin .len,⟨[x]⟩,⟨[t]⟩⟩,_,_,_,_⟩=>match eH tt t with
  |some ⟨.sl _ _ _,_,_,_⟩=>match ba (co fr cf) x with
   |some (.rs _ _ _ m)=>some m
   |_=>none
  |_=>none
 |_=>none
def Xv[fu:Fu]{m:Nat}(h:QI fr cf=some m)(hgo:dl tt n fu.n fr own cf (.d (.v (.int .i64 (m:Nat)))) [] []=⟨vc,fr',own',cf'⟩)(kk:ao prog GB C n Q0 fr' own' cf')
  (hv:autoParam (ae vc) fn._auto_1):ao prog GB C n Q0 fr own cf:=by
 unfold QI at h;split at h<;>try (cases h;done)
 rename_i hh;split at h<;>try (cases h;done)
 rename_i hT;split at h<;>cases h;rename_i hx;have:=jD (fp _ _ hT) J;exact us hh (Z3 hx) hgo hv kk
def Um(fr:aD)(cf:Cf):Option (Nat×Nat×Nat×Nat×Int):=match dw fr cf with
 |some ⟨_, .indexAddr t x y,_,_,_,_⟩=>match eH tt t with
  |some ⟨.sl _ s' _,_,_,_⟩=>match ba (co fr cf) x with
   |some (.rs nm s off m)=>match ba (co fr cf) y with
    |some (.d (.v (.int _ i)))=>bif Nat.beq s s' then some (nm,s,off,m,i) else none
    |_=>none
   |_=>none
  |_=>none
 |_=>none
def Jo[fu:Fu]{nm s off m:Nat}{i:Int}(k:Nat)(h:Um fr cf=some (nm,s,off,m,i))(hk:(off:Int)+i=(k:Nat))(h0:0<=i)(h1:i<(m:Nat))(hgo:dl tt n fu.n fr own cf (.be nm s k 0) [] []=⟨vc,fr',own',cf'⟩)(kk:ao prog GB C n Q0 fr' own' cf')
  (hv:autoParam (ae vc) fn._auto_1):ao prog GB C n Q0 fr own cf:=by
 unfold Um at h;split at h<;>try (cases h;done)
 rename_i hh;split at h<;>try (cases h;done)
 rename_i hT;split at h<;>try (cases h;done)
 rename_i hx;split at h<;>try (cases h;done)
 rename_i hy;rw[cond_eq_ite] at h;split at h<;>cases h;rename_i hq
 cases aL hq
 have:=jD (fp _ _ hT) J;exact us hh (aGJ hx hy h0 h1 hk) hgo hv kk
def kG.cut{s:Nat}{ty:TypeId}{z:SV}{vs:List Value}{B:List az}(h:kG s ty z vs B)(hs: ∀v∈vs,(aP v).length=s){k:Nat}(hk:k<=vs.length)(hne:0<vs.length):kG s ty ⟨z.a,k,z.c⟩ (vs.take k) B:=by
 rcases h with⟨h1,_,_⟩|⟨b,rest,lo,h1,h2,h3,h4,h5⟩
 .subst h1;simp at hne
 .have e:aG vs=aG (vs.take k)++aG (vs.drop k):=by rw[<-rB,jZ]
  have hl:=f7 (vs.take k) fun v hv=>hs v (dT hv);have hm:(vs.take k).length=k:=by rw[cR];omega
  refine .inr ⟨b,aG (vs.drop k)++rest,lo,by rw[hm,h1],by rw[h2,e,gX],hl,?_,by rw[hm];show k<=z.c;omega⟩;show _=z.c*s;rw[<-h4,e,aR,aR];omega
def aHw{P:Program}{e s by_:Nat}[hT:cO P t e s by_]{nm d:Nat}{k:IntKind}{j:Nat}{ty:TypeId}{ds:List DV}{lo:Bool}(hne:Nat.beq nm d=false)(hx:ba lk x=some (.rw nm))(hb:bk nm=some (.b ty s ds lo))(hy:ba lk y=some (.d (.v (.int k j))))(h1:j<ds.length):
  cg P GB C n lk bk ⟨some d, .slice t x none (some y) none,ty',pos,af,gd⟩ (.rw d) [(nm,none),(d,some (.b ty s (ds.take j) lo))] [d]:=by
 intro hd tl tb K s1 s2 hf hk;refine⟨fun ρ G ov a w r Q=>?_⟩;have r1:=r.mono s1 s2;obtain⟨u,hu,hu2⟩:=r1.ev hx
 cases (show u=_ from hu2)
 obtain⟨v,hv,hv2⟩:=r1.ev hy;rw[dq] at hv2;subst hv2;obtain⟨B,hB0,hBo⟩:=r1.bx _ _ hb;have hB:eB G ⟨ρ nm,s,ty,ds,lo⟩ B:=hB0;obtain⟨b,hw,hc⟩:=MX hB;obtain⟨vs,g1,g2,g3,g4⟩:=hB;have hvl:=g2.len;have hcut:eB G ⟨⟨(ρ nm).a,j,(ρ nm).c⟩,s,ty,ds.take j,lo⟩ B:=⟨vs.take j,kG.cut g1 g3 (by simp only at hvl⊢;omega) (by simp only at hvl⊢;omega),g2.take _,fun v hv=>g3 v (dT hv),g4⟩;have hs:=JN (P:=P) (C:=C) (own:=ov) (G:=G) (dst:=some d) (ty':=ty') (pos:=pos) (af:=af) (gd:=gd) (t:=t) hu hv;have hnn:nm≠d:=fun e=>by subst e;rw[nN] at hne;cases hne
 have r2:=r.dropB nm;have hf2:kO [d] (some d) tl (Sx.upB tb [(nm,none)]):=fun q hq=>by
  obtain⟨f1,f2⟩:=hf q hq;refine⟨f1,fun k B e1 e=>?_⟩;simp only[Sx.upB] at e;split at e
  .cases e
  .exact f2 k B e1 e
 have r3:=r2.new' (x:=⟨(ρ nm).a,j,(ρ nm).c⟩) (B':= .b ty s (ds.take j) lo) (os:=B) (ov':=ov) (f:= .rw d) (y:= .slice (ρ nm).a j (ρ nm).c) hf2 (cc.refl _) r.h (hcut.toBk omc) hBo
  (fun m B' hm e o ho hmo=>⟨ho,fun hc=>by
   simp only[Sx.upB] at e;split at e
   .cases e
   .rename_i hmn
    exact r.dj m nm B' _ e (s2 _ _ hb) hmn _ hmo hc⟩) (by simp[ce]) (r.putA (.slice (ρ nm).a j (ρ nm).c) hd)
 exact ly (hs a w (dt a) r.h) (hk.run _ G _ _ w r3)
def OZ(fr:aD)(own:aO)(cf:Cf):Option (Nat×Nat×TypeId×Nat×List DV×Bool×Int):=match dw fr cf with
 |some ⟨some d, .slice t x none (some y) none,_,_,_,_⟩=>match eH tt t with
  |some ⟨.sl _ s' _,_,_,_⟩=>match ba (co fr cf) x with
   |some (.rw nm)=>match i6 fr own cf nm with
    |some (.b ty s ds lo)=>match ba (co fr cf) y with
     |some (.d (.v (.int _ i)))=>bif Nat.beq s s'&&!Nat.beq nm d then some (d,nm,ty,s,ds,lo,i) else none
     |_=>none
    |_=>none
   |_=>none
  |_=>none
 |_=>none
def Jd[fu:Fu]{d nm s:Nat}{ty:TypeId}{ds:List DV}{lo:Bool}{i:Int}(ds':List DV)(k:Nat)(h:OZ fr own cf=some (d,nm,ty,s,ds,lo,i))(hi:i=(k:Nat))(hl:k<ds.length)(hd:ds.take k=ds')(hgo:dl tt n fu.n fr own cf (.rw d) [(nm,none),(d,some (.b ty s ds' lo))] [d]=⟨vc,fr',own',cf'⟩)(kk:ao prog GB C n Q0 fr' own' cf')
  (hv:autoParam (ae vc) fn._auto_1):ao prog GB C n Q0 fr own cf:=by
 subst hi hd;unfold OZ at h;split at h<;>try (cases h;done)
 rename_i hh;split at h<;>try (cases h;done)
 rename_i hT;split at h<;>try (cases h;done)
 rename_i hx;split at h<;>try (cases h;done)
 rename_i hb;split at h<;>try (cases h;done)
 rename_i hy;rw[cond_eq_ite] at h;split at h<;>cases h;rename_i hq;simp only[bT,fM] at hq
 cases aL hq.1
 have:=jD (fp _ _ hT) J;exact us hh (aHw hq.2 hx hb hy hl) hgo hv kk
def O9(v:Value)(m:Nat):aG (List.replicate m v)=fe v m:=by
 unfold fe
 induction m with
 |zero=>rfl
 |succ m ih=>rw[lL,lL,mK,<-ih];rfl
def Q1{G:Gh}{z:DV}{v:Value}(h:Is G z v): ∀m:Nat,IsLs G (List.replicate m z) (List.replicate m v)
 |0=> .nil
 |m+1=>by rw[lL,lL];exact .cons h (Q1 h m)
def aHJ{P:Program}{e s by_:Nat}[hT:cO P t e s by_]{i:TI}{z:DV}(hi:gh P e=some i)(hz:om i=some z)(hzs:z.cells.length=s){nm off m:Nat}{ty:TypeId}{ds:List DV}{lo:Bool}(hx:ba lk x=some (.rs nm s off (m+1)))(hb:bk nm=some (.b ty s ds lo))(hm:off+(m+1)=ds.length):
  cg P GB C n lk bk ⟨dst, .call ⟨.builtin .clear, #[x], #[t]⟩,ty',pos,af,gd⟩ (.d (.tp [])) [(nm,some (.b ty s (ds.take off++List.replicate (m+1) z) lo))] []:=by
 intro hd tl tb K s1 s2 hf hk;refine⟨fun ρ G ov a w r Q=>?_⟩;have r1:=r.mono s1 s2;obtain⟨v,hz1,hz2,hz3⟩:=xG hi hz;have cz:=((hz2 G).cells hz3).1.len;have cf:=((hz2 G).cells hz3).2;rw[hzs] at cz;obtain⟨u,hu,b,c,hbq,rfl,hc⟩:=r1.ev hx;obtain⟨B,hB0,hBo⟩:=r1.bx _ _ hb;have hB:eB G ⟨ρ nm,s,ty,ds,lo⟩ B:=hB0;obtain⟨vs,g1,g2,g3,g4⟩:=hB;simp only at g1 g2 g3 g4;have hvl:=g2.len;rcases g1 with⟨e1,e2,_⟩|⟨b',rest,lo',k1,k2,k3,k4,k5⟩
 .subst e1;simp at hvl;omega
 .have hbe:b'=b:=by rw[k1] at hbq;cases hbq;rfl
  subst hbe;subst k2;have hmem:=hBo _ aQ;have hblk:=(r.h.hown _ hmem).1;simp only at hblk;have hzl:(fe v (m+1)).length=(m+1)*s:=by rw[qy,cz]
  have hls:vs.length*s=off*s+(m+1)*s:=by rw[<-dW];congr 1;omega
  have hst:=yf (P:=P) (fe v (m+1)) w (off*s) 0 (aG vs++rest) (fun q hq=>by
   unfold fe at hq;obtain⟨l,hl,hql⟩:=List.mem_flatten.1 hq;rw[mZ hl] at hql;exact cf q hql) hblk (by rw[hzl,aR];omega)
  rw[gW] at hst;have htk:=f7 (vs.take off) fun q hq=>g3 q (dT hq);have hov:dd (aG vs++rest) (off*s) (fe v (m+1))=aG (vs.take off++List.replicate (m+1) v)++rest:=by
   rw[qg _ _ _ (by rw[hzl,aR];omega),rB,O9];have e1:(aG vs++rest).take (off*s)=aG (vs.take off):=by
    rw[fK we,EJ vs off g3 we]
   rw[e1,hzl,<-hls,jT we,gT we,lQ]
  have hrun:(Builtin.clear_ #[t] ty' #[.slice (some ⟨b',off*s,none⟩) (m+1) c]).run P w= .ok (.tuple #[]) (io w b' (.cells ⟨aG (vs.take off++List.replicate (m+1) v)++rest⟩ ty (0,0))):=by
   unfold Builtin.clear_;show(underlying t>>=_).run P w=_;rw[bc (hT.u w)];show(zeroValue e>>=fun q=>storeCells ⟨b',off*s,none⟩ (Builtin.zeroCells q.cells (m+1)).toList>>=fun _=>pure (Value.tuple #[])).run P w=_;rw[bc (hz1.zero w)];show(storeCells ⟨b',off*s,none⟩ (Builtin.zeroCells v.cells (m+1)).toList>>=fun _=>pure (Value.tuple #[])).run P w=_;rw[ry,P4,bc (hov▸hst)];rfl
  obtain⟨own',u1,u2,u3⟩:=i7.of_mem (cs':=aG (vs.take off++List.replicate (m+1) v)++rest) hmem;have r2:=r.upB (G':=G) (ov':=own') (w':=io w b' (.cells ⟨aG (vs.take off++List.replicate (m+1) v)++rest⟩ ty (0,0))) (B':= .b ty s (ds.take off++List.replicate (m+1) z) lo) (os:=[⟨b',aG (vs.take off++List.replicate (m+1) v)++rest,ty,lo'⟩]) (cc.refl _) (r.h.store u1)
   ⟨vs.take off++List.replicate (m+1) v, .inr ⟨b',rest,lo',?_,J,?_,?_,?_⟩,(g2.take _).app (Q1 (hz2 G) _),?_,?_⟩ (fun o ho=>by rw[aV.1 ho];exact u2) (fun o ho hne=>u3 o ho fun e=>hne (by rw[hbq,e])) ⟨_,s2 _ _ hb⟩
  .have h3:=hk.run _ G _ _ _ (r2.put (f:= .d (.tp [])) (y:= .tuple #[]) (mm.2 ⟨[],J, .nil⟩) (r2.putA (.tuple #[]) hd))
   refine ly (v:= .tuple #[]) ?_ h3;simp only[execOp,resolve,iW,cJ,kR,bu (dt a) hu];exact dC hrun
  .rw[k1,aR,cR,aU,iU we]
   simp only[SV.mk.injEq,true_and,and_true];omega
  .refine f7 _ fun q hq=>?_
   rcases bJ.1 hq with hq|hq
   .exact g3 q (dT hq)
   .rw[mZ hq,cz]
  .rw[rB,O9,aR,htk,hzl,cR,iU we]
   omega
  .rw[aR,cR,aU,iU we];omega
  .intro q hq
   rcases bJ.1 hq with hq|hq
   .exact g3 q (dT hq)
   .rw[mZ hq,cz]
  .intro hl o ho
   have:=g4 hl _ aQ;rw[aV.1 ho];exact this
def To(fr:aD)(own:aO)(cf:Cf):Option (Nat×TypeId×Nat×List DV×Bool×Nat×Nat×DV):=match dw fr cf with
 |some ⟨_, .call ⟨.builtin .clear,⟨[x]⟩,⟨[t]⟩⟩,_,_,_,_⟩=>match eH tt t with
  |some ⟨.sl e s' _,_,_,_⟩=>match ba (co fr cf) x with
   |some (.rs nm s off m)=>match i6 fr own cf nm with
    |some (.b ty s2 ds lo)=>match eH tt e with
     |some i=>match om i with
      |some z=>bif Nat.beq s s'&&(Nat.beq s s2&&Nat.beq z.cells.length s) then some (nm,ty,s,ds,lo,off,m,z) else none
      |none=>none
     |none=>none
    |_=>none
   |_=>none
  |_=>none
 |_=>none
def YU[fu:Fu]{nm s off m:Nat}{ty:TypeId}{ds:List DV}{lo:Bool}{z:DV}(ds':List DV)(h:To fr own cf=some (nm,ty,s,ds,lo,off,m,z))(hm:off+m=ds.length)(hp:0<m)(hd:ds.take off++List.replicate m z=ds')(hgo:dl tt n fu.n fr own cf (.d (.tp [])) [(nm,some (.b ty s ds' lo))] []=⟨vc,fr',own',cf'⟩)(kk:ao prog GB C n Q0 fr' own' cf')
  (hv:autoParam (ae vc) fn._auto_1):ao prog GB C n Q0 fr own cf:=by
 subst hd;obtain⟨m,rfl⟩: ∃q,m=q+1:=⟨m-1,we⟩;unfold To at h;split at h<;>try (cases h;done)
 rename_i hh;split at h<;>try (cases h;done)
 rename_i hT;split at h<;>try (cases h;done)
 rename_i hx;split at h<;>try (cases h;done)
 rename_i hb;split at h<;>try (cases h;done)
 rename_i hi;split at h<;>try (cases h;done)
 rename_i hz;rw[cond_eq_ite] at h;split at h<;>cases h;rename_i hq;simp only[bT] at hq
 cases aL hq.1
 cases aL hq.2.1
 have:=jD (fp _ _ hT) J;exact us hh (aHJ (fp _ _ hi) hz (aL hq.2.2) hx hb hm) hgo hv kk
end
section
variable {GB:Gh} {C:aH} {n:Nat} {Q0:Exit->Act->World->Prop} {fr fr' fr1 fr2:aD} {own own' own1 own2:aO} {cf cf' cf1 cf2:Cf} {vc vc1 vc2:List Prop}
def jE{fb:Func}{e:Exit}{ds:List DV}{rv:DV}(hr:sO tt fr own fb.results.toList=some ds)(hd: ∀G y,Is G (jH ds) y->Is G rv y)(he:CO e=true:=by rfl):ao prog GB C n (gu C prog fb (mE C (fun v G'=>Is G' rv v))) fr own (.ex e []):=by
 refine⟨fun ρ G ov a w r=>?_⟩;obtain⟨vs,h1,h2⟩:=DT r hr;have hk:Is G rv (qo vs):=hd _ _ (Fq h2)
 cases e with
 |ret=>exact zD (C:=C) (n:=n) (fr:=de a) (own:=ov) (G:=G) (K:=fun v G'=>Is G' rv v) h1 hk a w ⟨r.h,r.sz,dt a,r.df⟩
 |normal=>exact Pr (C:=C) (n:=n) (fr:=de a) (own:=ov) (G:=G) (K:=fun v G'=>Is G' rv v) h1 hk a w ⟨r.h,r.sz,dt a,r.df⟩
 |_=>cases he
def Pa(fr:aD)(cf:Cf):Option (Int×IntKind):=match dw fr cf with
 |some ⟨_, .convert t t' x,_,_,_,_⟩=>match eH tt t,eH tt t',ba (co fr cf) x with
  |some ⟨.int k,_,_,_⟩,some ⟨.int k',_,_,_⟩,some (.d (.v (.int j p)))=>bif kq k j then some (p,k') else none
  |_,_,_=>none
 |_=>none
def cu[fu:Fu]{p:Int}{k':IntKind}(u:Int)(h:Pa fr cf=some (p,k'))(e:k'.wrap p=u)(hgo:dl tt n fu.n fr own cf (.d (.v (.int k' u))) [] []=⟨vc,fr',own',cf'⟩)(k:ao prog GB C n Q0 fr' own' cf')
  (hv:autoParam (ae vc) cL._auto_1):ao prog GB C n Q0 fr own cf:=by
 unfold Pa at h;split at h<;>try (cases h;done)
 rename_i hh;split at h<;>try (cases h;done)
 rename_i k0 _ _ _ k1 _ _ _ j p0 hT hT' hx
 cases hk:kq k0 j with
 |false=>rw[hk] at h;cases h
 |true=>
  rw[hk,cond_true] at h;cases h;cases C6 hk;have:=Aa (fp _ _ hT) J;have:=Aa (fp _ _ hT') J;subst e;refine us hh (.x1 hx fun ρ G ov a w y _ r h1 h2=>?_) hgo hv k;rw[dq] at h2;subst h2;exact⟨_,dq.2 J,Ff h1⟩
def Tq(fr:aD)(cf:Cf):Option (Int×IntKind):=match dw fr cf with
 |some ⟨_, .unOp .neg _ x,_,_,_,_⟩=>match ba (co fr cf) x with
  |some (.d (.v (.int j p)))=>some (p,j)
  |_=>none
 |_=>none
def nu[fu:Fu]{p:Int}{k':IntKind}(u:Int)(h:Tq fr cf=some (p,k'))(e:k'.wrap (0-p)=u)(hgo:dl tt n fu.n fr own cf (.d (.v (.int k' u))) [] []=⟨vc,fr',own',cf'⟩)(k:ao prog GB C n Q0 fr' own' cf')
  (hv:autoParam (ae vc) cL._auto_1):ao prog GB C n Q0 fr own cf:=by
 unfold Tq at h;split at h<;>try (cases h;done)
 rename_i hh;split at h<;>cases h;rename_i hx;subst e;exact us hh (.x1 hx fun ρ G ov a w y _ r h1 h2=>by
  rw[dq] at h2;subst h2;exact⟨_,dq.2 J,IK h1⟩) hgo hv k
end
def MU{W:List Nat}(h:0<W.length:=by omega)(hz:W.getD (W.length-1) 0=0:=by omega):trimD W=trimD (W.take (W.length-1)):=by
 have:=M7 (ds:=W) (n:=W.length) ⟨h,bV _⟩ hz;rwa [dV] at this
def EY{W:List Nat}(hz:0<W.length->W.getD (W.length-1) 0≠0):trimD W=W:=by
 have:=Td (ds:=W) (n:=W.length) (bV _) hz;rwa [dV] at this
theorem omr{p:Prop}(h:p:=by rw[hml]<;>rfl):p:=h
def uG{ds:List Nat}(hl:ds.length<=1125899906842624:=by omega):PF GB prog 195 [fm ds] (fm (trimD ds)):=by
 refine fn func195 J J ntmps195 J J (fun C=>?_);refine lp (fu:=⟨5⟩) (X:=List Nat) (fun W=>[(0, .d (fm W))]) (fun W=>[]) (fun W=>trimD ds=trimD W/\W.length<=ds.length) (fun W=>W.length) ds J ⟨J,bV _⟩ (fun _=>J) (fun W hk=>?_);obtain⟨h1,h2⟩:=hk;have hml:=cd W;refine ah 4 (.d (vI (W.length:Nat))) J omr<|gx J<|cs (fu1:=⟨3⟩) 6 J J J (fun hg6=>?_) (fun hg6=>?_)
 .
  refine ah 9 (.d (vI (W.length:Nat))) J omr<|gx J<|ix _ J (dm (k:=W.length-1)) J<|br (fu1:=⟨7⟩) J J J (fun hc14=>?_) (fun hc14=>?_)
  .
   refine ah 17 (.d (vI (W.length:Nat))) J omr<|gx (fu:=⟨1⟩) J<|ah 18 (.d (vI (W.length-1:Nat))) J (omi we)<|gx J<|mc (fu:=⟨0⟩) 0 (W.length-1) _ J J J J (sr _) we omc J<|ah 19 (.d (fm (W.take (W.length-1)))) J (by show FX.d (.sl _)=FX.d (.sl _);simp)<|gx J<|at_ (W.take (W.length-1)) ⟨⟨by rw[h1,MU],by rw[cR];omega⟩,(by rw[cR];omega)⟩
  .
   exact rz J (by rw[h1,EY (fun _=>by omega)];rfl)
 .
  exact rz J (by rw[h1,EY (fun _=>by omega)];rfl)
def Xj{G:Gh}{ds:List Nat}{v:Value}(hd:bB ds)(h:Is G (fm ds) v): ∃x:SV,v=x.v/\sI G x ds:=by
 obtain⟨x,rfl,h1⟩:=SY.1 h;exact⟨x,J,hd,h1⟩
def NY{ds:List Nat}(hd:bB ds)(hb:ds.length<=1125899906842:=by omega):PF GB prog 205 [fm ds] (fm ds):=fun G vs _ hv=>by
 obtain⟨v,m,rfl,h1,h2⟩:=bO.1 hv
 cases gw.1 h2
 obtain⟨x,rfl,h3⟩:=Xj hd h1;exact(awf h3 hb).mono fun v G' _ ⟨z,e,h⟩=>by subst e;exact SY.2 ⟨z,J,h.sl⟩
def azz{ds:List Nat}(h:ds.length=0):gG ds:=by rw[cW h];unfold gG;simp
def ayq{ds:List Nat}(h:0<ds.length):gG ds↔ds.getD (ds.length-1) 0≠0:=by
 unfold gG;rw[lM,aJ,aZ we];simp
def aEb(a:Nat):trimD (dg a)=dg a:=au3 (i8 a).2.2
def qI{a:Nat}(h:(dg a).length<=1125899906842624:=by omega):PF GB prog 195 [dN a] (dN a):=(uG (ds:=dg a) h).to (by rw[aEb];rfl)
def jI{a i:Nat}[h:BN a i](hi:i<=1000000000:=by omega):(dg a).length<=31250001:=by have:=n9 h.h;omega
def wl{a i:Nat}[h:BN a i](hi:i<=1000000000:=by decide):PF GB prog 158 [dN a] (dN a):=by
 have hla:=cd (dg a);have hba:=jI (a:=a) hi;refine fn func158 J J ntmps158 J J (fun C=>?_);refine cl J (qI) J<|cl J (NY (ij _)) J<|rz J J
theorem oms{p:Prop}(h:p:=by rw[hla]<;>rfl):p:=h
def az9{ds:List Nat}(hd:bB ds)(hl:ds.length<=1125899906842624):PF GB prog 230 [fm ds] (vB (decide (gG ds))):=by
 have hla:=cd ds;refine fn (fu:=⟨9⟩) func230 J J ntmps230 J J (fun C=>?_);refine ah 4 (.d (vI (ds.length:Nat))) J oms<|gx J<|cs (fu2:=⟨3⟩) 6 J J J (fun hg6=>?_) (fun hg6=>?_)
 .
  exact rz J (by rw[decide_eq_true (azz we)];rfl)
 .
  refine ah 9 (.d (vI (ds.length:Nat))) J oms<|gx J<|ix _ J (dm (k:=ds.length-1)) J<|rz J (by show DV.v (.bool (decide _))=DV.v (.bool (decide _));congr 2;exact decide_eq_decide.2 (by rw[ayq we];omega))
def Bm{a:Nat}(h:a<18446744073709551616:=by omega):PF GB prog 159 [.v (.int .u64 (a:Nat))] (dN a):=by
 refine fn (fu:=⟨11⟩) (hv:=by simp only[ae];exact oma) func159 J J ntmps159 J J (fun C=>?_);refine ah 6 (.d (.v (.int .u64 (a/4294967296:Nat)))) J okn<|gx J<|rf (fu:=⟨0⟩) J J<|ah 8 (.d (fm [a%4294967296,a/4294967296])) J omZ<|gx J<|cl J (uG (ds:=[a%4294967296,a/4294967296]) omc) J<|rz J (mi (P9 h) (SP a))
theorem omM{p:Prop}(h:p:=by rw[hlb]<;>rfl):p:=h
def Rh{a b i j:Nat}[h:BN a i][k:BN b j](hi:i<=1000000000:=by decide)(hj:j<=1000000000:=by decide):PF GB prog 207 [dN a,dN b] (vI (kj a b)):=by
 have hla:=cd (dg a);have hba:=jI (a:=a) hi;have hlb:=cd (dg b);have hbb:=jI (a:=b) hj;refine fn func207 J J ntmps207 J J (fun C=>?_);refine cl J (qI) J<|cl (fu:=⟨9⟩) J (qI) J<|ah 11 (.d (vI ((dg a).length:Nat))) J oms<|gx (fu:=⟨2⟩) J<|ah 13 (.d (vI ((dg b).length:Nat))) J omM<|gx J<|br (fu1:=⟨5⟩) (fu2:=⟨7⟩) J J J (fun hc14=>?_) (fun hc14=>?_)
 .
  refine ah 16 (.d (vI ((dg a).length:Nat))) J oms<|gx (fu:=⟨2⟩) J<|ah 18 (.d (vI ((dg b).length:Nat))) J omM<|gx J<|br J J J (fun hc19=>?_) (fun hc19=>?_)
  .
   exact rz J (by show DV.v (.int _ (-1))=_;rw[<-Gi,BT we];rfl)
  .
   exact rz J (by show DV.v (.int _ 1)=_;rw[<-Gi,B3 we];rfl)
 .
  have hl:(dg a).length=(dg b).length:=by omega
  refine ah 21 (.d (vI ((dg a).length:Nat))) J oms<|gx J<|lp (X:=Nat) (fun k=>[(5, .d (vI ((k:Nat)-1)))]) (fun k=>[]) (fun k=>k<=(dg a).length/\(dg a).drop k=(dg b).drop k) (fun k=>k) (dg a).length J ⟨bV _,by rw[fR,hl,fR]⟩ (fun _=>J) (fun k hk=>?_);obtain⟨h1,h2⟩:=hk;refine br J J J (fun hc24=>?_) (fun hc24=>?_)
  .
   obtain⟨k,rfl⟩: ∃m,k=m+1:=⟨k-1,we⟩;refine ix _ J (dm (k:=k)) J<|ix _ J (dm (k:=k)) J<|br J J J (fun hc27=>?_) (fun hc27=>?_)
   .
    exact rz J (by show DV.v (.int _ (-1))=_;rw[BT ((yi hl we h2).1 we)];rfl)
   .
    refine ix _ J (dm (k:=k)) J<|ix _ J (dm (k:=k)) J<|br J J J (fun hc37=>?_) (fun hc37=>?_)
    .
     exact rz J (by show DV.v (.int _ 1)=_;rw[B3 ((yi hl we h2).2.1 we)];rfl)
    .
     exact at_ k ⟨⟨we,(yi (i:=k) hl we h2).2.2 we⟩,we⟩
  .
   exact rz rfl (by show DV.v (.int _ 0)=_;rw[M0];rfl;obtain rfl:k=0:=we;rw[gJ,gJ] at h2;rw[<-dG a,h2,dG])
def aKX{a b i j:Nat}[h:BN a i][k:BN b j](hi:i<=1000000000:=by decide)(hj:j<=1000000000:=by decide):PF GB prog 196 [dN a,dN b] (dN (a+b)):=by
 have hla:=cd (dg a);have hba:=jI (a:=a) hi;have hlb:=cd (dg b);have hbb:=jI (a:=b) hj;refine fn (fu:=⟨6⟩) func196 J J ntmps196 J J (fun C=>?_);refine mg (fu:=⟨4⟩) (X:=Nat×Nat) (fun⟨A,B⟩=>[(0, .d (dN A)),(1, .d (dN B))]) (fun⟨A,B⟩=>[]) (fun⟨A,B⟩=>(dg B).length<=(dg A).length/\A+B=a+b/\(dg A).length<=31250001) [0,1] [] rfl ?_ (fun _=>J) (fun⟨A,B⟩ ⟨hm1,hm2,hm3⟩=>?_)
 .
  refine gx (fu:=⟨4⟩) J<|ah 10 (.d (vI ((dg a).length:Nat))) J oms<|gx (fu:=⟨2⟩) J<|ah 12 (.d (vI ((dg b).length:Nat))) J omM<|gx J<|br J J J (fun hc13=>?_) (fun hc13=>?_)
  .
   exact at_ ⟨b,a⟩ ⟨we,kX b a,hbb⟩
  .
   exact at_ ⟨a,b⟩ ⟨we,J,hba⟩
 .
  have hlA:=cd (dg A);have hlB:=cd (dg B);refine ah 17 (.d (vI ((dg A).length:Nat))) J (by rw[hlA]<;>rfl)<|gx (fu:=⟨1⟩) J<|ah 18 (.d (vI ((dg A).length+1:Nat))) J omj<|gx J<|mk (fu:=⟨13⟩) ((List.replicate ((dg A).length+1) 0).map dU) J J omD J<|ah 21 (.d (vI ((dg A).length:Nat))) J (by rw[hlA]<;>rfl)<|gx J<|lp (X:=List Nat×Nat×Nat) (fun⟨W,c,i⟩=>[(0, .d (dN A)),(1, .d (dN B)),(5, .rw 19),(6, .d (.v (.int .u64 (c:Nat)))),(20, .d (dN A)),(21, .d (vI ((dg A).length:Nat))),(22, .d (vI (i:Nat)))]) (fun⟨W,c,i⟩=>[(19,some (.b 227 1 (W.map dU) true))]) (fun⟨W,c,i⟩=>W.length=(dg A).length+1/\bB W/\c<=1/\i<=(dg A).length/\dv (W.take i)+4294967296^i*c=dv ((dg A).take i)+dv ((dg B).take i)) (fun⟨W,c,i⟩=>(dg A).length-i) ⟨List.replicate ((dg A).length+1) 0,0,0⟩ J ⟨omc, .replicate _,we,we,by simp[dv]⟩ (fun _=>J) (fun⟨W,c,i⟩ hk=>?_)
  try dsimp only at hk⊢
  obtain⟨h1,h2,h3,h4,h5⟩:=hk;have hlw:=cd W;have hda:=fj A i;have hdb:=fj B i;obtain⟨t,ht⟩: ∃t,t=(dg A).getD i 0+(dg B).getD i 0+c:=⟨_,rfl⟩;refine br (fu2:=⟨10⟩) J J J (fun hc23=>?_) (fun hc23=>?_)
  .
   refine ix (fu:=⟨15⟩) _ J (fD) J<|mg (fu:=⟨6⟩) (X:=Unit) (fun _=>[(0, .d (dN A)),(1, .d (dN B)),(5, .rw 19),(6, .d (.v (.int .u64 (t:Nat)))),(20, .d (dN A)),(21, .d (vI ((dg A).length:Nat))),(22, .d (vI (i:Nat))),(7, .d (vI (i:Nat))),(8, .d (dU ((dg A).getD i 0)))]) (fun _=>[(19,some (.b 227 1 (W.map dU) true))]) (fun _=>True) [0,1,5,6,20,21,22,7,8] [19] rfl ?_ (fun _=>J) (fun _ _=>?_)
   .
    refine gx (fu:=⟨5⟩) J<|ah 33 (.d (vI ((dg B).length:Nat))) J (by rw[hlB]<;>rfl)<|gx J<|br J J J (fun hc34=>?_) (fun hc34=>?_)
    .
     refine ix _ J (fD) J<|ah 6 (.d (.v (.int .u64 (t:Nat)))) J (omi we)<|at_ () trivial
    .
     have hz:=r4 (ds:=dg B) (i:=i);refine ah 6 (.d (.v (.int .u64 (t:Nat)))) J (omi we)<|at_ () trivial
   .
    refine ah 45 (.d (dU (t%4294967296))) J omj<|gx J<|sb (fu:=⟨5⟩) (hv:=by simp only[ae];exact oma) _ ((W.set i (t%4294967296)).map dU) J (fD) J oke J<|ah 48 (.d (.v (.int .u64 (t/4294967296:Nat)))) J okn<|gx J<|at_ ⟨W.set i (t%4294967296),t/4294967296,i+1⟩ (by dsimp only;exact⟨⟨by simpa using h1,h2.set _ we,we,we,by rw[ht];exact N9 we h5⟩,we⟩)
  .
   obtain rfl:i=(dg A).length:=by omega
   refine ah 52 (.d (vI ((dg A).length:Nat))) J (by rw[hlA]<;>rfl)<|gx (fu:=⟨2⟩) J<|ah 54 (.d (dU c)) J (omi we)<|gx J<|sb _ ((W.set (dg A).length c).map dU) J (fD) J oke J<|fz 19 J J<|cl J (uG (ds:=W.set (dg A).length c) omo) J<|rz J (by rw[<-hm2];exact mi (h2.set _ we) (ON we h1 h5))
def at4{x y:Nat}(hx:x<4294967296)(hy:y<=4294967296):IntKind.u64.wrap ((x:Int)-y)=(((if x<y then x+18446744073709551616-y else x-y):Nat):Int):=by
 rw[sG];split<;>omega
def Bj{a b:Nat}:kj a b<0↔a<b:=by unfold kj;split<;>(try split)<;>omega
section
variable {GB:Gh} {C:aH} {n:Nat} {Q0:Exit->Act->World->Prop} {fr fr':aD} {own own':aO} {cf cf':Cf} {vc:List Prop}
def K4(fr:aD)(cf:Cf):Option (Int×Int):=match dw fr cf with
 |some ⟨_, .binOp .sub _ x y _,_,_,_,_⟩=>match ba (co fr cf) x,ba (co fr cf) y with
  |some (.d (.v (.int .u64 p))),some (.d (.v (.int .u64 q)))=>some (p,q)
  |_,_=>none
 |_=>none
def sd[fu:Fu]{p q:Int}(u:Int)(h:K4 fr cf=some (p,q))(e:IntKind.u64.wrap (p-q)=u)(hgo:dl tt n fu.n fr own cf (.d (.v (.int .u64 u))) [] []=⟨vc,fr',own',cf'⟩)(k:ao prog GB C n Q0 fr' own' cf')
  (hv:autoParam (ae vc) cL._auto_1):ao prog GB C n Q0 fr own cf:=by
 unfold K4 at h;split at h<;>try (cases h;done)
 rename_i hh;split at h<;>cases h;rename_i h1 h2;subst e;exact us hh (.yd fun ρ G ov a w r=>by
  obtain⟨y1,h3,h4⟩:=r.ev h1;obtain⟨y2,h5,h6⟩:=r.ev h2;rw[dq] at h4 h6;subst h4 h6;exact⟨_,dq.2 J,mj h3 h5 fun w=>J⟩) hgo hv k
end
def Hz(u:Nat):(u:Int).fdiv (2^min (63:Int).toNat IntKind.u64.bits)=((u/9223372036854775808:Nat):Int):=by
 rw[show(2:Int)^min (63:Int).toNat IntKind.u64.bits=((9223372036854775808:Nat):Int) from J,kV _ oma];rfl
def aIL{a b ia ib:Nat}[h:BN a ia][k:BN b ib](hb:b<=a)(hi:ia<=1000000000:=by decide)(hj:ib<=1000000000:=by decide):PF GB prog 222 [dN a,dN b] (dN (a-b)):=by
 have hla:=cd (dg a);have hba:=jI (a:=a) hi;have hlb:=cd (dg b);have hbb:=jI (a:=b) hj;refine fn (fu:=⟨9⟩) func222 J J ntmps222 J J (fun C=>?_);refine ah 12 (.d (vI ((dg a).length:Nat))) J oms<|gx J<|mk (fu:=⟨13⟩) ((List.replicate (dg a).length 0).map dU) J J omD J<|ah 15 (.d (vI ((dg a).length:Nat))) J oms<|gx J<|lp (X:=List Nat×Nat×Nat) (fun⟨W,c,i⟩=>[(0, .d (dN a)),(1, .d (dN b)),(5, .rw 13),(6, .d (.v (.int .u64 (c:Nat)))),(14, .d (dN a)),(15, .d (vI ((dg a).length:Nat))),(16, .d (vI (i:Nat)))]) (fun⟨W,c,i⟩=>[(13,some (.b 227 1 (W.map dU) true))]) (fun⟨W,c,i⟩=>W.length=(dg a).length/\bB W/\c<=1/\i<=(dg a).length/\dv (W.take i)+dv ((dg b).take i)=dv ((dg a).take i)+4294967296^i*c) (fun⟨W,c,i⟩=>(dg a).length-i) ⟨List.replicate (dg a).length 0,0,0⟩ J ⟨omc, .replicate _,we,we,by simp[dv]⟩ (fun _=>J) (fun⟨W,c,i⟩ hk=>?_)
 try dsimp only at hk⊢
 obtain⟨h1,h2,h3,h4,h5⟩:=hk;have hlw:=cd W;have hda:=fj a i;have hdb:=fj b i;obtain⟨t,ht⟩: ∃t,t=(dg b).getD i 0+c:=⟨_,rfl⟩;obtain⟨v,hv⟩: ∃v:Nat,v=if(dg a).getD i 0<t then(dg a).getD i 0+18446744073709551616-t else(dg a).getD i 0-t:=⟨_,rfl⟩
 obtain⟨d,hd⟩: ∃d:Nat,d=if(dg a).getD i 0<(dg b).getD i 0+c then(dg a).getD i 0+4294967296-((dg b).getD i 0+c) else(dg a).getD i 0-((dg b).getD i 0+c):=⟨_,rfl⟩
 obtain⟨c2,hc2⟩: ∃d:Nat,d=if(dg a).getD i 0<(dg b).getD i 0+c then 1 else 0:=⟨_,rfl⟩
 have hvd:v%4294967296=d:=by rw[hv,hd,<-ht];split<;>omega
 have hvc:v/9223372036854775808=c2:=by rw[hv,hc2,<-ht];split<;>omega
 refine br J J J (fun hc17=>?_) (fun hc17=>?_)
 .
  refine ix (fu:=⟨12⟩) _ J (fD) J<|mg (fu:=⟨5⟩) (X:=Unit) (fun _=>[(0, .d (dN a)),(1, .d (dN b)),(5, .rw 13),(6, .d (.v (.int .u64 (c:Nat)))),(14, .d (dN a)),(15, .d (vI ((dg a).length:Nat))),(16, .d (vI (i:Nat))),(7, .d (vI (i:Nat))),(8, .d (dU ((dg a).getD i 0))),(9, .d (.v (.int .u64 (t:Nat))))]) (fun _=>[(13,some (.b 227 1 (W.map dU) true))]) (fun _=>True) [0,1,5,6,14,15,16,7,8,9] [13] rfl ?_ (fun _=>J) (fun _ _=>?_)
  .
   refine gx (fu:=⟨5⟩) J<|ah 24 (.d (vI ((dg b).length:Nat))) J omM<|gx J<|br J J J (fun hc25=>?_) (fun hc25=>?_)
   .
    refine ix _ J (fD) J<|ah 9 (.d (.v (.int .u64 (t:Nat)))) J (omi we)<|at_ () trivial
   .
    have hz:=r4 (ds:=dg b) (i:=i);refine ah 9 (.d (.v (.int .u64 (t:Nat)))) J (omi we)<|at_ () trivial
  .
   refine sd (fu:=⟨9⟩) ((v:Nat):Int) J (by rw[hv];exact at4 hda we) J<|ah 40 (.d (dU d)) J (omi we)<|gx J<|sb (fu:=⟨5⟩) (hv:=by simp only[ae];exact oma) _ ((W.set i d).map dU) J (fD) J oke J<|ah 43 (.d (.v (.int .u64 (c2:Nat)))) J (by rw[Hz,hvc])<|gx J<|at_ ⟨W.set i d,c2,i+1⟩ (by dsimp only;exact⟨⟨by simpa using h1,h2.set _ (by rw[hd];split<;>omega),by rw[hc2];split<;>omega,we,QG (ij a) (ij b) we h3 h5 hd hc2⟩,we⟩)
 .
  obtain rfl:i=(dg a).length:=by omega
  refine fz 13 J J<|cl J (uG (ds:=W)) J<|rz J (mi h2 (La h2 h1 hb h5))
theorem okT{p:Prop}(h:p:=by have:=Bj (a:=a) (b:=b);omega):p:=h
def Mr{a b i j:Nat}[h:BN a i][k:BN b j](hi:i<=1000000000:=by decide)(hj:j<=1000000000:=by decide):PF GB prog 197 [dN a,dN b] (.tp [dN (a-b),vB (decide (b<=a))]):=by
 have hla:=cd (dg a);have hba:=jI (a:=a) hi;have hlb:=cd (dg b);have hbb:=jI (a:=b) hj;refine fn func197 J J ntmps197 J J (fun C=>?_);refine cl J (Rh (a:=a) (b:=b) hi hj) J<|br J J J (fun hc9=>?_) (fun hc9=>?_)
 .
  exact rz J (by rw[show a-b=0 by have:=Bj (a:=a) (b:=b);omega,decide_eq_false okT,me];rfl)
 .
  refine cl J (qI) J<|cl J (qI) J<|cl J (aIL okT hi hj) J<|rz J (by rw[decide_eq_true okT];rfl)
def yX{a b ia ib:Nat}[h:BN a ia][k:BN b ib](hi:ia<=1000000000:=by decide)(hj:ib<=1000000000:=by decide):PF GB prog 133 [dN a,dN b] (dN (a*b)):=by
 have hla:=cd (dg a);have hba:=jI (a:=a) hi;have hlb:=cd (dg b);have hbb:=jI (a:=b) hj;refine fn func133 J J ntmps133 J J (fun C=>?_);refine cl J (qI) J<|cl (fu:=⟨8⟩) J (qI) J<|ah 16 (.d (vI ((dg a).length:Nat))) J oms<|gx (fu:=⟨2⟩) J<|ah 18 (.d (vI ((dg b).length:Nat))) J omM<|gx (fu:=⟨1⟩) J<|ah 19 (.d (vI ((dg a).length+(dg b).length:Nat))) J omj<|gx J<|mk (fu:=⟨8⟩) ((List.replicate ((dg a).length+(dg b).length) 0).map dU) J J omD J<|ah 22 (.d (vI ((dg a).length:Nat))) J oms<|gx J<|lp (X:=List Nat×Nat) (fun⟨W,i⟩=>[(0, .d (dN a)),(1, .d (dN b)),(5, .rw 20),(21, .d (dN a)),(22, .d (vI ((dg a).length:Nat))),(23, .d (vI (i:Nat)))]) (fun⟨W,i⟩=>[(20,some (.b 227 1 (W.map dU) true))]) (fun⟨W,i⟩=>W.length=(dg a).length+(dg b).length/\bB W/\i<=(dg a).length/\dv (W.take (i+(dg b).length))=dv ((dg a).take i)*b) (fun⟨W,i⟩=>(dg a).length-i) ⟨List.replicate ((dg a).length+(dg b).length) 0,0⟩ J ⟨omc, .replicate _,we,by rw[qU,z8];simp[dv]⟩ (fun _=>J) (fun⟨W,i⟩ hk=>?_)
 try dsimp only at hk⊢
 obtain⟨h1,h2,h3,h4⟩:=hk;refine br J J J (fun hc24=>?_) (fun hc24=>?_)
 .
  refine ix (fu:=⟨15⟩) _ J (fD) J<|ah 29 (.d (vI ((dg b).length:Nat))) J omM<|gx J<|lp (X:=List Nat×Nat×Nat) (fun⟨W2,c,k⟩=>[(0, .d (dN a)),(1, .d (dN b)),(5, .rw 20),(6, .d (vI (i:Nat))),(7, .d (dU ((dg a).getD i 0))),(8, .d (.v (.int .u64 (c:Nat)))),(21, .d (dN a)),(22, .d (vI ((dg a).length:Nat))),(23, .d (vI (i:Nat))),(28, .d (dN b)),(29, .d (vI ((dg b).length:Nat))),(30, .d (vI (k:Nat)))]) (fun⟨W2,c,k⟩=>[(20,some (.b 227 1 (W2.map dU) true))]) (fun⟨W2,c,k⟩=>W2.length=(dg a).length+(dg b).length/\bB W2/\c<4294967296/\k<=(dg b).length/\dv (W2.take (i+(dg b).length))+4294967296^(i+k)*c=dv ((dg a).take i)*b+(dg a).getD i 0*(4294967296^i*dv ((dg b).take k))) (fun⟨W2,c,k⟩=>(dg b).length-k) ⟨W,0,0⟩ J ⟨h1,h2,we,we,by rw[h4];simp[dv]⟩ (fun _=>J) (fun⟨W2,c,k⟩ hk=>?_)
  try dsimp only at hk⊢
  obtain⟨g1,g2,g3,g4,g5⟩:=hk;have hlw:=cd W2;have hw:=g2.get (i+k);have hda:=fj a i;have hdb:=fj b k;refine br (fu2:=⟨10⟩) J J J (fun hc31=>?_) (fun hc31=>?_)
  .
   refine ix (fu:=⟨13⟩) (hv:=by simp only[ae];exact⟨⟨we,we⟩,⟨(AP _ _),(Bh (fj _ _) (fj _ _))⟩⟩) _ J (fD) J<|?_;obtain⟨p,hp⟩: ∃p,p=(dg a).getD i 0*(dg b).getD k 0:=⟨_,rfl⟩;have hp1:p<=18446744065119617025:=hp▸CS hda hdb;refine ah 40 (.d (.v (.int .u64 (p:Nat)))) J (by rw[hp,iY])<|gx J<|lb (fu:=⟨3⟩) _ J (dm (k:=i+k)) J<|?_;obtain⟨t,ht⟩: ∃t,t=p+W2.getD (i+k) 0+c:=⟨_,rfl⟩;refine ah 49 (.d (.v (.int .u64 (t:Nat)))) J (omi we)<|gx (fu:=⟨11⟩) J<|ah 55 (.d (dU (t%4294967296))) J omj<|gx J<|sb (fu:=⟨5⟩) (hv:=by simp only[ae];exact oma) _ ((W2.set (i+k) (t%4294967296)).map dU) J (dm (k:=i+k)) J (by(rw[show((i:Int)+k).toNat=i+k by omega,<-ku])<;>rfl) J<|ah 58 (.d (.v (.int .u64 (t/4294967296:Nat)))) J okn<|gx J<|at_ ⟨W2.set (i+k) (t%4294967296),t/4294967296,k+1⟩ okg
  .
   obtain rfl:k=(dg b).length:=by omega
   refine ah 63 (.d (vI ((dg b).length:Nat))) J omM<|gx (fu:=⟨3⟩) J<|ah 66 (.d (dU c)) J (omi we)<|gx J<|sb _ ((W2.set (i+(dg b).length) c).map dU) J (dm (k:=i+(dg b).length)) J (by(rw[show((i:Int)+((dg b).length:Nat)).toNat=i+(dg b).length by omega,<-ku])<;>rfl) J<|at_ ⟨W2.set (i+(dg b).length) c,i+1⟩ okF
 .
  obtain rfl:i=(dg a).length:=by omega
  refine fz 20 J J<|cl J (uG (ds:=W)) J<|rz J (mi h2 oko)
def YG{h l y:Nat}(hh:h<y)(hl:l<4294967296)(hy:y<4294967296):PF GB prog 200 [.v (.int .u32 (h:Int)), .v (.int .u32 (l:Int)), .v (.int .u32 (y:Int))] (.tp [dU ((h*4294967296+l)/y),dU ((h*4294967296+l)%y)]):=by
 refine fn (fu:=⟨11⟩) func200 J J ntmps200 J J (fun C=>?_);refine kT 10 J we<|gx (fu:=⟨4⟩) J<|kF 14 J we<|gx (fu:=⟨11⟩) (hv:=by simp only[ae];exact⟨we,oma⟩) J<|ah 19 (.d (.v (.int .u64 (h*2^32:Nat)))) J omq<|gx (fu:=⟨3⟩) J<|ah 22 (.d (.v (.int .u64 (l+h*2^32:Nat)))) J (congrArg (fun z:Nat=>FX.d (.v (.int .u64 (z:Int)))) (by rw[BitVec.or_comm];exact rh 64 l h 32 hl omt)) ?_;obtain⟨t,ht⟩: ∃t,t=h*4294967296+l:=⟨_,rfl⟩;have hq:t/y<4294967296:=by rw[kQ we];have:=fV 4294967296 (show h+1<=y from hh);omega
 have hr:t%y<y:=dQ _ we;refine ah 22 (.d (.v (.int .u64 (t:Nat)))) J (by show FX.d (.v (.int _ _))= .d (.v (.int _ _));congr 3;rw[ht];omega)<|gx (hv:=by simp only[ae];exact⟨⟨⟨⟨we,⟨we,we,we⟩⟩,we⟩,⟨we,we⟩⟩,omd⟩) J<|rz J (by show DV.tp [.v (.int _ _), .v (.int _ _)]= .tp [.v (.int _ _), .v (.int _ _)];rw[<-ht,<-sJ,<-Int.natCast_emod];generalize t/y=q at*;generalize t%y=r at*;congr 4<;>(first|omega|(congr 3;omega)))
def U3{A r i b:Nat}(d:Nat)(hb:0<b):(A*4294967296+d)/b=A/b*4294967296+(A%b*4294967296+d)/b/\(A*4294967296+d)%b=(A%b*4294967296+d)%b:=by
 have h:=qM A b;have e:A*4294967296+d=(A%b*4294967296+d)+b*(A/b*4294967296):=by
  rw[<-cM,Nat.add_right_comm,<-dW,kX (A%b),h]
 rw[e,qX _ _ hb,qV];exact⟨kX _ _,J⟩
def OQ{ds:List Nat}{i:Nat}(h:i<ds.length):dv (ds.drop i)=dv (ds.drop (i+1))*4294967296+ds.getD i 0:=by
 rw[bU h,aJ,aZ h];simp only[dv,lW];omega
def Rb{W:List Nat}{i q:Nat}(h:i<W.length):dv ((W.set i q).drop i)=dv (W.drop (i+1))*4294967296+q:=by
 rw[OQ (by rw[aM];exact h),qY we,Cb h]
def XC{a b k:Nat}{W:List Nat}(hb:0<b)(hk:k<(dg a).length)(hl:W.length=(dg a).length)(h:dv (W.drop (k+1))=dv ((dg a).drop (k+1))/b):
  dv ((W.set k ((dv ((dg a).drop (k+1))%b*4294967296+(dg a).getD k 0)/b)).drop k)=dv ((dg a).drop k)/b/\dv ((dg a).drop k)%b=(dv ((dg a).drop (k+1))%b*4294967296+(dg a).getD k 0)%b:=by
 have:=U3 (A:=dv ((dg a).drop (k+1))) (r:=0) (i:=0) ((dg a).getD k 0) hb;rw[Rb we,h,OQ hk,this.1,this.2];exact⟨J,J⟩
def y7{a b:Nat}:kj a b<0↔a<b:=by unfold kj;split<;>(try split)<;>omega
def AN{a b:Nat}:0<kj a b↔b<a:=by unfold kj;split<;>(try split)<;>omega
def IS{x:Nat}(hx:x<4294967296):PF GB prog 206 [dU x] (vI (32-(bl x:Int))):=by
 intro G vs hg hv;obtain⟨v,m,rfl,h1,h2⟩:=bO.1 hv;rw[gw] at h2;subst h2;rw[bE.1 h1];exact(Zq hx).mono fun v G' _ h=>bE.2 h
def Mj{a k:Nat}(h:4294967296^k<=a):k<(dg a).length:=by
 have h1:=tI a;rcases jX k (dg a).length with q|q
 .exact q
 .have:4294967296^(dg a).length<=4294967296^k:=cY oma q
  omega
def Rm{v L:Nat}(hL:L=(dg v).length)(h1:1<=L):(dg v).getD (L-1) 0=v/4294967296^(L-1)/\0<v/4294967296^(L-1):=by
 have h:=EM (ij v) (L-1);rw[r4 (by omega:(dg v).length<=L-1+1),dG,tZ,gW] at h;have h2:=tI v;rw[<-hL] at h2;rw[lT (show v<4294967296^(L-1+2) from eY h2 (cY oma we)),tZ,gW] at h;have h3:=xl (i8 v).2.2 (by intro e;rw[e] at hL;simp at hL;omega);rw[dG,<-hL] at h3;exact⟨h.symm,Nat.div_pos h3 (gL oma)⟩
def Hf{R n:Nat}(h1:1<=n)(h:R<4294967296^(n+1)):R/4294967296^(n-1)=(dg R).getD (n-1) 0+(dg R).getD n 0*4294967296:=by
 have e:=EM (ij R) (n-1);rw[dG,show n-1+1=n by omega,lT (show R<4294967296^(n-1+2) by rwa [show n-1+2=n+1 by omega]),tZ,gW,cK] at e;exact e
def Uw{R v j L:Nat}(hL:L=(dg v).length)(h1:1<=L)(hR:R<v*4294967296^(j+1)):R/(v*4294967296^j)<=min (R/4294967296^(L+j-1)/(v/4294967296^(L-1))) 4294967295:=by
 have ht:=(Rm hL h1).2;have hp:0<4294967296^j:=gL oma;have hv0:0<v:=by
  rcases fW v with q|q
  .subst q;simp at ht
  .exact q
 have hvp:0<v*4294967296^j:=gM hv0 hp;refine Nat.le_min.2 ⟨?_,?_⟩
 .rw[sZ ht,sZ (gL oma)]
  have h3:v/4294967296^(L-1)*4294967296^(L-1)<=v:=Nat.div_mul_le_self _ _;have h4:R/(v*4294967296^j)*(v*4294967296^j)<=R:=Nat.div_mul_le_self _ _;rw[show L+j-1=L-1+j by omega,fN]
  calc R/(v*4294967296^j)*(v/4294967296^(L-1))*(4294967296^(L-1)*4294967296^j)
    =R/(v*4294967296^j)*((v/4294967296^(L-1)*4294967296^(L-1))*4294967296^j):=by simp only[cM]
   _<=R/(v*4294967296^j)*(v*4294967296^j):=fV _ (bR _ h3)
   _<=R:=h4
 .have:R/(v*4294967296^j)<4294967296:=by
   rw[kQ hvp];rw[iQ] at hR;rwa [cK,cM]
  omega
def Fe{R V g:Nat}(hV:0<V)(h:R<V*g):R/V<g:=by
 rw[kQ hV,cK];exact h
def aBo{R V g:Nat}(hV:0<V)(h1:R/V<=g)(h2:V*g<=R):g=R/V:=by
 have:g<=R/V:=by rw[sZ hV,cK];exact h2
 omega
def RX{R0 R v j g:Nat}{W:List Nat}(hj:j<W.length)(h:R0=R+dv (W.drop (j+1))*4294967296^(j+1)*v)(hv:0<v*4294967296^j)(hg:g=R/(v*4294967296^j)):
  R0=(R-v*4294967296^j*g)+dv ((W.set j g).drop j)*4294967296^j*v/\R-v*4294967296^j*g<v*4294967296^j:=by
 have h1:=qM R (v*4294967296^j);have h2:=dQ R hv;rw[<-hg] at h1;refine⟨?_,we⟩;rw[Rb hj,dW,dW,h,iQ];have e:g*4294967296^j*v=v*4294967296^j*g:=by simp only[cM,oQ,cK]
 have e2:dv (W.drop (j+1))*(4294967296^j*4294967296)*v=dv (W.drop (j+1))*4294967296*4294967296^j*v:=by simp only[cM,oQ,cK]
 rw[e,e2];omega
def Wq{a b s R:Nat}{D:Nat}(hR:R<b*2^s)(h:a*2^s=R+D*(b*2^s)):D=a/b/\R/2^s=a%b:=by
 have hp:0<2^s:=gL oma;have hb:0<b:=by
  rcases fW b with q|q
  .subst q;simp at hR
  .exact q
 have h1:a=R/2^s+D*b:=by
  have:=congrArg (· /2^s) h;rw[Nat.mul_div_cancel _ hp,<-cM,Nat.add_mul_div_right _ _ hp] at this;exact this
 have h2:R/2^s<b:=by rw[kQ hp];exact hR
 have h3:R/2^s+b*D=a:=by rw[cK b];exact h1.symm
 have:=(Nat.div_mod_unique hb).2 ⟨h3,h2⟩;exact⟨this.1.symm,this.2.symm⟩
def ZB{a b s:Nat}(hl:(dg b).length<=(dg a).length)(h2:1<=(dg b).length):a*2^s<b*2^s*4294967296^((dg a).length-(dg b).length+1):=by
 have h1:=tI a;have h3:=xl (i8 b).2.2 (by intro e;rw[e] at h2;simp at h2);rw[dG] at h3;have h4:4294967296^(dg a).length<=b*4294967296^((dg a).length-(dg b).length+1):=by
  rw[show(dg a).length=((dg b).length-1)+((dg a).length-(dg b).length+1) by omega,fN];rw[show(dg b).length-1+((dg a).length-(dg b).length+1)-(dg b).length+1=(dg a).length-(dg b).length+1 by omega];exact bR _ h3
 rw[rQ];exact mN (eY h1 h4) (gL oma)
def Of(x j:Nat):x*2^(32*j)=x*4294967296^j:=by rw[tY]
def aEs{R L j:Nat}(h:R<4294967296^(L+j+1))(h1:1<=L):R/4294967296^(L+j-1)<18446744073709551616:=by
 rw[kQ (gL oma),show(18446744073709551616:Nat)=4294967296^2 from J,<-fN];rwa [show 2+(L+j-1)=L+j+1 by omega]
def aBu{R v j L:Nat}(hL:L=(dg v).length)(hR:R<v*4294967296^(j+1)):R<4294967296^(L+j+1):=by
 have h:=tI v;rw[<-hL] at h;rw[kM,fN];exact eY hR (bR _ (mX h))
def U7{a b ia ib:Nat}[ha:BN a ia][hb:BN b ib](hi:ia<=500000000)(hj:ib<=500000000)(h2:1<=(dg b).length)(hl:(dg b).length<=(dg a).length):PF GB prog 201 [dN a,dN b] (.tp [dN (a/b),dN (a%b)]):=by
 have hla:=cd (dg a);have hlb:=cd (dg b);have hba:=n9 ha.h;have hba':(dg a).length<=20000000:=by omega
 refine fn func201 J J ntmps201 J J (fun C=>?_);refine ix _ J (dm (k:=(dg b).length-1)) J<|cl (fu:=⟨0⟩) J (IS (fj b ((dg b).length-1))) J<|?_;obtain⟨s,hs⟩: ∃s:Nat,s=32-bl ((dg b).getD ((dg b).length-1) 0):=⟨_,rfl⟩;have hs32:s<=32:=by omega
 refine ah 22 (.d (vI (s:Nat))) J (by show FX.d (.v (.int _ _))= .d (.v (.int _ _));congr 3;have:=ph.2 (show(dg b).getD ((dg b).length-1) 0<2^32 from fj b _);omega)<|gx J<|cl J (DX (a:=b) (k:=s) (ia:=ib) we we) J<|cl (fu:=⟨0⟩) J (DX (a:=a) (k:=s) (ia:=ia) we we) J<|?_;obtain⟨v,hv⟩: ∃v,v=b*2^s:=⟨_,rfl⟩;obtain⟨R0,hR0⟩: ∃R0,R0=a*2^s:=⟨_,rfl⟩;refine ah 25 (.d (dN v)) J (by rw[hv])<|ah 28 (.d (dN R0)) J (by rw[hR0]) ?_;obtain⟨L,hL⟩: ∃L,L=(dg v).length:=⟨_,rfl⟩;have hlv:((dg v).map dU).length=L:=by rw[cd,hL]
 have hps:2^s<=2^32:=cY oma hs32;have hpp:0<2^s:=gL oma;have hst:=ZB (a:=a) (b:=b) (s:=s) hl h2;rw[<-hv,<-hR0] at hst;have hvb:v<2^(ib+32):=by rw[hv,fN];exact nV hb.h hps oma
 have hRb:R0<2^(ia+32):=by rw[hR0,fN];exact nV ha.h hps oma
 have hbp:0<b:=jM (fun q=>by subst q;rw[vX] at h2;simp at h2);have hvp:0<v:=hv▸gM hbp hpp;have hLp:1<=L:=by rw[hL];exact Mj (k:=0) (by rw[tK];exact hvp)
 have htop:=Rm hL hLp;haveI hvB:BN v (ib+32):=⟨hvb⟩;have hLb:=n9 hvb;have hLb':L<=20000000:=by omega
 have htl:=fj v (L-1);refine gx (fu:=⟨9⟩) J<|ah 31 (.d (vI (L:Nat))) J (by rw[hlv];rfl)<|gx J<|ix (fu:=⟨2⟩) _ J (dm (k:=L-1)) J<|ah 35 (.d (.v (.int .u64 (v/4294967296^(L-1):Nat)))) J (by rw[htop.1]) ?_;rw[htop.1] at htl;refine gx (fu:=⟨11⟩) J<|?_;obtain⟨m,hm⟩: ∃m,m=(dg a).length-(dg b).length+1:=⟨_,rfl⟩;rw[<-hm] at hst;have hrl:(List.replicate ((m:Nat):Int).toNat (DV.v (.int .u32 0))).length=m:=by rw[aU,dR]
 refine ah 41 (.d (vI (m:Nat))) J (omi we)<|gx J<|mk ((List.replicate m 0).map dU) J J omD J<|lp (X:=List Nat×Nat×Nat) (fun⟨W,R,k⟩=>[(6, .d (vI (s:Nat))),(7, .d (dN v)),(8, .d (dN R)),(9, .d (.v (.int .u64 (v/4294967296^(L-1):Nat)))),(10, .rw 42),(11, .d (vI ((k:Nat)-1)))]) (fun⟨W,R,k⟩=>[(42,some (.b 227 1 (W.map dU) true))]) (fun⟨W,R,k⟩=>W.length=m/\bB W/\k<=m/\R0=R+dv (W.drop k)*4294967296^k*v/\R<v*4294967296^k/\R<=R0) (fun⟨W,R,k⟩=>k) ⟨List.replicate m 0,R0,m⟩ J ⟨omc, .replicate _,bV _,by simp[dv],hst,bV _⟩ (fun _=>J) (fun⟨W,R,k⟩ hk=>?_);dsimp only at hk⊢;obtain⟨h1,h2',h3,h4,h5,h6⟩:=hk;have hlw:=cd W;refine br (fu1:=⟨10⟩) J J J (fun hc47=>?_) (fun hc47=>?_)
 .
  obtain⟨j,rfl⟩: ∃j,k=j+1:=⟨k-1,we⟩;have hvj:0<v*4294967296^j:=gM hvp (gL oma);have hge:=Uw hL hLp h5;have hlen:=aBu hL h5;have hlr:((dg R).map dU).length=(dg R).length:=cd _;haveI hRB:BN R (ia+32):=⟨we⟩;have hq32:R/(v*4294967296^j)<4294967296:=by omega
  have hz1:=rX (R/4294967296^(L+j-1));have hz2:=rX (R/4294967296^(L+j-1)/(v/4294967296^(L-1)));refine ah 11 (.d (vI (j:Nat))) J (omi we)<|mg (fu:=⟨6⟩) (hv:=fun _ _=>by simp only[ae];exact⟨we,(by have:=aEs hlen hLp;omega),we⟩) (X:=Unit) (fun _=>[(6, .d (vI (s:Nat))),(7, .d (dN v)),(8, .d (dN R)),(9, .d (.v (.int .u64 (v/4294967296^(L-1):Nat)))),(10, .rw 42),(11, .d (vI (j:Nat))),(12, .d (.v (.int .u64 (R/4294967296^(L+j-1):Nat))))]) (fun _=>[(42,some (.b 227 1 (W.map dU) true))]) (fun _=>True) [6,7,8,9,10,11,12] [42] rfl ?_ (fun _=>J) (fun _ hm=>?_)
  .
   refine gx (fu:=⟨4⟩) J<|ah 51 (.d (vI (L:Nat))) J (by rw[hlv];rfl)<|gx (fu:=⟨2⟩) J<|ah 53 (.d (vI (L+j:Nat))) J omj<|gx (fu:=⟨8⟩) J<|ah 56 (.d (vI ((dg R).length:Nat))) J (by rw[hlr];rfl)<|gx J<|br (fu2:=⟨6⟩) J J J (fun hc57=>?_) (fun hc57=>?_)
   .
    have hd0:=fj R (L+j-1);have hd1:=fj R (L+j);refine ix (hv:=by simp only[ae];exact⟨⟨we,oma⟩,we⟩) _ J (dm (k:=L+j)) J<|ix (fu:=⟨3⟩) _ J (dm (k:=L+j-1)) J<|ah 70 (.d (.v (.int .u64 ((dg R).getD (L+j-1) 0+(dg R).getD (L+j) 0*4294967296:Nat)))) J (congrArg (fun z:Nat=>FX.d (.v (.int .u64 (z:Int)))) (by rw[rI _ 32 oma omA J,BitVec.or_comm];exact rh 64 ((dg R).getD (L+j-1) 0) ((dg R).getD (L+j) 0) 32 hd0 omt))<|gx J<|ah 12 (.d (.v (.int .u64 (R/4294967296^(L+j-1):Nat)))) J (by rw[Hf we hlen])<|at_ () trivial
   .
    refine ah 74 (.d (vI ((dg R).length:Nat))) J (by rw[hlr];rfl)<|gx J<|br J J J (fun hc75=>?_) (fun hc75=>?_)
    .
     have hd0:=fj R (L+j-1);refine ix _ J (dm (k:=L+j-1)) J<|ah 12 (.d (.v (.int .u64 (R/4294967296^(L+j-1):Nat)))) J (by rw[Hf we hlen,r4 (by omega:(dg R).length<=L+j),kN,gW])<|at_ () trivial
    .
     refine ah 12 (.d (.v (.int .u64 (R/4294967296^(L+j-1):Nat)))) J (by rw[Hf we hlen,r4 (by omega:(dg R).length<=L+j),r4 (by omega:(dg R).length<=L+j-1)];rfl)<|at_ () trivial
  .
   obtain⟨g0,hg0'⟩: ∃g0,g0=min (R/4294967296^(L+j-1)/(v/4294967296^(L-1))) 4294967295:=⟨_,rfl⟩;rw[<-hg0'] at hge;have hg0:=hge;have hg1:g0<=4294967295:=by omega
   refine ah 85 (.d (.v (.int .u64 (g0:Nat)))) J (by show FX.d (.v (.int _ _))= .d (.v (.int _ _));congr 3;rw[<-sJ];split<;>omega)<|gx J<|cl J (uc (u:=g0)) J<|cl (fu:=⟨2⟩) J (tv (ia:=ib+32) (ib:=32) (hb:=⟨by show _<4294967296;omega⟩) we oma) J<|ah 91 (.d (vI (32*j:Nat))) J omj<|gx J<|cl (fu:=⟨0⟩) J (DX (k:=32*j) (ia:=ib+64) (ha:=⟨by rw[show ib+64=ib+32+32 by omega,fN];exact pJ hvb (by show _<4294967296;omega)⟩) we we) J<|ah 92 (.d (dN (v*4294967296^j*g0))) J (by rw[Of,rQ])<|gx J<|lp (X:=Nat) (fun g=>[(6, .d (vI (s:Nat))),(7, .d (dN v)),(8, .d (dN R)),(9, .d (.v (.int .u64 (v/4294967296^(L-1):Nat)))),(10, .rw 42),(11, .d (vI (j:Nat))),(14, .d (.v (.int .u64 (g:Nat)))),(15, .d (dN (v*4294967296^j*g)))]) (fun g=>[(42,some (.b 227 1 (W.map dU) true))]) (fun g=>R/(v*4294967296^j)<=g/\g<=4294967295) (fun g=>g) g0 J ⟨hg0,we⟩ (fun _=>J) (fun g hk=>?_);obtain⟨g1,g2⟩:=hk;have hlw:=cd W;refine cl J (AW (a:=v*4294967296^j*g) (b:=R) (by have:=AJ (a:=v*4294967296^j*g) (k:=L+j+1) (by have h1:=tI v;rw[<-hL] at h1;rw[iQ,fN];exact pJ (mN h1 (gL oma)) we);omega) (by have:=AJ hlen;omega)) J<|br (fu1:=⟨7⟩) (v1:=fun hc96=>by simp only[ae];exact(by have h:=Fe hvj (AN.1 hc96);have h1:1<=g:=gU (bS _) h;omega)) (fu2:=⟨11⟩) J J J (fun hc96=>?_) (fun hc96=>?_)
   .
    have hgd:=Fe hvj (AN.1 hc96);have hg1p:1<=g:=gU (bS _) hgd;refine ah 98 (.d (.v (.int .u64 ((g-1:Nat):Int)))) J (omi we)<|gx J<|cl J (uc (u:=g-1)) J<|cl (fu:=⟨2⟩) J (tv (ia:=ib+32) (ib:=32) (hb:=⟨by show _<4294967296;omega⟩) we oma) J<|ah 104 (.d (vI (32*j:Nat))) J omj<|gx J<|cl (fu:=⟨0⟩) J (DX (k:=32*j) (ia:=ib+64) (ha:=⟨by rw[show ib+64=ib+32+32 by omega,fN];exact pJ hvb (by show _<4294967296;omega)⟩) we we) J<|ah 105 (.d (dN (v*4294967296^j*(g-1)))) J (by rw[Of,rQ])<|gx J<|at_ (g-1) ⟨⟨by have h:=Fe hvj (AN.1 hc96);omega,we⟩,(by have:=Fe hvj (AN.1 hc96);omega)⟩
   .
    have hgq:=aBo hvj g1 (sV fun q=>hc96 (AN.2 q));refine ah 109 (.d (dU g)) J (omi we)<|gx J<|sb _ ((W.set j (R/(v*4294967296^j))).map dU) J (dm (k:=j)) J (by(rw[<-hgq,dR,<-ku])<;>rfl) J<|cl (fu:=⟨0⟩) J (HT (a:=R) (b:=v*4294967296^j*g) (ia:=ia+32) (by rw[hgq];exact Nat.mul_div_le _ _) we) J<|ah 113 (.d (dN (R-v*4294967296^j*(R/(v*4294967296^j))))) J (by rw[hgq])<|gx J<|at_ ⟨W.set j (R/(v*4294967296^j)),R-v*4294967296^j*(R/(v*4294967296^j)),j⟩ (by dsimp only;exact⟨⟨by simpa using h1,h2'.set _ we,we,(RX we h4 hvj J).1,(RX we h4 hvj J).2,we⟩,we⟩)
 .
  obtain rfl:k=0:=by omega
  rw[tK,lY] at h5;rw[tK,lY,gJ,hR0,hv] at h4;rw[hv] at h5;have hend:=Wq h5 h4;haveI hRB:BN R (ia+32):=⟨we⟩;refine fz 42 J J<|cl J (tq (ds:=W)) J<|cl J (aFv (a:=R) (k:=s) (ia:=ia+32) we we) J<|rz J (by show DV.tp [fm _,dN _]= .tp [dN _,dN _];rw[mi h2' hend.1,hend.2])
def YD{ds:List Nat}(hl:ds.length<=1125899906842624):PB GB prog 195 (e8 [none]) 1 227 (ds.map dU) (fun w=> .v (.slice w.a w.n w.c)) ((trimD ds).map dU):=by
 refine uF func195 J J ntmps195 J J (fun C=>?_);refine lp (fu:=⟨5⟩) (X:=List Nat) (fun W=>[(0, .rw 1000000)]) (fun W=>[(1000000,some (.b 227 1 (W.map dU) false))]) (fun W=>trimD ds=trimD W/\W.length<=ds.length) (fun W=>W.length) ds J ⟨J,bV _⟩ (fun _=>J) (fun W hk=>?_);obtain⟨h1,h2⟩:=hk;have hml:=cd W;refine ah 4 (.d (vI (W.length:Nat))) J omr<|gx J<|cs (fu1:=⟨3⟩) 6 J J J (fun hg6=>?_) (fun hg6=>?_)
 .
  refine ah 9 (.d (vI (W.length:Nat))) J omr<|gx J<|lb _ J (dm (k:=W.length-1)) J<|br (fu1:=⟨7⟩) J J J (fun hc14=>?_) (fun hc14=>?_)
  .
   refine ah 17 (.d (vI (W.length:Nat))) J omr<|gx (fu:=⟨1⟩) J<|ah 18 (.d (vI (W.length-1:Nat))) J (omi we)<|gx (fu:=⟨0⟩) J<|Jd ((W.take (W.length-1)).map dU) (W.length-1) J J (by rw[hml];omega) (by rw[gR]) J<|iE 19 1000000 J<|at_ (W.take (W.length-1)) ⟨⟨by rw[h1,MU],by rw[cR];omega⟩,(by rw[cR];omega)⟩
  .
   exact nB J J J (by rw[h1,EY (fun _=>by omega)])
 .
  exact nB J J J (by rw[h1,EY (fun _=>by omega)])
def Yt{a:Nat}(h:0<(dg a).length):bl a=32*((dg a).length-1)+bl ((dg a).getD ((dg a).length-1) 0):=by
 have:=aJ2 (ij a) (i8 a).2.2 (fun e=>by rw[e] at h;exact absurd h oma);rwa [dG] at this
def Bp{a:Nat}(h:(dg a).length=0:=by omega):a=0:=by rw[<-dG a,cW h];rfl
def wE{a i:Nat}[h:BN a i](hi:i<=1000000000:=by decide):PF GB prog 160 [dN a] (vI (bl a:Nat)):=by
 have hla:=cd (dg a);have hba:=jI (a:=a) hi;have hbl:bl ((dg a).getD ((dg a).length-1) 0)<=32:=ph.2 (fj a _);refine fn func160 J J ntmps160 J J (fun C=>?_);refine cl (fu:=⟨8⟩) J (qI) J<|ah 6 (.d (vI ((dg a).length:Nat))) J oms<|gx J<|br (fu2:=⟨6⟩) J J J (fun hc7=>?_) (fun hc7=>?_)
 .
  exact rz J (by rw[Bp (a:=a)];rfl)
 .
  refine ah 9 (.d (vI ((dg a).length:Nat))) J oms<|gx (fu:=⟨4⟩) J<|ah 13 (.d (vI ((dg a).length:Nat))) J oms<|gx J<|ix _ J (dm (k:=(dg a).length-1)) J<|cl J (IS (fj a ((dg a).length-1))) J<|rz J (by show DV.v (.int _ _)=DV.v (.int _ _);have:=Yt (a:=a) we;congr 2;omega)
def Yb{a i:Nat}(h:a<18446744073709551616)(hi:i<(dg a).length):dv ((dg a).take i)<2^(32*i)/\dv ((dg a).take i)+(dg a).getD i 0*2^(32*i)=dv ((dg a).take (i+1))/\dv ((dg a).take (i+1))<18446744073709551616:=by
 have h1:=oH ((ij a).take i);rw[cR,iU we] at h1;have e:(2:Nat)^(32*i)=4294967296^i:=by rw[tY]
 have h2:=AY (dg a) (i+1);rw[dG] at h2;refine⟨by rw[e];exact h1,by rw[e,pE,cK],?_⟩;have:=bS (4294967296^(i+1)*dv ((dg a).drop (i+1)));omega
def aDR{a:Nat}(h:a<18446744073709551616):(dg a).length<=2:=by have:=n9 (u:=a) (k:=64) h;omega
def Be{a:Nat}(h:a<18446744073709551616):PF GB prog 165 [dN a] (.tp [.v (.int .u64 (a:Nat)),vB true]):=by
 have hla:=cd (dg a);have hl2:=aDR h;refine fn func165 J J ntmps165 J J (fun C=>?_);refine cl (fu:=⟨8⟩) J (qI) J<|ah 10 (.d (vI ((dg a).length:Nat))) J oms<|gx (fu:=⟨0⟩) J<|ew (fu:=⟨15⟩) J (omh we) J<|ah 13 (.d (vI ((dg a).length:Nat))) J oms<|gx J<|lp (X:=Nat) (fun i=>[(14, .d (vI (i:Nat))),(4, .d (.v (.int .u64 (dv ((dg a).take i):Nat))))]) (fun i=>[]) (fun i=>i<=(dg a).length) (fun i=>(dg a).length-i) 0 J (bS _) (fun _=>J) (fun i hk=>?_);refine br J J J (fun hc15=>?_) (fun hc15=>?_)
 .
  obtain⟨u1,u2,u3⟩:=Yb h (i:=i) we;have hda:=fj a i;refine ix (fu:=⟨12⟩) (hv:=by simp only[ae];exact⟨⟨we,we⟩,we⟩) _ J (fD) J<|ah 24 (.d (.v (.int .u64 ((dg a).getD i 0*2^(32*i):Nat)))) J (by show FX.d (.v (.int _ _))= .d (.v (.int _ _));rw[rI _ (32*i) we we])<|gx (fu:=⟨1⟩) J<|ah 25 (.d (.v (.int .u64 (dv ((dg a).take (i+1)):Nat)))) J (congrArg (fun z:Nat=>FX.d (.v (.int .u64 (z:Int)))) ((rh 64 _ _ (32*i) u1 (by rw[u2];exact u3)).trans u2))<|gx J<|at_ (i+1) ⟨we,we⟩
 .
  obtain rfl:i=(dg a).length:=by omega
  exact rz J (by rw[lF (bV _),dG];rfl)
def QM{ds:List Nat}{j:Nat}(h:j<ds.length):dv (ds.drop j)=ds.getD j 0+4294967296*dv (ds.drop (j+1)):=by
 rw[bU h,aJ,aZ h];rfl
def Vi{A W:List Nat}{j d r v:Nat}(hA:j<A.length)(hW:j<W.length)(hd:0<d)(h:dv (A.drop (j+1))=d*dv (W.drop (j+1))+r)(hv:v=A.getD j 0+r*4294967296):dv (A.drop j)=d*dv ((W.set j (v/d)).drop j)+v%d:=by
 have e1:dv ((W.set j (v/d)).drop j)=v/d+4294967296*dv (W.drop (j+1)):=by
  rw[QM (by rw[aM];exact hW),Cb hW,qY we]
 have h2:=qM v d;have e3:d*(v/d+4294967296*dv (W.drop (j+1)))=d*(v/d)+4294967296*(d*dv (W.drop (j+1))):=by rw[fY,oQ]
 rw[e1,QM hA,h,e3];omega
def UK{a d r:Nat}{W:List Nat}(h:a=d*dv W+r)(hr:r<d):dv W=a/d/\r=a%d:=by
 have:=(Nat.div_mod_unique (by omega:0<d)).2 ⟨show r+d*dv W=a by omega,hr⟩;exact⟨this.1.symm,this.2.symm⟩
def XX{a d i:Nat}[h:BN a i](hd:0<d)(hd2:d<4294967296)(hi:i<=1000000000:=by decide):PF GB prog 208 [dN a,dU d] (.tp [dN (a/d),dU (a%d)]):=by
 have hla:=cd (dg a);have hba:=jI (a:=a) hi;refine fn (fu:=⟨10⟩) func208 J J ntmps208 J J (fun C=>?_);refine ah 11 (.d (vI ((dg a).length:Nat))) J oms<|gx J<|mk (fu:=⟨13⟩) ((List.replicate (dg a).length 0).map dU) J J omD J<|ah 14 (.d (vI ((dg a).length:Nat))) J oms<|gx J<|lp (X:=List Nat×Nat×Nat) (fun⟨W,r,k⟩=>[(0, .d (dN a)),(1, .d (dU d)),(6, .rw 12),(7, .d (.v (.int .u64 (r:Nat)))),(8, .d (vI ((k:Nat)-1)))]) (fun⟨W,r,k⟩=>[(12,some (.b 227 1 (W.map dU) true))]) (fun⟨W,r,k⟩=>W.length=(dg a).length/\bB W/\r<d/\k<=(dg a).length/\dv ((dg a).drop k)=d*dv (W.drop k)+r) (fun⟨W,r,k⟩=>k) ⟨List.replicate (dg a).length 0,0,(dg a).length⟩ J ⟨omc, .replicate _,hd,bV _,by simp[dv]⟩ (fun _=>J) (fun⟨W,r,k⟩ hk=>?_)
 try dsimp only at hk⊢
 obtain⟨h1,h2,h3,h4,h5⟩:=hk;have hlw:=cd W;refine br (fu1:=⟨0⟩) J J J (fun hc17=>?_) (fun hc17=>?_)
 .
  obtain⟨j,rfl⟩: ∃m,k=m+1:=⟨k-1,we⟩;have hda:=fj a j;obtain⟨v,hv⟩: ∃v,v=(dg a).getD j 0+r*4294967296:=⟨_,rfl⟩;obtain⟨q,hq⟩: ∃q,q=v/d:=⟨_,rfl⟩;have hvq:q<4294967296:=by rw[hq,kQ hd,cK];have:=bR 4294967296 (show r+1<=d from h3);omega
  refine ah 8 (.d (vI (j:Nat))) J (omi we)<|gx (fu:=⟨8⟩) (hv:=by simp only[ae];exact oma) J<|ah 21 (.d (.v (.int .u64 (r*4294967296:Nat)))) J omq<|gx J<|ix (fu:=⟨3⟩) _ J (fD) J<|ah 27 (.d (.v (.int .u64 (v:Nat)))) J (congrArg (fun z:Nat=>FX.d (.v (.int .u64 (z:Int)))) ((congrArg BitVec.toNat (BitVec.or_comm ..)).trans ((rh 64 ((dg a).getD j 0) r 32 hda omt).trans hv.symm)))<|gx (fu:=⟨11⟩) J<|ah 33 (.d (.v (.int .u64 (q:Nat)))) J (by show FX.d (.v (.int _ _))= .d (.v (.int _ _));congr 3;rw[hq];rfl)<|gx (fu:=⟨1⟩) J<|ah 34 (.d (dU q)) J (omi we)<|gx J<|sb (fu:=⟨7⟩) _ ((W.set j q).map dU) J (fD) J oke J<|ah 39 (.d (.v (.int .u64 (v%d:Nat)))) J omj<|gx J<|at_ ⟨W.set j q,v%d,j⟩ (by dsimp only;exact⟨⟨by simpa using h1,h2.set _ hvq,dQ _ hd,we,by rw[hq];exact Vi we we hd h5 hv⟩,we⟩)
 .
  obtain rfl:k=0:=by omega
  obtain⟨e1,e2⟩:=UK (a:=a) (W:=W) (by rw[gJ,gJ,dG] at h5;exact h5) h3;refine fz 12 J J<|cl (fu:=⟨2⟩) J (uG (ds:=W)) J<|ah 43 (.d (dU r)) J (omi we)<|gx J<|rz J (by show DV.tp [fm _,dU _]= .tp [dN _,dU _];rw[mi h2 e1,<-e2])
def aDU{A W:List Nat}{k i x:Nat}(hk:k<32)(hl:i+1<W.length)(hx:x=A.getD i 0)(h:dv (W.take (i+1))=dv (A.take i)*2^k):dv (((W.set i (W.getD i 0+x*2^k%4294967296)).set (i+1) (x*2^k/4294967296)).take (i+1+1))=dv (A.take (i+1))*2^k:=by
 have:=ML (A:=A) (W:=W) (k:=k) (q:=0) (s:=k) (i:=i) (x:=x) we we we hx (by rw[fX];exact h);simpa only[fX] using this
def XG{a k n:Nat}{W:List Nat}(hn:n=(dg a).length)(hl:W.length=n)(h:dv (W.take n)=(a/2^k)%4294967296^n):dv W=a/2^k:=by
 rw[lF] at h;have h1:=tI a;have h2:=mU a (2^k);rw[h,dZ (by rw[hn];omega)]
def Uy{k:Nat}(h:k<32):(k:Int).tdiv 32=0:=Int.tdiv_eq_zero_of_lt we we
def LY{a k ia:Nat}[h:BN a ia](hk:k<32)(h0:0<(dg a).length)(hi:ia<=1000000000:=by decide):PR GB prog 228 [dN a, .v (.int .u64 (k:Nat))] 1 227 ((dg (a*2^k)).map dU):=by
 have hla:=cd (dg a);have hba:=jI (a:=a) hi;refine fnR (fu:=⟨8⟩) func228 J J ntmps228 J J (fun C hmb=>?_);refine cl (fu:=⟨2⟩) J (qI (a:=a)) J<|ah 14 (.d (.v (.int .u64 (k:Nat)))) J (omi we)<|gx (fu:=⟨9⟩) J<|ah 16 (.d (vI ((dg a).length:Nat))) J oms<|gx (fu:=⟨0⟩) J<|ew (fu:=⟨10⟩) J (omh we) J<|ah 20 (.d (vI (0:Nat))) J (by show FX.d (.v (.int _ _))= .d (.v (.int _ _));congr 3;have:=Uy hk;omega)<|gx (fu:=⟨2⟩) J<|ah 22 (.d (.v (.int .u64 (k:Nat)))) J (omi we)<|gx (fu:=⟨8⟩) J<|ah 24 (.d (vI ((dg a).length:Nat))) J oms<|gx (fu:=⟨3⟩) J<|ah 27 (.d (vI ((dg a).length+1:Nat))) J omj<|gx J<|mk (fu:=⟨8⟩) ((List.replicate ((dg a).length+1) 0).map dU) J J omD J<|ah 30 (.d (vI ((dg a).length:Nat))) J oms<|gx J<|lp (X:=List Nat×Nat) (fun⟨W,i⟩=>[(0, .d (dN a)),(1, .d (.v (.int .u64 (k:Nat)))),(5, .d (vI (0:Nat))),(6, .d (.v (.int .u64 (k:Nat)))),(7, .rw 28),(29, .d (dN a)),(30, .d (vI ((dg a).length:Nat))),(31, .d (vI (i:Nat)))]) (fun⟨W,i⟩=>[(28,some (.b 227 1 (W.map dU) true))]) (fun⟨W,i⟩=>W.length=(dg a).length+1/\bB W/\i<=(dg a).length/\dv (W.take (i+1))=dv ((dg a).take i)*2^k/\W.getD i 0<2^k) (fun⟨W,i⟩=>(dg a).length-i) ⟨List.replicate ((dg a).length+1) 0,0⟩ J ⟨omc, .replicate _,we,by rw[qU,z8];simp[dv],by rw[CE];exact gL oma⟩ (fun _=>J) (fun⟨W,i⟩ hk=>?_)
 try dsimp only at hk⊢
 obtain⟨h1,h2,h3,h4,h5⟩:=hk;have hlw:=cd W;have hda:=fj a i;have hpp:2^k<=2^31:=cY oma we;refine br J J J (fun hc32=>?_) (fun hc32=>?_)
 .
  refine ix (fu:=⟨11⟩) (hv:=by simp only[ae];exact⟨we,we⟩) _ J (fD) J<|?_;have hhi:=Ll hda hk;have hfit0:=K8 hda hk;have hor:=R4 (x:=(dg a).getD i 0) h5 hk;have hfit:W.getD i 0+(dg a).getD i 0*2^k%4294967296<4294967296:=by rw[<-hor];exact BitVec.isLt _
  have hlp:=KT ((dg a).getD i 0) k;refine ah 39 (.d (.v (.int .u64 ((dg a).getD i 0*2^k:Nat)))) J (by show FX.d (.v (.int _ _))= .d (.v (.int _ _));rw[rI _ k we hfit0]) ?_;obtain⟨t,ht⟩: ∃t,t=(dg a).getD i 0*2^k:=⟨_,rfl⟩;simp only[<-ht] at hhi hfit0 hor hfit hlp;rw[<-ht];refine gx (fu:=⟨9⟩) J<|ah 43 (.d (vI (i:Nat))) J omj<|gx J<|lb (fu:=⟨2⟩) _ J (fD) J<|ah 47 (.d (dU (t%4294967296))) J omj<|gx (fu:=⟨1⟩) J<|ah 48 _ J (congrArg (fun z:Nat=>FX.d (.v (.int .u32 (z:Int)))) hor)<|gx J<|sb (fu:=⟨7⟩) _ ((W.set i (W.getD i 0+t%4294967296)).map dU) J (fD) J (by simp only[dR,kJ]<;>rfl) J<|ah 53 (.d (vI (i:Nat))) J omj<|gx (fu:=⟨1⟩) J<|ah 54 (.d (vI (i+1:Nat))) J omj<|gx (fu:=⟨2⟩) (hv:=by simp only[ae];exact oma) J<|ah 56 (.d (.v (.int .u64 (t/4294967296:Nat)))) J okn<|gx (fu:=⟨1⟩) J<|ah 57 (.d (dU (t/4294967296))) J (omi we)<|gx J<|sb _ (((W.set i (W.getD i 0+t%4294967296)).set (i+1) (t/4294967296)).map dU) J (fD ozb) J (by simp only[dR,kJ]<;>rfl) J<|at_ ⟨(W.set i (W.getD i 0+t%4294967296)).set (i+1) (t/4294967296),i+1⟩ (by dsimp only;exact⟨⟨by simpa using h1,(h2.set _ hfit).set _ we,we,by have q:=aDU (x:=(dg a).getD i 0) hk we J h4;rw[<-ht] at q;exact q,by rw[Cb omo];exact hhi⟩,we⟩)
 .
  obtain rfl:i=(dg a).length:=by omega
  refine cq _ J (YD (ds:=W) we) J J<|?_;exact rzR J J J (by rw[<-Eq h2];have:=h4;rw[lF,lF,dG] at this;rw[this])
def aLb{ds:List Nat}{k:Nat}(hd:bB ds)(hl:ds.length<=100000000)(hk:k<32):PF GB prog 229 [fm ds, .v (.int .u64 (k:Nat))] (dN (dv ds/2^k)):=by
 obtain⟨a,ha⟩: ∃a,a=dv ds:=⟨_,rfl⟩;rw[<-ha];have hla:=cd (dg a);have hba:(dg a).length<=100000000:=by rw[ha,Eq hd];have:=av7 ds;omega
 refine fn func229 J J ntmps229 J J (fun C=>?_);refine cl (fu:=⟨0⟩) J (uG (ds:=ds)) J<|ah 11 (.d (dN a)) J (by rw[mi hd ha.symm])<|gx (fu:=⟨8⟩) J<|ah 13 (.d (.v (.int .u64 (0:Nat)))) J (omi we)<|gx (fu:=⟨2⟩) J<|ah 15 (.d (vI ((dg a).length:Nat))) J oms<|gx J<|br (fu2:=⟨7⟩) J J J (fun hc17=>?_) (fun hc17=>?_)
 .
  exact rz J (by rw[Bp (a:=a),Nat.zero_div,me];rfl)
 .
  refine ah 20 (.d (vI (0:Nat))) J (omi we)<|gx (fu:=⟨2⟩) J<|ah 22 (.d (.v (.int .u64 (k:Nat)))) J (omi we)<|gx (fu:=⟨8⟩) J<|ah 24 (.d (vI ((dg a).length:Nat))) J oms<|gx (fu:=⟨2⟩) J<|ah 26 (.d (vI ((dg a).length:Nat))) J omj<|gx J<|mk (fu:=⟨8⟩) ((List.replicate (dg a).length 0).map dU) J J omD J<|ah 29 (.d (vI ((dg a).length:Nat))) J (by rw[cd,aU]<;>rfl)<|gx J<|lp (X:=List Nat×Nat) (fun⟨W,i⟩=>[(0, .d (dN a)),(5, .d (vI (0:Nat))),(6, .d (.v (.int .u64 (k:Nat)))),(7, .rw 27),(29, .d (vI ((dg a).length:Nat))),(30, .d (vI (i:Nat)))]) (fun⟨W,i⟩=>[(27,some (.b 227 1 (W.map dU) true))]) (fun⟨W,i⟩=>W.length=(dg a).length/\bB W/\i<=(dg a).length/\dv (W.take i)=(a/2^k)%4294967296^i) (fun⟨W,i⟩=>(dg a).length-i) ⟨List.replicate (dg a).length 0,0⟩ J ⟨omc, .replicate _,we,by simp[dv,Nat.mod_one]⟩ (fun _=>J) (fun⟨W,i⟩ hk=>?_)
  try dsimp only at hk⊢
  obtain⟨h1,h2,h3,h4⟩:=hk;have hlw:=cd W;have hda:=fj a i;have hdb:=fj a (i+1);refine br (fu1:=⟨16⟩) J J J (fun hc31=>?_) (fun hc31=>?_)
  .
   refine ah 36 (.d (vI (i:Nat))) J omj<|gx J<|ix (fu:=⟨6⟩) _ J (fD) J<|mg (fu:=⟨6⟩) (hv:=fun _ _=>by simp only[ae];exact we) (X:=Unit) (fun _=>[(0, .d (dN a)),(5, .d (vI (0:Nat))),(6, .d (.v (.int .u64 (k:Nat)))),(7, .rw 27),(29, .d (vI ((dg a).length:Nat))),(30, .d (vI (i:Nat))),(8, .d (vI (i:Nat))),(9, .d (.v (.int .u64 ((dg a).getD i 0+(dg a).getD (i+1) 0*4294967296:Nat))))]) (fun _=>[(27,some (.b 227 1 (W.map dU) true))]) (fun _=>True) [0,5,6,7,29,30,8,9] [27] rfl ?_ (fun _=>J) (fun _ _=>?_)
   .
    refine gx (fu:=⟨5⟩) J<|ah 42 (.d (vI (i:Nat))) J omj<|gx (fu:=⟨1⟩) J<|ah 43 (.d (vI (i+1:Nat))) J omj<|gx (fu:=⟨2⟩) J<|ah 45 (.d (vI ((dg a).length:Nat))) J oms<|gx J<|br (fu1:=⟨6⟩) J J J (fun hc46=>?_) (fun hc46=>?_)
    .
     refine ah 51 (.d (vI (i:Nat))) J omj<|gx (fu:=⟨1⟩) J<|ah 52 (.d (vI (i+1:Nat))) J omj<|gx J<|ix (fu:=⟨3⟩) (hv:=by simp only[ae];exact⟨we,oma⟩) _ J (dm (k:=i+1)) J<|ah 56 (.d (.v (.int .u64 ((dg a).getD (i+1) 0*4294967296:Nat)))) J omq<|gx (fu:=⟨1⟩) J<|ah 57 _ J (congrArg (fun z:Nat=>FX.d (.v (.int .u64 (z:Int)))) (rh 64 ((dg a).getD i 0) ((dg a).getD (i+1) 0) 32 hda omt))<|gx J<|at_ () trivial
    .
     refine ah 9 (.d (.v (.int .u64 ((dg a).getD i 0+(dg a).getD (i+1) 0*4294967296:Nat)))) J (by rw[r4 (by omega:(dg a).length<=i+1),kN,gW])<|at_ () trivial
   .
    refine ah 62 (.d (.v (.int .u64 (((dg a).getD i 0+(dg a).getD (i+1) 0*4294967296)/2^k:Nat)))) J (by show FX.d (.v (.int _ _))= .d (.v (.int _ _));rw[SL _ k])<|gx (fu:=⟨1⟩) J<|?_;obtain⟨w,hw⟩: ∃w,w=((dg a).getD i 0+(dg a).getD (i+1) 0*4294967296)/2^k%4294967296:=⟨_,rfl⟩;have hw1:w<4294967296:=hw▸dQ _ oma;refine ah 63 (.d (dU w)) J (by show FX.d (.v (.int _ _))= .d (.v (.int _ _));congr 3;rw[hw];rfl)<|gx J<|sb _ ((W.set i w).map dU) J (fD) J oke J<|at_ ⟨W.set i w,i+1⟩ (by dsimp only;exact⟨⟨by simpa using h1,h2.set _ we,we,by rw[xE,h4];exact(NG hk (by have:=EM (ij a) i;rwa [dG] at this) hw).symm⟩,we⟩)
  .
   refine fz 27 J J<|cl rfl (uG (ds:=W)) rfl<|rz rfl (mi h2 (by obtain rfl:i=(dg a).length:=we;exact XG rfl h1 h4))
end Go.Sx
end
