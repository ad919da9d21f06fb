import Derived.Test.YtmhfhhiaecjhiaaGreatDoorBr17
import Derived.Shelf.SlSortCmp.NoneTotal
import Derived.Test.YtmhfhhiaecjhiaaGreatDoorProg
import Derived.Shelf.SlicesQ.Reverse
import Derived.RecoverIn
set_option linter.all false
set_option maxHeartbeats 4000000
set_option maxRecDepth 100000
section
namespace Go.Sx
open Go Go.Proofs Tryz
variable {GB:Gh}
def PE(GB:Gh)(P:Program)(f:FuncId)(ds:List DV)(d:DV)(rv:Value->DV):Prop:=
 ∀G vs,bD GB G->IsLs G ds vs->Fn P f vs G (fun v G'=> ∃u,Is G' d u/\Is G' (rv u) v)
section
variable {GB:Gh} {C:aC} {n:Nat} {Q0:Exit->Act->World->Prop} {fr fr':av} {own own':aF} {cf cf':Cf} {vc:List Prop} {ops:Array Oper} {r:List Oper} {K:List Kt} {dst:Option Nat} {ty:TypeId} {pos:String} {af:Array Edge}
def S8{P:Program}{lk:LK}{bk:BM}{fo:Operand}{args:Array Operand}{tys:Array TypeId}{f:FuncId}{ds:List DV}{d:DV}{rv:Value->DV}(ha:qt lk fo args=some (f,ds))(hF:PE GB P f ds d rv)(hd:cg n dst=true)
  {Q:Exit->Act->World->Prop}{ops:Array Oper}(hk: ∀GB' u,bD GB GB'->Is GB' d u->SX GB' C n (dO lk dst (.d (rv u))) bk (wpListIn (FW C.rd) 0 P ops Q r)):SX GB C n lk bk (wpListIn (FW C.rd) 0 P ops Q (⟨dst, .call ⟨.value fo,args,tys⟩,ty,pos,af,none⟩::r)):=by
 refine⟨fun ρ G ov a w rl0=>?_⟩;obtain⟨h1,h2⟩:=yB ha;obtain⟨y,hy,hy'⟩:=rl0.ev h1;rw[(aP (G:=G)).1 hy'] at hy;obtain⟨vs,h3,h4⟩:=rl0.evDs h2;have hch:=zC (n:=n) (dst:=dst) (tys:=tys) (ty':=ty) (pos:=pos) (af:=af) (gd:=none) (Φ:=fun a w=>a.defers=C.mks/\wpListIn (FW C.rd) 0 P ops Q r a w) hy h3 (hF G vs rl0.gb h4) hd (fun v G' hG hK a' w' rl=>by
  obtain⟨x,hu,hx⟩:=hK;exact⟨rl.df,(hk G' x (rl0.gb.trans hG.le) hu).run ρ G' ov a' w' ⟨bD.refl _,rl.h,rl.sz,rl.df,(jz rl).fx (fun k g _ e=>by obtain⟨u,h5,h6⟩:=rl0.fx k g e;exact⟨u,h5,h6.up hG.le⟩) hx,
   fun nm B e=>by obtain⟨os,h5,h6⟩:=rl0.bx nm B e;exact⟨os,h5.up hG.le,h6⟩,rl0.dj,rl0.fxd⟩⟩)
 have:=fun Q=>hch a w Q ⟨rl0.h,rl0.sz,c6 a,rl0.df⟩;simp only[wpListIn,Region.wanted,if_true];exact Aj this fun a' w' k=>⟨k.1.trans rl0.df.symm,k.2⟩
def cE[fu:Fu]{fo:Operand}{args:Array Operand}{tys:Array TypeId}{f:FuncId}{ds:List DV}{d:DV}{rv:Value->DV}{vc:Value->List Prop}{fr':Value->av}{own':Value->aF}{cf':Value->Cf}(ha:qt (bi fr) fo args=some (f,ds))(hF:PE GB prog f ds d rv)
  (hgo: ∀x,cv tt n fu.n fr own (.ops ops (⟨dst, .call ⟨.value fo,args,tys⟩,ty,pos,af,none⟩::r) K) (.d (rv x)) [] []=⟨vc x,fr' x,own' x,cf' x⟩)(k: ∀GB' x,bD GB GB'->Is GB' d x->ak prog GB' C n Q0 (fr' x) (own' x) (cf' x))
  (hd:cg n dst=true:=by rfl)(hv: ∀x,aj (vc x):=by intro;first|exact trivial|(simp only[aj];kernel_rfl)|(simp only[aj];omega)):ak prog GB C n Q0 fr own (.ops ops (⟨dst, .call ⟨.value fo,args,tys⟩,ty,pos,af,none⟩::r) K):=by
 refine S8 ha hF hd fun GB' x hg hx=>?_;have h1:=hgo x;unfold cv at h1;simp only[qA,List.all_nil,hd,Bool.and_true,cond_true,oO,wz] at h1;have:=ew (GB:=GB') (C:=C) (Q0:=Q0) h1 (hv x) (k GB' x hg hx);show SX GB' C n _ _ _;rw[<-AS];exact this
def vQ[fu:Fu]{f:FuncId}{fb:Func}{c:Code}{m:Nat}{ds:List DV}{d:DV}{rv:Value->DV}(hf:prog.funcs[f]? =some fb)(hb:fb.body=some c)(hn:(fb.name== "runtime.NumGoroutine")=false)(hm:fb.ntmps=m)(hlen:Nat.ble ds.length m=true)
  (hgo:go tt m fu.n [] (mP 0 ds) [] (.code c [])=⟨vc,fr,own,cf⟩)(k: ∀C:aC,ak prog GB C m (eH C prog fb (fP C (fun v G'=> ∃u,Is G' d u/\Is G' (rv u) v))) fr own cf)
  (hv:autoParam (aj vc) cL._auto_1):PE GB prog f ds d rv:=by
 intro G vs hg hvs;refine Fn.introR hf hb hn hm (by rw[hvs.len];exact hlen) fun C _ _ hrd hfx=>?_;intro a w rl;refine tk hrd ?_;have h:=ew (GB:=GB) (C:=C) (Q0:=eH C prog fb (fP C (fun v G'=> ∃u,Is G' d u/\Is G' (rv u) v))) hgo hv (k C);exact h.run (fun _=>⟨none,0,0⟩) G [] a w ⟨hg,rl.h,rl.sz,rl.df,(fun k f e=>rp hvs rl.fr k f e),(fun nm B e=>by cases e),(fun nm nm' B B' e=>by cases e),fun nm p _ _ e=>by rw[hfx] at e;cases e⟩
def wQ{fb:Func}{e:Exit}{ds:List DV}{d:DV}{rv:Value->DV}(u:Value)(hu:Is GB d u)(hr:mF tt fr own fb.results.toList=some ds)(hd:gm ds=rv u)(he:uH e=true:=by rfl):ak prog GB C n (eH C prog fb (fP C (fun v G'=> ∃u,Is G' d u/\Is G' (rv u) v))) fr own (.ex e []):=by
 refine⟨fun ρ G ov a w r=>?_⟩;obtain⟨vs,h1,h2⟩:=uF r hr;have hk: ∃u,Is G d u/\Is G (rv u) (kH vs):=⟨u,hu.up r.gb,hd▸uY h2⟩
 cases e with
 |ret=>exact zD (C:=C) (n:=n) (fr:=cC a) (own:=ov) (G:=G) (K:=fun v G'=> ∃u,Is G' d u/\Is G' (rv u) v) h1 hk a w ⟨r.h,r.sz,c6 a,r.df⟩
 |normal=>exact Gs (C:=C) (n:=n) (fr:=cC a) (own:=ov) (G:=G) (K:=fun v G'=> ∃u,Is G' d u/\Is G' (rv u) v) h1 hk a w ⟨r.h,r.sz,c6 a,r.df⟩
 |_=>cases he
def ZL{lk:LK}{bk:BM}{gd:Option (Nat×Bool)}{t:TypeId}{x:Operand}{l:List DV}(ht:wo t)(hx:aI lk x=some (.d (.pt l))):b7 prog GB C n lk bk ⟨dst, .makeInterface t x,ty,pos,af,gd⟩ (.ip t (.pt l)) [] []:=
 b7.yd fun ρ G ov a w r=>by
  obtain⟨y,hy,hy'⟩:=r.ev hx;refine⟨_,⟨y,J,hy'⟩,fun a' w' hf _=>?_⟩;refine cI (f:=Next.value) ?_;rw[bz hf hy];exact ht _ _
def JM(fr:av)(cf:Cf):Option (TypeId×List DV):=match b8 fr cf with
 |some ⟨_, .makeInterface t x,_,_,_,_⟩=>match aI (bw fr cf) x with
  |some (.d (.pt l))=>some (t,l)
  |_=>none
 |_=>none
def C6[fu:Fu]{t:TypeId}{l:List DV}(ha:JM fr cf=some (t,l))(ht:wo t)(hgo:cv tt n fu.n fr own cf (.ip t (.pt l)) [] []=⟨vc,fr',own',cf'⟩)(k:ak prog GB C n Q0 fr' own' cf')
  (hv:autoParam (aj vc) cL._auto_1):ak prog GB C n Q0 fr own cf:=by
 unfold JM at ha;split at ha<;>try (cases ha;done)
 rename_i hh;split at ha<;>cases ha;rename_i hx;exact us hh (ZL ht hx) hgo hv k
def H0(nm:Nat){t ty:TypeId}{l:List DV}{lo:Bool}{e:Exit}(hl:bu own nm=some (.o ty [.ip t (.pt l)] lo))(h: ∀(GB':Gh) (u:Value),bD GB GB'->Is GB' (.pt l) u->ak prog GB' C n Q0 fr ((nm,some (.o ty [.d (.v (.iface t u))] lo))::own) (.ex e K)):ak prog GB C n Q0 fr own (.ex e K):=by
 refine⟨fun ρ G ov a w r0=>?_⟩;obtain⟨os,⟨b,m,hb,rfl,hm⟩,h2⟩:=r0.bx nm _ hl;obtain⟨y,m',rfl,⟨u,rfl,hu⟩,hm'⟩:=hm;refine(h G u r0.gb hu).run ρ G ov a w ⟨bD.refl _,r0.h,r0.sz,r0.df,r0.fx,fun k B e=>?_,fun k k' B B' e e' hne=>?_,r0.fxd⟩
 .rw[jg] at e
  split at e
  .rename_i hj
   cases e;subst hj
   exact⟨_,⟨b,_,hb,J,_,m',J,(aP (G:=G)).2 J,hm'⟩,h2⟩
  .exact r0.bx k B e
 .have f: ∀(j:Nat) (B:Bk),bu ((nm,some (.o ty [.d (.v (.iface t u))] lo))::own) j=some B-> ∃B0,bu own j=some B0:=fun j B e=>by
   rw[jg] at e;split at e
   .rename_i hj;exact⟨_,hj▸hl⟩
   .exact⟨_,e⟩
  obtain⟨B1,e1⟩:=f k B e;obtain⟨B2,e2⟩:=f k' B' e';exact r0.dj k k' B1 B2 e1 e2 hne
end
def z6:wo 156:=fun x w=>by kernel_rfl
def q7(u:Value):DV:= .v (.iface 156 u)
def qj(a:Addr)(s:Value):DV:= .pt [lC a,vI 0,vI 0, .v s]
def nD{a:Addr}{s u:Value}(h:Is GB (qj a s) u):PF GB prog 13 [q7 u,lC a] (.v (.bool true)):=by
 intro G vs hg hv;obtain⟨v1,m,rfl,h1,hm⟩:=bm.1 hv;obtain⟨v2,m,rfl,h2,hm⟩:=bm.1 hm;rw[ck] at hm;subst hm
 cases aP.1 h1;cases aP.1 h2
 obtain⟨b,cs,rfl,hb,hc⟩:=l7.1 (h.up hg);obtain⟨y,t,rfl,hy,_⟩:=bm.1 hc
 cases aP.1 hy
 refine⟨OE,fun w hw=>(U2 b 0 a w ?_).mono fun e w' ⟨he,hww⟩=>⟨_,G,he,by
  subst hww;exact⟨J,J,J,bQ _,fun _ _ _=>J,hw,bD.refl _,fun _ _=>J,fun o ho=>(by cases ho), .nil,bQ _,fun p hp=>by cases hp⟩,aP.2 J⟩⟩
 obtain⟨ty,fz,hw2⟩:=hw b _ hb;simp[World.cell?,hw2]
section
variable {GB:Gh} {C:aC} {n:Nat} {Q0:Exit->Act->World->Prop} {fr fr':av} {own own':aF} {cf cf':Cf} {vc:List Prop}
def Mg(fr:av)(cf:Cf):Option (ByteArray×ByteArray):=match b8 fr cf with
 |some ⟨_, .binOp .add _ x y _,_,_,_,_⟩=>match aI (bw fr cf) x,aI (bw fr cf) y with
  |some (.d (.v (.string p))),some (.d (.v (.string q)))=>some (p,q)
  |_,_=>none
 |_=>none
def Ao[fu:Fu]{p q:ByteArray}(h:Mg fr cf=some (p,q))(hs:p.size+q.size<=1000000)(hgo:cv tt n fu.n fr own cf (.d (.v (.string (p++q)))) [] []=⟨vc,fr',own',cf'⟩)(k:ak prog GB C n Q0 fr' own' cf')
  (hv:autoParam (aj vc) cL._auto_1):ak prog GB C n Q0 fr own cf:=by
 unfold Mg at h;split at h<;>try (cases h;done)
 rename_i hh;split at h<;>cases h;rename_i h1 h2;exact us hh (.yd fun ρ G ov a w r=>by
  obtain⟨y1,hy1,hz1⟩:=r.ev h1;obtain⟨y2,hy2,hz2⟩:=r.ev h2;obtain rfl:=(aP (G:=G)).1 hz1;obtain rfl:=(aP (G:=G)).1 hz2;refine⟨_,(aP (G:=G)).2 J,fun a' w' hf _=>?_⟩;simp only[execOp,bz hf hy1,bz hf hy2];have he: ∀t x y,(eqGuard .add t x y (.string p) (.string q)).run prog w'= .ok () w':=fun _ _ _=>J;have hb: ¬(((p.size+q.size:Nat):Int)>IntKind.i64.max):=by
   have:IntKind.i64.max=9223372036854775807:=by decide
   omega
  have hr: ∀t,(binOp .add t (.string p) (.string q)).run prog w'= .ok (.string (p++q)) w':=fun t=>by
   show(Op.stringOp .add p q).run prog w'=_;simp only[Op.stringOp,if_neg hb];rfl
  exact cI (by rw[bh (he _ _ _)];exact hr _)) hgo hv k
end
def VU(i:Nat)(hi:i<100):(Lib.decDigits i).toArray.size<=2:=by
 have key: ∀i:Fin 100,(Lib.decDigits i.val).toArray.size<=2:=by decide+kernel
 exact key ⟨i,hi⟩
def Cy(i:Nat):ByteArray:=⟨(Lib.decDigits i).toArray⟩
def AK(i:Nat)(hi:i<100:=by omega):(Cy i).size<=2:=VU i hi
def Jk{i:Nat}(hi:i<100:=by omega):PF GB prog 114 [vI (i:Nat)] (.v (.string (Cy i))):=fun G vs _ hv=>by
 obtain⟨v,m,rfl,h1,h2⟩:=bm.1 hv
 cases ck.1 h2
 obtain rfl:=aP.1 h1;exact(Fn.of_calls (G:=G) (Gd func114 J J) (fun w=>Tryz.strconv_Itoa_small i hi w)).mono fun v G' _ h=>by subst h;exact aP.2 J
section
variable {GB:Gh} {C:aC} {n:Nat} {fr:av} {own:aF} {cf:Cf} {vc:List Prop}
def xl(C:aC)(d:DV)(rv:Value->DV):Value->Gh->Prop:=fun v G'=> ∃u,Is G' d u/\Is G' (rv u) v
def Yx[fu:Fu]{f:FuncId}{fb:Func}{c:Code}{m:Nat}{ds:List DV}{d:DV}{rv:Value->DV}(hf:prog.funcs[f]? =some fb)(hb:fb.body=some c)(hn:(fb.name== "runtime.NumGoroutine")=false)(hm:fb.ntmps=m)(hlen:Nat.ble ds.length m=true)
  (hgo:go tt m fu.n [] (mP 0 ds) [] (.code c [])=⟨vc,fr,own,cf⟩)(k: ∀C:aC,xU C->ak prog GB C m (vA prog fb (fP C (xl C d rv))) fr own cf)
  (hv:autoParam (aj vc) fn._auto_1):PE GB prog f ds d rv:=by
 intro G vs hg hvs;refine⟨⟨fb,hf,hn,by simp[hb]⟩,fun w hw=>?_⟩;have hlen':vs.length<=m:=by rw[hvs.len];simpa using hlen
 have h:=ew (GB:=GB) (C:=iq w G) (Q0:=vA prog fb (fP (iq w G) (xl (iq w G) d rv))) hgo hv (k (iq w G) ⟨J,J,J⟩);refine(callsIn_wide (n:=0)).1 (callsIn_of_wp_marks (F:=FW none) (n:=0) hf hb trivial ?_);refine h.run (fun _=>⟨none,0,0⟩) G [] _ w ⟨hg,yr hw,by simp;omega,J,fun k f e=>rp hvs (fun k v hk=>?_) k f e,(fun nm B e=>by cases e),(fun nm nm' B B' e=>by cases e),fun nm p _ _ e=>by cases e⟩;obtain⟨j,rfl,hj⟩:=qE vs 0 k v hk;have hj':=(aT.1 hj).1;rw[iS (by simpa using hj')];simpa using hj
def Tb{fb:Func}{e:Exit}{ds:List DV}{d:DV}{rv:Value->DV}{D:Nat}(u:Value)(hu:Is GB d u)(hD:C.w0.heap.size<=D)(hx: ∀p∈C.ex,p.1≠D)(hr:mF tt fr own fb.results.toList=some ds)(hd:gm ds=rv u)(he:uH e=true:=by rfl):ak prog GB (C.mk3 D) n (vA prog fb (fP C (xl C d rv))) fr own (.ex e []):=by
 refine⟨fun ρ G ov a w r=>?_⟩;obtain⟨vs,h1,h2⟩:=uF r hr;have hk:xl C d rv (kH vs) G:=⟨u,hu.up r.gb,hd▸uY h2⟩;have hex:((D,Obj.deferred (some [])):Nat×Obj)∈(C.mk3 D).ex:=aQ;have h3:bF C ov G (w.putObj D (.deferred none)):=r.h.putx hex hD (fun _ _ _ h=>by cases h) J J J fun p hp=> .inr ⟨aJ _ hp,hx p hp⟩;have hres:=qx (C:=C) (G:=G) (own:=ov) (w:=w.putObj D (.deferred none)) h1 (c6 a) h3;have key:LeavesInM (FW none) 0 prog fb a.tmps (fP C (xl C d rv)) a.defers .returning w:=by
  rw[r.df];exact⟨by simp, .inl ⟨D,_,J,run_takeDeferred (r.h.ext _ hex).2,_,hres,_,G,J,h3.drop (kQ _),hk⟩⟩
 cases e with
 |ret=>exact key
 |normal=>exact key
 |_=>cases he
def Tq{Q0:Exit->Act->World->Prop}{K:List Kt}(k:Nat){t:TypeId}{d:DV}{e:Exit}(hl:bi fr k=some (.ip t d))(h: ∀(GB':Gh) (u:Value),bD GB GB'->Is GB' d u->ak prog GB' C n Q0 ((k, .d (.v (.iface t u)))::fr) own (.ex e K)):ak prog GB C n Q0 fr own (.ex e K):=by
 refine⟨fun ρ G ov a w r0=>?_⟩;obtain⟨y,hy,u,rfl,hu⟩:=r0.fx k _ hl;refine(h G u r0.gb hu).run ρ G ov a w ⟨bD.refl _,r0.h,r0.sz,r0.df,fun j f e=>?_,r0.bx,r0.dj,r0.fxd⟩;rw[il] at e;split at e
 .rename_i hj
  cases e;subst hj
  exact⟨_,hy,(aP (G:=G)).2 J⟩
 .exact r0.fx j f e
end
structure im (GB:Gh) (ai al ar:Addr):Prop where
 ErrInvalid:GB 0=some [.iface 364 (.pointer (some ai))]
 ErrLimit:GB 1=some [.iface 364 (.pointer (some al))]
 ErrRing:GB 2=some [.iface 364 (.pointer (some ar))]
def im.up{GB GB':Gh}{ai al ar:Addr}(h:im GB ai al ar)(k:bD GB GB'):im GB' ai al ar:=⟨k _ _ h.ErrInvalid,k _ _ h.ErrLimit,k _ _ h.ErrRing⟩
def Vu{L:List WP}{k:Nat}{r:WP}(h:L[k]? =some r):(((L.map WP.p).take k).map eZ)++[eZ r.p]=((L.map WP.p).take (k+1)).map eZ:=yy (by rw[fY,h];rfl)
def XF{ai al ar:Addr}(hE:im GB ai al ar){L:List WP}{j:Nat}{r:WP}(hs: ∀r∈L,r.sm)(hn:L.length<=50)(hj:L[j]? =some r)(hb: ¬r.nm)(hpre: ∀k q,k<j->L[k]? =some q->q.nm): ∃s,PE GB prog 67 [.sl (L.map WP.D)] (qj ai s) (fun u=> .tp [.sl [],q7 u]):=by
 apply Exists.intro;have hm1:(L.map WP.D).length=L.length:=aX ..;have hjl:=(aT.1 hj).1;refine vQ (fu:=⟨11⟩) func67 J J ntmps67 J J (fun C=>?_);refine ah 13 (.d (vI (L.length:Nat))) J (by rw[hm1]<;>rfl)<|gx (fu:=⟨0⟩) J<|b9 (fu:=⟨15⟩) J (by show some (decide _)=some false;rw[decide_eq_false (by omega)]) J<|ah 20 (.d (vI (L.length:Nat))) J (by rw[hm1]<;>rfl)<|gx J<|nr 4 4 102 6 J J J<|lp (X:=Nat) (fun k=>[(21, .d (vI (k:Nat))),(4, .rw 4)]) (fun k=>[(4,some (.b 102 6 (((L.map WP.p).take k).map eZ) true))]) (fun k=>k<=j) (fun k=>L.length-k) 0 J (aN _) (fun _=>J) (fun k hk=>?_);have hm3:(((L.map WP.p).take k).map eZ).length<=k:=by rw[aX,bK];omega
 refine br J J J (fun hc22=>?_) (fun hc22=>?_)
 .
  obtain⟨q,hx⟩: ∃u,L[k]? =some u:=⟨_,aZ (by omega)⟩;have hqs:=hs q (aV hx);refine ix _ J (cO hx) J<|cl J (Ys (r:=q) hqs) J<|bb J J J (fun hc28=>?_) (fun hc28=>?_)
  .
   obtain rfl:j=k:=by rcases fW k j with h|h;exact absurd (hpre k q h hx) (by simpa using hc28);omega
   refine gl J hE.ErrInvalid J<|cl (fu:=⟨0⟩) J (Jk (i:=j)) J<|Ao (fu:=⟨0⟩) J (by have:=AK j;show 7+_<=1000000;omega) J<|Ao (fu:=⟨1⟩) J (by rw[ByteArray.size_append];have:=AK j;show 7+_+22<=1000000;omega) J<|zo (fu:=⟨0⟩) J J<|C6 J z6 J<|H0 3 J (fun GB1 u hg1 hu=>?_);exact wQ u hu J J
  .
   have hqn:q.nm:=by simpa using hc28
   refine cl rfl (Tv (r:=q) hqs hqn) rfl<|rf J J<|ap (((L.map WP.p).take (k+1)).map eZ) rfl (Vu hx) (yz [q.p]) rfl<|fD 41 4 rfl<|at_ (k+1) ⟨(by rcases fW k j with h|h;omega;exact absurd (by simpa using hc28) (by obtain rfl:k=j:=(by omega);rw[hj] at hx;cases hx;exact hb)),(by omega)⟩
 .
  exact absurd hc22 (by omega)
def aAf{ai al ar:Addr}(hE:im GB ai al ar){v:List aa}{i:Nat}(hb: ∀p∈v,aO p i)(hi:i<=100000)(hn:v.length<=4000)(hd3:fe v v.length<3): ∃s,PE GB prog 67 [.sl (v.map gh)] (qj ar s) (fun u=> .tp [.sl [],q7 u]):=by
 apply Exists.intro;have hm1:(v.map gh).length=v.length:=aX ..;have hm2:(v.map eZ).length=v.length:=aX ..;refine vQ (fu:=⟨11⟩) func67 J J ntmps67 J J (fun C=>?_);refine ah 13 (.d (vI (v.length:Nat))) J (by rw[hm1]<;>rfl)<|gx (fu:=⟨0⟩) J<|b9 (fu:=⟨15⟩) J (by show some (decide _)=some false;rw[decide_eq_false (by omega)]) J<|ah 20 (.d (vI (v.length:Nat))) J (by rw[hm1]<;>rfl)<|gx J<|nr 4 4 102 6 J J J<|lp (X:=Nat) (fun k=>[(21, .d (vI (k:Nat))),(4, .rw 4)]) (fun k=>[(4,some (.b 102 6 ((v.take k).map eZ) true))]) (fun k=>k<=v.length) (fun k=>v.length-k) 0 J (aN _) (fun _=>J) (fun k hk=>?_);have hm3:((v.take k).map eZ).length<=k:=by rw[aX,bK];omega
 refine br (fu2:=⟨0⟩) J J J (fun hc22=>?_) (fun hc22=>?_)
 .
  obtain⟨p,hx⟩: ∃u,v[k]? =some u:=⟨_,aZ (by omega)⟩;haveI:=hb p (aV hx);refine ix _ J (cO hx) J<|cl (fu:=⟨0⟩) J (BT (p:=p) (i:=i) (by omega)) J<|fi 27 J<|gx J<|cl J (yY (p:=p) (i:=i) (by omega)) J<|rf J J<|ap ((v.take (k+1)).map eZ) J (yy hx) (yz [p]) J<|fD 41 4 J<|at_ (k+1) ⟨(by omega),(by omega)⟩
 .
  obtain rfl:k=v.length:=by omega
  rw[cJ];refine mr 4 J<|gx (fu:=⟨15⟩) J<|ah 44 (.d (vI (v.length:Nat))) J (by rw[hm2]<;>rfl)<|gx J<|lp (X:=Nat) (fun k=>[(45, .d (vI (k:Nat))),(7, .d (vI ((fe v k):Nat)))]) (fun k=>[]) (fun k=>k<=v.length) (fun k=>v.length-k) 0 J (aN _) (fun _=>J) (fun k hk=>?_);have hdm:=Ax v k;refine br (fu2:=⟨9⟩) J J J (fun hc46=>?_) (fun hc46=>?_)
  .
   obtain⟨p,hx⟩: ∃u,v[k]? =some u:=⟨_,aZ (by omega)⟩;haveI:=hb p (aV hx);have hcm:=zB (l:=v) (k:=k);refine ix _ J (cO hx) J<|cs 52 J J J (fun hg52=>?_) (fun hg52=>?_)
   .
    refine cl J (Dj (l:=v) (p:=p) (i:=i) hb (by omega) (by omega)) J<|br J J J (fun hc58=>?_) (fun hc58=>?_)
    .
     have he7:=Bw (by omega) (ut hx);refine ah 7 (.d (vI (fe v (k+1):Nat))) J (by rw[he7]<;>rfl)<|at_ (k+1) ⟨(by omega),(by omega)⟩
    .
     have he7:=tj (.inr (A' hx)) hcm;refine ah 7 (.d (vI (fe v (k+1):Nat))) J (by rw[he7]<;>rfl)<|at_ (k+1) ⟨(by omega),(by omega)⟩
   .
    have he7:=tj (l:=v) (k:=k) (.inl (by omega)) hcm;refine ah 7 (.d (vI (fe v (k+1):Nat))) J (by rw[he7]<;>rfl)<|at_ (k+1) ⟨(by omega),(by omega)⟩
  .
   obtain rfl:k=v.length:=by omega
   refine dh J (by show some (decide _)=some true;rw[decide_eq_true (by omega)]) J<|gl (fu:=⟨1⟩) J hE.ErrRing J<|zo (fu:=⟨0⟩) J J<|C6 J z6 J<|H0 3 J (fun GB1 u hg1 hu=>?_);exact wQ u hu J J
def Ur{ai al ar:Addr}(hE:im GB ai al ar){v:List aa}{i:Nat}(hb: ∀p∈v,aO p i)(hi:i<=100000)(hn:v.length<=50)(h3:3<=dk v v.length){j:Nat}(hj:j<v.length)(hbad: ∀p q:aa,v[j]? =some p->v[(j+1)%v.length]? =some q->p.x=q.x/\p.y=q.y)(hpre: ∀(k:Nat) (p q:aa),k<j->v[k]? =some p->v[(k+1)%v.length]? =some q-> ¬(p.x=q.x/\p.y=q.y)):PE GB prog 67 [.sl (v.map gh)] (qj ar (.string (⟨#[116,104,101,32,101,100,103,101,32,102,114,111,109,32,118,101,114,116,101,120,32]⟩++Cy j++⟨#[32,104,97,115,32,110,111,32,108,101,110,103,116,104]⟩))) (fun u=> .tp [.sl [],q7 u]):=by
 have hm1:(v.map gh).length=v.length:=aX ..;have hm2:(v.map eZ).length=v.length:=aX ..;have hrl:(jl v).length=v.length:=by unfold jl;rw[aX,oN]
 refine Yx (fu:=⟨11⟩) func67 J J ntmps67 J J (fun C h0=>?_);refine ah 13 (.d (vI (v.length:Nat))) J (by rw[hm1]<;>rfl)<|gx (fu:=⟨0⟩) J<|b9 (fu:=⟨15⟩) J (by show some (decide _)=some false;rw[decide_eq_false (by omega)]) J<|ah 20 (.d (vI (v.length:Nat))) J (by rw[hm1]<;>rfl)<|gx J<|nr 4 4 102 6 J J J<|lp (X:=Nat) (fun k=>[(21, .d (vI (k:Nat))),(4, .rw 4)]) (fun k=>[(4,some (.b 102 6 ((v.take k).map eZ) true))]) (fun k=>k<=v.length) (fun k=>v.length-k) 0 J (aN _) (fun _=>J) (fun k hk=>?_);have hm3:((v.take k).map eZ).length<=k:=by rw[aX,bK];omega
 refine br (fu2:=⟨0⟩) J J J (fun hc22=>?_) (fun hc22=>?_)
 .
  obtain⟨p,hx⟩: ∃u,v[k]? =some u:=⟨_,aZ (by omega)⟩;haveI:=hb p (aV hx);refine ix _ J (cO hx) J<|cl (fu:=⟨0⟩) J (BT (p:=p) (i:=i) (by omega)) J<|fi 27 J<|gx J<|cl J (yY (p:=p) (i:=i) (by omega)) J<|rf J J<|ap ((v.take (k+1)).map eZ) J (yy hx) (yz [p]) J<|fD 41 4 J<|at_ (k+1) ⟨(by omega),(by omega)⟩
 .
  obtain rfl:k=v.length:=by omega
  rw[cJ];refine mr 4 J<|gx (fu:=⟨15⟩) J<|ah 44 (.d (vI (v.length:Nat))) J (by rw[hm2]<;>rfl)<|gx J<|lp (X:=Nat) (fun k=>[(45, .d (vI (k:Nat))),(7, .d (vI ((fe v k):Nat)))]) (fun k=>[]) (fun k=>k<=v.length) (fun k=>v.length-k) 0 J (aN _) (fun _=>J) (fun k hk=>?_);have hdm:=Ax v k;refine br (fu2:=⟨9⟩) J J J (fun hc46=>?_) (fun hc46=>?_)
  .
   obtain⟨p,hx⟩: ∃u,v[k]? =some u:=⟨_,aZ (by omega)⟩;haveI:=hb p (aV hx);have hcm:=zB (l:=v) (k:=k);refine ix _ J (cO hx) J<|cs 52 J J J (fun hg52=>?_) (fun hg52=>?_)
   .
    refine cl J (Dj (l:=v) (p:=p) (i:=i) hb (by omega) (by omega)) J<|br J J J (fun hc58=>?_) (fun hc58=>?_)
    .
     have he7:=Bw (by omega) (ut hx);refine ah 7 (.d (vI (fe v (k+1):Nat))) J (by rw[he7]<;>rfl)<|at_ (k+1) ⟨(by omega),(by omega)⟩
    .
     have he7:=tj (.inr (A' hx)) hcm;refine ah 7 (.d (vI (fe v (k+1):Nat))) J (by rw[he7]<;>rfl)<|at_ (k+1) ⟨(by omega),(by omega)⟩
   .
    have he7:=tj (l:=v) (k:=k) (.inl (by omega)) hcm;refine ah 7 (.d (vI (fe v (k+1):Nat))) J (by rw[he7]<;>rfl)<|at_ (k+1) ⟨(by omega),(by omega)⟩
  .
   obtain rfl:k=v.length:=by omega
   have hd3:=Ih h3;refine b9 (fu:=⟨9⟩) J (by show some (decide _)=some false;rw[decide_eq_false (by omega)]) J<|?_;have hE0:=hE;refine xi J J J yo (fun _=>J) (fun GB1 pv hg1 hpv=>?_);have hE:=hE0.up hg1;refine sO 2 2000002 h0.fx J<|sO 3 2000003 h0.fx J ?_;refine yw (σ:=Unit) (fun _=>[(2000002,some (.o 93 [.nl] true)),(2000003,some (.o 41 [.d (.v .nilIface)] true))]) (fun k=>k<=j) (fun _=>[(2000002,some (.o 93 [.nl] true)),(2000003,some (.o 41 [.ip 156 (qj ar (.string (⟨#[116,104,101,32,101,100,103,101,32,102,114,111,109,32,118,101,114,116,101,120,32]⟩++Cy j++⟨#[32,104,97,115,32,110,111,32,108,101,110,103,116,104]⟩)))] true))]) (fun _=>True) [(2, .ov 2000002 0),(3, .ov 2000003 0),(4, .d (.sl (v.map eZ)))] h0 J (zJ) (.cons hpv .nil) ⟨J,J,J,trivial⟩ J ⟨J,J,trivial⟩ (aN _) zi J J (fun k e GB' hE2 hg hp=>?_) (fun D hD hx hp=>?_) (fun D s hD hx hq=>?_)
   .obtain⟨p,q,hpx,hqx,rfl⟩:=zh hE2
    haveI:=hb p (aV hpx);haveI:=hb q (aV hqx);have hE:=hE.up hg;refine⟨?_,?_,fun C2=>?_,fun C2=>?_⟩
    rotate_left 2
    .refine gx J<|zS J J J ⟨J,J,J⟩ J ?_
     exact atR
    .refine gx J<|pH 0 (e:=102) (len:=2) (s:=6) J (by kernel_rfl) (by kernel_rfl) (by decide) J<|pH 1 (e:=102) (len:=2) (s:=6) J (by kernel_rfl) (by kernel_rfl) (by decide) J<|cl J (AZ (p:=p) (q:=q) (i:=i) (by omega)) J<|bd J J J (fun hc=>?_) (fun hc=>?_)
     .obtain rfl:j=k:=by rcases fW k j with h|h;exact absurd hc (hpre k p q h hpx hqx);omega
      refine gl J hE.ErrRing J<|cl (fu:=⟨0⟩) J (Jk (i:=j)) J<|Ao (fu:=⟨0⟩) J (by have:=AK j;show 21+_<=1000000;omega) J<|Ao (fu:=⟨1⟩) J (by rw[ByteArray.size_append];have:=AK j;show 21+_+14<=1000000;omega) J<|zo (fu:=⟨0⟩) J J<|C6 J z6 J<|?_;exact rqX () trivial ⟨J,J,trivial⟩
     .have hkj:k≠j:=fun e=>by subst e;exact hc (hbad p q hpx hqx)
      exact rq (by omega) ⟨J,J,trivial⟩
   .exact absurd hp (by rw[hrl];omega)
   .refine gx J<|H0 2000003 J (fun GB3 u hg3 hu=>?_)
    exact Tb u hu hD hx J J
structure jt (r:List ZP):Prop where
 ok:dz r
 c3:3<=dk (r.map ZP.q) (r.map ZP.q).length
def rh(r:List ZP):DV:= .sl ((r.map ZP.q).map eZ)
def Xx(l:List (List ZP)):du 1 (l.map rh):=fun d hd=>by
 obtain⟨x,_,rfl⟩:=bX.1 hd;exact⟨J,J⟩
def VA{L:List (List ZP)}{k:Nat}{l:List ZP}(h:L[k]? =some l):((L.take k).map rh)++[rh l]=(L.take (k+1)).map rh:=by
 rw[fJ,h,cY];rfl
def J'{L:List (List ZP)}{k:Nat}{l:List ZP}(h:L[k]? =some l):((cP (L.take k)).map bj)++((ij l).map bj)=(cP (L.take (k+1))).map bj:=by
 rw[anp h,cY]
def auM{rs:List (List ZP)}(h: ∀r∈rs,jt r)(hn:rs.length<=200):PF GB prog 29 [.sl (rs.map kB)] (.tp [.sl (rs.map rh), .v .nilIface]):=by
 have hml:(rs.map kB).length=rs.length:=aX ..;refine fn (fu:=⟨11⟩) func29 J J ntmps29 J J (fun C=>?_);refine ah 10 (.d (vI (rs.length:Nat))) J (by rw[hml]<;>rfl)<|gx (fu:=⟨0⟩) J<|b9 (fu:=⟨15⟩) J (by show some (decide _)=some false;rw[decide_eq_false (by omega)]) J<|ah 17 (.d (vI (rs.length:Nat))) J (by rw[hml]<;>rfl)<|gx J<|nr 4 4 93 1 J J J<|lp (X:=Nat) (fun k=>[(18, .d (vI (k:Nat))),(4, .rw 4)]) (fun k=>[(4,some (.b 93 1 ((rs.take k).map rh) true))]) (fun k=>k<=rs.length) (fun k=>rs.length-k) 0 J (aN _) (fun _=>J) (fun k hk=>?_);have hm3:((rs.take k).map rh).length<=k:=by rw[aX,bK];omega
 refine br J J J (fun hc19=>?_) (fun hc19=>?_)
 .
  obtain⟨r,hx⟩: ∃u,rs[k]? =some u:=⟨_,aZ (by omega)⟩;have hr:=h r (aV hx);refine ix _ J (cO hx) J<|cl (fu:=⟨11⟩) J (Wv hr.ok hr.c3) J<|b9 J J J<|rf J J<|ap ((rs.take (k+1)).map rh) J (VA hx) (Xx [r]) J<|fD 33 4 J<|at_ (k+1) ⟨(by omega),(by omega)⟩
 .
  obtain rfl:k=rs.length:=by omega
  rw[cJ];refine ke 4 J<|rz J J
def onR(rs:List (List ZP))(p:aa):Bool:=(cP rs).any fun f=>EA f p
def Yq{fill n:Int}:PF GB prog 33 [vI fill,vI n] (vB (mm fill n)):=by
 refine fn func33 J J ntmps33 J J (fun C=>?_);refine br J J J (fun hc6=>?_) (fun hc6=>?_)
 .
  exact rz J (by show DV.v (.bool _)= .v (.bool _);unfold mm;simp_all)
 .
  refine br J J J (fun hc11=>?_) (fun hc11=>?_)
  .
   exact rz J (by show DV.v (.bool _)= .v (.bool _);unfold mm;simp_all)
  .
   exact rz J (by show DV.v (.bool _)= .v (.bool _);unfold mm;simp_all)
def HN(x:aa):List aa->List aa
 |[]=>[]
 |y::l=>if fm y x=0 then HN y l else y::HN y l
def aJe:List aa->List aa
 |[]=>[]
 |x::l=>x::HN x l
def vZ:DV:= .ag [vI 0,vI 0, .v (.pointer none),vI 0,vI 0, .v (.pointer none)]
section
variable {α:Type} [Inhabited α]
end
def aKv{A:Type}(cf:A->A->Int)(ds:List A):List A:=ds.mergeSort fun x y=>!decide (cf y x<0)
def aJq(l:List aa):Prop:= ∀x∈l,∀y∈l,fm x y=0->x=y
end Go.Sx
end
section
namespace Go.Proofs
open Go.Shelf
def Tryz.sortPt_ren:Go.Shelf.Ren:=⟨fun|6=>249|15=>103|14=>265|28=>165|29=>166|20=>271|21=>272|22=>273|23=>274|24=>275|25=>276|26=>277|27=>278|46=>281|47=>218|48=>219|49=>282|50=>283|57=>284|n=>n,fun|22=>92|24=>102|25=>249|3=>3|39=>219|0=>0|53=>261|55=>255|4=>4|46=>273|45=>272|50=>247|5=>5|9=>9|66=>311|70=>315|76=>328|77=>329|n=>n,fun|n=>n⟩
end Go.Proofs
end
section
namespace Go.Sx
open Go Go.Proofs Tryz


def aLf(x:Rat×Bool)(s:Rat):Rat×Bool:=if 0<Int.sign s.num/\(x.2=false\/ce s x.1<0) then(s,true) else x

def aKq:List ZP:=n7 0 0 2 2
def Uf(r:List ZP)(p:aa):Nat->Bool
 |0=>true
 |k+1=>Uf r p k&&decide (0<=tu (r.getD k (0,0)).q (et r k).q p)
def soC(r:List ZP)(p:aa):Nat->Bool
 |0=>false
 |k+1=>soC r p k||decide (tu (r.getD k (0,0)).q (et r k).q p=0)
def aGA{a:aa}{t:List aa}:jI (a::t) a=((0:Nat):Int):=AU (k:=0) (q:=a) J J ⟨J,J⟩
def Yn{a b c:aa}{t:List aa}(h1:a≠b)(h2:a≠c)(h3:b≠c):3<=dk (a::b::c::t) (a::b::c::t).length:=by
 have ne: ∀{x y:aa},x≠y->(!decide (x.x=y.x/\x.y=y.y))=true:=fun{x y} h=>by
  rw[decide_eq_false (fun k=>h (by cases x;cases y;simp only[aa.mk.injEq] at*;exact k))];rfl
 have e0:=ut (l:=a::b::c::t) (k:=0) (p:=a) J aGA;have e1:=ut (l:=a::b::c::t) (k:=1) (p:=b) J (AU (k:=1) (q:=b) J (by simp only[List.take,rM,List.all_nil,Bool.and_true,ne h1]) ⟨J,J⟩);have e2:=ut (l:=a::b::c::t) (k:=2) (p:=c) J (AU (k:=2) (q:=c) J (by simp only[List.take,rM,List.all_nil,Bool.and_true,ne h2,ne h3]) ⟨J,J⟩);have mono: ∀n m,n<=m->dk (a::b::c::t) n<=dk (a::b::c::t) m:=by
  intro n m h
  induction m with
  |zero=>rw[show n=0 by omega];exact bQ _
  |succ m ih=>
   by_cases k:n=m+1
   .rw[k];exact bQ _
   .exact dJ (ih (by omega)) zB
 have:=mono 3 (a::b::c::t).length (by simp);have z:dk (a::b::c::t) 0=0:=J;rw[dL] at e0;rw[show 1+1=2 from J] at e1;rw[show 2+1=3 from J] at e2;omega
def Io{a b c:ZP}{t:List ZP}(ho:dz (a::b::c::t))(h1:a≠b)(h2:a≠c)(h3:b≠c):jt (a::b::c::t):=
 ⟨ho,Yn (t:=t.map ZP.q) (fun e=>h1 (zG e)) (fun e=>h2 (zG e)) (fun e=>h3 (zG e))⟩
def aGy{a b c d:Int}(ho:dz (n7 a b c d))(h1:a<c)(h2:b<d):jt (n7 a b c d):=
 Io ho (fun e=>by have:=congrArg Prod.fst e;dsimp only at this;omega) (fun e=>by have:=congrArg Prod.fst e;dsimp only at this;omega) (fun e=>by have:=congrArg Prod.snd e;dsimp only at this;omega)
def X4{p u v:ZP}(ho:dz (pA p u v))(h:qd u v≠0):jt (pA p u v):=by
 have hu: ∀{a b:ZP},(a=(0,0)\/b=(0,0)\/a=b)->qd a b=0:=fun{a b} k=>by
  unfold qd;rcases k with rfl|rfl|rfl
  .simp
  .simp
  .rw[qN];omega
 refine Io ho (fun e=>h (hu (.inl ?_))) (fun e=>h (hu (.inr (.inl ?_)))) (fun e=>h (hu (.inr (.inr ?_))))
 .have e1:=congrArg Prod.fst e
  have e2:=congrArg Prod.snd e;unfold tY at e1 e2;dsimp only at e1 e2;exact Prod.ext (by dsimp only;omega) (by dsimp only;omega)
 .have e1:=congrArg Prod.fst e
  have e2:=congrArg Prod.snd e;unfold tY at e1 e2;dsimp only at e1 e2;exact Prod.ext (by dsimp only;omega) (by dsimp only;omega)
 .have e1:=congrArg Prod.fst e
  have e2:=congrArg Prod.snd e;unfold tY at e1 e2;dsimp only at e1 e2;exact Prod.ext (by omega) (by omega)
def GM(n:Int)(d:Nat):Int:=n*zv false d
def azI(n:Int)(d:Nat):(GM n d).natAbs=n.natAbs*d:=by unfold GM;rw[fX,kI]
instance BN.prx (n:Int) (d i j:Nat) [h:BI n i] [k:BN d j]:BN (GM n d).natAbs (i+j):=⟨by rw[azI];exact l6 h.h k.h⟩
def aKn(S:List aa)(x:aa)(R:List aa)(k:Nat):List aa:=S.take k++x::(S.drop k++R)
def aKo(S:List aa)(x:aa)(R:List aa)(m:Nat):List aa:=S.take m++x::x::(S.drop (m+1)++R)
def aH4(t:Tr)(p:aa):Int:=if X2 t p then 2 else if Tg t p then 1 else 0
def anV(t:Tr)(p:aa)(V:List aa)(k:Nat):Bool:=(V.take k).any fun v=>(qP t p v).1
def alV(t:Tr)(p:aa)(V:List aa)(k:Nat):Bool:=(V.take k).all fun v=>(qP t p v).1
def E6{l:List aa}{x:aa}(h:x∈l): ∃i:Nat,i<l.length/\jI l x=(i:Int)/\l.getD i ⟨0,0⟩=x:=by
 cases e:l.findIdx? (fun q=>decide (q.x=x.x/\q.y=x.y)) with
 |none=>
  rw[List.findIdx?_eq_none_iff] at e;have:=e x h;simp at this
 |some i=>
  have e0:=e;rw[List.findIdx?_eq_some_iff_getElem] at e;obtain⟨h1,h2,_⟩:=e;refine⟨i,h1,by unfold jI;rw[e0],?_⟩;have h3:=of_decide_eq_true h2;rw[aK,aZ h1,jR];generalize l[i]=q at*
  cases q;cases x
  simp only[aa.mk.injEq] at*;exact h3
def En(l:List aa): ∀n,dk l n=((List.range n).filter fun k=>decide (jI l (l.getD k ⟨0,0⟩)=((k:Nat):Int))).length
 |0=>rfl
 |n+1=>by
  rw[dk,List.range_succ,List.filter_append,aL,En l n];congr 1;by_cases h:jI l (l.getD n ⟨0,0⟩)=((n:Nat):Int)
  .rw[if_pos h];simp only[pW,decide_eq_true h,if_true];rfl
  .rw[if_neg h];simp only[pW,decide_eq_false h];rfl
def auZ{F:List Nat}{i j k:Nat}(hi:i∈F)(hj:j∈F)(hk:k∈F)(h1:i≠j)(h2:i≠k)(h3:j≠k):3<=F.length:=by
 match F with
 |[]=>cases hi
 |[a]=>simp at hi hj;omega
 |[a,b]=>simp at hi hj hk;omega
 |a::b::c::t=>simp
def Le{l:List aa}{a b c:aa}(ha:a∈l)(hb:b∈l)(hc:c∈l)(h1:a≠b)(h2:a≠c)(h3:b≠c):3<=dk l l.length:=by
 obtain⟨i,i1,i2,i3⟩:=E6 ha;obtain⟨j,j1,j2,j3⟩:=E6 hb;obtain⟨k,k1,k2,k3⟩:=E6 hc;rw[En];have mk: ∀{x:aa} {m:Nat},m<l.length->jI l x=(m:Int)->l.getD m ⟨0,0⟩=x->m∈(List.range l.length).filter fun k=>decide (jI l (l.getD k ⟨0,0⟩)=((k:Nat):Int)):=fun{x m} q1 q2 q3=>qW.2 ⟨rZ.2 q1,decide_eq_true (by rw[q3];exact q2)⟩;exact auZ (mk i1 i2 i3) (mk j1 j2 j3) (mk k1 k2 k3) (fun e=>h1 (by rw[<-i3,<-j3,e])) (fun e=>h2 (by rw[<-i3,<-k3,e])) (fun e=>h3 (by rw[<-j3,<-k3,e]))
def BG{p q:ZP}:jA p q<0↔p.1<q.1\/(p.1=q.1/\p.2<q.2):=by
 unfold jA
 repeat' split
 all_goals (constructor<;>intro h<;>omega)
def X3{p q:ZP}:jA p q=0↔p.1=q.1/\p.2=q.2:=by
 unfold jA
 repeat' split
 all_goals (constructor<;>intro h<;>omega)
def Fm{x y:ZP}: ∀{l:List ZP},y∈je x l->y=x\/y∈l
 |[],h=>by simp[je] at h;exact .inl h
 |u::t,h=>by
  rw[je] at h;split at h
  .rcases aU.1 h with rfl|h
   .exact .inr aQ
   .exact(Fm h).imp id fun k=>aJ _ k
  .split at h
   .exact .inr h
   .rcases aU.1 h with rfl|h
    .exact .inl J
    .exact .inr h
def Ku{x:ZP}: ∀{l:List ZP},l.Pairwise (fun a b=>jA a b<0)->(je x l).Pairwise (fun a b=>jA a b<0)
 |[],_=>by simp[je]
 |u::t,h=>by
  obtain⟨h1,h2⟩:=bZ.1 h;rw[je];split
  .rename_i hu
   refine bZ.2 ⟨fun y hy=>?_,Ku h2⟩;rcases Fm hy with rfl|hy
   .exact hu
   .exact h1 y hy
  .split
   .exact h
   .rename_i k1 k2
    rw[BG] at k1;rw[X3] at k2;refine bZ.2 ⟨fun y hy=>?_,h⟩;rw[BG];rcases aU.1 hy with rfl|hy
    .omega
    .have:=BG.1 (h1 y hy);omega
def ZK(l:List ZP):(nC l).Pairwise (fun a b=>jA a b<0)/\ ∀y∈nC l,y∈l:=by
 have key: ∀(l o:List ZP),o.Pairwise (fun a b=>jA a b<0)->(l.foldl (fun out x=>je x out) o).Pairwise (fun a b=>jA a b<0)/\ ∀y∈l.foldl (fun out x=>je x out) o,y∈l\/y∈o:=by
  intro l
  induction l with
  |nil=>intro o ho;exact⟨ho,fun y hy=> .inr hy⟩
  |cons x t ih=>
   intro o ho;obtain⟨i1,i2⟩:=ih (je x o) (Ku ho);refine⟨i1,fun y hy=>?_⟩;rcases i2 y hy with h|h
   .exact .inl (aJ _ h)
   .rcases Fm h with rfl|h
    .exact .inl aQ
    .exact .inr h
 obtain⟨k1,k2⟩:=key l [] .nil;exact⟨k1,fun y hy=>(k2 y hy).resolve_right (by simp)⟩
def WA{r:List ZP}(ho:dz r)(h:3<=(nC r).length):jt r:=by
 refine⟨ho,?_⟩;obtain⟨k1,k2⟩:=ZK r
 match hs:nC r with
 |[]=>rw[hs] at h;simp at h
 |[a]=>rw[hs] at h;simp at h
 |[a,b]=>rw[hs] at h;simp at h
 |a::b::c::t=>
  rw[hs] at k1 k2;obtain⟨p1,p2⟩:=bZ.1 k1;obtain⟨p3,_⟩:=bZ.1 p2;have ne: ∀{x y:ZP},jA x y<0->x.q≠y.q:=fun{x y} q e=>by
   have:=zG e;subst this;have:=BG.1 q;omega
  exact Le (fZ (k2 a (by simp))) (fZ (k2 b (by simp))) (fZ (k2 c (by simp))) (ne (p1 b (by simp))) (ne (p1 c (by simp))) (ne (p3 c (by simp)))
def PS{es:List Int}{a:Nat}(ha:a<=es.length):jt (nk es a).1:=by
 have hok:=(Fp ha).1;unfold nk at*;dsimp only at*;split
 .exact Io Qr (by decide) (by decide) (by decide)
 .rename_i h
  rw[if_neg h] at hok;exact WA hok (by omega)
def Vr{es:List Int}{a:Nat}(ha:a<=es.length):jt (gt es a).1:=by
 have hok:=(Hn ha).1;have h0:=jk (n:=4) ha;unfold gt at*;dsimp only at*;split
 .rename_i h
  rw[if_pos h] at hok;unfold xP at*;dsimp only at*;exact aGy hok (by omega) (by omega)
 .rename_i h
  rw[if_neg h] at hok;split
  .rename_i k
   rw[if_pos k] at hok;obtain⟨p1,p2,p3⟩:=vh h0;obtain⟨u1,u2,u3,u4⟩:=xb p3;obtain⟨v1,v2,v3,v4⟩:=xb u4;split
   .rename_i hc
    rw[if_pos hc] at hok;exact X4 hok hc
   .exact PS v4
  .exact PS h0
structure EGW (GB:Gh) (ar:Addr):Prop where
 ErrRange:GB 3=some [.iface 364 (.pointer (some ar))]
def q6(es:List Int):Nat->Nat->List (List ZP)->List (List ZP)×Nat
 |0,a,out=>(out,a)
 |n+1,a,out=>q6 es n (gt es a).2 (out++[(gt es a).1])
def ku(es:List Int)(m a:Nat):List (List ZP)×Nat:=q6 es (aB es (m+1) a).1 (aB es (m+1) a).2 []
def PK{es:List Int}: ∀{n a:Nat} {out:List (List ZP)},a<=es.length->(∀r∈out,jt r)->(∀r∈(q6 es n a out).1,jt r)/\(q6 es n a out).1.length=out.length+n/\(q6 es n a out).2<=es.length
 |0,a,out,ha,h=>⟨h,J,ha⟩
 |n+1,a,out,ha,h=>by
  have h1:=(Hn ha).2;obtain⟨i1,i2,i3⟩:=PK (n:=n) (out:=out++[(gt es a).1]) h1 fun r hr=>by
   rcases bS.1 hr with hr|hr
   .exact h r hr
   .rw[aY.1 hr];exact Vr ha
  exact⟨i1,by rw[q6,i2,aL];simp;omega,i3⟩
def HZ{es:List Int}{m a:Nat}(ha:a<=es.length):(∀r∈(ku es m a).1,jt r)/\(ku es m a).1.length<=m/\(ku es m a).2<=es.length:=by
 have h1:=kv (es:=es) (n:=m+1) (a:=a) (by omega);obtain⟨i1,i2,i3⟩:=PK (es:=es) (n:=(aB es (m+1) a).1) (out:=[]) (jk (n:=m+1) ha) (fun r hr=>by cases hr);exact⟨i1,by unfold ku;rw[i2];simp;omega,i3⟩
def YQ{GB:Gh}{b:Nat}{es:List Int}(hes:es.length<=400){a:Nat}(ha:a<=es.length){md:Nat}(hmd:md<=100):PM GB prog 10 (iw [none,some (.v (.int .i64 (md:Nat)))] b) b 85 [.sl (es.map vI), .v (.int .i64 (a:Nat))] (.sl ((ku es md a).1.map n0)) [.sl (es.map vI), .v (.int .i64 ((ku es md a).2:Nat))]:=by
 have hj1:=kv (es:=es) (n:=md+1) (a:=a) (by omega);have hj2:=jk (n:=md+1) ha;refine uj func10 J J ntmps10 J J (fun C b m lo hmb=>?_);refine cm J (fun b=>(qH (n:=(md:Int)+1) hes ha (by omega) (by omega))) J<|nr 5 5 83 1 J J J<|lp (X:=List (List ZP)×Nat×Nat) (fun⟨rs,i,b⟩=>[(6, .d (vI (i:Nat))),(5, .rw 5)]) (fun⟨rs,i,b⟩=>[(1000000,some (.o 85 [.d (.sl (es.map vI)), .d (.v (.int .i64 (b:Nat)))] false)),(5,some (.b 83 1 (rs.map n0) true))]) (fun⟨rs,i,b⟩=>q6 es i b rs=ku es md a/\b<=es.length/\rs.length+i<=100) (fun⟨rs,i,b⟩=>i) ⟨[],(aB es (md+1) a).1,(aB es (md+1) a).2⟩ J ⟨J,hj2,by simp;omega⟩ (fun _=>J) (fun⟨rs,i,b⟩ hk=>?_)
 try dsimp only at hk⊢
 obtain⟨h1,h2,h3⟩:=hk;have hrl:(rs.map n0).length=rs.length:=by simp
 refine br (fu2:=⟨0⟩) J J J (fun hc12=>?_) (fun hc12=>?_)
 .
  obtain⟨j,rfl⟩: ∃j,i=j+1:=⟨i-1,by omega⟩;have hq:=(Hn h2).2;refine cm J (fun b=>(Wn hes h2)) J<|rf J J<|ap ((rs++[(gt es b).1]).map n0) J (by rw[cY];rfl) (TJ [_]) J<|fD 19 5 J<|at_ ⟨rs++[(gt es b).1],j,(gt es b).2⟩ (by dsimp only;exact⟨⟨by rw[<-h1,q6],hq,by simp;omega⟩,(by omega)⟩)
 .
  obtain rfl:i=0:=by omega
  have hfin:ku es md a=(rs,b):=by rw[<-h1,q6]
  refine mr 5 J<|gx J<|?_;exact lm hmb J J (by rw[hfin];rfl) (by rw[hfin])
def XN(a b p:aa):Bool:=decide (tu a b p=0)&&decide ((aa.dot (dB a p (-1)) (dB b p (-1))).num.sign<=0)
def onZ(r:List ZP)(p:aa):Bool:=(List.range r.length).any fun k=>XN (r.getD k (0,0)).q (et r k).q p
section
variable {GB:Gh} {C:aC} {n:Nat} {Q0:Exit->Act->World->Prop} {fr fr':av} {own own':aF} {cf cf':Cf} {vc:List Prop} {lk:LK} {bk:BM}
variable {dst:Option Nat} {t t' ty':TypeId} {pos:String} {af:Array Edge} {gd:Option (Nat×Bool)} {x y:Operand}
def aJ7(fr:av)(cf:Cf):Option (List DV):=match b8 fr cf with
 |some ⟨_, .binOp .eql t x (.const (.slice none _ _)) _,_,_,_,_⟩=>match de tt t with
  |some ⟨.sl _ _ _,_,_,_⟩=>match aI (bw fr cf) x with
   |some (.d (.sl l))=>some l
   |_=>none
  |_=>none
 |_=>none
def PVr(GB:Gh)(P:Program)(f:FuncId)(s off m:Nat)(ty:TypeId)(dsi dso:List DV):Prop:=
 ∀G w b c B,bD GB G->dq G ⟨w,s,ty,dsi,false⟩ B->w.a=some ⟨b,0,none⟩->m<=c->gE P f [.slice (some ⟨b,off*s,none⟩) m c] B G (fun v own' G'=>Is G' (.tp []) v/\dq G' ⟨w,s,ty,dso,false⟩ own')
structure CV where
 f:FuncId
 nm:Nat
 s:Nat
 off:Nat
 m:Nat
 ty:TypeId
 ds:List DV
 lo:Bool
def cvA(fr:av)(own:aF)(cf:Cf):Option CV:=match b8 fr cf with
 |some ⟨_, .call ⟨.value fo,⟨[x]⟩,_⟩,_,_,_,_⟩=>match aI (bw fr cf) fo with
  |some (.d (.v (.func (.func f) ⟨[]⟩ ⟨[]⟩)))=>match aI (bw fr cf) x with
   |some (.rs nm s off m)=>match fE fr own cf nm with
    |some (.b ty s' ds lo)=>bif Nat.beq s s' then some ⟨f,nm,s,off,m,ty,ds,lo⟩ else none
    |_=>none
   |_=>none
  |_=>none
 |_=>none
end

def aLk(r:List ZP):List ZP:=r.take 1++(r.drop 1).reverse
section
variable {r:List ZP} {p:aa} {L:List ab}
end


def Du(x:ab):List ab->List ab
 |[]=>[]
 |y::l=>if y=x then Du y l else y::Du y l
def aJX:List ab->List ab
 |[]=>[]
 |x::l=>x::Du x l
end Go.Sx
end
section
namespace Go.Proofs
open Go.Shelf
def Tryz.SortLn_ren:Go.Shelf.Ren:=⟨fun|6=>54|15=>103|14=>102|28=>165|29=>166|20=>157|21=>158|22=>159|23=>160|24=>161|25=>162|26=>163|27=>164|46=>217|47=>218|48=>219|49=>220|50=>221|57=>244|n=>n,fun|22=>115|24=>135|25=>143|3=>3|39=>219|0=>0|53=>261|55=>255|4=>4|46=>273|45=>272|50=>247|5=>5|9=>9|66=>311|70=>315|76=>328|77=>329|n=>n,fun|n=>n⟩
end Go.Proofs
end
section
namespace Go.Sx
open Go Go.Proofs Tryz
variable {GB:Gh}
def aK8(E:List aH):List ab:=E.map (·.l)
def aur{v:List aa}{i:Nat}(hb: ∀p∈v,aO p i)(hi:i<=100000)(hn:v.length<=4000)(h3:3<=dk v v.length)(hne: ∀(k:Nat) (p q:aa),v[k]? =some p->v[(k+1)%v.length]? =some q-> ¬(p.x=q.x/\p.y=q.y)):PF GB prog 67 [.sl (v.map gh)] (.tp [.sl (v.map eZ), .v .nilIface]):=by
 have hm1:(v.map gh).length=v.length:=aX ..;have hm2:(v.map eZ).length=v.length:=aX ..;have hrl:(jl v).length=v.length:=by unfold jl;rw[aX,oN]
 refine Bv (fu:=⟨11⟩) func67 J J ntmps67 J J (fun C h0=>?_);refine ah 13 (.d (vI (v.length:Nat))) J (by rw[hm1]<;>rfl)<|gx (fu:=⟨0⟩) J<|b9 (fu:=⟨15⟩) J (by show some (decide _)=some false;rw[decide_eq_false (by omega)]) J<|ah 20 (.d (vI (v.length:Nat))) J (by rw[hm1]<;>rfl)<|gx J<|nr 4 4 102 6 J J J<|lp (X:=Nat) (fun k=>[(21, .d (vI (k:Nat))),(4, .rw 4)]) (fun k=>[(4,some (.b 102 6 ((v.take k).map eZ) true))]) (fun k=>k<=v.length) (fun k=>v.length-k) 0 J (aN _) (fun _=>J) (fun k hk=>?_);have hm3:((v.take k).map eZ).length<=k:=by rw[aX,bK];omega
 refine br (fu2:=⟨0⟩) J J J (fun hc22=>?_) (fun hc22=>?_)
 .
  obtain⟨p,hx⟩: ∃u,v[k]? =some u:=⟨_,aZ (by omega)⟩;haveI:=hb p (aV hx);refine ix _ J (cO hx) J<|cl (fu:=⟨0⟩) J (BT (p:=p) (i:=i) (by omega)) J<|fi 27 J<|gx J<|cl J (yY (p:=p) (i:=i) (by omega)) J<|rf J J<|ap ((v.take (k+1)).map eZ) J (yy hx) (yz [p]) J<|fD 41 4 J<|at_ (k+1) ⟨(by omega),(by omega)⟩
 .
  obtain rfl:k=v.length:=by omega
  rw[cJ];refine mr 4 J<|gx (fu:=⟨15⟩) J<|ah 44 (.d (vI (v.length:Nat))) J (by rw[hm2]<;>rfl)<|gx J<|lp (X:=Nat) (fun k=>[(45, .d (vI (k:Nat))),(7, .d (vI ((fe v k):Nat)))]) (fun k=>[]) (fun k=>k<=v.length) (fun k=>v.length-k) 0 J (aN _) (fun _=>J) (fun k hk=>?_);have hdm:=Ax v k;refine br (fu2:=⟨9⟩) J J J (fun hc46=>?_) (fun hc46=>?_)
  .
   obtain⟨p,hx⟩: ∃u,v[k]? =some u:=⟨_,aZ (by omega)⟩;haveI:=hb p (aV hx);have hcm:=zB (l:=v) (k:=k);refine ix _ J (cO hx) J<|cs 52 J J J (fun hg52=>?_) (fun hg52=>?_)
   .
    refine cl J (Dj (l:=v) (p:=p) (i:=i) hb (by omega) (by omega)) J<|br J J J (fun hc58=>?_) (fun hc58=>?_)
    .
     have he7:=Bw (by omega) (ut hx);refine ah 7 (.d (vI (fe v (k+1):Nat))) J (by rw[he7]<;>rfl)<|at_ (k+1) ⟨(by omega),(by omega)⟩
    .
     have he7:=tj (.inr (A' hx)) hcm;refine ah 7 (.d (vI (fe v (k+1):Nat))) J (by rw[he7]<;>rfl)<|at_ (k+1) ⟨(by omega),(by omega)⟩
   .
    have he7:=tj (l:=v) (k:=k) (.inl (by omega)) hcm;refine ah 7 (.d (vI (fe v (k+1):Nat))) J (by rw[he7]<;>rfl)<|at_ (k+1) ⟨(by omega),(by omega)⟩
  .
   obtain rfl:k=v.length:=by omega
   have hd3:=Ih h3;refine b9 (fu:=⟨9⟩) J (by show some (decide _)=some false;rw[decide_eq_false (by omega)]) J<|xi J J J yo (fun _=>J) (fun GB1 pv hg1 hpv=>?_);refine sO 2 2000002 h0.fx J<|sO 3 2000003 h0.fx J ?_;refine yw (σ:=Empty) (fun _=>[(2000002,some (.o 93 [.nl] true)),(2000003,some (.o 41 [.d (.v .nilIface)] true))]) (fun _=>True) (fun _=>[]) (fun _=>False) [(2, .ov 2000002 0),(3, .ov 2000003 0),(4, .d (.sl (v.map eZ)))] h0 J (zJ) (.cons hpv .nil) ⟨J,J,J,trivial⟩ J ⟨J,J,trivial⟩ trivial zi J J (fun k e GB' hE hg hp=>?_) (fun D hD hx hp=>?_) (fun D s hD hx hq=>hq.elim)
   .obtain⟨p,q,hpx,hqx,rfl⟩:=zh hE
    haveI:=hb p (aV hpx);haveI:=hb q (aV hqx);have hne2:=hne k p q hpx hqx;refine⟨?_,?_,fun C2=>?_,fun C2=>?_⟩
    rotate_left 2
    .refine gx J<|zS J J J ⟨J,J,J⟩ J ?_
     exact atR
    .refine gx J<|pH 0 (e:=102) (len:=2) (s:=6) J (by kernel_rfl) (by kernel_rfl) (by decide) J<|pH 1 (e:=102) (len:=2) (s:=6) J (by kernel_rfl) (by kernel_rfl) (by decide) J<|cl J (AZ (p:=p) (q:=q) (i:=i) (by omega)) J<|bd J J J (fun hc=>absurd hc hne2) (fun hc=>?_)
     exact rq trivial ⟨J,J,trivial⟩
   .refine gx J<|?_
    exact A9 hD hx J J
def d5(r:List WP):DV:= .sl (r.map WP.D)
def cd(r:List WP):List aa:=r.map WP.p
def kr(v:List aa):DV:= .sl (v.map eZ)
structure io (r:List WP):Prop where
 sm: ∀q∈r,q.sm
 nm: ∀q∈r,q.nm
 n9:r.length<=9
 c3:3<=dk (cd r) (cd r).length
 ne: ∀i<(cd r).length,ly ((cd r).getD i PZ) (iF (cd r) i)
def tC(r:List WP):(cd r).length=r.length:=aX ..
theorem tG{r:List WP}(s: ∀q∈r,q.sm)(h: ∀q∈r,q.nm): ∀p∈cd r,aO p 22:=fun p hp=>by
 obtain⟨q,hq,rfl⟩:=bX.1 hp;exact WP.bpt (s q hq) (h q hq)
def vJ{r:List WP}(s: ∀q∈r,q.sm)(h: ∀q∈r,q.nm):d5 r= .sl ((cd r).map gh):=by
 unfold d5 cd;rw[oJ];congr 1;exact sM fun q hq=>WP.eq (s q hq) (h q hq)
def io.rg{r:List WP}(h:io r):BH (cd r):=by
 have h3:=cnt_le (cd r) (cd r).length;have:=h.c3;have:=h.n9;have:=tC r;exact⟨by omega,by omega,tG h.sm h.nm,h.ne⟩
def zf{v:List aa}{k:Nat}{p q:aa}(h1:v[k]? =some p)(h2:v[(k+1)%v.length]? =some q):p=v.getD k PZ/\q=iF v k:=⟨(HB h1).2,Jh h2⟩
def M1{r:List WP}(h:io r):PF GB prog 67 [d5 r] (.tp [kr (cd r), .v .nilIface]):=by
 rw[vJ h.sm h.nm];exact aur (i:=22) (tG h.sm h.nm) (by decide) (by have:=h.n9;have:=tC r;omega) h.c3 fun k p q hp hq=>by
  obtain⟨e1,e2⟩:=zf hp hq;rw[e1,e2];exact h.ne k (aT.1 hp).1
def uv(ai ar:Addr)(r:List WP)(a:Addr):Prop:=(a=ai/\ ∃q∈r,¬q.nm)\/(a=ar/\(∀q∈r,q.nm)/\(dk (cd r) (cd r).length<3\/ ∃i<(cd r).length,¬ly ((cd r).getD i PZ) (iF (cd r) i)))
def Pg{α:Type}{P:α->Prop}: ∀{l:List α},(∃q∈l,P q)-> ∃(j:Nat) (q:α),l[j]? =some q/\P q/\ ∀k x,k<j->l[k]? =some x-> ¬P x
 |[],⟨_,h,_⟩=>by cases h
 |a::t,h=>by
  by_cases ha:P a
  .exact⟨0,a,J,ha,fun k x hk=>absurd hk (sV k)⟩
  .obtain⟨q,hq,hp⟩:=h
   have ht: ∃q∈t,P q:=by
    rcases aU.1 hq with rfl|hq
    .exact absurd hp ha
    .exact⟨q,hq,hp⟩
   obtain⟨j,q,h1,h2,h3⟩:=Pg ht;refine⟨j+1,q,h1,h2,fun k x hk hx=>?_⟩
   match k with
   |0=>cases hx;exact ha
   |k+1=>exact h3 k x (by omega) hx
def NX{P:Nat->Prop}: ∀{n:Nat},(∃i<n,P i)-> ∃j<n,P j/\ ∀k<j,¬P k
 |0,⟨_,h,_⟩=>absurd h (sV _)
 |n+1,h=>by
  by_cases hn: ∃i<n,P i
  .obtain⟨j,h1,h2,h3⟩:=NX hn
   exact⟨j,by omega,h2,h3⟩
  .obtain⟨i,h1,h2⟩:=h
   have:i=n:=by
    rcases fW i n with k|k
    .exact absurd ⟨i,k,h2⟩ hn
    .omega
   subst this;exact⟨i,by omega,h2,fun k hk h=>hn ⟨k,hk,h⟩⟩
def asd{ai al ar:Addr}(hE:im GB ai al ar){r:List WP}(hs: ∀q∈r,q.sm)(hn:r.length<=9){a:Addr}(h:uv ai ar r a): ∃s,PE GB prog 67 [d5 r] (qj a s) (fun u=> .tp [.sl [],q7 u]):=by
 have hl:=tC r;rcases h with⟨rfl,hq⟩|⟨rfl,hnm,hc⟩
 .obtain⟨j,q,h1,h2,h3⟩:=Pg hq
  exact XF hE hs (by omega) h1 h2 fun k x hk hx=>Classical.byContradiction fun e=>h3 k x hk hx e
 .rw[vJ hs hnm]
  by_cases h3:dk (cd r) (cd r).length<3
  .exact aAf hE (i:=22) (tG hs hnm) (by decide) (by omega) (by unfold fe;rw[if_neg (by omega)];exact h3)
  .obtain⟨j,j1,j2,j3⟩:=NX (hc.resolve_left h3)
   exact⟨_,Ur hE (i:=22) (tG hs hnm) (by decide) (by omega) (by omega) j1
    (fun p q hp hq=>by obtain⟨e1,e2⟩:=zf hp hq;rw[e1,e2];exact Classical.byContradiction fun e=>j2 e)
    (fun k p q hk hp hq=>by obtain⟨e1,e2⟩:=zf hp hq;rw[e1,e2];exact Classical.byContradiction fun e=>j3 k hk fun d=>e d)⟩
def Kx(l:List (List WP)):du 1 (l.map fun r=>kr (cd r)):=fun d hd=>by
 obtain⟨x,_,rfl⟩:=bX.1 hd;exact⟨J,J⟩
def Kf{L:List (List WP)}{k:Nat}{r:List WP}(h:L[k]? =some r):((L.take k).map fun r=>kr (cd r))++[kr (cd r)]=(L.take (k+1)).map fun r=>kr (cd r):=by
 rw[fJ,h,cY];rfl
def fg(xs:List (List WP)):List aH:=xs.flatMap fun r=>ir (cd r)
def Jr{L:List (List WP)}{k:Nat}{r:List WP}(h:L[k]? =some r):((fg (L.take k)).map bj)++((ir (cd r)).map bj)=(fg (L.take (k+1))).map bj:=by
 unfold fg;rw[fJ,h,sL,cY];simp
def GG: ∀{L:List (List WP)},(∀r∈L,r.length<=9)->(fg L).length<=9*L.length
 |[],_=>bQ _
 |r::L,h=>by
  have ih:=GG (L:=L) fun q hq=>h q (aJ _ hq);have h1:=h r aQ;have h2:(ir (cd r)).length=r.length:=(rA _ _).trans (tC r);unfold fg at*;rw[lY,aL,bY];omega
def Q1{L:List (List WP)}(h: ∀r∈L,r.length<=9)(k:Nat):(fg (L.take k)).length<=9*k:=by
 have:=GG (L:=L.take k) fun r hr=>h r (fK hr);rw[bK] at this;omega
def Qu{xs:List (List WP)}(h: ∀r∈xs,io r)(hn:xs.length<=100:=by omega):PF GB prog 29 [.sl (xs.map d5)] (.tp [.sl (xs.map fun r=>kr (cd r)), .v .nilIface]):=by
 have hml:(xs.map d5).length=xs.length:=aX ..;refine fn (fu:=⟨11⟩) func29 J J ntmps29 J J (fun C=>?_);refine ah 10 (.d (vI (xs.length:Nat))) J (by rw[hml]<;>rfl)<|gx (fu:=⟨0⟩) J<|b9 (fu:=⟨15⟩) J (by show some (decide _)=some false;rw[decide_eq_false (by omega)]) J<|ah 17 (.d (vI (xs.length:Nat))) J (by rw[hml]<;>rfl)<|gx J<|nr 4 4 93 1 J J J<|lp (X:=Nat) (fun k=>[(18, .d (vI (k:Nat))),(4, .rw 4)]) (fun k=>[(4,some (.b 93 1 ((xs.take k).map fun r=>kr (cd r)) true))]) (fun k=>k<=xs.length) (fun k=>xs.length-k) 0 J (aN _) (fun _=>J) (fun k hk=>?_);have hm3:((xs.take k).map fun r=>kr (cd r)).length<=k:=by rw[aX,bK];omega
 refine br J J J (fun hc19=>?_) (fun hc19=>?_)
 .
  obtain⟨r,hx⟩: ∃u,xs[k]? =some u:=⟨_,aZ (by omega)⟩;have hr:=h r (aV hx);refine ix _ J (cO hx) J<|cl (fu:=⟨11⟩) J (M1 hr) J<|b9 J J J<|rf J J<|ap ((xs.take (k+1)).map fun r=>kr (cd r)) J (Kf hx) (Kx [r]) J<|fD 33 4 J<|at_ (k+1) ⟨(by omega),(by omega)⟩
 .
  obtain rfl:k=xs.length:=by omega
  rw[cJ];refine ke 4 J<|rz J J
def ZO{ai al ar:Addr}(hE:im GB ai al ar){xs:List (List WP)}(hn:xs.length<=100){j:Nat}{r:List WP}(hj:xs[j]? =some r)(hg: ∀k q,k<j->xs[k]? =some q->io q)(hs: ∀q∈r,q.sm)(h9:r.length<=9){a:Addr}(hb:uv ai ar r a): ∃s,PE GB prog 29 [.sl (xs.map d5)] (qj a s) (fun u=> .tp [.sl [],q7 u]):=by
 obtain⟨s,hF⟩:=asd hE hs h9 hb;refine⟨s,?_⟩;have hjl:=(aT.1 hj).1;have hml:(xs.map d5).length=xs.length:=aX ..;refine vQ (fu:=⟨11⟩) func29 J J ntmps29 J J (fun C=>?_);refine ah 10 (.d (vI (xs.length:Nat))) J (by rw[hml]<;>rfl)<|gx (fu:=⟨0⟩) J<|b9 (fu:=⟨15⟩) J (by show some (decide _)=some false;rw[decide_eq_false (by omega)]) J<|ah 17 (.d (vI (xs.length:Nat))) J (by rw[hml]<;>rfl)<|gx J<|nr 4 4 93 1 J J J<|lp (X:=Nat) (fun k=>[(18, .d (vI (k:Nat))),(4, .rw 4)]) (fun k=>[(4,some (.b 93 1 ((xs.take k).map fun r=>kr (cd r)) true))]) (fun k=>k<=j) (fun k=>xs.length-k) 0 J (aN _) (fun _=>J) (fun k hk=>?_);have hm3:((xs.take k).map fun r=>kr (cd r)).length<=k:=by rw[aX,bK];omega
 refine br J J J (fun hc19=>?_) (fun hc19=>?_)
 .
  obtain⟨q,hx⟩: ∃u,xs[k]? =some u:=⟨_,aZ (by omega)⟩;refine ix (fu:=⟨7⟩) _ J (cO hx) J<|?_;rcases fW k j with hkj|hkj
  .have hq:=hg k q hkj hx
   refine cl (fu:=⟨11⟩) J (M1 hq) J<|b9 J J J<|rf J J<|ap ((xs.take (k+1)).map fun r=>kr (cd r)) J (Kf hx) (Kx [q]) J<|fD 33 4 J<|at_ (k+1) ⟨by omega,by omega⟩
  .obtain rfl:j=k:=by omega
   obtain rfl:r=q:=Option.some.inj (hj.symm.trans hx);refine cE J hF (fun _=>J) (fun GB1 u hg1 hu=>?_);exact wQ u hu J J
 .
  exact absurd hc19 (by omega)
def aq9{ai al ar:Addr}(hE:im GB ai al ar){ds:List DV}(hn:256<ds.length)(hm:ds.length<=1000000): ∃s,PE GB prog 29 [.sl ds] (qj al s) (fun u=> .tp [.sl [],q7 u]):=by
 apply Exists.intro;have hml:ds.length=ds.length:=J;refine vQ (fu:=⟨11⟩) func29 J J ntmps29 J J (fun C=>?_);refine dh J (by show some (decide _)=some true;rw[decide_eq_true (by omega)]) J<|gl (fu:=⟨1⟩) J hE.ErrLimit J<|zo (fu:=⟨0⟩) J J<|C6 J z6 J<|Tq 3 J (fun GB1 u hg1 hu=>?_);exact wQ u hu J J
section
variable {GB:Gh} {C:aC} {n:Nat} {Q0:Exit->Act->World->Prop} {fr fr':av} {own own':aF} {cf cf':Cf} {vc:List Prop} {ops:Array Oper} {r:List Oper} {K:List Kt}
def aC.mkD(C:aC)(f:FuncId)(c2:List Value):aC:={C with mks:=[{target:= .fn (.func f) ⟨c2⟩,args:= #[]}]}
def VF{f:FuncId}{c2:List Value}{ov:List au}{G:Gh}{w:World}(h:bF C ov G w):bF (C.mkD f c2) ov G w:=
 ⟨h.os,h.tape,h.output,h.size,h.keep,h.sub,h.gle,h.gold,h.hown,h.nd,h.dr,h.ext⟩
def asv{f:FuncId}{c2:List Value}{ov:List au}{G:Gh}{w:World}(h:bF (C.mkD f c2) ov G w):bF C ov G w:=
 ⟨h.os,h.tape,h.output,h.size,h.keep,h.sub,h.gle,h.gold,h.hown,h.nd,h.dr,h.ext⟩
def HQ(P:Program)(fb:Func)(R:Ending->World->Prop):Exit->Act->World->Prop:=bodyPostDIn (FW none) 0 P fb R
def SN[fu:Fu]{f:FuncId}{fb:Func}{c:Code}{m:Nat}{ds:List DV}{rv:DV}(hf:prog.funcs[f]? =some fb)(hb:fb.body=some c)(hn:(fb.name== "runtime.NumGoroutine")=false)(hm:fb.ntmps=m)(hlen:Nat.ble ds.length m=true)
  (hgo:go tt m fu.n [] (mP 0 ds) [] (.code c [])=⟨vc,fr,own,cf⟩)(k: ∀C:aC,xU C->ak prog GB C m (HQ prog fb (fP C (fun v G'=>Is G' rv v))) fr own cf)
  (hv:autoParam (aj vc) cL._auto_1):PF GB prog f ds rv:=by
 intro G vs hg hvs;refine⟨⟨fb,hf,hn,by simp[hb]⟩,fun w hw=>?_⟩;have hlen':vs.length<=m:=by rw[hvs.len];simpa using hlen
 have h:=ew (GB:=GB) (C:=iq w G) (Q0:=HQ prog fb (fP (iq w G) (fun v G'=>Is G' rv v))) hgo hv (k (iq w G) ⟨J,J,J⟩);refine(callsIn_wide (n:=0)).1 (callsIn_of_wp_defers (F:=FW none) (n:=0) hf hb trivial ?_);refine h.run (fun _=>⟨none,0,0⟩) G [] _ w ⟨hg,yr hw,by simp;omega,J,fun k f e=>rp hvs (fun k v hk=>?_) k f e,(fun nm B e=>by cases e),(fun nm nm' B B' e=>by cases e),fun nm p _ _ e=>by cases e⟩;obtain⟨j,rfl,hj⟩:=qE vs 0 k v hk;have hj':=(aT.1 hj).1;rw[iS (by simpa using hj')];simpa using hj
def dfr{P:Program}{f:FuncId}{d x y:Nat}{gx gy:FX}{t1 t2:TypeId}{p1 p2:String}{a1 a2:Array Edge}{tys:Array TypeId}(h0:xU C)(hx:bi fr x=some gx)(hy:bi fr y=some gy)(hd:bi fr d=none)(hdn:d<n)
  (k: ∀p q,ak P GB (C.mkD f [p,q]) n Q0 fr own (.ops ops r K)):
  ak P GB C n Q0 fr own (.ops ops (⟨some d, .makeFunc (.func f) ⟨[]⟩ ⟨[.tmp x, .tmp y]⟩,t1,p1,a1,none⟩::⟨none, .defer ⟨.value (.tmp d),⟨[]⟩,tys⟩,t2,p2,a2,none⟩::r) K):=by
 refine⟨fun ρ G ov a w r0=>?_⟩;obtain⟨v1,hv1,_⟩:=r0.fx x gx hx;obtain⟨v2,hv2,_⟩:=r0.fx y gy hy;have e1:(execOp a.eval ⟨some d, .makeFunc (.func f) ⟨[]⟩ ⟨[.tmp x, .tmp y]⟩,t1,p1,a1,none⟩).run P w= .ok (.value (.func (.func f) ⟨[]⟩ ⟨[v1,v2]⟩)) w:=by
  have q1:a.eval (.tmp x)=v1:=by simp[Act.eval,hv1]
  have q2:a.eval (.tmp y)=v2:=by simp[Act.eval,hv2]
  have:=yJ (P:=P) (C:=C) (own:=ov) (G:=G) (fr:=cC a) (dst:=some d) (ty':=t1) (pos:=p1) (af:=a1) (gd:=none) (fn:= .func f) (c1:=⟨[]⟩) (c2:=⟨[.tmp x, .tmp y]⟩) (l1:=[]) (l2:=[a.eval (.tmp x),a.eval (.tmp y)]) J (by
   have w1:aD (cC a) (.tmp x)=some v1:=by
    simp only[aD];exact wi hv1
   have w2:aD (cC a) (.tmp y)=some v2:=by
    simp only[aD];exact wi hv2
   simp[nU,w1,w2,q1,q2])
  rw[q1,q2] at this;exact this a w (c6 a) r0.h
 have hkk:=(k v1 v2).run ρ G ov {tmps:=a.tmps.setIfInBounds d (.func (.func f) ⟨[]⟩ ⟨[v1,v2]⟩),defers:=[{target:= .fn (.func f) ⟨[v1,v2]⟩,args:= #[]}]} w ⟨r0.gb,VF r0.h,by simpa using r0.sz,J,fun j g e=>by
   obtain⟨u,h1,h2⟩:=r0.fx j g e;refine⟨u,?_,h2⟩;have hne:d≠j:=fun he=>by rw[<-he,hd] at e;cases e
   rw[Array.getElem?_setIfInBounds_ne hne];exact h1,r0.bx,r0.dj,r0.fxd⟩
 have hrd:C.rd=none:=h0.rd;show wpListIn (FW C.rd) 0 P ops (cQ C.rd P Q0 K) _ a w;have hkk':wpListIn (FW C.rd) 0 P ops (cQ C.rd P Q0 K) r _ w:=hkk;rw[hrd] at hkk'⊢;simp only[wpListIn,Region.wanted,if_true];refine⟨fun _ _=>trivial,?_⟩;rw[show(FW none).round=none from J,Oper.semAt_none,e1];show Oper.wpIn (FW none) 0 P _ _ w _ _;refine⟨fun _ _=>trivial,?_⟩;have hsz:d<a.tmps.size:=by rw[r0.sz];exact hdn
 have e2:(execOp (Act.put a (some d) (.func (.func f) ⟨[]⟩ ⟨[v1,v2]⟩)).eval ⟨none, .defer ⟨.value (.tmp d),⟨[]⟩,tys⟩,t2,p2,a2,none⟩).run P w= .ok (.defer {target:= .fn (.func f) ⟨[v1,v2]⟩,args:= #[]}) w:=by
  have q3:(Act.put a (some d) (.func (.func f) ⟨[]⟩ ⟨[v1,v2]⟩)).eval (.tmp d)= .func (.func f) ⟨[]⟩ ⟨[v1,v2]⟩:=by simp[Act.eval,Act.put,hsz]
  simp[execOp,resolve,q3,Deferred.ofValue,go_sem,hsz]
 rw[show(FW none).round=none from J,Oper.semAt_none,e2];show wpListIn (FW none) 0 P ops (cQ none P Q0 K) r _ w;have hda:a.defers=[]:=by rw[r0.df,h0.mks]
 have:(Act.put ({(Act.put a (some d) (.func (.func f) ⟨[]⟩ ⟨[v1,v2]⟩)) with defers:={target:= .fn (.func f) ⟨[v1,v2]⟩,args:= #[]}::(Act.put a (some d) (.func (.func f) ⟨[]⟩ ⟨[v1,v2]⟩)).defers}) none undef)={tmps:=a.tmps.setIfInBounds d (.func (.func f) ⟨[]⟩ ⟨[v1,v2]⟩),defers:=[{target:= .fn (.func f) ⟨[v1,v2]⟩,args:= #[]}]}:=by
  simp[Act.put,hda]
 rw[this];exact hkk'
def M6(P:Program)(f:FuncId):Prop:= ∀p q w,CallsDIn (FW none) 0 P f #[p,q] .returning w fun e u' w'=>e= .returned (.tuple #[])/\u'= .returning/\w'=w
def Z1{fb:Func}{e:Exit}{ds:List DV}{rv:DV}{f:FuncId}{p q:Value}(hI:M6 prog f)(hfb:o5 prog f)(hr:mF tt fr own fb.results.toList=some ds)(hd:gm ds=rv)(he:uH e=true:=by rfl):ak prog GB (C.mkD f [p,q]) n (HQ prog fb (fP C (fun v G'=>Is G' rv v))) fr own (.ex e []):=by
 refine⟨fun ρ G ov a w r=>?_⟩;obtain⟨vs,h1,h2⟩:=uF r hr;have hk:Is G rv (kH vs):=hd▸uY h2;have hres:=qx (C:=C.mkD f [p,q]) (G:=G) (own:=ov) (w:=w) h1 (c6 a) r.h;have key:LeavesIn (FW none) 0 prog fb a.tmps (fP C (fun v G'=>Is G' rv v)) a.defers .returning w:=by
  rw[r.df];refine leavesIn_cons (f:=f) (args:= #[p,q]) (by simp) (by simp[FW,Fence.wide]) ?_ (fun _ _=>trivial) ?_
  .show(callFunc f (#[]++⟨[p,q]⟩)).run prog w=_
   rw[C9 hfb];simp
  refine(hI p q w).mono ?_;rintro e u' w' ⟨rfl,rfl,rfl⟩;exact⟨_,hres,_,G,J,(asv r.h).drop (kQ _),hk⟩
 cases e with
 |ret=>exact key
 |normal=>exact key
 |_=>cases he
def LQ(fr:av)(own:aF)(cf:Cf):Option (TypeId×FX):=match b8 fr cf with
 |some ⟨_, .load t x,_,_,_,_⟩=>match aI (bw fr cf) x with
  |some (.ov nm off)=>match fE fr own cf nm with
   |some (.o _ cs _)=>match cs[off]? with
    |some f=>some (t,f)
    |none=>none
   |_=>none
  |_=>none
 |_=>none
def ldO[fu:Fu]{t:TypeId}{f:FX}{D:TypeDesc}{j:TypeInfo}(h:LQ fr own cf=some (t,f))(hu:prog.underlying t=some D)(hD:Ty D=true)(hj:prog.info? t=some j)(hs:j.size=1)
  (hgo:cv tt n fu.n fr own cf f [] []=⟨vc,fr',own',cf'⟩)(k':ak prog GB C n Q0 fr' own' cf')
  (hv:autoParam (aj vc) cL._auto_1):ak prog GB C n Q0 fr own cf:=by
 unfold LQ at h;split at h<;>try (cases h;done)
 rename_i hh;split at h<;>try (cases h;done)
 rename_i hx;split at h<;>try (cases h;done)
 rename_i hb;split at h<;>cases h;rename_i hc;have:i9 prog t:=⟨fun w=>by(rw[ya hu w];cases D<;>first|rfl|(cases hD;done)),fun w=>by rw[ss hj w,hs]⟩;refine us hh ?_ hgo hv k';refine .yd fun ρ G ov a w r=>?_;obtain⟨y,h1,h2⟩:=r.ev hx;obtain⟨b,m,rfl,h3,h4,h5⟩:=r.own h2 hb;obtain⟨l',h6,h7⟩:=h4.get hc;have:gz ov b m _ _:=⟨h5⟩;exact⟨l',h7,yK h1 h6⟩
end
section
variable {GB:Gh} {ai al ae:Addr} (hE:EG GB ai al ae) {j k:Nat} {a b:Tr} (ha:uG j a) (hb:uG k b)
include hE ha
include hb
end
section
variable {GB:Gh} {ai al ae:Addr} (hE:EG GB ai al ae)
include hE
end
def ptZ:DV:= .ag [vI 0,vI 0, .v (.pointer none),vI 0,vI 0, .v (.pointer none)]
def apZ:DV:= .ag [.v (.bool false), .sl [], .sl [], .v (.bool false), .sl [], .sl []]
def U8{c:aA}(hc:gn c)(hn:c.length<=100000):PF GB prog 120 [eC c] (eZ (pf c)):=by
 cases c with
 |nil=>exact TS
 |cons s cs=>exact awb hc (by rw[bY] at hn;omega)
def FK(d:Rat):Prop:=True
theorem Mu{s:aH}{p:aa}: ∀{c:aA} {f:Rat},BQ f 9000->(∀g∈c,BQ (-(g.l.value p/g.l.nor.dot s.l.nor)) 9000)->BQ (ik s.l p c f) 9000
 |[],f,h,_=>h
 |g::c,f,h,k=>by
  rw[ik];refine Mu ?_ fun u hu=>k u (aJ _ hu);split
  .split
   .exact k g aQ
   .exact h
  .exact h
theorem Ve{c:aA}(hc:gn c):aO (pf c) 20000:=by
 cases c with
 |nil=>exact⟨BQ.mono (k:=2) ⟨by decide,by decide⟩,BQ.mono (k:=2) ⟨by decide,by decide⟩⟩
 |cons s cs=>
  have hs:=hc s aQ;haveI:=hs.lb;haveI:=IE hs;haveI:=Mu (s:=s) (p:=s.l.at s.v.sample) (c:=cs) (f:=1) (BQ.mono (k:=2) ⟨by decide,by decide⟩) fun g hg=>DU hs (hc g (aJ _ hg));rw[PO];have:=(inferInstance:aO ((s.l.at s.v.sample).add (s.l.nor.scale (ik s.l (s.l.at s.v.sample) cs 1*mkRat 1 2))) _);exact⟨this.x.mono (by decide),this.y.mono (by decide)⟩
def KR(f:aH)(m:ab):(splitP f m).length<=1:=by unfold splitP;split<;>simp
def ll(l:List aH)(m:ab):List aH:=l.flatMap fun g=>splitP g m
def Bc(l:List aH)(m:ab):(ll l m).length<=l.length:=by
 induction l with
 |nil=>exact bQ _
 |cons f t ih=>
  unfold ll at ih⊢;rw[lY,aL,bY];have:(splitP f m).length<=1:=by unfold splitP;split<;>simp
  omega
def Oo{l:List aH}{k:Nat}{f:aH}{m:ab}(h:l[k]? =some f):(ll (l.take k) m).map bj++(splitP f m).map bj=(ll (l.take (k+1)) m).map bj:=by
 unfold ll;rw[fJ,h,sL,cY];simp
def AI{f:aH}{m:ab}{a b:Bool}(ha:f.l.cutB f.v m=a)(hb:f.l.cutB f.v m.rev=b):(DV.tp [.sl (if a then [bj ⟨f.l,f.l.cutV f.v m⟩] else []), .sl (if b then [bj ⟨f.l,f.l.cutV f.v m.rev⟩] else [])])= .tp [.sl ((splitP f m).map bj), .sl ((splitP f m.rev).map bj)]:=by
 subst ha hb;unfold splitP;split<;>split<;>rfl
def Ry{f:aH}{m:ab}(hf:FS f)(hm:LB m):PF GB prog 121 [bj f,cG m] (.tp [.sl ((splitP f m).map bj), .sl ((splitP f m.rev).map bj)]):=by
 haveI:=hf.fo.lb;haveI:=hf.fo.lo;haveI:=hf.fo.hi;haveI:=hm;refine fn func121 J J ntmps121 J J (fun C=>?_);refine cl J (zd (l:=f.l) (v:=f.v) (m:=m) (i:=1200)) J<|bb J J J (fun hc19=>?_) (fun hc19=>?_)
 .
  refine rf J J<|cl J IB J<|cl J (zd (l:=f.l) (v:=f.v) (m:=m.rev) (i:=1200)) J<|bb J J J (fun hc35=>?_) (fun hc35=>?_)
  .
   refine rf J J<|rz J (AI hc19 hc35)
  .
   exact rz J (AI hc19 hc35)
 .
  refine cl J IB J<|cl J (zd (l:=f.l) (v:=f.v) (m:=m.rev) (i:=1200)) J<|bb J J J (fun hc35=>?_) (fun hc35=>?_)
  .
   refine rf J J<|rz J (AI hc19 hc35)
  .
   exact rz J (AI hc19 hc35)
def Sz:M6 prog 70:=by
 intro p q w;refine callsDIn_of_wpSIn func70 J trivial fun c₀ cs hu=>?_;apply wpSIn_seq;apply wpSIn_region;simp[wpOpsSIn,go_sem,recoverD,hu,ntmps70,Exit.thenS,FW,Fence.wide];apply wpSIn_seq;apply wpSIn_region;simp[wpOpsSIn,go_sem,Exit.thenS,FW,Fence.wide];refine wpSIn_cond (t:=false) (by simp[Act.eval,Array.replicate]) ?_;simp only[cM,if_false];refine wpSIn_of_wpIn J (wpIn_skip ?_)
 cases c₀
 simp_all [bodyPostS,results,Tryz.results70,go_sem]
def R1{b:Nat}{f:FuncId}{c2:List Value}{ds2:List DV}(hc2:IsLs GB ds2 c2){acc:aa->Bool}(hF: ∀q,aO q 20000->PF GB prog f (eZ q::ds2) (vB (acc q))){n:Nat}{c:aA}{d N:Nat}(hc:gn c)(hcl:c.length<=100000):PM GB prog 71 (iw [none,some (.sl (([]:List aH).map bj)),some (.sl (c.map bj)),some (.v (.int .i64 (d:Nat)))] b) b 172 [.v (.int .i64 (N:Nat)),(.v (.func (.func f) ⟨[]⟩ ⟨c2⟩))] (eU (d9 acc n [] c)) [.v (.int .i64 (N+(d9 acc n [] c).size:Nat)),(.v (.func (.func f) ⟨[]⟩ ⟨c2⟩))]:=by
 have hib:=Ve hc;refine uj (fu:=⟨10⟩) func71 J J ntmps71 J J (fun C b m lo hmb=>?_);refine dh (fu:=⟨8⟩) J J J<|ldO J J J J J J<|cl (fu:=⟨0⟩) J (U8 (c:=c) hc hcl) J<|xy (ds1:=[]) (ds2:=ds2) J (ck.2 J) hc2 (hF (pf c) hib) J<|cl J (Et (b:=acc (pf c))) J<|?_;exact lm hmb J J (by cases n<;>rfl) (by cases n<;>rfl)
def Sj{b:Nat}{f:FuncId}{c2:List Value}{g:aH}{t:List aH}{c:aA}{d N:Nat}{x y:Tr}(hl: ∀u∈g::t,FS u)(hlen:(g::t).length<=100000)(hc:gn c)(hcl:c.length<=100000)(hd:d<1000)(hN:N+(1+x.size+y.size)<=65536)(ih1: ∀{b N:Nat},N+x.size<=65536->PM GB prog 71 (iw [none,some (.sl ((ll (g::t) g.l).map bj)),some (.sl ((bO c g.l).map bj)),some (.v (.int .i64 (d+1:Nat)))] b) b 172 [.v (.int .i64 (N:Nat)),(.v (.func (.func f) ⟨[]⟩ ⟨c2⟩))] (eU x) [.v (.int .i64 (N+x.size:Nat)),(.v (.func (.func f) ⟨[]⟩ ⟨c2⟩))])(ih2: ∀{b N:Nat},N+y.size<=65536->PM GB prog 71 (iw [none,some (.sl ((ll (g::t) g.l.rev).map bj)),some (.sl ((bO c g.l.rev).map bj)),some (.v (.int .i64 (d+1:Nat)))] b) b 172 [.v (.int .i64 (N:Nat)),(.v (.func (.func f) ⟨[]⟩ ⟨c2⟩))] (eU y) [.v (.int .i64 (N+y.size:Nat)),(.v (.func (.func f) ⟨[]⟩ ⟨c2⟩))]):PM GB prog 71 (iw [none,some (.sl ((g::t).map bj)),some (.sl (c.map bj)),some (.v (.int .i64 (d:Nat)))] b) b 172 [.v (.int .i64 (N:Nat)),(.v (.func (.func f) ⟨[]⟩ ⟨c2⟩))] (eU (Tr.node g.l x y)) [.v (.int .i64 (N+(Tr.node g.l x y).size:Nat)),(.v (.func (.func f) ⟨[]⟩ ⟨c2⟩))]:=by
 have hg:=hl g aQ;haveI hlb:=hg.fo.lb;have hlt:t.length+1<=100000:=hlen;have hml:((g::t).map bj).length=(g::t).length:=aX ..;refine uj (fu:=⟨10⟩) func71 J J ntmps71 J J (fun C b m lo hmb=>?_);refine ah 22 (.d (vI ((t.length+1:Nat):Int))) J (by rw[hml]<;>rfl)<|gx (fu:=⟨0⟩) J<|b9 (fu:=⟨13⟩) (hv:=by simp only[aj];exact(by omega)) J (by show some (decide _)=some false;rw[decide_eq_false (by omega)]) J<|ah 36 (.d (.v (.int .i64 (N+1:Nat)))) J J<|gx (fu:=⟨11⟩) J<|b9 (fu:=⟨2⟩) J (by show some (decide _)=some false;rw[decide_eq_false (by omega)]) J<|b9 J (by show some (decide _)=some false;rw[decide_eq_false (by omega)]) J<|ix (fu:=⟨17⟩) _ J J J<|ah 55 (.d (vI ((t.length+1:Nat):Int))) J (by rw[hml]<;>rfl)<|gx J<|nr 10 10 139 17 J J J<|nr 11 11 139 17 J J J<|lp (X:=Nat) (fun k=>[(56, .d (vI (k:Nat))),(10, .rw 10),(11, .rw 11)]) (fun k=>[(10,some (.b 139 17 ((ll ((g::t).take k) g.l).map bj) true)),(11,some (.b 139 17 ((ll ((g::t).take k) g.l.rev).map bj) true))]) (fun k=>k<=t.length+1) (fun k=>t.length+1-k) 0 J (aN _) (fun _=>J) (fun k hk=>?_);have hm1:=Bc ((g::t).take k) g.l;have hm2:=Bc ((g::t).take k) g.l.rev;have hm3:((g::t).take k).length<=k:=by rw[bK];omega
 have hm4:((ll ((g::t).take k) g.l).map bj).length<=k:=by rw[aX];omega
 have hm5:((ll ((g::t).take k) g.l.rev).map bj).length<=k:=by rw[aX];omega
 refine br (fu2:=⟨0⟩) J J J (fun hc57=>?_) (fun hc57=>?_)
 .
  obtain⟨u,hx⟩: ∃u,(g::t)[k]? =some u:=⟨_,aZ (by rw[bY];omega)⟩;have hu:=hl u (aV hx);have hs1:=KR u g.l;have hs2:=KR u g.l.rev;refine ix _ J (cO hx) J<|cl J (Ry hu hlb) J<|ap ((ll ((g::t).take (k+1)) g.l).map bj) J (Oo hx) (sF (splitP u g.l)) J<|ap ((ll ((g::t).take (k+1)) g.l.rev).map bj) J (Oo hx) (sF (splitP u g.l.rev)) J<|fD 68 10 J<|fD 71 11 J<|at_ (k+1) ⟨(by omega),(by omega)⟩
 .
  obtain rfl:k=t.length+1:=by omega
  rw[show(g::t).take (t.length+1)=g::t from cJ (l:=g::t)];refine mr 11 J<|gx J<|cl (fu:=⟨18⟩) J (MZ (l:=g.l) (c:=c) hg.fo.ok hc hcl) J<|ah 85 (.d (.v (.int .i64 (d+1:Nat)))) J J<|gx J<|fz 10 J J<|cm (fu:=⟨12⟩) J (fun b=>(ih1 (N:=N+1) (by omega))) J<|ah 93 (.d (.v (.int .i64 (d+1:Nat)))) J J<|gx J<|cm J (fun b=>(ih2 (N:=N+1+x.size) (by omega))) J<|cl J xE J<|?_;exact lm hmb J J J (by rw[show N+(Tr.node g.l x y).size=N+1+x.size+y.size from by rw[Tr.size];omega])
def Ii{f:FuncId}{c2:List Value}{ds2:List DV}(hc2:IsLs GB ds2 c2){acc:aa->Bool}(hF: ∀q,aO q 20000->PF GB prog f (eZ q::ds2) (vB (acc q))): ∀{n:Nat} {l:List aH} {c:aA} {d N b:Nat},(∀u∈l,FS u)->lh n l->l.length<=100000->gn c->c.length+n<=100000->d+n<=1000->N+(d9 acc n l c).size<=65536->PM GB prog 71 (iw [none,some (.sl (l.map bj)),some (.sl (c.map bj)),some (.v (.int .i64 (d:Nat)))] b) b 172 [.v (.int .i64 (N:Nat)),(.v (.func (.func f) ⟨[]⟩ ⟨c2⟩))] (eU (d9 acc n l c)) [.v (.int .i64 (N+(d9 acc n l c).size:Nat)),(.v (.func (.func f) ⟨[]⟩ ⟨c2⟩))]
 |_,[],c,d,N,b,_,_,_,hc,hcl,_,_=>R1 hc2 hF hc (by omega)
 |0,g::t,_,_,_,_,_,hf,_,_,_,_,_=>hf.no.elim
 |n+1,g::t,c,d,N,b,hl,hf,hlen,hc,hcl,hd,hN=>by
  have hg:=hl g aQ;haveI hlb:=hg.fo.lb;obtain⟨f1,f2⟩:=FS.splits hl hlb;obtain⟨w1,w2⟩:=hf.splitP hl;have n1:=Bc (g::t) g.l;have n2:=Bc (g::t) g.l.rev;have k1:=yi c g.l;have k2:=yi c g.l.rev;have o1:=zU hg.fo.ok hc;have o2:=zU (l:=g.l.rev) (ab.ok.rev hg.fo.ok) hc;refine Sj (x:=d9 acc n (ll (g::t) g.l) (bO c g.l)) (y:=d9 acc n (ll (g::t) g.l.rev) (bO c g.l.rev)) hl hlen hc (by omega) (by omega) hN (fun{b' N'} h2=>?_) (fun{b' N'} h2=>?_)
  .exact Ii hc2 hF f1 w1 (by omega) o1 (by omega) (by omega) h2
  .exact Ii hc2 hF f2 w2 (by omega) o2 (by omega) (by omega) h2
def AE{E:List aH}(hE: ∀u∈E,FS u){n:Nat}(hw:lh n E)(hn:n<=1000)(hlen:E.length<=100000){f:FuncId}{c2:List Value}{ds2:List DV}(hc2:IsLs GB ds2 c2){acc:aa->Bool}(hF: ∀q,aO q 20000->PF GB prog f (eZ q::ds2) (vB (acc q)))
  (hs:(d9 acc n E []).size<=65536)(hd:(d9 acc n E []).depth<=1000)(ho:(d9 acc n E []).all ab.ok)(hb:(d9 acc n E []).all LB):PF GB prog 31 [.sl (E.map bj), .v (.func (.func f) ⟨[]⟩ ⟨c2⟩)] (.tp [eU ((d9 acc n E []).restrict []), .v .nilIface]):=by
 refine SN func31 J J ntmps31 J J (fun C h0=>?_);refine dfr h0 J J J (by decide) (fun p q=>?_);refine gx J<|cm J (fun b=>Ii (b:=b) hc2 hF (n:=n) (l:=E) (c:=[]) (d:=0) (N:=0) hE hw hlen (fun s hs=>by cases hs) (by simp;omega) (by omega) (by omega)) J<|cl J (awo hb ho (by omega)) J<|Z1 Sz ⟨_,func70,J,J⟩ J J
end Go.Sx
end
