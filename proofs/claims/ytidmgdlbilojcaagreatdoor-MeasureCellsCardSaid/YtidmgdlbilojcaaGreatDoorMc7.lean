import Derived.Test.YtidmgdlbilojcaaGreatDoorMc6
import Derived.RangeFuncSeq
set_option linter.unusedSimpArgs false
set_option maxRecDepth 100000
set_option linter.unusedVariables false
section
namespace Go.Sx
open Go Go.Proofs Tryz
section
variable {P:Program} {C:Ctx} {n:Nat} {fr:Fr} {own own':List Own} {G:Gh} {Φ:Act→World→Prop}
variable {dst:Option Nat} {t t' ty':TypeId} {pos:String} {af:Array Edge} {gd:Option (Nat×Bool)} {x y:Operand} {e s by_:Nat}
theorem aC1[hT:acV P t e s by_]{z:Value}[hz:TyZ P e z]{k k':IntKind}{l:Int}(hx:opv fr x=some (.int k 0))(hy:opv fr y=some (.int k' l))(h0:0≤l)(hb:by_*l≤2^47)(hl:l≤2^60)(hs:(aag z).length=s)(hd:aaM n dst=true)
  (h: ∀b,St C n (put fr dst (.slice (some ⟨b,0,none⟩) 0 l.toNat)) (⟨b,abH z l.toNat,e,true⟩::own) G Φ):
  Ch P C n fr own G ⟨dst, .makeSlice t x y,ty',pos,af,gd⟩ Φ:=by
 intro a w Q rl
 have h1:(Instr.makeSlice t (a.eval x) (a.eval y)).run P w= .ok (.slice (some ⟨w.heap.size,0,none⟩) 0 l.toNat) (w.alloc (.cells ⟨abH z l.toNat⟩ e)):=by
  obtain⟨i,hi,hib⟩:=amM (P:=P) (t:=t) (e:=e) (s:=s) (by_:=by_) w
  rw[aac rl.fr hx,aac rl.fr hy]
  unfold Instr.makeSlice
  rw[aaa (hT.u w)]
  simp only[asInt,asIntOf]
  rw[aaa (a:=0) (w':=w) rfl,aaa (a:=l) (w':=w) rfl,aaa hi,hib]
  have hw:IntKind.i64.wrap l=l:=aeQ (by simp[IntKind.min,IntKind.max,IntKind.signed,IntKind.bits];omega)
  have hw0:IntKind.i64.wrap 0=0:=rfl
  simp only[hw,hw0]
  have c1: ¬((by_:Int)*l>2^48):=by
   have:(2:Int)^47≤2^48:=by decide
   omega
  have c5:decide ((by_:Int)*l>2^48)=false:=decide_eq_false c1
  have c2:decide (l<0)=false:=decide_eq_false (by omega)
  have c4:decide ((0:Int)>l)=false:=by simp;omega
  simp only[c2,c4,c5,Bool.false_or,Int.lt_irrefl,decide_false,Bool.or_false,jV,if_false]
  have hr: ¬(l.toNat*by_>roomBytes):=by
   unfold roomBytes
   have:((l.toNat*by_:Nat):Int)=by_*l:=by rw[jQ,pS h0,Int.mul_comm]
   have h47:((2^47:Nat):Int)=2^47:=by decide
   omega
  unfold askRoom
  simp only[hr,if_false]
  rw[aaa (run_pure _ _ _),aaa (hT.siz w)]
  have hn:l.toNat*s=l.toNat*(aag z).length:=by rw[hs]
  by_cases h00:l.toNat*s=0
  ·rw[if_pos h00,aaa (run_pure _ _ _)]
   have e0:abH z l.toNat=[]:=bR (by rw[ab0,hs];exact h00)
   rw[h00,e0,show(Array.range 0)= #[] from rfl,Array.map_empty]
   rfl
  ·rw[if_neg h00,aaa (hz.zero w),ac9]
   rw[aaa (run_pure _ _ _),aeH hn]
   rfl
 refine abA (v:= .slice (some ⟨w.heap.size,0,none⟩) 0 l.toNat) (aal h1) (h w.heap.size _ _ ((rl.heap (rl.h.alloc _ _)).put _ hd))
def ake(G:Gh)(ov:List Own):Gh:=fun b=>match G b with
 |some cs=>some cs
 |none=>(ov.find? fun o=>Nat.beq o.b b).map (·.cs)
theorem ao7{ov:List Own}:GLe G (ake G ov):=fun b cs h=>by unfold ake;rw[h]
theorem apW{o:Own}: ∀{ov:List Own},o∈ov→ov.Pairwise (fun x y=>x.b≠y.b)→ov.find? (fun u=>Nat.beq u.b o.b)=some o
 |u::t,ho,nd=>by
  rcases aT.1 ho with rfl|ho
  ·rw[List.find?_cons_of_pos (by simp)]
  ·have:=(cK.1 nd).1 o ho
   rw[List.find?_cons_of_neg (by simpa using this)]
   exact apW ho (cK.1 nd).2
theorem awi{ov:List Own}{o:Own}(ho:o∈ov)(hn:G o.b=none)(nd:ov.Pairwise (fun x y=>x.b≠y.b)):ake G ov o.b=some o.cs:=by
 unfold ake;rw[hn,apW ho nd];rfl
theorem abk.lendSub{ov:List Own}{w:World}(h:abk C ov G w)(b:Nat)(cs:List Value)(hb:ake G ov b=some cs): ∃ty fz,w.heap[b]? =some (.cells ⟨cs⟩ ty fz):=by
 unfold ake at hb
 split at hb
 ·rename_i hg;cases hb;exact h.sub _ _ hg
 ·cases hf:ov.find? (fun o=>Nat.beq o.b b) with
  |none=>rw[hf] at hb;cases hb
  |some o=>
   rw[hf] at hb;cases hb
   have e:o.b=b:=aL (by simpa using List.find?_some hf)
   subst e
   exact⟨_,_,(h.hown o (List.mem_of_find?_eq_some hf)).1⟩
theorem abk.lent{ov:List Own}{G':Gh}{w w':World}(h:abk C ov G w)(k:abk ⟨w,ake G ov,[],[],[],none,fun _=>none⟩ [] G' w'):abk C ov G w':=by
 have same: ∀b o,w.heap[b]? =some o→w'.heap[b]? =some o:=fun b o hb=>by rw[k.keep b (abX hb) (by simp)];exact hb
 have hsz:w.heap.size≤w'.heap.size:=k.size
 refine⟨k.os.trans h.os,k.tape.trans h.tape,k.output.trans h.output,cW h.size hsz,fun b hb hm=>?_,fun b cs hb=>?_,h.gle,h.gold,fun o ho=>?_,h.nd,cW h.dr k.dr,fun p hp=>⟨(h.ext p hp).1,same _ _ (h.ext p hp).2⟩⟩
 ·have:=h.size;rw[k.keep b (by show b<w.heap.size;omega) (by simp)];exact h.keep b hb hm
 ·obtain⟨ty,fz,h1⟩:=h.sub b cs hb;exact⟨ty,fz,same _ _ h1⟩
 ·obtain⟨h1,h2⟩:=h.hown o ho;exact⟨same _ _ h1,h2⟩
theorem aw5{f:FuncId}{fo:Operand}{args:Array Operand}{tys:Array TypeId}{vs:List Value}{K:Value→Gh→Prop}(ho:opv fr fo=some (.func (.func f) #[] #[]))(hv:agj fr args.toList=some vs)
  (hF:Fn P f vs (ake G own) K)(hd:aaM n dst=true)(h: ∀v (G':Gh),K v G'→St C n (put fr dst v) own G Φ):Ch P C n fr own G ⟨dst, .call ⟨.value fo,args,tys⟩,ty',pos,af,gd⟩ Φ:=by
 intro a w Q rl
 have h2:=aiD (c1:=[]) (c2:=[]) (P:=P) (dst:=dst) (ty':=ty') (pos:=pos) (af:=af) (gd:=gd) (tys:=tys) (w:=w) hF.able rl.fr ho hv
 rw[lZ,nQ] at h2
 simp only[Oper.wp,h2,Oper.upon]
 refine(hF.run w rl.h.lendSub).mono ?_
 rintro e w' ⟨v,G',rfl,hh,hK⟩
 exact h v G' hK _ _ ((rl.heap (rl.h.lent hh)).put _ hd)
end
def DV.np:DV→Bool
 | .v _=>true
 | .tp l=>l.all fun d=>match d with
  | .v _=>true
  |_=>false
 |_=>false
theorem ayJ{A G:Gh}: ∀{l:List DV} {m:List Value},(l.all fun d=>match d with| .v _=>true|_=>false)=true→IsLs A l m→IsLs G l m
 |[],m,_,k=>aaN.2 (aaN.1 k)
 |d::t,m,h,k=>by
  obtain⟨y,n,rfl,k1,k2⟩:=aad.1 k
  simp only[List.all_cons,bT] at h
  refine .cons ?_ (ayJ h.2 k2)
  cases d with
  |v x=>exact aaY.2 (aaY.1 k1)
  |_=>simp at h
theorem Is.np{A G:Gh}{d:DV}{y:Value}(h:d.np=true)(k:Is A d y):Is G d y:=by
 cases d with
 |v x=>exact aaY.2 (aaY.1 k)
 |tp l=>obtain⟨m,e,k⟩:=aem.1 k;exact aem.2 ⟨m,e,ayJ h k⟩
 |_=>cases h
section
variable {GB:Gh} {C:Ctx} {n:Nat} {Q0:Exit→Act→World→Prop} {fr fr':FrX} {own own':OwX} {cf cf':Cf} {vc:List Prop} {lk:LK} {bk:BM} {ρ:NE} {G:Gh} {ov:List Own} {a:Act} {w:World}
variable {dst:Option Nat} {t t' ty':TypeId} {pos:String} {af:Array Edge} {gd:Option (Nat×Bool)} {x y:Operand} {e s by_:Nat}
def aEF:Option Bk→Option (List DV)
 |some (.b _ _ ds _)=>some ds
 |some (.c _ _ ds _)=>some ds
 |_=>none
def aFP(lk:LK)(bk:BM)(x:Operand):Option DV:=match evX lk x with
 |some (.rw nm)=>match aEF (bk nm) with
  |some ds=>some (.sl ds)
  |none=>none
 |some f=>aml f
 |none=>none
def aFp(lk:LK)(bk:BM):List Operand→Option (List DV)
 |[]=>some []
 |x::t=>match aFP lk bk x,aFp lk bk t with
  |some d,some l=>some (d::l)
  |_,_=>none
theorem aBm(r:RlX GB C n lk bk ρ G ov a w){d:DV}(h:aFP lk bk x=some d): ∃y,opv (frA a) x=some y∧Is (ake G ov) d y:=by
 unfold aFP at h
 split at h
 ·rename_i nm h1
  obtain⟨y,h2,h3⟩:=r.ev h1
  cases (show y=_ from h3)
  refine⟨_,h2,?_⟩
  split at h<;>cases h
  rename_i ds hr
  obtain⟨ty,s,vs,B,hB,hv,hs,hBo⟩: ∃ty s vs B,Buf s ty (ρ nm) vs B∧IsLs G ds vs∧(∀v∈vs,(aag v).length=s)∧ ∀o∈B,o∈ov:=by
   unfold aEF at hr
   split at hr<;>cases hr
   ·rename_i hb;obtain⟨B,⟨vs,h4,h5,h6,_⟩,h7⟩:=r.bx _ _ hb;exact⟨_,_,vs,B,h4,h5,h6,h7⟩
   ·rename_i hb;obtain⟨B,⟨vs,h4,h5,h6,_⟩,h7⟩:=r.bx _ _ hb;exact⟨_,_,vs,B,h4,h5,h6,h7⟩
  rcases hB with⟨e1,e2,e3⟩|⟨b,rest,lo',e2,e3,h5,h6,h7⟩
  ·subst e1
   have ed:ds=[]:=bR (by rw[←hv.len];rfl)
   subst ed
   rw[e2]
   exact adZ.2 ⟨0,⟨none,0,0⟩,[],rfl, .nil _ 0, .nil⟩
  ·subst e3
   have ho:=hBo _ aZ
   have hg:=awi ho (r.h.hown _ ho).2.1 r.h.nd
   rw[e2]
   exact adZ.2 ⟨s,⟨some ⟨b,0,none⟩,vs.length,_⟩,vs,rfl,afe.of_flat hs hg h7,hv.up ao7⟩
 ·rename_i h1
  obtain⟨y,h2,h3⟩:=r.ev h1
  exact⟨y,h2,(acw h3 h).up ao7⟩
 ·cases h
theorem auX(r:RlX GB C n lk bk ρ G ov a w): ∀{l:List Operand} {ds:List DV},aFp lk bk l=some ds→ ∃vs,agj (frA a) l=some vs∧IsLs (ake G ov) ds vs
 |[],ds,e=>by cases e;exact⟨[],rfl, .nil⟩
 |x::t,ds,e=>by
  simp only[aFp] at e
  split at e<;>cases e
  rename_i h1 h2
  obtain⟨y,h3,h4⟩:=aBm r h1
  obtain⟨vs,h5,h6⟩:=auX r h2
  exact⟨y::vs,by simp only[agj,h3,h5], .cons h4 h6⟩
def aCn(lk:LK)(bk:BM)(fo:Operand)(args:Array Operand):Option (FuncId×List DV):=match evX lk fo with
 |some (.d (.v (.func (.func f) ⟨[]⟩ ⟨[]⟩)))=>match aFp lk bk args.toList with
  |some ds=>some (f,ds)
  |none=>none
 |_=>none
theorem aws{fo:Operand}{args:Array Operand}{tys:Array TypeId}{f:FuncId}{ds:List DV}{rv:DV}(ha:aCn lk bk fo args=some (f,ds))(hnp:rv.np=true)(hF:PF GB prog f ds rv):OpR prog GB C n lk bk ⟨dst, .call ⟨.value fo,args,tys⟩,ty',pos,af,gd⟩ (.d rv) [] []:=by
 intro hd tl tb K' s1 s2 hf hk
 refine⟨fun ρ G ov a w r Q=>?_⟩
 have r1:=r.mono s1 s2
 unfold aCn at ha
 split at ha<;>try (cases ha;done)
 rename_i h1
 split at ha<;>cases ha
 rename_i h2
 obtain⟨y,hy,hy'⟩:=r1.ev h1
 rw[(aaY (G:=G)).1 hy'] at hy
 obtain⟨vs,h3,h4⟩:=auX r1 h2
 refine aw5 hy h3 (hF _ vs (r.gb.trans ao7) h4) hd (fun v G' hK a' w' rl=>?_) a w Q ⟨r.h,r.sz,aaF a,r.df⟩
 exact hk.run ρ G ov a' w' ⟨r.gb,rl.h,rl.sz,rl.df,(abg rl).fx (fun k g _ e=>r.fx k g e) (Is.np hnp hK),r.bx,r.dj,r.fxd⟩
def aHx(fr:FrX)(own:OwX)(cf:Cf):Option (FuncId×List DV):=match opC fr cf with
 |some ⟨_, .call ⟨.value fo,args,_⟩,_,_,_,_⟩=>aCn (lkC fr cf) (bkC fr own cf) fo args
 |_=>none
theorem cL[fu:Fu]{f:FuncId}{ds:List DV}{rv:DV}(ha:aHx fr own cf=some (f,ds))(hF:PF GB prog f ds rv)(hnp:rv.np=true)(hgo:goA tt n fu.n fr own cf (.d rv) [] []=⟨vc,fr',own',cf'⟩)(k:CfS prog GB C n Q0 fr' own' cf')
  (hv:aah vc:=by first|exact trivial|(simp only[aah];kernel_rfl)|(simp only[aah];omega)):CfS prog GB C n Q0 fr own cf:=by
 unfold aHx at ha
 split at ha<;>try (cases ha;done)
 rename_i hh
 exact us hh (aws ha hnp hF) hgo hv k
theorem aEU{d cap:Nat}{i:TI}{z:DV}{k k':IntKind}[hT:acV prog t e s by_](hi:afC prog e=some i)(hz:zeE i=some z)(hs:Nat.beq z.cells.length s=true)(hx:evX lk x=some (.d (.v (.int k 0))))(hy:evX lk y=some (.d (.v (.int k' (cap:Nat)))))(hb:by_*cap≤140737488355328)(hl:cap≤1152921504606846976):
  OpR prog GB C n lk bk ⟨some d, .makeSlice t x y,ty',pos,af,gd⟩ (.rw d) [(d,some (.c e s [] cap))] [d]:=by
 intro hd tl tb K s1 s2 hf hk
 refine⟨fun ρ G ov a w r Q=>?_⟩
 obtain⟨v,hz1,hz2,hz3⟩:=akI hi hz
 obtain⟨q1,p1,p2⟩:=(r.mono s1 s2).ev hx
 obtain⟨q2,p3,p4⟩:=(r.mono s1 s2).ev hy
 rw[aay] at p2 p4;subst p2 p4
 have c1:=((hz2 G).cells hz3).1.len
 replace hs:=aL hs
 refine aC1 p1 p3 (by omega) (by have:((by_*cap:Nat):Int)=by_*cap:=jQ ..;omega) (by omega) (by rw[c1,hs]) hd (fun b a' w' rl=>?_) a w Q ⟨r.h,r.sz,aaF a,r.df⟩
 rw[bZ] at rl
 have hnd:=(cK.1 rl.h.nd).1
 refine hk.run _ _ _ a' w' (r.new' (x:=⟨some ⟨b,0,none⟩,0,cap⟩) (B':= .c e s [] cap) (os:=[⟨b,abH v cap,e,true⟩]) (f:= .rw d) (y:= .slice (some ⟨b,0,none⟩) 0 cap) hf (GLe.refl _) rl.h ⟨[], .inr ⟨b,abH v cap,true,by simp,rfl,by simp[aaj],?_,by simp⟩, .nil,by simp,fun o ho=>by rw[aV.1 ho],by simp⟩
  (fun o ho=>by rw[aV.1 ho];exact aZ) (fun m B' _ _ o ho _=>⟨aJ _ ho,fun e'=>by cases e';exact hnd o ho rfl⟩) (by show _=_;simp) (abg rl))
 rw[ab0,c1,hs];simp[aaj]
theorem aEd{d nm cap:Nat}{ds ds2:List DV}[hT:acV prog t e s by_][hN:TyN prog t'](hx:evX lk x=some (.rw nm))(hb:bk nm=some (.c e s ds cap))(hy:auH lk bk s y=some ds2)(hk2:adh s ds2)(hc:ds.length+ds2.length≤cap)(hp:0<ds2.length)(hnd:Nat.beq nm d=false):
  OpR prog GB C n lk bk ⟨some d, .call ⟨.builtin .append, #[x,y], #[t,t']⟩,ty',pos,af,gd⟩ (.rw d) [(nm,none),(d,some (.c e s (ds++ds2) cap))] [d]:=by
 intro hd tl tb K s1 s2 hf hk
 refine⟨fun ρ G ov a w r Q=>?_⟩
 have r1:=r.mono s1 s2
 have hne:nm≠d:=fun e=>by subst e;simp at hnd
 obtain⟨u,hx',hx2⟩:=r1.ev hx
 cases hx2
 obtain⟨B,⟨vs,hB,hv,hvs,hlo,hcap⟩,hBo⟩:=r1.bx _ _ hb
 obtain⟨w2,us,hy',h2,h3,h4,h5,h6⟩:=anh (P:=prog) (C:=C) r1 hy hk2
 have hus:(aaj us).length=us.length*s:=aax us h4
 have hl1:=hv.len
 have hl2:=h3.len
 have rd:=r.dropB nm
 have hf':acS [d] (some d) tl (Sx.upB tb [(nm,none)]):=fun m hm=>by
  obtain⟨g1,g2⟩:=hf m hm
  refine⟨g1,fun k B' hk e=>g2 k B' hk ?_⟩
  simp only[Sx.upB] at e
  split at e
  ·cases e
  ·exact e
 rcases hB with⟨e1,e2,e3⟩|⟨b,rest,lo',k3,k4,k5,k6,k7⟩
 ·rw[e2] at hcap;simp at hcap;omega
 subst k4
 have hl':=hlo _ aZ
 simp only at hl';subst hl'
 have ha:(ρ nm).a=some ⟨b,0,none⟩:=by rw[k3]
 have hn:(ρ nm).n=vs.length:=by rw[k3]
 rw[ha,hn] at hx'
 rw[h2] at hy' h6
 have hin:=hBo _ aZ
 obtain⟨l1,l2,e5⟩:=lV hin
 have hperm:ov.Perm (⟨b,aaj vs++rest,e,true⟩::(l1++l2)):=by rw[e5];exact nN
 have hall: ∀v∈vs++us,(aag v).length=s:=fun v hv=>by
  rcases bY.1 hv with hv|hv
  ·exact hvs v hv
  ·exact h4 v hv
 have hcs:(aaj vs++rest).length=(ρ nm).c*s:=by rw[aR];exact k6
 have hroom:vs.length+us.length≤(ρ nm).c:=by omega
 have hmul:(vs.length+us.length)*s≤(ρ nm).c*s:=bK _ hroom
 rw[cS] at hmul
 have hrest:us.length*s≤rest.length:=by rw[k5] at k6;omega
 have hovw:ovw (aaj vs++rest) (vs.length*s) (aaj us)=aaj (vs++us)++rest.drop (us.length*s):=by
  rw[acC _ _ _ (by rw[hus,aR];omega),adi,←k5]
  simp[hus,mK,iQ]
 refine afW (P:=prog) (own:=⟨b,aaj vs++rest,e,true⟩::(l1++l2)) (m:=us.length) (ys:=aaj us) hx' hy' (.hd ..) hcs (fun w hh=>h6 w (hh.perm hperm.symm)) hus h5 hroom hd (fun a' w' rl=>?_) a w Q ⟨r.h.perm hperm,r.sz,aaF a,r.df⟩
 rw[hovw] at rl
 have hnd':=(cK.1 rl.h.nd).1
 refine hk.run _ _ _ a' w' (rd.new' (x:=⟨some ⟨b,0,none⟩,vs.length+us.length,(ρ nm).c⟩) (B':= .c e s (ds++ds2) cap) (os:=[⟨b,aaj (vs++us)++rest.drop (us.length*s),e,true⟩]) (f:= .rw d) (y:= .slice (some ⟨b,0,none⟩) (vs.length+us.length) (ρ nm).c) hf' (GLe.refl _) rl.h
  ⟨vs++us, .inr ⟨b,rest.drop (us.length*s),true,by simp,rfl,aax _ hall,?_,by simpa using hroom⟩,hv.app h3,hall,fun o ho=>by rw[aV.1 ho],by simpa using hcap⟩ (fun o ho=>by rw[aV.1 ho];exact aZ)
  (fun m B' hm e' o ho hmo=>?_) (by show _=_;simp) (abg rl))
 ·rw[aax _ hall,aR,gV,cS]
  simp only[if_true]
  rw[k5] at k6;omega
 ·have hmn:m≠nm∧tb m=some B':=by
   simp only[Sx.upB] at e'
   split at e'
   ·cases e'
   ·exact⟨by assumption,e'⟩
  have hob:o.b≠b:=fun e6=>r.dj m nm B' _ hmn.2 (s2 _ _ hb) hmn.1 b (by rw[hmo,e6]) ha
  refine⟨?_,fun e6=>by cases e6;exact hob rfl⟩
  rcases aT.1 (hperm.mem_iff.1 ho) with rfl|ho
  ·exact absurd rfl hob
  ·exact aJ _ ho
end
section
variable {GB:Gh} {C:Ctx} {n:Nat} {Q0:Exit→Act→World→Prop} {fr fr':FrX} {own own':OwX} {cf cf':Cf} {vc:List Prop}
theorem mkc[fu:Fu]{d e s b:Nat}{z:DV}{k':IntKind}(cap:Nat)(h:mkA fr cf=some ⟨d,e,s,b,z,0⟩)(hy:(match opC fr cf with|some ⟨_, .makeSlice _ _ y,_,_,_,_⟩=>evX (lkC fr cf) y|_=>none)=some (.d (.v (.int k' (cap:Nat)))))
  (hgo:goA tt n fu.n fr own cf (.rw d) [(d,some (.c e s [] cap))] [d]=⟨vc,fr',own',cf'⟩)(k:CfS prog GB C n Q0 fr' own' cf')(hb:b*cap≤140737488355328:=by omega)(hl:cap≤1152921504606846976:=by omega)
  (hv:aah vc:=by first|exact trivial|(simp only[aah];kernel_rfl)|(simp only[aah];omega)):CfS prog GB C n Q0 fr own cf:=by
 unfold mkA at h
 split at h<;>try (cases h;done)
 rename_i hh
 split at h<;>try (cases h;done)
 rename_i hx
 split at h<;>try (cases h;done)
 rename_i hT
 split at h<;>try (cases h;done)
 rename_i hi
 split at h<;>try (cases h;done)
 rename_i hz
 rw[cond_eq_ite] at h
 split at h<;>cases h
 rename_i hs
 rw[hh] at hy
 have:=afT (ab2 _ _ hT) rfl
 exact us hh (aEU (ab2 _ _ hi) hz hs hx hy hb hl) hgo hv k
structure aIq where
 d:Nat
 nm:Nat
 e:Nat
 s:Nat
 ds:List DV
 ds2:List DV
 cap:Nat
def aHw(fr:FrX)(own:OwX)(cf:Cf):Option aIq:=match opC fr cf with
 |some ⟨some d, .call ⟨.builtin .append,⟨[x,y]⟩,⟨[t,t']⟩⟩,_,_,_,_⟩=>match abc tt t,abc tt t' with
  |some ⟨.sl e s _,_,_,_⟩,some ⟨.sl _ _ _,_,_,_⟩=>match evX (lkC fr cf) x with
   |some (.rw nm)=>match bkC fr own cf nm,auH (lkC fr cf) (bkC fr own cf) s y with
    |some (.c e' s' ds cap),some ds2=>bif (Nat.beq e' e&&Nat.beq s' s)&&!Nat.beq nm d then some ⟨d,nm,e,s,ds,ds2,cap⟩ else none
    |_,_=>none
   |_=>none
  |_,_=>none
 |_=>none
theorem apc[fu:Fu]{d nm e s cap:Nat}{ds ds2:List DV}(ds':List DV)(h:aHw fr own cf=some ⟨d,nm,e,s,ds,ds2,cap⟩)(hds:ds++ds2=ds')(ho2:adh s ds2)(hc:ds.length+ds2.length≤cap)(hgo:goA tt n fu.n fr own cf (.rw d) [(nm,none),(d,some (.c e s ds' cap))] [d]=⟨vc,fr',own',cf'⟩)(k:CfS prog GB C n Q0 fr' own' cf')
  (hp:0<ds2.length:=by simp)(hv:aah vc:=by first|exact trivial|(simp only[aah];kernel_rfl)|(simp only[aah];omega)):CfS prog GB C n Q0 fr own cf:=by
 subst hds
 unfold aHw at h
 split at h<;>try (cases h;done)
 rename_i hh
 split at h<;>try (cases h;done)
 rename_i hT hT'
 split at h<;>try (cases h;done)
 rename_i hx
 split at h<;>try (cases h;done)
 rename_i hb hy
 rw[cond_eq_ite] at h
 split at h<;>cases h
 rename_i h2
 simp only[bT,gQ] at h2
 cases aL h2.1.1
 cases aL h2.1.2
 have:=afT (ab2 _ _ hT) rfl
 have hN:TyN prog _:=⟨_,(afT (ab2 _ _ hT') rfl).un⟩
 exact us hh (aEd hx hb hy ho2 hc hp h2.2) hgo hv k
def PI(GB:Gh)(P:Program)(f:FuncId)(i:Int)(s:Nat)(ty ty2:TypeId)(ds:List DV)(x:DV)(cap:Nat)(dso:List DV):Prop:=
 ∀G w w2 B B2,GLe GB G→abw G ⟨w,s,ty,ds,false⟩ B→cap≤w.c→abw G ⟨w2,s,ty2,[x],false⟩ B2→FnO P f [.slice w.a w.n w.c, .int .i64 i, .slice w2.a w2.n w2.c] (B++B2) G fun v own' G'=> ∃w',v= .slice w'.a w'.n w'.c∧abw G' ⟨w',s,ty,dso,false⟩ own'
structure CiA where
 f:FuncId
 nm:Nat
 nm2:Nat
 i:Int
 ty:TypeId
 ty2:TypeId
 s:Nat
 ds:List DV
 x:DV
 cap:Nat
 d:Nat
def aHK(fr:FrX)(own:OwX)(cf:Cf):Option CiA:=match opC fr cf with
 |some ⟨some d, .call ⟨.value fo,⟨[x1,x2,x3]⟩,_⟩,_,_,_,_⟩=>match evX (lkC fr cf) fo,evX (lkC fr cf) x1 with
  |some (.d (.v (.func (.func f) ⟨[]⟩ ⟨[]⟩))),some (.rw nm)=>match evX (lkC fr cf) x2,evX (lkC fr cf) x3 with
   |some (.d (.v (.int .i64 i))),some (.rw nm2)=>match bkC fr own cf nm,bkC fr own cf nm2 with
    |some (.c ty s ds cap),some (.b ty2 s2 [x] true)=>bif (!Nat.beq nm d&&!Nat.beq nm2 d)&&(!Nat.beq nm nm2&&(Nat.beq s2 s&&Nat.blt 0 cap)) then some ⟨f,nm,nm2,i,ty,ty2,s,ds,x,cap,d⟩ else none
    |_,_=>none
   |_,_=>none
  |_,_=>none
 |_=>none
theorem awJ{lk:LK}{bk:BM}{fo x1 x2 x3:Operand}{tys:Array TypeId}{f:FuncId}{nm nm2 d cap s:Nat}{i:Int}{ty0 ty2:TypeId}{ty:TypeId}{pos:String}{af:Array Edge}{gd:Option (Nat×Bool)}{ds dso:List DV}{x:DV}(hne:Nat.beq nm d=false)(hne2:Nat.beq nm2 d=false)(hn2:Nat.beq nm nm2=false)(hcp:0<cap)
  (h0:evX lk fo=some (.d (.v (.func (.func f) ⟨[]⟩ ⟨[]⟩))))(h1:evX lk x1=some (.rw nm))(h2:evX lk x2=some (.d (.v (.int .i64 i))))(h3:evX lk x3=some (.rw nm2))(hb:bk nm=some (.c ty0 s ds cap))(hb2:bk nm2=some (.b ty2 s [x] true))(hF:PI GB prog f i s ty0 ty2 ds x cap dso):
  OpR prog GB C n lk bk ⟨some d, .call ⟨.value fo,⟨[x1,x2,x3]⟩,tys⟩,ty,pos,af,gd⟩ (.rw d) [(nm,none),(nm2,none),(d,some (.b ty0 s dso true))] [d]:=by
 intro hd tl tb K' s1 s2 hf hk
 refine⟨fun ρ G ov a w r Q=>?_⟩
 have r1:=r.mono s1 s2
 obtain⟨y,hy,hy'⟩:=r1.ev h0
 rw[(aaY (G:=G)).1 hy'] at hy
 obtain⟨y1,p1,p1'⟩:=r1.ev h1
 cases (show y1=_ from p1')
 obtain⟨y2,p2,p2'⟩:=r1.ev h2
 rw[aay] at p2';subst p2'
 obtain⟨y3,p3,p3'⟩:=r1.ev h3
 cases (show y3=_ from p3')
 have hnn:nm≠d:=fun e=>by subst e;rw[oY] at hne;cases hne
 have hnn2:nm2≠d:=fun e=>by subst e;rw[oY] at hne2;cases hne2
 have hnm:nm≠nm2:=fun e=>by subst e;rw[oY] at hn2;cases hn2
 obtain⟨B,g1,g2⟩:=r1.bx _ _ hb
 obtain⟨B2,k1,k2⟩:=r1.bx _ _ hb2
 obtain⟨vs,q1,q2,q3,q4,q5⟩:=g1
 have hB:abw G ⟨ρ nm,s,ty0,ds,false⟩ B:=⟨vs,q1,q2,q3,fun h=>by cases h⟩
 have hB2:abw G ⟨ρ nm2,s,ty2,[x],false⟩ B2:=abw.weak (lo:=true) k1
 have e1: ∃o,B=[o]∧(ρ nm).a=some ⟨o.b,0,none⟩:=by
  rcases q1 with⟨_,e,_⟩|⟨b,rest,lo',e,rfl,_⟩
  ·rw[e] at q5;simp at q5;omega
  ·exact⟨_,rfl,by rw[e]⟩
 have e2: ∃o,B2=[o]∧(ρ nm2).a=some ⟨o.b,0,none⟩:=by
  obtain⟨vs2,c1,c2,_⟩:=k1
  rcases c1 with⟨e,_,_⟩|⟨b,rest,lo',e,rfl,_⟩
  ·subst e;have:=c2.len;simp at this
  ·exact⟨_,rfl,by rw[e]⟩
 obtain⟨o1,rfl,a1⟩:=e1
 obtain⟨o2,rfl,a2⟩:=e2
 have hob:o1.b≠o2.b:=fun e=>r.dj nm nm2 _ _ (s2 _ _ hb) (s2 _ _ hb2) hnm _ a1 (by rw[a2,e])
 have hp: ∃rest,ov.Perm ([o1]++[o2]++rest):=by
  obtain⟨l1,l2,e3⟩:=lV (g2 _ aZ)
  have hm:=k2 _ aZ
  rw[e3] at hm⊢
  have hm2:o2∈l1++l2:=by
   rcases bY.1 hm with h|h
   ·exact cX _ h
   ·rcases aT.1 h with h|h
    ·exact absurd (by rw[h]) hob
    ·exact cY _ h
  obtain⟨l3,l4,e4⟩:=lV hm2
  refine⟨l3++l4,List.perm_middle.trans ?_⟩
  rw[e4]
  exact(nN (l₁:=l3) (l₂:=l4) (a:=o2)).cons o1
 obtain⟨rest,h5⟩:=hp
 have h6: ∀o∈ov,o.b≠o1.b→o.b≠o2.b→o∈rest:=fun o ho n1 n2=>by
  have:=h5.mem_iff.1 ho
  simp only[jX,lZ,aT] at this
  rcases this with rfl|rfl|h
  ·exact absurd rfl n1
  ·exact absurd rfl n2
  ·exact h
 have hlo2: ∀o∈[o2],o.lo=true:=by obtain⟨_,_,_,_,h⟩:=k1;exact h rfl
 have hall: ∀o∈[o1]++[o2],o.lo=true:=fun o ho=>by
  rcases bY.1 ho with h|h
  ·exact q4 o h
  ·exact hlo2 o h
 refine aeL (M:=[o1]++[o2]) (rest:=rest) (vs:=[.slice (ρ nm).a (ρ nm).n (ρ nm).c, .int .i64 i, .slice (ρ nm2).a (ρ nm2).n (ρ nm2).c]) hy (by simp only[agj,p1,p2,p3]) h5 (hF G (ρ nm) (ρ nm2) [o1] [o2] r.gb hB q5 hB2) hd (fun v own1 G' hG hK a' w' rl=>?_) a w Q ⟨r.h,r.sz,aaF a,r.df⟩
 obtain⟨z,rfl,vs',k1',k2',k3',k4'⟩:=hK
 have hs1:=k1'.relo (flM ([o1]++[o2]))
 have e3: ∀o∈own1.map (relo (flM ([o1]++[o2]))),o.lo=true:=fun o ho=>by
  obtain⟨o',_,rfl⟩:=bJ.1 ho
  exact al4 _ hall
 generalize own1.map (relo (flM ([o1]++[o2])))=B' at rl e3 hs1
 have rl':Rel C n (Sx.put (frA a) (some d) (.slice z.a z.n z.c)) (B'++rest) G' a' w':=rl
 have hdis:=(fM.1 rl'.h.nd).2.2
 have rd:=(r.dropB nm).dropB nm2
 have hin: ∀q B0,Sx.upB (Sx.upB tb [(nm,none)]) [(nm2,none)] q=some B0→q≠nm∧q≠nm2∧tb q=some B0:=fun q B0 e=>by
  simp only[Sx.upB] at e
  split at e
  ·cases e
  ·split at e
   ·cases e
   ·exact⟨by assumption,by assumption,e⟩
 have hf2:acS [d] (some d) tl (Sx.upB (Sx.upB tb [(nm,none)]) [(nm2,none)]):=fun q hq=>by
  obtain⟨f1,f2⟩:=hf q hq
  exact⟨f1,fun k B e1 e=>f2 k B e1 (hin k B e).2.2⟩
 have hsep: ∀q B0,Sx.upB (Sx.upB tb [(nm,none)]) [(nm2,none)] q=some B0→ ∀o∈ov,(ρ q).a=some ⟨o.b,0,none⟩→o∈rest:=fun q B0 e o ho hbq=>by
  obtain⟨n1,n2,n3⟩:=hin q B0 e
  exact h6 o ho (fun e'=>r.dj nm q _ _ (s2 _ _ hb) n3 (Ne.symm n1) _ a1 (by rw[hbq,e'])) (fun e'=>r.dj nm2 q _ _ (s2 _ _ hb2) n3 (Ne.symm n2) _ a2 (by rw[hbq,e']))
 have r3:=rd.new' (x:=z) (B':= .b ty0 s dso true) (os:=B') (ov':=B'++rest) (f:= .rw d) (y:= .slice z.a z.n z.c) hf2 hG.le rl'.h ⟨vs',by simpa using hs1,k2',k3',fun _=>e3⟩ (fun o ho=>cX _ ho)
  (fun q B0 hq e o ho hbq=>⟨cY _ (hsep q B0 e o ho hbq),fun hc=>by
   have hx: ∃o1∈B',o1.b=o.b:=by
    rcases hs1 with⟨_,h,_⟩|⟨b0,rest0,lo0,h,hB,_⟩
    ·rw[show z=_ from h] at hc;cases hc
    ·rw[show z=_ from h] at hc;cases hc;exact⟨⟨_,aaj vs'++rest0,_,lo0⟩,by rw[hB];exact aZ,rfl⟩
   obtain⟨o3,ho3,he3⟩:=hx
   exact hdis o3 ho3 o (hsep q B0 e o ho hbq) he3⟩) (by show _=_;simp) (abg rl')
 exact hk.run _ G' _ a' w' r3
theorem ci[fu:Fu]{f:FuncId}{nm nm2 d cap s:Nat}{i:Int}{ty ty2:TypeId}{ds dso:List DV}{x:DV}(dso':List DV)(ha:aHK fr own cf=some ⟨f,nm,nm2,i,ty,ty2,s,ds,x,cap,d⟩)(hF:PI GB prog f i s ty ty2 ds x cap dso)(he:dso=dso')
  (hgo:goA tt n fu.n fr own cf (.rw d) [(nm,none),(nm2,none),(d,some (.b ty s dso' true))] [d]=⟨vc,fr',own',cf'⟩)(k:CfS prog GB C n Q0 fr' own' cf')
  (hv:aah vc:=by first|exact trivial|(simp only[aah];kernel_rfl)|(simp only[aah];omega)):CfS prog GB C n Q0 fr own cf:=by
 subst he
 unfold aHK at ha
 split at ha<;>try (cases ha;done)
 rename_i hh
 split at ha<;>try (cases ha;done)
 rename_i h0 h1
 split at ha<;>try (cases ha;done)
 rename_i h2 h3
 split at ha<;>try (cases ha;done)
 rename_i hb hb2
 rw[cond_eq_ite] at ha
 split at ha<;>cases ha
 rename_i hc
 simp only[bT,gQ,lN] at hc
 obtain⟨⟨c1,c2⟩,c3,c4,c5⟩:=hc
 cases aL c4
 exact us hh (awJ c1 c2 c3 c5 h0 h1 h2 h3 hb hb2 hF) hgo hv k
theorem kbT(d:Nat){ops:Array Oper}{r:List Oper}{K:List Kt}(hl:aao fr d=some (.d (.v (.bool true))))(k:CfS prog GB C n Q0 ((d, .tt)::fr) own (.ops ops r K)):CfS prog GB C n Q0 fr own (.ops ops r K):=abo (g:= .tt) hl (fun _ G _ e=>(aaY (G:=G)).1 e) k
theorem kbF(d:Nat){ops:Array Oper}{r:List Oper}{K:List Kt}(hl:aao fr d=some (.d (.v (.bool false))))(k:CfS prog GB C n Q0 ((d, .ff)::fr) own (.ops ops r K)):CfS prog GB C n Q0 fr own (.ops ops r K):=abo (g:= .ff) hl (fun _ G _ e=>(aaY (G:=G)).1 e) k
end
section
variable {GB:Gh} {C:Ctx} {n:Nat} {Q0:Exit→Act→World→Prop} {fr fr':FrX} {own own':OwX} {cf cf':Cf} {vc:List Prop}
def PR(GB:Gh)(P:Program)(f:FuncId)(ds:List DV)(s:Nat)(ty:TypeId)(rows:List DV):Prop:=
 ∀G vs,GLe GB G→IsLs G ds vs→FnO P f vs [] G (fun v own' G'=> ∃w:SV,v= .slice w.a w.n w.c∧abw G' ⟨w,s,ty,rows,true⟩ own')
theorem asD: ∀(l:List Own),(∀o∈l,o.lo=true)→l.map (relo (flM []))=l
 |[],_=>rfl
 |a::t,h=>by
  have h1:=h a aZ
  rw[cZ,asD t fun o ho=>h o (aJ _ ho)]
  congr 1
  cases a
  simp[relo,flM] at*
  exact h1
theorem axF{lk:LK}{bk:BM}{fo:Operand}{args:Array Operand}{tys:Array TypeId}{f:FuncId}{d s:Nat}{ds rows:List DV}{ty ty2:TypeId}{pos:String}{af:Array Edge}{gd:Option (Nat×Bool)}
  (ha:alQ lk fo args=some (f,ds))(hF:PR GB prog f ds s ty2 rows):OpR prog GB C n lk bk ⟨some d, .call ⟨.value fo,args,tys⟩,ty,pos,af,gd⟩ (.rw d) [(d,some (.b ty2 s rows true))] [d]:=by
 intro hd tl tb K' s1 s2 hf hk
 refine⟨fun ρ G ov a w r Q=>?_⟩
 have r1:=r.mono s1 s2
 obtain⟨h1,h2⟩:=aiq ha
 obtain⟨y,hy,hy'⟩:=r1.ev h1
 rw[(aaY (G:=G)).1 hy'] at hy
 obtain⟨vs,h3,h4⟩:=r1.evDs h2
 refine aeL (M:=[]) (rest:=ov) hy h3 (List.Perm.refl _) (hF G vs r.gb h4) hd (fun v own1 G' hG hK a' w' rl=>?_) a w Q ⟨r.h,r.sz,aaF a,r.df⟩
 obtain⟨z,rfl,vs',k1,k2,k3,k4⟩:=hK
 rw[asD _ (k4 rfl)] at rl
 have rl':Rel C n (Sx.put (frA a) (some d) (.slice z.a z.n z.c)) (own1++ov) G' a' w':=rl
 have hdis:=(fM.1 rl'.h.nd).2.2
 have r3:=r.new' (x:=z) (B':= .b ty2 s rows true) (os:=own1) (ov':=own1++ov) (f:= .rw d) (y:= .slice z.a z.n z.c) hf hG.le rl'.h ⟨vs',by simpa using k1,k2,k3,k4⟩ (fun o ho=>cX _ ho)
  (fun q B0 hq e o ho hbq=>⟨cY _ ho,fun hc=>by
   have hx: ∃o1∈own1,o1.b=o.b:=by
    rcases k1 with⟨_,h,_⟩|⟨b0,rest0,lo0,h,hB,_⟩
    ·rw[show z=_ from h] at hc;cases hc
    ·rw[show z=_ from h] at hc;cases hc;exact⟨⟨_,aaj vs'++rest0,_,lo0⟩,by rw[hB];exact aZ,rfl⟩
   obtain⟨o1,ho1,he1⟩:=hx
   exact hdis o1 ho1 o ho he1⟩) (by simp[IsX]) (abg rl')
 exact hk.run _ G' _ a' w' r3
def aHy(fr:FrX)(cf:Cf):Option (FuncId×List DV×Nat):=match opC fr cf with
 |some ⟨some d, .call ⟨.value fo,args,_⟩,_,_,_,_⟩=>match alQ (lkC fr cf) fo args with
  |some (f,ds)=>some (f,ds,d)
  |none=>none
 |_=>none
theorem cr[fu:Fu]{f:FuncId}{d s:Nat}{ds rows:List DV}{ty:TypeId}(ha:aHy fr cf=some (f,ds,d))(hF:PR GB prog f ds s ty rows)
  (hgo:goA tt n fu.n fr own cf (.rw d) [(d,some (.b ty s rows true))] [d]=⟨vc,fr',own',cf'⟩)(k:CfS prog GB C n Q0 fr' own' cf')
  (hv:aah vc:=by first|exact trivial|(simp only[aah];kernel_rfl)|(simp only[aah];omega)|(simp only[aah,aK,aN,aY];omega)):CfS prog GB C n Q0 fr own cf:=by
 unfold aHy at ha
 split at ha<;>try (cases ha;done)
 rename_i hh
 split at ha<;>cases ha
 rename_i h1
 exact us hh (axF h1 hF) hgo hv k
def aHI(C:Ctx)(s:Nat)(ty:TypeId)(rows:List DV):Ending→World→Prop:=agE C (fun v own' G'=> ∃w:SV,v= .slice w.a w.n w.c∧abw G' ⟨w,s,ty,rows,true⟩ own')
end
section
variable {GB:Gh} {C:Ctx} {n:Nat} {Q0:Exit→Act→World→Prop} {fr fr':FrX} {own own':OwX} {cf cf':Cf} {vc:List Prop}
theorem awH{lk:LK}{bk:BM}{fo:Operand}{args:Array Operand}{tys:Array TypeId}{f:FuncId}{nm d:Nat}{l:List (Option DV)}{s:Nat}{ty ty0:TypeId}{pos:String}{af:Array Edge}{gd:Option (Nat×Bool)}{dsi dso:List DV}{lo:Bool}(hne:Nat.beq nm d=false)
  (ha:arZ lk fo args=some (f,nm,l))(hb:bk nm=some (.b ty0 s dsi lo))(hF:PB GB prog f (mkB l) s ty0 dsi (fun w=> .v (.slice w.a w.n w.c)) dso):OpR prog GB C n lk bk ⟨some d, .call ⟨.value fo,args,tys⟩,ty,pos,af,gd⟩ (.rw d) [(nm,none),(d,some (.b ty0 s dso lo))] [d]:=by
 intro hd tl tb K' s1 s2 hf hk
 refine⟨fun ρ G ov a w r Q=>?_⟩
 have r1:=r.mono s1 s2
 unfold arZ at ha
 split at ha<;>try (cases ha;done)
 rename_i h1
 split at ha<;>cases ha
 rename_i h2
 obtain⟨y,hy,hy'⟩:=r1.ev h1
 rw[(aaY (G:=G)).1 hy'] at hy
 obtain⟨B,g1,g2⟩:=r1.bx _ _ hb
 have hB:abw G ⟨ρ nm,s,ty0,dsi,lo⟩ B:=g1
 obtain⟨vs,h7,h8⟩:=amh r1 (z:=ρ nm) h2 (fun nm e=>by cases e;rfl)
 have hp: ∃rest,ov.Perm (B++rest)∧ ∀o∈ov,(∀o'∈B,o.b≠o'.b)→o∈rest:=by
  rcases hB with⟨vs',⟨_,_,e⟩|⟨b0,r0,lo0,_,e,_⟩,_⟩
  ·rw[e];exact⟨ov,List.Perm.refl _,fun o ho _=>ho⟩
  ·rw[e] at g2⊢
   obtain⟨l1,l2,e2⟩:=lV (g2 _ aZ)
   rw[e2]
   refine⟨l1++l2,nN,fun o ho hno=>?_⟩
   rcases bY.1 ho with ho|ho
   ·exact cX _ ho
   ·rcases aT.1 ho with rfl|ho
    ·exact absurd rfl (hno _ aZ)
    ·exact cY _ ho
 obtain⟨rest,h5,h6⟩:=hp
 refine aeL (M:=B) (rest:=rest) hy h7 h5 (hF G (ρ nm) vs B r.gb hB.weak h8) hd (fun v own1 G' hG hK a' w' rl=>?_) a w Q ⟨r.h,r.sz,aaF a,r.df⟩
 obtain⟨z,hr,vs',k1,k2,k3,k4⟩:=hK
 have k1':=k1.relo (flM B)
 have e2:lo=true→ ∀o∈own1.map (relo (flM B)),o.lo=true:=fun hl o ho=>by
  obtain⟨o',_,rfl⟩:=bJ.1 ho
  obtain⟨_,_,_,_,hlo⟩:=hB
  exact al4 _ (hlo hl)
 generalize own1.map (relo (flM B))=B' at rl e2 k1'
 have rl':Rel C n (Sx.put (frA a) (some d) v) (B'++rest) G' a' w':=rl
 have hdis:=(fM.1 rl'.h.nd).2.2
 have r2:=r.dropB nm
 have hnn:nm≠d:=fun e=>by subst e;rw[oY] at hne;cases hne
 have hf2:acS [d] (some d) tl (Sx.upB tb [(nm,none)]):=fun q hq=>by
  obtain⟨f1,f2⟩:=hf q hq
  refine⟨f1,fun k B e1 e=>?_⟩
  simp only[Sx.upB] at e
  split at e
  ·cases e
  ·exact f2 k B e1 e
 have hsep: ∀q B0,Sx.upB tb [(nm,none)] q=some B0→ ∀o∈ov,(ρ q).a=some ⟨o.b,0,none⟩→o∈rest:=fun q B0 e o ho hbq=>by
  simp only[Sx.upB] at e
  split at e
  ·cases e
  ·rename_i hqn
   refine h6 o ho fun o' ho' he=>?_
   exact r.dj nm q _ _ (s2 _ _ hb) e (Ne.symm hqn) o'.b (g1.blk ho') (by rw[hbq,he])
 rw[aaY.1 hr] at rl'
 have r3:=r2.new' (x:=z) (B':= .b ty0 s dso lo) (os:=B') (ov':=B'++rest) (f:= .rw d) (y:= .slice z.a z.n z.c) hf2 hG.le rl'.h ⟨vs',by simpa using k1',k2,k3,e2⟩ (fun o ho=>cX _ ho)
  (fun q B0 hq e o ho hbq=>⟨cY _ (hsep q B0 e o ho hbq),fun hc=>by
   have hx: ∃o1∈B',o1.b=o.b:=by
    rcases k1' with⟨_,h,_⟩|⟨b0,rest0,lo0,h,hB,_⟩
    ·rw[show z=_ from h] at hc;cases hc
    ·rw[show z=_ from h] at hc;cases hc;exact⟨⟨_,aaj vs'++rest0,_,lo0⟩,by rw[hB];exact aZ,rfl⟩
   obtain⟨o1,ho1,he1⟩:=hx
   exact hdis o1 ho1 o (hsep q B0 e o ho hbq) he1⟩) (by simp[IsX]) (abg rl')
 exact hk.run _ G' _ a' w' r3
theorem cq[fu:Fu]{f:FuncId}{nm d:Nat}{l:List (Option DV)}{ty:TypeId}{s:Nat}{dsi dso:List DV}{lo:Bool}(dso':List DV)(ha:aFt fr own cf=some ⟨f,nm,l,ty,s,dsi,lo,d⟩)(hF:PB GB prog f (mkB l) s ty dsi (fun w=> .v (.slice w.a w.n w.c)) dso)(he:dso=dso')
  (hgo:goA tt n fu.n fr own cf (.rw d) [(nm,none),(d,some (.b ty s dso' lo))] [d]=⟨vc,fr',own',cf'⟩)(k:CfS prog GB C n Q0 fr' own' cf')
  (hv:aah vc:=by first|exact trivial|(simp only[aah];kernel_rfl)|(simp only[aah];omega)|(simp only[aah,aK,aN,aY];omega)):CfS prog GB C n Q0 fr own cf:=by
 subst he
 unfold aFt at ha
 split at ha<;>try (cases ha;done)
 rename_i hh
 split at ha<;>try (cases ha;done)
 rename_i h1
 split at ha<;>try (cases ha;done)
 rename_i h2
 rw[cond_eq_ite] at ha
 split at ha<;>cases ha
 rename_i h3
 exact us hh (awH (by cases hq:Nat.beq nm d with|false=>rfl|true=>exact absurd hq h3) h1 h2 hF) hgo hv k
def au6(C:Ctx)(s:Nat)(ty:TypeId)(dso:List DV):Ending→World→Prop:=agE C (fun v own' G'=> ∃w',Is G' (.v (.slice w'.a w'.n w'.c)) v∧abw G' ⟨w',s,ty,dso,false⟩ own')
theorem fnQ[fu:Fu]{f:FuncId}{fb:Func}{c:Code}{k s:Nat}{l:List (Option DV)}{dsi dso:List DV}{ty:TypeId}(hf:prog.funcs[f]? =some fb)(hb:fb.body=some c)(hn:(fb.name== "runtime.NumGoroutine")=false)(hm:fb.ntmps=k)(hlen:Nat.ble l.length k=true)
  (hgo:go tt k fu.n [] (aiI 0 l) [(NM,some (.b ty s dsi false))] (.code c [])=⟨vc,fr,own,cf⟩)(h: ∀C,CfS prog GB C k (acF C prog fb (au6 C s ty dso)) fr own cf)
  (hv:aah vc:=by first|exact trivial|(simp only[aah];kernel_rfl)|(simp only[aah];omega)|(simp only[aah,aK,aN,aY];omega)):PB GB prog f (mkB l) s ty dsi (fun w=> .v (.slice w.a w.n w.c)) dso:=by
 intro G w vs B hg hB hvs
 refine FnO.introR hf hb hn hm (by rw[hvs.len,alq];exact hlen) fun C _ hmb hrd hfx=>?_
 intro a wd rl
 refine ai5 hrd ?_
 have h1:=gx' (GB:=GB) (C:=C) (Q0:=acF C prog fb (au6 C s ty dso)) hgo hv (h C)
 refine h1.run (fun _=>w) G (Sx.asB B) a wd ⟨hg,rl.h,rl.sz,rl.df,fun k f e=>?_,fun nm B' e=>?_,fun nm nm' B' B2 e e' hne=>?_,fun nm p _ _ e=>by rw[hfx] at e;cases e⟩
 ·obtain⟨y,⟨j,hj,hy⟩,h2⟩:=aeT (ρ:=fun _=>w) (w:=w) rfl 0 hvs k f e
  refine⟨y,rl.fr k y ?_,h2⟩
  rw[hj];exact acu vs 0 j y hy
 ·rw[aaE] at e
  split at e
  ·cases e;exact⟨Sx.asB B,hB.asB,fun o ho=>ho⟩
  ·cases e
 ·rw[aaE] at e e'
  split at e<;>split at e'
  ·rename_i h2 h3;exact absurd (h2.trans h3.symm) hne
  ·cases e'
  ·cases e
  ·cases e
theorem rzQ{fb:Func}{t d s:Nat}{ty:TypeId}{ds dso:List DV}(hr:fb.results.toList=[.tmp t])(hl:aao fr t=some (.rw d))(hw:aap own d=some (.b ty s ds false))(ed:ds=dso):
  CfS prog GB C n (acF C prog fb (au6 C s ty dso)) fr own (.ex .ret []):=by
 subst ed
 refine⟨fun ρ G ov a w r=>?_⟩
 obtain⟨B,g1,g2⟩:=r.bx _ _ hw
 have hB:abw G ⟨ρ d,s,ty,ds,false⟩ B:=g1
 obtain⟨rest,hp⟩:=aqH hB g2
 obtain⟨y,hy,hy'⟩:=r.ev (x:= .tmp t) (f:= .rw d) hl
 cases (show y=_ from hy')
 exact ap2 (C:=C) (n:=n) (fr:=frA a) (own:=ov) (G:=G) (vs:=[.slice (ρ d).a (ρ d).n (ρ d).c]) (by rw[hr];exact .tmp hy .nil) (B++rest) B hp (pM _ _) ⟨ρ d,aaY.2 rfl,hB⟩ a w ⟨r.h,r.sz,aaF a,r.df⟩
def aCv(lk:LK):List Operand→Option (List (Option DV))
 |[]=>none
 |[x]=>match evX lk x with
  |some .nl=>some [none]
  |_=>none
 |x::t=>match evX lk x,aCv lk t with
  |some f,some l=>match aml f with
   |some d=>some (some d::l)
   |none=>none
  |_,_=>none
def aBa(lk:LK)(fo:Operand)(args:Array Operand):Option (FuncId×List (Option DV)):=match evX lk fo with
 |some (.d (.v (.func (.func f) ⟨[]⟩ ⟨[]⟩)))=>match aCv lk args.toList with
  |some l=>some (f,l)
  |_=>none
 |_=>none
theorem auq{lk:LK}{bk:BM}{ρ:NE}{G:Gh}{ov:List Own}{a:Act}{w:World}(r:RlX GB C n lk bk ρ G ov a w): ∀{x:List Operand} {l:List (Option DV)},aCv lk x=some l→ ∃y,agj (frA a) x=some y∧IsLs G (mkB l ⟨none,0,0⟩) y
 |[],l,e=>by cases e
 |[x],l,e=>by
  simp only[aCv] at e
  split at e<;>cases e
  rename_i h1
  obtain⟨y,h3,h4⟩:=r.ev h1
  cases (show y=_ from h4)
  exact⟨[Value.slice none 0 0],by simp only[agj,h3], .cons ((aaY (G:=G)).2 rfl) .nil⟩
 |x::x2::t,l,e=>by
  simp only[aCv] at e
  split at e
  ·rename_i f l' h1 h2
   cases hd:aml f with
   |none=>rw[hd] at e;cases e
   |some d=>
   rw[hd] at e;cases e
   obtain⟨y,h3,h4⟩:=r.ev h1
   obtain⟨ys,h5,h6⟩:=auq r (x:=x2::t) (by simpa only[aCv] using h2)
   exact⟨y::ys,by simp only[agj,h3] at h5⊢;rw[h5], .cons (acw h4 hd) h6⟩
  ·cases e
theorem avw{lk:LK}{bk:BM}{fo:Operand}{args:Array Operand}{tys:Array TypeId}{f:FuncId}{d:Nat}{l:List (Option DV)}{s:Nat}{ty ty0:TypeId}{pos:String}{af:Array Edge}{gd:Option (Nat×Bool)}{dso:List DV}
  (ha:aBa lk fo args=some (f,l))(hF:PB GB prog f (mkB l) s ty0 [] (fun w=> .v (.slice w.a w.n w.c)) dso):OpR prog GB C n lk bk ⟨some d, .call ⟨.value fo,args,tys⟩,ty,pos,af,gd⟩ (.rw d) [(d,some (.b ty0 s dso true))] [d]:=by
 intro hd tl tb K' s1 s2 hf hk
 refine⟨fun ρ G ov a w r Q=>?_⟩
 have r1:=r.mono s1 s2
 unfold aBa at ha
 split at ha<;>try (cases ha;done)
 rename_i h1
 split at ha<;>cases ha
 rename_i h2
 obtain⟨y,hy,hy'⟩:=r1.ev h1
 rw[(aaY (G:=G)).1 hy'] at hy
 obtain⟨vs,h7,h8⟩:=auq r1 h2
 refine aeL (M:=[]) (rest:=ov) hy h7 (List.Perm.refl _) (hF G ⟨none,0,0⟩ vs [] r.gb ⟨[], .nil _ _, .nil,by simp,fun h=>by cases h⟩ h8) hd (fun v own1 G' hG hK a' w' rl=>?_) a w Q ⟨r.h,r.sz,aaF a,r.df⟩
 obtain⟨z,hr,vs',k1,k2,k3,k4⟩:=hK
 have k1':=k1.relo (flM [])
 have e2: ∀o∈own1.map (relo (flM [])),o.lo=true:=fun o ho=>by
  obtain⟨o',_,rfl⟩:=bJ.1 ho
  rfl
 generalize own1.map (relo (flM []))=B' at rl e2 k1'
 have rl':Rel C n (Sx.put (frA a) (some d) v) (B'++ov) G' a' w':=rl
 have hdis:=(fM.1 rl'.h.nd).2.2
 rw[aaY.1 hr] at rl'
 have r3:=r.new (x:=z) (B':= .b ty0 s dso true) (os:=B') (ov':=B'++ov) (f:= .rw d) (y:= .slice z.a z.n z.c) hf hG.le rl'.h ⟨vs',by simpa using k1',k2,k3,fun _=>e2⟩ (fun o ho=>cX _ ho) (fun o ho=>cY _ ho)
  (fun o ho hc=>by
   have hx: ∃o1∈B',o1.b=o.b:=by
    rcases k1' with⟨_,h,_⟩|⟨b0,rest0,lo0,h,hB,_⟩
    ·rw[show z=_ from h] at hc;cases hc
    ·rw[show z=_ from h] at hc;cases hc;exact⟨⟨_,aaj vs'++rest0,_,lo0⟩,by rw[hB];exact aZ,rfl⟩
   obtain⟨o1,ho1,he1⟩:=hx
   exact hdis o1 ho1 o ho he1) (by simp[IsX]) (abg rl')
 exact hk.run _ G' _ a' w' r3
def aEE(fr:FrX)(cf:Cf):Option (FuncId×List (Option DV)×Nat):=match opC fr cf with
 |some ⟨some d, .call ⟨.value fo,args,_⟩,_,_,_,_⟩=>match aBa (lkC fr cf) fo args with
  |some (f,l)=>some (f,l,d)
  |none=>none
 |_=>none
theorem cqn[fu:Fu]{f:FuncId}{d:Nat}{l:List (Option DV)}{ty:TypeId}{s:Nat}{dso:List DV}(dso':List DV)(ha:aEE fr cf=some (f,l,d))(hF:PB GB prog f (mkB l) s ty [] (fun w=> .v (.slice w.a w.n w.c)) dso)(he:dso=dso')
  (hgo:goA tt n fu.n fr own cf (.rw d) [(d,some (.b ty s dso' true))] [d]=⟨vc,fr',own',cf'⟩)(k:CfS prog GB C n Q0 fr' own' cf')
  (hv:aah vc:=by first|exact trivial|(simp only[aah];kernel_rfl)|(simp only[aah];omega)|(simp only[aah,aK,aN,aY];omega)):CfS prog GB C n Q0 fr own cf:=by
 subst he
 unfold aEE at ha
 split at ha<;>try (cases ha;done)
 rename_i hh
 split at ha<;>cases ha
 rename_i h1
 exact us hh (avw h1 hF) hgo hv k
end
section
variable {P:Program} {T:TT} {GB:Gh} {C:Ctx} {n:Nat} {lk:LK} {bk:BM} {ρ:NE} {G:Gh} {ov:List Own} {a:Act} {w:World}
variable {dst:Option Nat} {t t' ty':TypeId} {pos:String} {af:Array Edge} {gd:Option (Nat×Bool)} {x y:Operand} {e s by_:Nat}
theorem axs{d nm:Nat}{i:TI}{z:DV}{ds ds2:List DV}[hT:acV P t e s by_][hN:TyN P t'](hi:afC P e=some i)(hz:zeE i=some z)(hs:Nat.beq z.cells.length s=true)(hx:evX lk x=some (.rw nm))(hb:bk nm=some (.b e s ds false))(hy:auH lk bk s y=some ds2)(hk2:adh s ds2)
  (hby:Nat.blt 0 by_=true)(hbd:(ds.length+ds2.length)*by_≤140737488355328)(hnd:Nat.beq nm d=false){ds':List DV}(hds:ds++ds2=ds'):
  OpR P GB C n lk bk ⟨some d, .call ⟨.builtin .append, #[x,y], #[t,t']⟩,ty',pos,af,gd⟩ (.rw d) [(nm,none),(d,some (.b e s ds' false))] [d]:=by
 intro hd tl tb K s1 s2 hf hk
 refine⟨fun ρ G ov a w r Q=>?_⟩
 subst hds
 have r1:=r.mono s1 s2
 obtain⟨v,hz1,hz2,hz3⟩:=akI hi hz
 have cz:=((hz2 G).cells hz3).1.len
 replace hs:=aL hs
 rw[lN] at hby
 have hne:nm≠d:=fun e=>by subst e;simp at hnd
 obtain⟨u,hx',hx2⟩:=r1.ev hx
 cases hx2
 obtain⟨B,hB0,hBo⟩:=r1.bx _ _ hb
 have hB1:abw G ⟨ρ nm,s,e,ds,false⟩ B:=hB0
 clear hB0
 obtain⟨vs,hB,hv,hvs,_⟩:=hB1
 simp only[] at hB hv hvs
 obtain⟨w2,us,hy',h2,h3,h4,h5,h6⟩:=anh (P:=P) r1 hy hk2
 have hus:(aaj us).length=us.length*s:=aax us h4
 have hbd':(vs.length+us.length)*by_≤140737488355328:=by rw[hv.len,h3.len];exact hbd
 have hall: ∀v∈vs++us,(aag v).length=s:=fun v hv=>by
  rcases bY.1 hv with hv|hv
  ·exact hvs v hv
  ·exact h4 v hv
 have rd:=r.dropB nm
 have hf':acS [d] (some d) tl (Sx.upB tb [(nm,none)]):=fun m hm=>by
  obtain⟨g1,g2⟩:=hf m hm
  refine⟨g1,fun k B' hk e=>g2 k B' hk ?_⟩
  simp only[Sx.upB] at e
  split at e
  ·cases e
  ·exact e
 have hbk: ∀m B',(Sx.upB tb [(nm,none)]) m=some B'→m≠nm∧tb m=some B':=fun m B' e=>by
  simp only[Sx.upB] at e
  split at e
  ·cases e
  ·exact⟨by assumption,e⟩
 have hnew: ∀{z:SV} {ov':List Own} {B1:List Own} {a':Act} {w':World} {dz:List DV},abw G ⟨z,s,e,dz,false⟩ B1→(∀o∈B1,o∈ov')→(∀m B',m≠d→(Sx.upB tb [(nm,none)]) m=some B'→ ∀o∈ov,(ρ m).a=some ⟨o.b,0,none⟩→o∈ov'∧z.a≠some ⟨o.b,0,none⟩)→
   SX GB C n (upL tl (some d) (.rw d)) (Sx.upB (Sx.upB tb [(nm,none)]) [(d,some (.b e s dz false))]) K→Rel C n (Sx.put (frA a) (some d) (.slice z.a z.n z.c)) ov' G a' w'→K a' w':=fun hB1 hos hov hk1 rl=>
  hk1.run _ _ _ _ _ (rd.new' (f:= .rw d) (y:= .slice _ _ _) hf' (GLe.refl _) rl.h (hB1.toBk (by simp)) hos hov (by show _=_;simp) (abg rl))
 have hfin: ∀(b:Nat) (lo1:Bool) (cap':Nat) (rest':List Value) (ov1:List Own) a' w',vs.length+us.length≤cap'→rest'.length+(vs.length+us.length)*s=cap'*s→(∀o∈ov,(ρ nm).a≠some ⟨o.b,0,none⟩→o∈ov1)→
   Rel C n (put (frA a) (some d) (.slice (some ⟨b,0,none⟩) (vs.length+us.length) cap')) (⟨b,aaj (vs++us)++rest',e,lo1⟩::ov1) G a' w'→K a' w':=by
  intro b lo1 cap' rest' ov1 a' w' hc hr ho1 rl
  have hnd':=(cK.1 rl.h.nd).1
  refine hnew (z:=⟨some ⟨b,0,none⟩,vs.length+us.length,cap'⟩) (B1:=[⟨b,aaj (vs++us)++rest',e,lo1⟩]) ⟨vs++us, .inr ⟨b,rest',lo1,by simp,rfl,aax _ hall,?_,by simpa using hc⟩,hv.app h3,hall,fun h=>by cases h⟩
   (fun o ho=>by rw[aV.1 ho];exact aZ) (fun m B' hm e o ho hmo=>?_) hk rl
  ·rw[aax _ hall,aR]
   simp only[]
   omega
  ·obtain⟨h7,h8⟩:=hbk m B' e
   have ho2:=ho1 o ho fun hc=>r.dj m nm B' _ h8 (s2 _ _ hb) h7 _ hmo hc
   exact⟨aJ _ ho2,fun e'=>by cases e';exact hnd' o ho2 rfl⟩
 rcases hB with⟨e1,e2,e3⟩|⟨b,rest,lo',k3,k4,k5,k6,k7⟩
 ·subst e1
  rw[e2] at hx'
  by_cases hne:us=[]
  ·subst hne
   have:ds2=[]:=bR (by rw[←h3.len];rfl)
   subst this
   rw[h2] at hy'
   refine agQ hx' hy' hd (fun a' w' rl=>?_) a w Q ⟨r.h,r.sz,aaF a,r.df⟩
   refine hnew (z:=⟨none,0,0⟩) (B1:=[]) ⟨[], .inl ⟨rfl,rfl,rfl⟩,by simpa using hv,by simp,fun h=>by cases h⟩ (fun o ho=>by cases ho) (fun m B' hm e o ho hmo=>⟨ho,fun e'=>by cases e'⟩) hk rl
  ·have hup:0<us.length:=nR.2 hne
   rw[h2] at hy' h6
   refine ac5 (z:=v) (xs:=[]) (ys:=aaj us) hx' hy' aeP h6 (by show(0:Nat)<0+us.length;omega) hby (by simpa using hbd') hd (fun b cap' hc a' w' rl=>?_) a w Q ⟨r.h,r.sz,aaF a,r.df⟩
   exact hfin b true cap' (abH v (cap'-us.length)) ov a' w' (by simpa using hc) (by rw[ab0,cz,hs,←cS];simp at hc⊢;congr 1;omega) (fun o ho _=>ho) (by simpa using rl)
 ·subst k4
  have ha:(ρ nm).a=some ⟨b,0,none⟩:=by rw[k3]
  have hn:(ρ nm).n=vs.length:=by rw[k3]
  rw[ha,hn] at hx'
  rw[h2] at hy' h6
  obtain⟨ov1,o1,o2⟩:=alU.of_mem (hBo _ aZ)
  refine aly (z:=v) (xs:=aaj vs) (ys:=aaj us) (rest:=rest) (own1:=ov1) hx' hy' o1 k5 k6 k7 h6 hus h5 hby hbd' (by rw[cz,hs]) hd (fun b' lo2 cap' rest' hc hr a' w' rl=>?_) a w Q ⟨r.h,r.sz,aaF a,r.df⟩
  rw[←adi] at rl
  exact hfin b' lo2 cap' rest' ov1 a' w' hc hr (fun o ho hne=>o2 o ho fun e'=>hne (by rw[ha,e'])) rl
end
section
variable {GB:Gh} {C:Ctx} {n:Nat} {Q0:Exit→Act→World→Prop} {fr fr':FrX} {own own':OwX} {cf cf':Cf} {vc:List Prop}
def aHb(fr:FrX)(own:OwX)(cf:Cf):Option (Nat×Nat×Nat×Nat×Nat×List DV×List DV):=match opC fr cf with
 |some ⟨some d, .call ⟨.builtin .append,⟨[x,y]⟩,⟨[t,t']⟩⟩,_,_,_,_⟩=>match abc tt t with
  |some ⟨.sl e s b,_,_,_⟩=>match abc tt t' with
   |some ⟨.sl _ _ _,_,_,_⟩=>match abc tt e with
    |some i=>match zeE i with
     |some z=>bif Nat.beq z.cells.length s&&Nat.blt 0 b then(match auH (lkC fr cf) (bkC fr own cf) s y with
      |some ds2=>match evX (lkC fr cf) x with
       |some (.rw nm)=>match bkC fr own cf nm with
        |some (.b e' s' ds false)=>bif (Nat.beq e' e&&Nat.beq s' s)&&!Nat.beq nm d then some (d,nm,e,s,b,ds,ds2) else none
        |_=>none
       |_=>none
      |none=>none) else none
     |none=>none
    |none=>none
   |_=>none
  |_=>none
 |_=>none
theorem apB[fu:Fu]{d nm:Nat}{e s b:Nat}{ds ds2:List DV}(ds':List DV)(h:aHb fr own cf=some (d,nm,e,s,b,ds,ds2))(hds:ds++ds2=ds')(ho2:adh s ds2)(hgo:goA tt n fu.n fr own cf (.rw d) [(nm,none),(d,some (.b e s ds' false))] [d]=⟨vc,fr',own',cf'⟩)(k:CfS prog GB C n Q0 fr' own' cf')
  (hbd:(ds.length+ds2.length)*b≤140737488355328:=by simp;omega)
  (hv:aah vc:=by first|exact trivial|(simp only[aah];kernel_rfl)|(simp only[aah];omega)|(simp only[aah,aK,aN,aY];omega)):CfS prog GB C n Q0 fr own cf:=by
 unfold aHb at h
 split at h<;>try (cases h;done)
 rename_i hh
 split at h<;>try (cases h;done)
 rename_i hT
 split at h<;>try (cases h;done)
 rename_i hT'
 split at h<;>try (cases h;done)
 rename_i hi
 split at h<;>try (cases h;done)
 rename_i hz
 rw[cond_eq_ite] at h
 split at h<;>try (cases h;done)
 rename_i hc
 simp only[bT] at hc
 split at h<;>try (cases h;done)
 rename_i hy
 have:=afT (ab2 _ _ hT) rfl
 have hN:TyN prog _:=⟨_,(afT (ab2 _ _ hT') rfl).un⟩
 split at h<;>try (cases h;done)
 rename_i hx
 split at h<;>try (cases h;done)
 rename_i hb
 rw[cond_eq_ite] at h
 split at h<;>cases h
 rename_i hq
 simp only[bT,gQ] at hq
 cases aL hq.1.1
 cases aL hq.1.2
 exact us hh (axs (ab2 _ _ hi) hz hc.1 hx hb hy ho2 hc.2 hbd hq.2 hds) hgo hv k
end
def PW(GB:Gh)(P:Program)(f:FuncId)(l:List (Option DV))(s:Nat)(ty:TypeId)(dsi:List DV)(rv:DV)(dso:List DV):Prop:=
 ∀G w vs B,GLe GB G→abw G ⟨w,s,ty,dsi,false⟩ B→IsLs G (mkB l w) vs→FnO P f vs B G (fun v own' G'=>Is G' rv v∧abw G' ⟨w,s,ty,dso,false⟩ own')
section
variable {GB:Gh} {C:Ctx} {n:Nat} {Q0:Exit→Act→World→Prop} {fr fr':FrX} {own own':OwX} {cf cf':Cf} {vc:List Prop} {lk:LK} {bk:BM}
variable {dst:Option Nat} {t t' ty':TypeId} {pos:String} {af:Array Edge} {gd:Option (Nat×Bool)} {x y:Operand}
def aIP(fr:FrX)(own:OwX)(cf:Cf):Option (FuncId×Nat×List (Option DV)×TypeId×Nat×List DV×Bool):=match opC fr cf with
 |some ⟨_, .call ⟨.value fo,args,_⟩,_,_,_,_⟩=>match arZ (lkC fr cf) fo args with
  |some (f,nm,l)=>match bkC fr own cf nm with
   |some (.b ty s ds lo)=>some (f,nm,l,ty,s,ds,lo)
   |_=>none
  |none=>none
 |_=>none
def aIR(fr:FrX)(own:OwX)(cf:Cf):Option (Nat×Nat×List DV×Int):=match opC fr cf with
 |some ⟨_, .slice t x (some y) none none,_,_,_,_⟩=>match abc tt t with
  |some ⟨.sl _ s' _,_,_,_⟩=>match evX (lkC fr cf) x with
   |some (.rw nm)=>match bkC fr own cf nm with
    |some (.b _ s ds _)=>match evX (lkC fr cf) y with
     |some (.d (.v (.int _ i)))=>bif Nat.beq s s' then some (nm,s,ds,i) else none
     |_=>none
    |_=>none
   |_=>none
  |_=>none
 |_=>none
def aI1(fr:FrX)(cf:Cf):Option Nat:=match opC fr cf with
 |some ⟨_, .call ⟨.builtin .len,⟨[x]⟩,⟨[t]⟩⟩,_,_,_,_⟩=>match abc tt t with
  |some ⟨.sl _ _ _,_,_,_⟩=>match evX (lkC fr cf) x with
   |some (.rs _ _ _ m)=>some m
   |_=>none
  |_=>none
 |_=>none
def aI3(fr:FrX)(cf:Cf):Option (Nat×Nat×Nat×Nat×Int):=match opC fr cf with
 |some ⟨_, .indexAddr t x y,_,_,_,_⟩=>match abc tt t with
  |some ⟨.sl _ s' _,_,_,_⟩=>match evX (lkC fr cf) x with
   |some (.rs nm s off m)=>match evX (lkC fr cf) y with
    |some (.d (.v (.int _ i)))=>bif Nat.beq s s' then some (nm,s,off,m,i) else none
    |_=>none
   |_=>none
  |_=>none
 |_=>none
def aJr(fr:FrX)(own:OwX)(cf:Cf):Option (Nat×Nat×TypeId×Nat×List DV×Bool×Int):=match opC fr cf with
 |some ⟨some d, .slice t x none (some y) none,_,_,_,_⟩=>match abc tt t with
  |some ⟨.sl _ s' _,_,_,_⟩=>match evX (lkC fr cf) x with
   |some (.rw nm)=>match bkC fr own cf nm with
    |some (.b ty s ds lo)=>match evX (lkC fr cf) y with
     |some (.d (.v (.int _ i)))=>bif Nat.beq s s'&&!Nat.beq nm d then some (d,nm,ty,s,ds,lo,i) else none
     |_=>none
    |_=>none
   |_=>none
  |_=>none
 |_=>none
def aIX(fr:FrX)(own:OwX)(cf:Cf):Option (Nat×TypeId×Nat×List DV×Bool×Nat×Nat×DV):=match opC fr cf with
 |some ⟨_, .call ⟨.builtin .clear,⟨[x]⟩,⟨[t]⟩⟩,_,_,_,_⟩=>match abc tt t with
  |some ⟨.sl e s' _,_,_,_⟩=>match evX (lkC fr cf) x with
   |some (.rs nm s off m)=>match bkC fr own cf nm with
    |some (.b ty s2 ds lo)=>match abc tt e with
     |some i=>match zeE i with
      |some z=>bif Nat.beq s s'&&(Nat.beq s s2&&Nat.beq z.cells.length s) then some (nm,ty,s,ds,lo,off,m,z) else none
      |none=>none
     |none=>none
    |_=>none
   |_=>none
  |_=>none
 |_=>none
end
section
variable {F:Fence} {n:Nat} {P:Program} {Q:Exit→Act→World→Prop} {ops:Array Oper} {md:Region.Mode}
theorem ah2: ∀{k:Nat} {listed:Array Bool} {a:Act} {w:World},wpAnyIn F n P md ops Q k listed a w→wpAnyIn F n P md ops Q (k+1) listed a w
 |0,_,_,_,h=>⟨fun _=>h.2,fun i hi=>by rw[h.1] at hi;cases hi⟩
 |_+1,_,_,_,h=>⟨h.1,fun i hi=>wpOpIn_mono (fun _ _ k=>ah2 k) (h.2 i hi)⟩
theorem ajr{k:Nat}{listed:Array Bool}{a:Act}{w:World}(h:wpAnyIn F n P md ops Q k listed a w): ∀j,wpAnyIn F n P md ops Q (j+k) listed a w
 |0=>by rw[eJ];exact h
 |j+1=>by rw[show j+1+k=j+k+1 by omega];exact ah2 (ajr h j)
theorem Bf.lt{l:List Oper}(he:ad7 0 l=true){i j:Nat}(h:Bf l i j):j<i:=by
 induction h with
 |b ho hm hb=>have:=abt he _ _ ho _ hm hb;omega
 |s ho hm hb _ ih=>have:=abt he _ _ ho _ hm hb;omega
theorem Bf.inv{l:List Oper}{i j:Nat}(h:Bf l i j): ∃o e,l[i]? =some o∧e∈o.after∧Region.binds .any e=true∧(e.on=j∨Bf l e.on j):=by
 induction h with
 |b ho hm hb=>exact⟨_,_,ho,hm,hb, .inl rfl⟩
 |s ho hm hb hh _=>exact⟨_,_,ho,hm,hb, .inr hh⟩
theorem avJ(he:ad7 0 ops.toList=true): ∀(r pre:List Oper),ops.toList=pre++r→(∀i,pre.length≤i→i<ops.size→ ∀j,j<i→Bf ops.toList i j)→ ∀(listed:Array Bool) (a:Act) (w:World),(∀j d,listed.getD j d=if j<pre.length then true else if j<ops.size then false else d)→wpListIn F n P ops Q r a w→wpAnyIn F n P .any ops Q r.length listed a w
 |[],pre,hops,_,listed,a,w,hl,h=>by
  refine⟨?_,h⟩
  rw[List.eq_nil_iff_forall_not_mem]
  intro i hi
  obtain⟨h1,o,h2,_⟩:=mem_ready.1 hi
  have h3:=(fK.1 h2).1
  have h4:pre.length=ops.size:=by rw[←jM,hops];simp
  rw[hl,if_pos (by omega)] at h1
  cases h1
 |o::r,pre,hops,hc,listed,a,w,hl,h=>by
  have hsz:ops.size=pre.length+(r.length+1):=by rw[←jM,hops];simp
  have hp:ops.toList[pre.length]? =some o:=by rw[hops];simp
  have hp':ops[pre.length]? =some o:=by simpa using hp
  have only: ∀i,i∈Region.ready .any ops listed↔i=pre.length:=fun i=>by
   rw[mem_ready]
   constructor
   ·rintro ⟨h1,o',h2,h3⟩
    have h4:=(fK.1 h2).1
    rw[hl] at h1
    split at h1
    ·cases h1
    ·rename_i h5
     apply Classical.byContradiction;intro h6
     have hb:=hc i (by omega) h4 pre.length (by omega)
     obtain⟨o2,e,ho,hm,hb,hh⟩:=hb.inv
     have e':o'=o2:=Option.some.inj (h2.symm.trans (by simpa using ho));subst e'
     have h7:=h3 _ hm hb
     have h9:=abt he _ _ ho _ hm hb
     have h8:pre.length≤e.on:=by
      rcases hh with hh|hh
      ·omega
      ·have:=hh.lt he;omega
     rw[hl,if_neg (by omega),if_pos (by omega)] at h7
     cases h7
   ·rintro rfl
    refine⟨by rw[hl,if_neg (by omega),if_pos (by omega)],o,hp',fun e hm hb=>?_⟩
    have:=abt he _ _ hp _ hm hb
    rw[hl,if_pos (by omega)]
  refine⟨fun hn=>?_,fun i hi=>?_⟩
  ·have:=(only pre.length).2 rfl
   rw[hn] at this;cases this
  ·obtain rfl:=(only i).1 hi
   have ih:=avJ he r (pre++[o]) (by rw[hops];simp) (fun i h1 h2=>hc i (by simp at h1;omega) h2) (listed.setIfInBounds pre.length true)
   have hl': ∀j d,(listed.setIfInBounds pre.length true).getD j d=if j<(pre++[o]).length then true else if j<ops.size then false else d:=fun j d=>by
    have hls:pre.length<listed.size:=by
     apply Classical.byContradiction;intro hq
     have h1:=hl pre.length true
     rw[if_neg (by omega),if_pos (by omega),bS,oV (by omega)] at h1
     cases h1
    have h1:=hl j d
    rw[bS] at h1⊢
    rw[dT]
    by_cases hj:pre.length=j
    ·subst hj;rw[if_pos rfl,if_pos hls,if_pos (by simp)];rfl
    ·rw[if_neg hj,h1]
     simp only[aR,bW,gX]
     by_cases h2:j<pre.length
     ·rw[if_pos h2,if_pos (by omega)]
     ·rw[if_neg h2]
      by_cases h3:j<ops.size
      ·rw[if_pos h3,if_neg (by omega)];
      ·rw[if_neg h3,if_neg (by omega)]
   unfold wpOpIn
   rw[hp']
   simp only[wpListIn] at h⊢
   split
   ·rename_i hw;rw[if_pos hw] at h
    exact Oper.wpIn_mono (fun a w k=>ih a w hl' k) h
   ·rename_i hw;rw[if_neg hw] at h
    exact⟨h.1,ih _ _ hl' h.2⟩
def aFm(F:Fence)(n:Nat)(P:Program)(ops:Array Oper)(r:List Oper)(Q:Exit→Act→World→Prop):Exit→Act→World→Prop
 | .normal=>wpListIn F n P ops Q r
 |e=>Q e
theorem aDs{o:Oper}{a:Act}{w:World}{r:List Oper}{K:Act→World→Prop}(h:o.wpIn F n P a w K (aFm F n P ops r Q)):o.wpIn F n P a w K Q:=by
 refine⟨h.1,?_⟩
 have:=h.2
 cases hr:(o.semAt F.round a.eval).run P w with
 |ok x w'=>
  rw[hr] at this
  cases x with
  |enter f args=>exact⟨this.1,CallsIn.mono this.2 fun e w'' he=>by cases e<;>exact he⟩
  |round l f t x y=>exact⟨this.1,RoundIn.mono this.2 fun e w'' he=>by cases e<;>exact he⟩
  |_=>exact this
 |halt x w'=>
  rw[hr] at this
  cases x<;>exact this
theorem aCX{pre r:List Oper}(hops:ops.toList=pre++r)(hg: ∀o∈pre,o.guard=none)(he:ad7 0 ops.toList=true)(hc: ∀i,pre.length≤i→i<ops.size→ ∀j,j<i→Bf ops.toList i j):
  ∀(fuel:Nat) (L listed:Array Bool) (a:Act) (w:World),L.size=pre.length→(∀j d,listed.getD j d=if j<pre.length then L.getD j d else if j<ops.size then false else d)→(∀i o,ops.toList[i]? =some o→listed.getD i false=true→ ∀e∈o.after,Region.binds .any e=true→listed.getD e.on false=true)→
   wpAnyIn F n P .any pre.toArray (aFm F n P ops r Q) fuel L a w→wpAnyIn F n P .any ops Q (fuel+r.length) listed a w:=by
 have hsz:ops.size=pre.length+r.length:=by rw[←jM,hops];simp
 have hget: ∀i,i<pre.length→ops[i]? =pre.toArray[i]? :=fun i hi=>by rw[←oS,hops,dR hi];simp
 -- all of the first part is done
 have fin: ∀(L listed:Array Bool) (a:Act) (w:World),L.size=pre.length→(∀j d,listed.getD j d=if j<pre.length then L.getD j d else if j<ops.size then false else d)→Region.ready .any pre.toArray L=[]→wpListIn F n P ops Q r a w→wpAnyIn F n P .any ops Q r.length listed a w:=by
  intro L listed a w hL hl hr h
  have all: ∀i,i<pre.length→L.getD i true=true:=by
   intro i
   induction i using Nat.strongRecOn with
   |ind i ih=>
    intro hi
    cases hq:L.getD i true with
    |true=>rfl
    |false=>
     have:i∈Region.ready .any pre.toArray L:=mem_ready.2 ⟨hq,pre[i],by simp[hi],fun e hm hb=>by
      have hlt:=abt he i pre[i] (by rw[hops,dR hi];simp[hi]) e hm hb
      have:=ih e.on (by omega) (by omega)
      rw[bS,fN (by omega)] at this⊢
      simpa using this⟩
     rw[hr] at this;cases this
  refine avJ he r pre hops hc listed a w (fun j d=>?_) h
  rw[hl]
  by_cases hj:j<pre.length
  ·have:=all j hj
   rw[if_pos hj,if_pos hj]
   rw[bS,fN (by omega)] at this⊢
   simpa using this
  ·rw[if_neg hj,if_neg hj]
 intro fuel
 induction fuel with
 |zero=>
  intro L listed a w hL hl hcl h
  rw[eJ]
  exact fin L listed a w hL hl h.1 h.2
 |succ fuel ih=>
  intro L listed a w hL hl hcl h
  by_cases hr:Region.ready .any pre.toArray L=[]
  ·exact ajr (fin L listed a w hL hl hr (h.1 hr)) (fuel+1)
  ·have sub: ∀i,i∈Region.ready .any pre.toArray L→i∈Region.ready .any ops listed:=fun i hi=>by
    obtain⟨h1,o,h2,h3⟩:=mem_ready.1 hi
    have hi':i<pre.length:=by have:=(fK.1 h2).1;simpa using this
    refine mem_ready.2 ⟨by rw[hl,if_pos hi'];exact h1,o,by rw[hget i hi'];exact h2,fun e hm hb=>?_⟩
    have hlt:=abt he i o (by rw[hops,dR hi'];simpa using h2) e hm hb
    rw[hl,if_pos (by omega)];exact h3 e hm hb
   have sup: ∀i,i∈Region.ready .any ops listed→i∈Region.ready .any pre.toArray L:=fun i hi=>by
    obtain⟨h1,o,h2,h3⟩:=mem_ready.1 hi
    have h4:=(fK.1 h2).1
    by_cases hi':i<pre.length
    ·rw[hl,if_pos hi'] at h1
     refine mem_ready.2 ⟨h1,o,by rw[←hget i hi'];exact h2,fun e hm hb=>?_⟩
     have hlt:=abt he i o (by simpa using h2) e hm hb
     have:=h3 e hm hb
     rw[hl,if_pos (by omega)] at this;exact this
    ·exfalso
     obtain⟨j,hj⟩:=List.exists_mem_of_ne_nil _ hr
     obtain⟨g1,o2,g2,_⟩:=mem_ready.1 hj
     have hj':j<pre.length:=by have:=(fK.1 g2).1;simpa using this
     have clo: ∀i j,Bf ops.toList i j→listed.getD i false=true→listed.getD j false=true:=fun i j hb=>by
      induction hb with
      |b ho hm hb=>intro hi;exact hcl _ _ ho hi _ hm hb
      |s ho hm hb _ ih=>intro hi;exact ih (hcl _ _ ho hi _ hm hb)
     have hjf:listed.getD j false=false:=by
      rw[hl,if_pos hj']
      rw[bS,fN (by omega)] at g1⊢
      simpa using g1
     have:listed.getD j false=true:=by
      obtain⟨o2,e,ho,hm,hb,hh⟩:=(hc i (by omega) h4 j (by omega)).inv
      have e':o=o2:=Option.some.inj (h2.symm.trans (by simpa using ho));subst e'
      rcases hh with hh|hh
      ·rw[←hh];exact h3 _ hm hb
      ·exact clo _ _ hh (h3 _ hm hb)
     rw[hjf] at this;cases this
   rw[show fuel+1+r.length=(fuel+r.length)+1 by omega]
   refine⟨fun hn=>?_,fun i hi=>?_⟩
   ·obtain⟨j,hj⟩:=List.exists_mem_of_ne_nil _ hr
    have:=sub j hj
    rw[hn] at this;cases this
   ·have hi0:=sup i hi
    have hk:=h.2 i hi0
    obtain⟨h1,o,h2,h3⟩:=mem_ready.1 hi0
    have hi':i<pre.length:=by have:=(fK.1 h2).1;simpa using this
    have hgo:o.guard=none:=hg o (by
     have h2':pre[i]? =some o:=by simpa using h2
     exact aU h2')
    have step: ∀a w,wpAnyIn F n P .any pre.toArray (aFm F n P ops r Q) fuel (L.setIfInBounds i true) a w→wpAnyIn F n P .any ops Q (fuel+r.length) (listed.setIfInBounds i true) a w:=by
     intro a w hh
     have hls:i<listed.size:=by
      apply Classical.byContradiction;intro hq
      have q:=hl i true
      have q':=hl i false
      rw[if_pos hi'] at q q'
      rw[bS,oV (by omega)] at q q'
      rw[bS,fN (by omega)] at q q'
      simp only[Option.getD_none,lJ] at q q'
      rw[←q] at q';cases q'
     have hl': ∀j d,(listed.setIfInBounds i true).getD j d=if j<pre.length then(L.setIfInBounds i true).getD j d else if j<ops.size then false else d:=fun j d=>by
      have q:=hl j d
      rw[bS] at q⊢
      rw[bS] at q⊢
      rw[dT,dT]
      by_cases hj:i=j
      ·subst hj;rw[if_pos rfl,if_pos rfl,if_pos hls,if_pos hi',if_pos (by omega)]
      ·rw[if_neg hj,if_neg hj];exact q
     refine ih _ _ a w (by simp[hL]) hl' (fun i2 o2 g1 g2 e hm hb=>?_) hh
     have g3:i2=i∨listed.getD i2 false=true:=by
      rw[bS,dT] at g2
      by_cases hj:i=i2
      ·exact .inl hj.symm
      ·rw[if_neg hj] at g2;rw[bS];exact .inr g2
     have g4:listed.getD e.on false=true:=by
      rcases g3 with rfl|g3
      ·have e':o=o2:=Option.some.inj (((hget i2 hi').trans h2).symm.trans (by simpa using g1))
       subst e'
       have hlt:=abt he i2 o g1 e hm hb
       rw[hl,if_pos (by omega)];exact h3 e hm hb
      ·exact hcl i2 o2 g1 g3 e hm hb
     rw[bS,dT]
     by_cases hj:i=e.on
     ·rw[if_pos hj];rw[if_pos hls];rfl
     ·rw[if_neg hj];rw[bS] at g4;exact g4
    unfold wpOpIn at hk⊢
    rw[hget i hi',h2]
    rw[h2] at hk
    have hw: ∀y,Region.wanted o y=true:=fun y=>by unfold Region.wanted;rw[hgo]
    simp only[hw,if_true] at hk⊢
    exact aDs (Oper.wpIn_mono step hk)
end
section
variable {P:Program} {GB:Gh} {C:Ctx} {n:Nat} {Q0:Exit→Act→World→Prop} {fr fr0:FrX} {own own0:OwX} {ops:Array Oper} {us:List Rc} {r:List Oper} {K:List Kt} {id:Nat}
def apD(x:Nat):Nat→Bool
 |0=>true
 |i+1=>x.testBit i&&apD x i
theorem anq{x:Nat}: ∀{i:Nat},apD x i=true→ ∀j,j<i→x.testBit j=true
 |i+1,h,j,hj=>by
  simp only[apD,bT] at h
  by_cases e:j=i
  ·subst e;exact h.1
  ·exact anq h.2 j (by omega)
def anl:Nat→List Nat→Bool
 |_,[]=>true
 |i,x::t=>apD x i&&anl (i+1) t
theorem amy: ∀{l:List Nat} {k:Nat},anl k l=true→ ∀i x,l[i]? =some x→ ∀j,j<k+i→x.testBit j=true
 |y::t,k,h,0,x,hx,j,hj=>by
  simp only[anl,bT] at h
  cases hx
  exact anq h.1 j (by omega)
 |y::t,k,h,i+1,x,hx,j,hj=>by
  simp only[anl,bT] at h
  exact amy h.2 i x (by simpa using hx) j (by omega)
theorem anG: ∀(r:List Oper) (acc:List Nat),(aid r acc).length=acc.length+r.length
 |[],acc=>by simp[aid]
 |o::r,acc=>by simp only[aid];rw[anG];simp;omega
def chk(m:Nat)(pre all:List Oper)(us:List Rc)(fr0:FrX)(own0:OwX):Bool:=
 (pre.all (fun o=>o.guard.isNone)&&amO (aid pre []) [] us)&&((ad7 0 all&&anl m ((aid all []).drop m))&&arc us fr0 own0)
theorem aHW(hm:P.follows .mixedOrders=true)(h:chk us.length (ops.toList.take us.length) ops.toList us fr0 own0=true)(k:CfS P GB C n Q0 fr own (.ops ops r K)):CfS P GB C n Q0 fr own (.dr id ops fr0 own0 us r K):=by
 intro D
 obtain⟨pre,hp,hl⟩:=D.pre
 have ht:ops.toList.take us.length=pre:=by rw[hp,←hl];simp
 rw[ht] at h
 simp only[chk,bT] at h
 obtain⟨⟨h1,h2⟩,⟨h3,h4⟩,h5⟩:=h
 have hg: ∀o∈pre,o.guard=none:=fun o ho=>by simpa using dZ.1 h1 o ho
 have hgt: ∀i,i<pre.length→ops[i]? =pre.toArray[i]? :=fun i hi=>by rw[←oS,hp,dR hi];simp
 have hc: ∀i,pre.length≤i→i<ops.size→ ∀j,j<i→Bf ops.toList i j:=fun i g1 g2 j g3=>by
  refine ahh ops.toList [] [] J J (fun i j h=>by simp at h) i j ?_
  have hlen:=anG ops.toList []
  have hi:i<(aid ops.toList []).length:=by rw[hlen];simpa using g2
  rw[aX,aQ hi]
  refine amy h4 (i-us.length) _ ?_ j (by omega)
  rw[mU,show us.length+(i-us.length)=i by omega]
  exact aQ hi
 have he':ad7 0 pre=true:=by
  have: ∀(l l':List Oper) (k:Nat),ad7 k (l++l')=true→ad7 k l=true:=by
   intro l l'
   induction l with
   |nil=>intros;rfl
   |cons o t ih=>intro k h;simp only[jX,ad7,bT] at h⊢;exact⟨h.1,ih _ h.2⟩
  exact this pre r 0 (by rw[←hp];exact h3)
 have D':Drawn P GB C n pre.toArray us (aao fr0,aap own0):=by
  refine⟨by simpa using hl.symm,fun i u o hu ho=>?_,by simpa using h2,by simpa using he',an3 h5⟩
  have hi:i<pre.length:=by have:=(fK.1 ho).1;simpa using this
  obtain⟨d1,d2⟩:=D.snd i u o hu (by rw[hgt i hi];exact ho)
  refine⟨d1,fun Q tl tb K s1 s2 hf hk=>?_⟩
  refine(d2 Q tl tb K s1 s2 hf hk).imp fun a w q=>?_
  have hgo:o.guard=none:=hg o (aU (by simpa using ho))
  have hw: ∀y,Region.wanted o y=true:=fun y=>by unfold Region.wanted;rw[hgo]
  unfold wO at q⊢
  simp only[hw,if_true] at q⊢
  exact q
 have e:sel (lst (Array.replicate pre.length false)) 0 (aao fr0,aap own0) us=(aao fr0,aap own0):=by
  have: ∀(l:List Rc) (k:Nat) (s:ST),sel (lst (Array.replicate pre.length false)) k s l=s:=fun l=>by
   induction l with
   |nil=>intro k s;rfl
   |cons y l ih=>
    intro k s
    simp only[sel]
    rw[ih]
    rw[aFA];rfl
  exact this us 0 _
 have hw:=D'.walk (Q:=aFm (FW C.rd) 0 P ops r (cQ C.rd P Q0 K)) (by rw[D.st];exact k) pre.toArray.size (Array.replicate pre.length false) (by simp) (fun i o _ hi=>by rw[aFA] at hi;cases hi) (by unfold un;exact cW (kZ _ _) (by simp))
 rw[e] at hw
 refine hw.drew.imp fun a w q=>wpIn_region_any hm ?_
 have hsz:ops.size=pre.toArray.size+r.length:=by rw[←jM,hp];simp
 rw[show wpAnyIn (FW C.rd) 0 P .any ops (cQ C.rd P Q0 K) ops.size=wpAnyIn (FW C.rd) 0 P .any ops (cQ C.rd P Q0 K) (pre.toArray.size+r.length) by rw[hsz]]
 refine aCX hp hg h3 hc _ _ _ _ _ (by simp) (fun j d=>?_) (fun i o _ hi=>?_) q
 ·have hs2:ops.size=pre.length+r.length:=by simpa using hsz
  simp only[bS,pL]
  by_cases g1:j<pre.length
  ·rw[if_pos (by omega),if_pos g1,if_pos g1]
  ·by_cases g2:j<ops.size
   ·rw[if_pos g2,if_neg g1,if_pos g2];rfl
   ·rw[if_neg g2,if_neg g1,if_neg g2];rfl
 ·simp only[bS,pL] at hi
  split at hi<;>cases hi
end
section
variable {GB:Gh} {C:Ctx} {n:Nat} {Q0:Exit→Act→World→Prop} {fr fr0 fr':FrX} {own own0 own':OwX} {cf':Cf} {vc:List Prop} {ops:Array Oper} {us:List Rc} {r:List Oper} {K:List Kt} {id:Nat}
theorem drT[fu:Fu](h:chk us.length (ops.toList.take us.length) ops.toList us fr0 own0=true)(hgo:go tt n fu.n [] fr own (.ops ops r K)=⟨vc,fr',own',cf'⟩)(k:CfS prog GB C n Q0 fr' own' cf')
  (hv:aah vc:=by first|exact trivial|(simp only[aah];kernel_rfl)|(simp only[aah];omega)):CfS prog GB C n Q0 fr own (.dr id ops fr0 own0 us r K):=
 aHW follows h (gx' hgo hv k)
end
def aoW(o:Obj):Prop:= ∀cs ty z,o≠ .cells cs ty z
section
variable {C C':Ctx} {own:List Own} {G G1:Gh} {w w1:World}
theorem abk.ctx(h:abk C own G w)(h1:C'.w0=C.w0)(h2:C'.G0=C.G0)(h3:C'.mb=C.mb)(h4: ∀p∈C'.ex,p∈C.ex):abk C' own G w:=by
 obtain⟨a1,a2,a3,a4,a5,a6,a7,a8,a9,a10,a11,a12⟩:=h
 exact⟨by rw[h1];exact a1,by rw[h1];exact a2,by rw[h1];exact a3,by rw[h1];exact a4,by rw[h1,h3];exact a5,a6,by rw[h2];exact a7,by rw[h1,h2];exact a8,by rw[h1,h3];exact a9,a10,by rw[h1];exact a11,fun p hp=>a12 p (h4 p hp)⟩
theorem abk.addx(h:abk C own G w){o:Obj}(ho:aoW o)(h1:C'.w0=C.w0)(h2:C'.G0=C.G0)(h3:C'.mb=C.mb)(h4: ∀p∈C'.ex,p=(w.heap.size,o)∨p∈C.ex):abk C' own G (w.alloc o):=by
 have old: ∀b,b<w.heap.size→(w.alloc o).heap[b]? =w.heap[b]? :=fun b hb=>RowKit.Below.heap_alloc _ _ _ hb
 obtain⟨a1,a2,a3,a4,a5,a6,a7,a8,a9,a10,a11,a12⟩:=h
 refine⟨by rw[h1];exact a1,by rw[h1];exact a2,by rw[h1];exact a3,by rw[h1];simp;omega,?_,?_,by rw[h2];exact a7,by rw[h1,h2];exact a8,?_,a10,by rw[h1];exact a11,?_⟩
 ·rw[h1,h3];intro b hb hm;rw[old b (by omega)];exact a5 b hb hm
 ·intro b cs hb
  obtain⟨ty,fz,hc⟩:=a6 b cs hb
  exact⟨ty,fz,by rw[old b (abX hc)];exact hc⟩
 ·rw[h1,h3];intro x hx
  obtain⟨b1,b2⟩:=a9 x hx
  exact⟨by rw[old _ (abX b1)];exact b1,b2⟩
 ·intro p hp
  rcases h4 p hp with rfl|hp
  ·exact⟨ho,World.alloc_heap_new w o⟩
  ·exact⟨(a12 p hp).1,by rw[old _ (abX (a12 p hp).2)];exact(a12 p hp).2⟩
theorem abk.putx(h:abk C own G w){l:Nat}{o0 o:Obj}(hl:(l,o0)∈C.ex)(hs:C.w0.heap.size≤l)(ho:aoW o)(h1:C'.w0=C.w0)(h2:C'.G0=C.G0)(h3:C'.mb=C.mb)(h4: ∀p∈C'.ex,p=(l,o)∨p∈C.ex∧p.1≠l):abk C' own G (w.putObj l o):=by
 have hne: ∀{b:Nat} {cs:Array Value} {ty:TypeId} {z:Nat×Nat},w.heap[b]? =some (.cells cs ty z)→b≠l:=fun hb e=>h.extNe hl hb e.symm
 have hlt:=abX (h.ext _ hl).2
 obtain⟨a1,a2,a3,a4,a5,a6,a7,a8,a9,a10,a11,a12⟩:=h
 refine⟨by rw[h1];exact a1,by rw[h1];exact a2,by rw[h1];exact a3,by rw[h1];simpa using a4,?_,?_,by rw[h2];exact a7,by rw[h1,h2];exact a8,?_,a10,by rw[h1];exact a11,?_⟩
 ·rw[h1,h3];intro b hb hm;rw[World.putObj_heap_other (by omega)];exact a5 b hb hm
 ·intro b cs hb
  obtain⟨ty,fz,hc⟩:=a6 b cs hb
  exact⟨ty,fz,by rw[World.putObj_heap_other (hne hc)];exact hc⟩
 ·rw[h1,h3];intro x hx
  obtain⟨b1,b2⟩:=a9 x hx
  exact⟨by rw[World.putObj_heap_other (hne b1)];exact b1,b2⟩
 ·intro p hp
  rcases h4 p hp with rfl|⟨hp,hpl⟩
  ·exact⟨ho,World.putObj_heap_same hlt⟩
  ·exact⟨(a12 p hp).1,by rw[World.putObj_heap_other hpl];exact(a12 p hp).2⟩
end
abbrev cxw (w:World) (G:Gh):Ctx:=⟨w,G,[],[],[],none,fun _=>none⟩
def Frz(G:Gh)(w:World):Prop:= ∀b cs,G b=some cs→ ∃ty fz,w.heap[b]? =some (.cells ⟨cs⟩ ty fz)
structure aHq (Jv:Gh→World→Prop):Prop where
 frz: ∀G w,Jv G w→Frz G w
 on: ∀G w G1 w1,Jv G w→abk (cxw w G) [] G1 w1→Jv G1 w1
theorem alj{G:Gh}{w:World}(h:Frz G w):abk (cxw w G) [] G w:=
 ⟨rfl,rfl,rfl,aM _,fun _ _ _=>rfl,h,GLe.refl _,fun _ _=>rfl,fun o ho=>(by cases ho), .nil,aM _,fun p hp=>by cases hp⟩
structure ItH (GB:Gh) (P:Program) (l:Nat) (Jv:Nat→Gh→World→Prop) (Jx:Gh→World→Prop) (E:List (List DV)):Prop where
 st: ∀k,aHq (Jv k)
 sx:aHq Jx
 yd: ∀k e G w ys,E[k]? =some e→GLe GB G→Jv k G w→IsLs G e ys→YieldAt (FW none) 0 P l ⟨ys⟩ w fun e w'=> ∃G',GLe G G'∧(e= .returned (.bool true)∧Jv (k+1) G' w'∨e= .returned (.bool false)∧Jx G' w')
structure It (GB:Gh) (P:Program) (f:FuncId) (ds:List DV) (E:List (List DV)):Prop where
 able:aec P f
 run: ∀(l:Nat) (Jv:Nat→Gh→World→Prop) (Jx:Gh→World→Prop) (GB':Gh),GLe GB GB'→ItH GB' P l Jv Jx E→ ∀w vs,Jv 0 GB' w→IsLs GB' ds vs→
  CallsIn (FW none) 0 P f ⟨.func (.yield l) #[] #[]::vs⟩ w fun e w'=> ∃G',GLe GB' G'∧(∃v,e= .returned v)∧(Jv E.length G' w'∨Jx G' w')
structure Pl (C:Ctx):Prop where
 mb:C.mb=[]
 mks:C.mks=[]
 rd:C.rd=none
def itQ(P:Program)(fb:Func)(GB:Gh)(Jv:Nat→Gh→World→Prop)(Jx:Gh→World→Prop)(N:Nat):Exit→Act→World→Prop:=
 bodyPost P fb fun e w'=> ∃G',GLe GB G'∧(∃v,e= .returned v)∧(Jv N G' w'∨Jx G' w')
section
variable {GB:Gh} {C:Ctx} {n:Nat} {Q0:Exit→Act→World→Prop} {fr fr':FrX} {own own':OwX} {cf':Cf} {vc:List Prop} {ops:Array Oper} {o:Oper} {r:List Oper} {K:List Kt}
theorem aH5[fu:Fu]{f:FuncId}{fb:Func}{c:Code}{m:Nat}{ds:List DV}{E:List (List DV)}{cf:Nat→Cf}{fr:Nat→FrX}{own:Nat→OwX}{vc:Nat→List Prop}(hf:prog.funcs[f]? =some fb)(hb:fb.body=some c)(hn:(fb.name== "runtime.NumGoroutine")=false)(hm:fb.ntmps=m)(hlen:Nat.ble (ds.length+1) m=true)
  (hgo: ∀l,go tt m fu.n [] (agI 0 (.v (.func (.yield l) #[] #[])::ds)) [] (.code c [])=⟨vc l,fr l,own l,cf l⟩)
  (k: ∀l Jv Jx GB',GLe GB GB'→ItH GB' prog l Jv Jx E→ ∀C,Pl C→Jv 0 C.G0 C.w0→CfS prog GB' C m (itQ prog fb GB' Jv Jx E.length) (fr l) (own l) (cf l))
  (hv: ∀l,aah (vc l):=by intros;first|exact trivial|(simp only[aah];kernel_rfl)|(simp only[aah];omega)):It GB prog f ds E:=by
 refine⟨⟨fb,hf,hn,by simp[hb]⟩,fun l Jv Jx GB' hg H w vs hJ hvs=>?_⟩
 have hlen':vs.length+1≤m:=by rw[hvs.len];simpa using hlen
 have h:=gx' (GB:=GB') (C:=cxw w GB') (Q0:=itQ prog fb GB' Jv Jx E.length) (hgo l) (hv l) (k l Jv Jx GB' hg H (cxw w GB') ⟨rfl,rfl,rfl⟩ hJ)
 refine callsIn_wide.2 (calls_of_wp hf hb ?_)
 have hvs':IsLs GB' (.v (.func (.yield l) #[] #[])::ds) (.func (.yield l) #[] #[]::vs):= .cons (aaY.2 rfl) hvs
 refine ai5 rfl (h.run (fun _=>⟨none,0,0⟩) GB' [] _ w ⟨GLe.refl _,alj ((H.st 0).frz _ _ hJ),by simp;omega,rfl,fun k f e=>ai9 hvs' (fun k v hk=>?_) k f e,(fun nm B e=>by cases e),(fun nm nm' B B' e=>by cases e),fun nm p _ _ e=>by cases e⟩)
 obtain⟨j,rfl,hj⟩:=acU (.func (.yield l) #[] #[]::vs) 0 k v hk
 have hj':=(aS.1 hj).1
 rw[kR (by simpa using hj')]
 simpa using hj
theorem abk.pl{ov:List Own}{G:Gh}{w:World}(h:abk C ov G w)(hp:Pl C):abk (cxw C.w0 C.G0) [] G w:=
 (h.drop (kY _)).ctx J J hp.mb.symm (fun p hp=>by cases hp)
theorem aHs{P:Program}{l:Nat}{Jv:Nat→Gh→World→Prop}{Jx:Gh→World→Prop}{E:List (List DV)}{fb:Func}{e:Exit}(H:ItH GB P l Jv Jx E)(hp:Pl C)(hJ:Jv E.length C.G0 C.w0∨Jx C.G0 C.w0)(hr:fb.results.toList=[])(he:awF e=true:=by rfl):
  CfS P GB C n (itQ P fb GB Jv Jx E.length) fr own (.ex e []):=by
 refine⟨fun ρ G ov a w r=>?_⟩
 have hj:Jv E.length G w∨Jx G w:=hJ.imp (fun h=>(H.st _).on _ _ _ _ h (r.h.pl hp)) fun h=>H.sx.on _ _ _ _ h (r.h.pl hp)
 have hr':RVs P (frA a) ov fb.results.toList []:=by rw[hr];exact .nil
 cases e with
 |ret=>exact⟨r.df.trans hp.mks,_,ab5 hr' (aaF a) r.h,G,r.gb,⟨_,rfl⟩,hj⟩
 |normal=>exact⟨r.df.trans hp.mks,_,ab5 hr' (aaF a) r.h,G,r.gb,⟨_,rfl⟩,hj⟩
 |_=>cases he
theorem aEt{P:Program}{fo:Operand}{args:Array Operand}{tys:Array TypeId}{vs:List Value}{a:Act}{w:World}{fr:Fr}{l:Nat}{dst:Option Nat}{ty':TypeId}{pos:String}{af:Array Edge}{gd:Option (Nat×Bool)}(hf:aoi fr a)(ho:opv fr fo=some (.func (.yield l) ⟨[]⟩ ⟨[]⟩))(hv:agj fr args.toList=some vs):
  (execOp a.eval ⟨dst, .call ⟨.value fo,args,tys⟩,ty',pos,af,gd⟩).run P w=(Instr.yield l ⟨vs⟩).run P w:=by
 have e:args.map a.eval=⟨vs⟩:=by apply Array.ext';simpa using agG hf hv
 simp only[execOp,resolve,aac hf ho,e,Deferred.ofValue]
 show(invoke (.fn (.yield l) ⟨[]⟩) (⟨[]⟩++⟨vs⟩)).run P w=_
 simp only[invoke]
 rw[show((⟨[]⟩:Array Value)++⟨vs⟩)=⟨vs⟩ by simp]
def ahA:FrX→FrX
 |[]=>[]
 |(k,f)::t=>match f with
  | .ov .. =>ahA t
  | .rw .. =>ahA t
  | .be .. =>ahA t
  | .rs .. =>ahA t
  | .bx .. =>ahA t
  | .no=>ahA t
  |f=>(k,f)::ahA t
def aHi(k:Nat):FrX→Bool
 |[]=>false
 |(j,_)::t=>Nat.beq j k||aHi k t
def ndF:FrX→Bool
 |[]=>true
 |(k,_)::t=>!aHi k t&&ndF t
def yvA(fr:FrX)(ops:Array Oper)(o:Oper):Option (Nat×List DV×Nat):=match o with
 |⟨some d, .call ⟨.value fo,args,_⟩,_,_,_,none⟩=>match evX (aao fr) fo,evDs (aao fr) args.toList with
  |some (.d (.v (.func (.yield l) ⟨[]⟩ ⟨[]⟩))),some ds=>some (l,ds,d)
  |_,_=>none
 |_=>none
theorem cy[fu1:Fu][fu2:Fu]{l d k:Nat}{Jv:Nat→Gh→World→Prop}{Jx:Gh→World→Prop}{E:List (List DV)}{ds:List DV}{fr1 fr2:FrX}{own1 own2:OwX}{cf1 cf2:Cf}{vc1 vc2:List Prop}(frd:FrX)(H:ItH GB prog l Jv Jx E)(hp:Pl C)(hJ:Jv k C.G0 C.w0)(ha:yvA fr ops o=some (l,ds,d))(hE:E[k]? =some ds)(hd:aaM n (some d)=true)
  (hfd:leF frd fr)(hnd:ahA frd=frd)
  (g1:go tt n fu1.n [] ((d, .tt)::frd) [] (.ops ops r K)=⟨vc1,fr1,own1,cf1⟩)(g2:go tt n fu2.n [] ((d, .ff)::frd) [] (.ops ops r K)=⟨vc2,fr2,own2,cf2⟩)
  (k1: ∀C',Pl C'→Jv (k+1) C'.G0 C'.w0→CfS prog GB C' n Q0 fr1 own1 cf1)(k2: ∀C',Pl C'→Jx C'.G0 C'.w0→CfS prog GB C' n Q0 fr2 own2 cf2)
  (v1:aah vc1:=by first|exact trivial|(simp only[aah];kernel_rfl)|(simp only[aah];omega))(v2:aah vc2:=by first|exact trivial|(simp only[aah];kernel_rfl)|(simp only[aah];omega)):
  CfS prog GB C n Q0 fr own (.ops ops (o::r) K):=by
 unfold yvA at ha
 split at ha<;>try (cases ha;done)
 rename_i d0 fo args tys ty pos af
 split at ha<;>cases ha
 rename_i h1 h2
 have nmd: ∀{f:FrX},ahA f=f→ ∀k x,aao f k=some x→x.nm=none:=by
  have len: ∀f:FrX,(ahA f).length≤f.length:=fun f=>by
   induction f with
   |nil=>exact aM _
   |cons e t ih=>obtain⟨j,x⟩:=e;cases x<;>simp only[ahA,bW]<;>omega
  intro f
  induction f with
  |nil=>intro _ k x e;cases e
  |cons e t ih=>
   obtain⟨j,y⟩:=e
   intro hd k x hx
   rw[aaI] at hx
   have:=len t
   split at hx
   ·cases hx
    cases y<;>first|rfl|(have:=congrArg List.length hd;simp only[ahA,bW] at this;omega)
   ·refine ih ?_ k x hx
    cases y<;>first|exact(List.cons.inj hd).2|(have:=congrArg List.length hd;simp only[ahA,bW] at this;omega)
 refine⟨fun ρ G ov a w rl=>?_⟩
 have hJG:Jv k G w:=(H.st k).on _ _ _ _ hJ (rl.h.pl hp)
 obtain⟨y,hy,hy'⟩:=rl.ev h1
 rw[(aaY (G:=G)).1 hy'] at hy
 obtain⟨vs,h3,h4⟩:=rl.evDs h2
 obtain⟨fn,tmps,assign,body,hrun,hround⟩:=H.yd k ds G w vs hE rl.gb hJG h4
 rw[hp.rd]
 simp only[wpListIn]
 rw[if_pos (by rfl)]
 refine⟨fun _ _=>trivial,?_⟩
 have hs: ∀o:Oper,Oper.semAt (FW none).round a.eval o=execOp a.eval o:=fun _=>rfl
 rw[hs,aEt (aaF a) hy h3,hrun]
 refine⟨fun h=>(by cases h),hround.mono fun e w' he=>?_⟩
 obtain⟨G',hg,he⟩:=he
 have rel: ∀(b:Bool) (f:FX),(∀ρ,IsX ρ G' f (.bool b))→Frz G' w'→RlX GB (cxw w' G') n (aao ((d,f)::frd)) (aap []) ρ G' [] (a.put (some d) (.bool b)) w':=fun b f hfb hz=>by
  have pa:=rl.putA (dst:=some d) (.bool b) hd
  refine⟨rl.gb.trans hg,alj hz,pa.sz,by rw[pa.df];exact hp.mks,fun k g e=>?_,(fun nm B e=>by cases e),(fun nm nm' B B' e=>by cases e),fun nm p _ _ e=>by cases e⟩
  have e':upL (aao frd) (some d) f k=some g:=by
   rw[aaI] at e
   simp only[upL]
   split at e
   ·rename_i hk;rw[if_pos hk];exact e
   ·rename_i hk;rw[if_neg hk];exact e
  refine pa.fx (fun k g _ e=>?_) (hfb ρ) k g e'
  obtain⟨u,h5,h6⟩:=rl.fx k g (ajF hfd k g e)
  exact⟨u,h5,h6.up hg⟩
 rcases he with⟨rfl,hj⟩|⟨rfl,hj⟩
 ·exact(gx' (GB:=GB) (C:=cxw w' G') (Q0:=Q0) g1 v1 (k1 (cxw w' G') ⟨rfl,rfl,rfl⟩ hj)).run ρ G' [] _ w' (rel true .tt (fun _=>rfl) ((H.st _).frz _ _ hj))
 ·exact(gx' (GB:=GB) (C:=cxw w' G') (Q0:=Q0) g2 v2 (k2 (cxw w' G') ⟨rfl,rfl,rfl⟩ hj)).run ρ G' [] _ w' (rel false .ff (fun _=>rfl) (H.sx.frz _ _ hj))
def AtC(GB:Gh)(n:Nat){X:Type}(F:X→FrX)(I:X→Ctx→Prop)(a:Act)(w:World):Prop:=
 ∃C x ρ G ov,Pl C∧I x C∧RlX GB C n (aao (F x)) (aap []) ρ G ov a w
theorem lpC[fu:Fu]{c:Code}{X:Type}(F:X→FrX)(I:X→Ctx→Prop)(μ:X→Nat)(x0:X){cf':X→Cf}{fr':X→FrX}{own':X→OwX}{vc:X→List Prop}(hp:Pl C)(hI:I x0 C)
  (hgo: ∀x,go tt n fu.n [] (F x) [] (.code c (.ag (AtC GB n F (fun y C=>I y C∧μ y<μ x))::K))=⟨vc x,fr' x,own' x,cf' x⟩)
  (round: ∀x C,Pl C→I x C→CfS prog GB C n Q0 (fr' x) (own' x) (cf' x))(hF:leF (F x0) fr:=by repeat (first|exact trivial|refine And.intro rfl ?_|refine And.intro (leI rfl (by first|omega|(dsimp only;omega))) ?_|refine And.intro (leI rfl (by simp)) ?_))
  (hv: ∀x C,I x C→aah (vc x):=by intros;first|exact trivial|(simp only[aah];kernel_rfl)|(simp only[aah];omega)|(simp only[aah,aK,aN,aY];omega)):CfS prog GB C n Q0 fr own (.code (.loop c) K):=by
 refine⟨fun ρ G ov a w r=>?_⟩
 have r0:=r.mono (bk:=aap []) (ajF hF) (fun k x e=>by cases e)
 rw[hp.rd]
 intro b k cs hro hb hrm
 have key: ∀m a w,(∃C x ρ G ov,Pl C∧I x C∧μ x=m∧RlX GB C n (aao (F x)) (aap []) ρ G ov a w)→
   ∃e a' w',cQ none prog Q0 K e a' w'∧ArrivesIn (Machine.fenced prog (FW none)) prog (lone (b.atR a (.code c:: .inLoop c::k)) cs w) b k cs e a' w':=by
  intro m
  induction m using Nat.strongRecOn with
  |_ m ih=>
   intro a w ⟨C,x,ρ,G,ov,hpc,hx,hm,hr⟩
   have h1:=gx' (GB:=GB) (C:=C) (Q0:=Q0) (hgo x) (hv x C hx) (round x C hpc hx)
   have h2:=h1.run ρ G ov a w hr
   rw[hpc.rd] at h2
   obtain⟨e,a₁,w₁,hq,harr⟩:=h2 b (.inLoop c::k) cs hro hb hrm
   cases e with
   |normal=>
    obtain⟨C',x',ρ',G',ov',hpc',⟨hx',hlt⟩,hr'⟩:=hq
    obtain⟨e₂,a₂,w₂,hq₂,harr₂⟩:=ih (μ x') (hm▸hlt) a₁ w₁ ⟨C',x',ρ',G',ov',hpc',hx',rfl,hr'⟩
    exact⟨e₂,a₂,w₂,hq₂, .of_steps (StepsIn.trans harr (.one (fenced_calm hb hrm rfl) stepR_inLoop)) harr₂⟩
   |exit id=>exact⟨_,a₁,w₁,hq, .pass (x:= .inLoop c) rfl (fun _ _=> .inl (by simp)) harr⟩
   |goto l=>exact⟨_,a₁,w₁,hq, .pass (x:= .inLoop c) rfl (fun _ _=> .inl (by simp)) harr⟩
   |ret=>exact⟨_,a₁,w₁,hq, .pass (x:= .inLoop c) rfl (fun _ _=> .inl (by simp)) harr⟩
   |panic ch=>exact⟨_,a₁,w₁,hq, .pass (x:= .inLoop c) rfl (fun _ _=> .inl (by simp)) harr⟩
   |outgrown=>exact⟨_,a₁,w₁,hq, .pass (x:= .inLoop c) rfl (fun _ _=> .inl (by simp)) harr⟩
 obtain⟨e,a',w',q,rr⟩:=key (μ x0) a w ⟨C,x0,ρ,G,ov,hp,hI,rfl,r0⟩
 exact⟨e,a',w',q, .of_steps (.one (fenced_calm hb hrm rfl) stepR_loop) rr⟩
theorem atC{P:Program}{X:Type}{F:X→FrX}{I:X→Ctx→Prop}(x:X)(hp:Pl C)(hI:I x C)(hF:leF (F x) fr:=by repeat (first|exact trivial|refine And.intro rfl ?_|refine And.intro (leI rfl (by first|omega|(dsimp only;omega))) ?_|refine And.intro (leI rfl (by simp)) ?_)):CfS P GB C n Q0 fr own (.ex .normal (.ag (AtC GB n F I)::K)):=
 ⟨fun ρ G ov a w r=>⟨C,x,ρ,G,ov,hp,hI,r.mono (ajF hF) (fun k x e=>by cases e)⟩⟩
end
end Go.Sx
end
