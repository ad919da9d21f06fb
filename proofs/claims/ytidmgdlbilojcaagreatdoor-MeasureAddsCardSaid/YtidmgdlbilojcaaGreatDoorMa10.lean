import Derived.Test.YtidmgdlbilojcaaGreatDoorMa9
set_option linter.all false
set_option maxHeartbeats 2000000
set_option maxRecDepth 100000
section
namespace Go.Sx
open Go Go.Proofs Tryz
section
variable {P:Program} {C:az} {n:Nat} {fr:Fr} {own own':List ak} {G:Gh} {Φ:Act->World->Prop}
variable {dst:Option Nat} {t t' ty':TypeId} {pos:String} {af:Array Edge} {gd:Option (Nat×Bool)} {x y:Operand} {e s by_:Nat}
def aEY[hT:cx P t e s by_]{z:Value}[hz:gh P e z]{k k':IntKind}{l:Int}(hx:ax fr x=some (.int k 0))(hy:ax fr y=some (.int k' l))(h0:0<=l)(hb:by_*l<=2^47)(hl:l<=2^60)(hs:(aA z).length=s)(hd:b9 n dst=true)
  (h: ∀b,St C n (put fr dst (.slice (some ⟨b,0,none⟩) 0 l.toNat)) (⟨b,de z l.toNat,e,true⟩::own) G Φ):
  Ch P C n fr own G ⟨dst, .makeSlice t x y,ty',pos,af,gd⟩ Φ:=by
 intro a w Q rl;have h1:(Instr.makeSlice t (a.eval x) (a.eval y)).run P w= .ok (.slice (some ⟨w.heap.size,0,none⟩) 0 l.toNat) (w.alloc (.cells ⟨de z l.toNat⟩ e)):=by
  obtain⟨i,hi,hib⟩:=RM (P:=P) (t:=t) (e:=e) (s:=s) (by_:=by_) w;rw[bh rl.fr hx,bh rl.fr hy];unfold Instr.makeSlice;rw[aF (hT.u w)];simp only[asInt,asIntOf];rw[aF (a:=0) (w':=w) J,aF (a:=l) (w':=w) J,aF hi,hib];have hw:IntKind.i64.wrap l=l:=th (by simp[IntKind.min,IntKind.max,IntKind.signed,IntKind.bits];omega);have hw0:IntKind.i64.wrap 0=0:=J;simp only[hw,hw0];have c1: ¬((by_:Int)*l>2^48):=by
   have:(2:Int)^47<=2^48:=by decide
   omega
  have c5:decide ((by_:Int)*l>2^48)=false:=decide_eq_false c1;have c2:decide (l<0)=false:=decide_eq_false (by omega);have c4:decide ((0:Int)>l)=false:=by simp;omega
  simp only[c2,c4,c5,Bool.false_or,Int.lt_irrefl,decide_false,Bool.or_false,iL,if_false];have hr: ¬(l.toNat*by_>roomBytes):=by
   unfold roomBytes;have:((l.toNat*by_:Nat):Int)=by_*l:=by rw[jX,qK h0,Int.mul_comm]
   have h47:((2^47:Nat):Int)=2^47:=by decide
   omega
  unfold askRoom;simp only[hr,if_false];rw[aF (run_pure _ _ _),aF (hT.siz w)];have hn:l.toNat*s=l.toNat*(aA z).length:=by rw[hs]
  by_cases h00:l.toNat*s=0
  ·rw[if_pos h00,aF (run_pure _ _ _)]
   have e0:de z l.toNat=[]:=bS (by rw[o5,hs];exact h00);rw[h00,e0,show(Array.range 0)= #[] from J,Array.map_empty];rfl
  ·rw[if_neg h00,aF (hz.zero w),qb]
   rw[aF (run_pure _ _ _),yW hn];rfl
 refine lE (v:= .slice (some ⟨w.heap.size,0,none⟩) 0 l.toNat) (cG h1) (h w.heap.size _ _ ((rl.heap (rl.h.alloc _ _)).put _ hd))
def rG(G:Gh)(ov:List ak):Gh:=fun b=>match G b with
 |some cs=>some cs
 |none=>(ov.find? fun o=>Nat.beq o.b b).map (·.cs)
def Gs{ov:List ak}:bD G (rG G ov):=fun b cs h=>by unfold rG;rw[h]
def Jz{o:ak}: ∀{ov:List ak},o∈ov->ov.Pairwise (fun x y=>x.b≠y.b)->ov.find? (fun u=>Nat.beq u.b o.b)=some o
 |u::t,ho,nd=>by
  rcases aY.1 ho with rfl|ho
  ·rw[List.find?_cons_of_pos (by simp)]
  ·have:=(cK.1 nd).1 o ho
   rw[List.find?_cons_of_neg (by simpa using this)];exact Jz ho (cK.1 nd).2
def ZH{ov:List ak}{o:ak}(ho:o∈ov)(hn:G o.b=none)(nd:ov.Pairwise (fun x y=>x.b≠y.b)):rG G ov o.b=some o.cs:=by
 unfold rG;rw[hn,Jz ho nd];rfl
def bz.lendSub{ov:List ak}{w:World}(h:bz C ov G w)(b:Nat)(cs:List Value)(hb:rG G ov b=some cs): ∃ty fz,w.heap[b]? =some (.cells ⟨cs⟩ ty fz):=by
 unfold rG at hb;split at hb
 ·rename_i hg;cases hb;exact h.sub _ _ hg
 ·cases hf:ov.find? (fun o=>Nat.beq o.b b) with
  |none=>rw[hf] at hb;cases hb
  |some o=>
   rw[hf] at hb;cases hb;have e:o.b=b:=aR (by simpa using List.find?_some hf);subst e;exact⟨_,_,(h.hown o (List.mem_of_find?_eq_some hf)).1⟩
def bz.lent{ov:List ak}{G':Gh}{w w':World}(h:bz C ov G w)(k:bz ⟨w,rG G ov,[],[],[],none,fun _=>none⟩ [] G' w'):bz C ov G w':=by
 have same: ∀b o,w.heap[b]? =some o->w'.heap[b]? =some o:=fun b o hb=>by rw[k.keep b (iq hb) (by simp)];exact hb
 have hsz:w.heap.size<=w'.heap.size:=k.size;refine⟨k.os.trans h.os,k.tape.trans h.tape,k.output.trans h.output,cY h.size hsz,fun b hb hm=>?_,fun b cs hb=>?_,h.gle,h.gold,fun o ho=>?_,h.nd,cY h.dr k.dr,fun p hp=>⟨(h.ext p hp).1,same _ _ (h.ext p hp).2⟩⟩
 ·have:=h.size;rw[k.keep b (by show b<w.heap.size;omega) (by simp)];exact h.keep b hb hm
 ·obtain⟨ty,fz,h1⟩:=h.sub b cs hb;exact⟨ty,fz,same _ _ h1⟩
 ·obtain⟨h1,h2⟩:=h.hown o ho;exact⟨same _ _ h1,h2⟩
def Y'{f:FuncId}{fo:Operand}{args:Array Operand}{tys:Array TypeId}{vs:List Value}{K:Value->Gh->Prop}(ho:ax fr fo=some (.func (.func f) #[] #[]))(hv:fm fr args.toList=some vs)
  (hF:Fn P f vs (rG G own) K)(hd:b9 n dst=true)(h: ∀v (G':Gh),K v G'->St C n (put fr dst v) own G Φ):Ch P C n fr own G ⟨dst, .call ⟨.value fo,args,tys⟩,ty',pos,af,gd⟩ Φ:=by
 intro a w Q rl;have h2:=B6 (c1:=[]) (c2:=[]) (P:=P) (dst:=dst) (ty':=ty') (pos:=pos) (af:=af) (gd:=gd) (tys:=tys) (w:=w) hF.able rl.fr ho hv;rw[jT,jJ] at h2;simp only[Oper.wp,h2,Oper.upon];refine(hF.run w rl.h.lendSub).mono ?_;rintro e w' ⟨v,G',rfl,hh,hK⟩;exact h v G' hK _ _ ((rl.heap (rl.h.lent hh)).put _ hd)
end
def DV.np:DV->Bool
 | .v _=>true
 | .tp l=>l.all fun d=>match d with
  | .v _=>true
  |_=>false
 |_=>false
def JS{A G:Gh}: ∀{l:List DV} {m:List Value},(l.all fun d=>match d with| .v _=>true|_=>false)=true->IsLs A l m->IsLs G l m
 |[],m,_,k=>er.2 (er.1 k)
 |d::t,m,h,k=>by
  obtain⟨y,n,rfl,k1,k2⟩:=aH.1 k;simp only[List.all_cons,bM] at h;refine .cons ?_ (JS h.2 k2)
  cases d with
  |v x=>exact aD.2 (aD.1 k1)
  |_=>simp at h
def Is.np{A G:Gh}{d:DV}{y:Value}(h:d.np=true)(k:Is A d y):Is G d y:=by
 cases d with
 |v x=>exact aD.2 (aD.1 k)
 |tp l=>obtain⟨m,e,k⟩:=jt.1 k;exact jt.2 ⟨m,e,JS h k⟩
 |_=>cases h
section
variable {GB:Gh} {C:az} {n:Nat} {Q0:Exit->Act->World->Prop} {fr fr':ay} {own own':aE} {cf cf':Cf} {vc:List Prop} {lk:LK} {bk:BM} {ρ:NE} {G:Gh} {ov:List ak} {a:Act} {w:World}
variable {dst:Option Nat} {t t' ty':TypeId} {pos:String} {af:Array Edge} {gd:Option (Nat×Bool)} {x y:Operand} {e s by_:Nat}
def KX:Option Bk->Option (List DV)
 |some (.b _ _ ds _)=>some ds
 |some (.c _ _ ds _)=>some ds
 |_=>none
def Gf(lk:LK)(bk:BM)(x:Operand):Option DV:=match aG lk x with
 |some (.rw nm)=>match KX (bk nm) with
  |some ds=>some (.sl ds)
  |none=>none
 |some f=>lv f
 |none=>none
def CN(lk:LK)(bk:BM):List Operand->Option (List DV)
 |[]=>some []
 |x::t=>match Gf lk bk x,CN lk bk t with
  |some d,some l=>some (d::l)
  |_,_=>none
def Ub(r:bE GB C n lk bk ρ G ov a w){d:DV}(h:Gf lk bk x=some d): ∃y,ax (cB a) x=some y/\Is (rG G ov) d y:=by
 unfold Gf at h;split at h
 ·rename_i nm h1
  obtain⟨y,h2,h3⟩:=r.ev h1
  cases (show y=_ from h3)
  refine⟨_,h2,?_⟩;split at h<;>cases h;rename_i ds hr;obtain⟨ty,s,vs,B,hB,hv,hs,hBo⟩: ∃ty s vs B,jp s ty (ρ nm) vs B/\IsLs G ds vs/\(∀v∈vs,(aA v).length=s)/\ ∀o∈B,o∈ov:=by
   unfold KX at hr;split at hr<;>cases hr
   ·rename_i hb;obtain⟨B,⟨vs,h4,h5,h6,_⟩,h7⟩:=r.bx _ _ hb;exact⟨_,_,vs,B,h4,h5,h6,h7⟩
   ·rename_i hb;obtain⟨B,⟨vs,h4,h5,h6,_⟩,h7⟩:=r.bx _ _ hb;exact⟨_,_,vs,B,h4,h5,h6,h7⟩
  rcases hB with⟨e1,e2,e3⟩|⟨b,rest,lo',e2,e3,h5,h6,h7⟩
  ·subst e1
   have ed:ds=[]:=bS (by rw[<-hv.len];rfl);subst ed;rw[e2];exact iH.2 ⟨0,⟨none,0,0⟩,[],J, .nil _ 0, .nil⟩
  ·subst e3
   have ho:=hBo _ aQ;have hg:=ZH ho (r.h.hown _ ho).2.1 r.h.nd;rw[e2];exact iH.2 ⟨s,⟨some ⟨b,0,none⟩,vs.length,_⟩,vs,J,d8.of_flat hs hg h7,hv.up Gs⟩
 ·rename_i h1
  obtain⟨y,h2,h3⟩:=r.ev h1;exact⟨y,h2,(n9 h3 h).up Gs⟩
 ·cases h
def Nl(r:bE GB C n lk bk ρ G ov a w): ∀{l:List Operand} {ds:List DV},CN lk bk l=some ds-> ∃vs,fm (cB a) l=some vs/\IsLs (rG G ov) ds vs
 |[],ds,e=>by cases e;exact⟨[],J, .nil⟩
 |x::t,ds,e=>by
  simp only[CN] at e;split at e<;>cases e;rename_i h1 h2;obtain⟨y,h3,h4⟩:=Ub r h1;obtain⟨vs,h5,h6⟩:=Nl r h2;exact⟨y::vs,by simp only[fm,h3,h5], .cons h4 h6⟩
def GN(lk:LK)(bk:BM)(fo:Operand)(args:Array Operand):Option (FuncId×List DV):=match aG lk fo with
 |some (.d (.v (.func (.func f) ⟨[]⟩ ⟨[]⟩)))=>match CN lk bk args.toList with
  |some ds=>some (f,ds)
  |none=>none
 |_=>none
def Zj{fo:Operand}{args:Array Operand}{tys:Array TypeId}{f:FuncId}{ds:List DV}{rv:DV}(ha:GN lk bk fo args=some (f,ds))(hnp:rv.np=true)(hF:PF GB prog f ds rv):b8 prog GB C n lk bk ⟨dst, .call ⟨.value fo,args,tys⟩,ty',pos,af,gd⟩ (.d rv) [] []:=by
 intro hd tl tb K' s1 s2 hf hk;refine⟨fun ρ G ov a w r Q=>?_⟩;have r1:=r.mono s1 s2;unfold GN at ha;split at ha<;>try (cases ha;done)
 rename_i h1;split at ha<;>cases ha;rename_i h2;obtain⟨y,hy,hy'⟩:=r1.ev h1;rw[(aD (G:=G)).1 hy'] at hy;obtain⟨vs,h3,h4⟩:=Nl r1 h2;refine Y' hy h3 (hF _ vs (r.gb.trans Gs) h4) hd (fun v G' hK a' w' rl=>?_) a w Q ⟨r.h,r.sz,c7 a,r.df⟩;exact hk.run ρ G ov a' w' ⟨r.gb,rl.h,rl.sz,rl.df,(kH rl).fx (fun k g _ e=>r.fx k g e) (Is.np hnp hK),r.bx,r.dj,r.fxd⟩
def Mu(fr:ay)(own:aE)(cf:Cf):Option (FuncId×List DV):=match cw fr cf with
 |some ⟨_, .call ⟨.value fo,args,_⟩,_,_,_,_⟩=>GN (bO fr cf) (ik fr own cf) fo args
 |_=>none
def cL[fu:Fu]{f:FuncId}{ds:List DV}{rv:DV}(ha:Mu fr own cf=some (f,ds))(hF:PF GB prog f ds rv)(hnp:rv.np=true)(hgo:cP tt n fu.n fr own cf (.d rv) [] []=⟨vc,fr',own',cf'⟩)(k:av prog GB C n Q0 fr' own' cf')
  (hv:ac vc:=by first|exact trivial|(simp only[ac];kernel_rfl)|(simp only[ac];omega)):av prog GB C n Q0 fr own cf:=by
 unfold Mu at ha;split at ha<;>try (cases ha;done)
 rename_i hh;exact us hh (Zj ha hnp hF) hgo hv k
def aFA{d cap:Nat}{i:TI}{z:DV}{k k':IntKind}[hT:cx prog t e s by_](hi:e7 prog e=some i)(hz:oO i=some z)(hs:Nat.beq z.cells.length s=true)(hx:aG lk x=some (.d (.v (.int k 0))))(hy:aG lk y=some (.d (.v (.int k' (cap:Nat)))))(hb:by_*cap<=140737488355328)(hl:cap<=1152921504606846976):
  b8 prog GB C n lk bk ⟨some d, .makeSlice t x y,ty',pos,af,gd⟩ (.rw d) [(d,some (.c e s [] cap))] [d]:=by
 intro hd tl tb K s1 s2 hf hk;refine⟨fun ρ G ov a w r Q=>?_⟩;obtain⟨v,hz1,hz2,hz3⟩:=yb hi hz;obtain⟨q1,p1,p2⟩:=(r.mono s1 s2).ev hx;obtain⟨q2,p3,p4⟩:=(r.mono s1 s2).ev hy;rw[dk] at p2 p4;subst p2 p4;have c1:=((hz2 G).cells hz3).1.len;replace hs:=aR hs;refine aEY p1 p3 (by omega) (by have:((by_*cap:Nat):Int)=by_*cap:=jX ..;omega) (by omega) (by rw[c1,hs]) hd (fun b a' w' rl=>?_) a w Q ⟨r.h,r.sz,c7 a,r.df⟩;rw[aM] at rl;have hnd:=(cK.1 rl.h.nd).1;refine hk.run _ _ _ a' w' (r.new' (x:=⟨some ⟨b,0,none⟩,0,cap⟩) (B':= .c e s [] cap) (os:=[⟨b,de v cap,e,true⟩]) (f:= .rw d) (y:= .slice (some ⟨b,0,none⟩) 0 cap) hf (bD.refl _) rl.h ⟨[], .inr ⟨b,de v cap,true,by simp,J,by simp[aC],?_,by simp⟩, .nil,by simp,fun o ho=>by rw[aW.1 ho],by simp⟩
  (fun o ho=>by rw[aW.1 ho];exact aQ) (fun m B' _ _ o ho _=>⟨aJ _ ho,fun e'=>by cases e';exact hnd o ho J⟩) (by show _=_;simp) (kH rl))
 rw[o5,c1,hs];simp[aC]
def aGb{d nm cap:Nat}{ds ds2:List DV}[hT:cx prog t e s by_][hN:jz prog t'](hx:aG lk x=some (.rw nm))(hb:bk nm=some (.c e s ds cap))(hy:q6 lk bk s y=some ds2)(hk2:cI s ds2)(hc:ds.length+ds2.length<=cap)(hp:0<ds2.length)(hnd:Nat.beq nm d=false):
  b8 prog GB C n lk bk ⟨some d, .call ⟨.builtin .append, #[x,y], #[t,t']⟩,ty',pos,af,gd⟩ (.rw d) [(nm,none),(d,some (.c e s (ds++ds2) cap))] [d]:=by
 intro hd tl tb K s1 s2 hf hk;refine⟨fun ρ G ov a w r Q=>?_⟩;have r1:=r.mono s1 s2;have hne:nm≠d:=fun e=>by subst e;simp at hnd
 obtain⟨u,hx',hx2⟩:=r1.ev hx
 cases hx2
 obtain⟨B,⟨vs,hB,hv,hvs,hlo,hcap⟩,hBo⟩:=r1.bx _ _ hb;obtain⟨w2,us,hy',h2,h3,h4,h5,h6⟩:=AB (P:=prog) (C:=C) r1 hy hk2;have hus:(aC us).length=us.length*s:=ez us h4;have hl1:=hv.len;have hl2:=h3.len;have rd:=r.dropB nm;have hf':kP [d] (some d) tl (Sx.upB tb [(nm,none)]):=fun m hm=>by
  obtain⟨g1,g2⟩:=hf m hm;refine⟨g1,fun k B' hk e=>g2 k B' hk ?_⟩;simp only[Sx.upB] at e;split at e
  ·cases e
  ·exact e
 rcases hB with⟨e1,e2,e3⟩|⟨b,rest,lo',k3,k4,k5,k6,k7⟩
 ·rw[e2] at hcap;simp at hcap;omega
 subst k4;have hl':=hlo _ aQ;simp only at hl';subst hl';have ha:(ρ nm).a=some ⟨b,0,none⟩:=by rw[k3]
 have hn:(ρ nm).n=vs.length:=by rw[k3]
 rw[ha,hn] at hx';rw[h2] at hy' h6;have hin:=hBo _ aQ;obtain⟨l1,l2,e5⟩:=lS hin;have hperm:ov.Perm (⟨b,aC vs++rest,e,true⟩::(l1++l2)):=by rw[e5];exact oJ
 have hall: ∀v∈vs++us,(aA v).length=s:=fun v hv=>by
  rcases bW.1 hv with hv|hv
  ·exact hvs v hv
  ·exact h4 v hv
 have hcs:(aC vs++rest).length=(ρ nm).c*s:=by rw[aV];exact k6
 have hroom:vs.length+us.length<=(ρ nm).c:=by omega
 have hmul:(vs.length+us.length)*s<=(ρ nm).c*s:=bK _ hroom;rw[cS] at hmul;have hrest:us.length*s<=rest.length:=by rw[k5] at k6;omega
 have hovw:cA (aC vs++rest) (vs.length*s) (aC us)=aC (vs++us)++rest.drop (us.length*s):=by
  rw[qv _ _ _ (by rw[hus,aV];omega),px,<-k5];simp[hus,mU,dV]
 refine Qu (P:=prog) (own:=⟨b,aC vs++rest,e,true⟩::(l1++l2)) (m:=us.length) (ys:=aC us) hx' hy' (.hd ..) hcs (fun w hh=>h6 w (hh.perm hperm.symm)) hus h5 hroom hd (fun a' w' rl=>?_) a w Q ⟨r.h.perm hperm,r.sz,c7 a,r.df⟩;rw[hovw] at rl;have hnd':=(cK.1 rl.h.nd).1;refine hk.run _ _ _ a' w' (rd.new' (x:=⟨some ⟨b,0,none⟩,vs.length+us.length,(ρ nm).c⟩) (B':= .c e s (ds++ds2) cap) (os:=[⟨b,aC (vs++us)++rest.drop (us.length*s),e,true⟩]) (f:= .rw d) (y:= .slice (some ⟨b,0,none⟩) (vs.length+us.length) (ρ nm).c) hf' (bD.refl _) rl.h
  ⟨vs++us, .inr ⟨b,rest.drop (us.length*s),true,by simp,J,ez _ hall,?_,by simpa using hroom⟩,hv.app h3,hall,fun o ho=>by rw[aW.1 ho],by simpa using hcap⟩ (fun o ho=>by rw[aW.1 ho];exact aQ)
  (fun m B' hm e' o ho hmo=>?_) (by show _=_;simp) (kH rl))
 ·rw[ez _ hall,aV,gM,cS]
  simp only[if_true];rw[k5] at k6;omega
 ·have hmn:m≠nm/\tb m=some B':=by
   simp only[Sx.upB] at e';split at e'
   ·cases e'
   ·exact⟨by assumption,e'⟩
  have hob:o.b≠b:=fun e6=>r.dj m nm B' _ hmn.2 (s2 _ _ hb) hmn.1 b (by rw[hmo,e6]) ha;refine⟨?_,fun e6=>by cases e6;exact hob J⟩;rcases aY.1 (hperm.mem_iff.1 ho) with rfl|ho
  ·exact absurd J hob
  ·exact aJ _ ho
end
section
variable {GB:Gh} {C:az} {n:Nat} {Q0:Exit->Act->World->Prop} {fr fr':ay} {own own':aE} {cf cf':Cf} {vc:List Prop}
def UC[fu:Fu]{d e s b:Nat}{z:DV}{k':IntKind}(cap:Nat)(h:BH fr cf=some ⟨d,e,s,b,z,0⟩)(hy:(match cw fr cf with|some ⟨_, .makeSlice _ _ y,_,_,_,_⟩=>aG (bO fr cf) y|_=>none)=some (.d (.v (.int k' (cap:Nat)))))
  (hgo:cP tt n fu.n fr own cf (.rw d) [(d,some (.c e s [] cap))] [d]=⟨vc,fr',own',cf'⟩)(k:av prog GB C n Q0 fr' own' cf')(hb:b*cap<=140737488355328:=by omega)(hl:cap<=1152921504606846976:=by omega)
  (hv:ac vc:=by first|exact trivial|(simp only[ac];kernel_rfl)|(simp only[ac];omega)):av prog GB C n Q0 fr own cf:=by
 unfold BH at h;split at h<;>try (cases h;done)
 rename_i hh;split at h<;>try (cases h;done)
 rename_i hx;split at h<;>try (cases h;done)
 rename_i hT;split at h<;>try (cases h;done)
 rename_i hi;split at h<;>try (cases h;done)
 rename_i hz;rw[cond_eq_ite] at h;split at h<;>cases h;rename_i hs;rw[hh] at hy;have:=lP (ew _ _ hT) J;exact us hh (aFA (ew _ _ hi) hz hs hx hy hb hl) hgo hv k
structure Zg where
 d:Nat
 nm:Nat
 e:Nat
 s:Nat
 ds:List DV
 ds2:List DV
 cap:Nat
def QI(fr:ay)(own:aE)(cf:Cf):Option Zg:=match cw fr cf with
 |some ⟨some d, .call ⟨.builtin .append,⟨[x,y]⟩,⟨[t,t']⟩⟩,_,_,_,_⟩=>match c9 tt t,c9 tt t' with
  |some ⟨.sl e s _,_,_,_⟩,some ⟨.sl _ _ _,_,_,_⟩=>match aG (bO fr cf) x with
   |some (.rw nm)=>match ik fr own cf nm,q6 (bO fr cf) (ik fr own cf) s y with
    |some (.c e' s' ds cap),some ds2=>bif (Nat.beq e' e&&Nat.beq s' s)&&!Nat.beq nm d then some ⟨d,nm,e,s,ds,ds2,cap⟩ else none
    |_,_=>none
   |_=>none
  |_,_=>none
 |_=>none
def Wd[fu:Fu]{d nm e s cap:Nat}{ds ds2:List DV}(ds':List DV)(h:QI fr own cf=some ⟨d,nm,e,s,ds,ds2,cap⟩)(hds:ds++ds2=ds')(ho2:cI s ds2)(hc:ds.length+ds2.length<=cap)(hgo:cP tt n fu.n fr own cf (.rw d) [(nm,none),(d,some (.c e s ds' cap))] [d]=⟨vc,fr',own',cf'⟩)(k:av prog GB C n Q0 fr' own' cf')
  (hp:0<ds2.length:=by simp)(hv:ac vc:=by first|exact trivial|(simp only[ac];kernel_rfl)|(simp only[ac];omega)):av prog GB C n Q0 fr own cf:=by
 subst hds;unfold QI at h;split at h<;>try (cases h;done)
 rename_i hh;split at h<;>try (cases h;done)
 rename_i hT hT';split at h<;>try (cases h;done)
 rename_i hx;split at h<;>try (cases h;done)
 rename_i hb hy;rw[cond_eq_ite] at h;split at h<;>cases h;rename_i h2;simp only[bM,gL] at h2
 cases aR h2.1.1
 cases aR h2.1.2
 have:=lP (ew _ _ hT) J;have hN:jz prog _:=⟨_,(lP (ew _ _ hT') J).un⟩;exact us hh (aGb hx hb hy ho2 hc hp h2.2) hgo hv k
def PI(GB:Gh)(P:Program)(f:FuncId)(i:Int)(s:Nat)(ty ty2:TypeId)(ds:List DV)(x:DV)(cap:Nat)(dso:List DV):Prop:=
 ∀G w w2 B B2,bD GB G->dG G ⟨w,s,ty,ds,false⟩ B->cap<=w.c->dG G ⟨w2,s,ty2,[x],false⟩ B2->gO P f [.slice w.a w.n w.c, .int .i64 i, .slice w2.a w2.n w2.c] (B++B2) G fun v own' G'=> ∃w',v= .slice w'.a w'.n w'.c/\dG G' ⟨w',s,ty,dso,false⟩ own'
structure YH where
 f:FuncId
 nm:Nat
 nm2:Nat
 i:Int
 ty:TypeId
 ty2:TypeId
 s:Nat
 ds:List DV
 x:DV
 cap:Nat
 d:Nat
def KT(fr:ay)(own:aE)(cf:Cf):Option YH:=match cw fr cf with
 |some ⟨some d, .call ⟨.value fo,⟨[x1,x2,x3]⟩,_⟩,_,_,_,_⟩=>match aG (bO fr cf) fo,aG (bO fr cf) x1 with
  |some (.d (.v (.func (.func f) ⟨[]⟩ ⟨[]⟩))),some (.rw nm)=>match aG (bO fr cf) x2,aG (bO fr cf) x3 with
   |some (.d (.v (.int .i64 i))),some (.rw nm2)=>match ik fr own cf nm,ik fr own cf nm2 with
    |some (.c ty s ds cap),some (.b ty2 s2 [x] true)=>bif (!Nat.beq nm d&&!Nat.beq nm2 d)&&(!Nat.beq nm nm2&&(Nat.beq s2 s&&Nat.blt 0 cap)) then some ⟨f,nm,nm2,i,ty,ty2,s,ds,x,cap,d⟩ else none
    |_,_=>none
   |_,_=>none
  |_,_=>none
 |_=>none
def U0{lk:LK}{bk:BM}{fo x1 x2 x3:Operand}{tys:Array TypeId}{f:FuncId}{nm nm2 d cap s:Nat}{i:Int}{ty0 ty2:TypeId}{ty:TypeId}{pos:String}{af:Array Edge}{gd:Option (Nat×Bool)}{ds dso:List DV}{x:DV}(hne:Nat.beq nm d=false)(hne2:Nat.beq nm2 d=false)(hn2:Nat.beq nm nm2=false)(hcp:0<cap)
  (h0:aG lk fo=some (.d (.v (.func (.func f) ⟨[]⟩ ⟨[]⟩))))(h1:aG lk x1=some (.rw nm))(h2:aG lk x2=some (.d (.v (.int .i64 i))))(h3:aG lk x3=some (.rw nm2))(hb:bk nm=some (.c ty0 s ds cap))(hb2:bk nm2=some (.b ty2 s [x] true))(hF:PI GB prog f i s ty0 ty2 ds x cap dso):
  b8 prog GB C n lk bk ⟨some d, .call ⟨.value fo,⟨[x1,x2,x3]⟩,tys⟩,ty,pos,af,gd⟩ (.rw d) [(nm,none),(nm2,none),(d,some (.b ty0 s dso true))] [d]:=by
 intro hd tl tb K' s1 s2 hf hk;refine⟨fun ρ G ov a w r Q=>?_⟩;have r1:=r.mono s1 s2;obtain⟨y,hy,hy'⟩:=r1.ev h0;rw[(aD (G:=G)).1 hy'] at hy;obtain⟨y1,p1,p1'⟩:=r1.ev h1
 cases (show y1=_ from p1')
 obtain⟨y2,p2,p2'⟩:=r1.ev h2;rw[dk] at p2';subst p2';obtain⟨y3,p3,p3'⟩:=r1.ev h3
 cases (show y3=_ from p3')
 have hnn:nm≠d:=fun e=>by subst e;rw[oS] at hne;cases hne
 have hnn2:nm2≠d:=fun e=>by subst e;rw[oS] at hne2;cases hne2
 have hnm:nm≠nm2:=fun e=>by subst e;rw[oS] at hn2;cases hn2
 obtain⟨B,g1,g2⟩:=r1.bx _ _ hb;obtain⟨B2,k1,k2⟩:=r1.bx _ _ hb2;obtain⟨vs,q1,q2,q3,q4,q5⟩:=g1;have hB:dG G ⟨ρ nm,s,ty0,ds,false⟩ B:=⟨vs,q1,q2,q3,fun h=>by cases h⟩;have hB2:dG G ⟨ρ nm2,s,ty2,[x],false⟩ B2:=dG.weak (lo:=true) k1;have e1: ∃o,B=[o]/\(ρ nm).a=some ⟨o.b,0,none⟩:=by
  rcases q1 with⟨_,e,_⟩|⟨b,rest,lo',e,rfl,_⟩
  ·rw[e] at q5;simp at q5;omega
  ·exact⟨_,J,by rw[e]⟩
 have e2: ∃o,B2=[o]/\(ρ nm2).a=some ⟨o.b,0,none⟩:=by
  obtain⟨vs2,c1,c2,_⟩:=k1;rcases c1 with⟨e,_,_⟩|⟨b,rest,lo',e,rfl,_⟩
  ·subst e;have:=c2.len;simp at this
  ·exact⟨_,J,by rw[e]⟩
 obtain⟨o1,rfl,a1⟩:=e1;obtain⟨o2,rfl,a2⟩:=e2;have hob:o1.b≠o2.b:=fun e=>r.dj nm nm2 _ _ (s2 _ _ hb) (s2 _ _ hb2) hnm _ a1 (by rw[a2,e]);have hp: ∃rest,ov.Perm ([o1]++[o2]++rest):=by
  obtain⟨l1,l2,e3⟩:=lS (g2 _ aQ);have hm:=k2 _ aQ;rw[e3] at hm⊢;have hm2:o2∈l1++l2:=by
   rcases bW.1 hm with h|h
   ·exact bU _ h
   ·rcases aY.1 h with h|h
    ·exact absurd (by rw[h]) hob
    ·exact bL _ h
  obtain⟨l3,l4,e4⟩:=lS hm2;refine⟨l3++l4,List.perm_middle.trans ?_⟩;rw[e4];exact(oJ (l₁:=l3) (l₂:=l4) (a:=o2)).cons o1
 obtain⟨rest,h5⟩:=hp;have h6: ∀o∈ov,o.b≠o1.b->o.b≠o2.b->o∈rest:=fun o ho n1 n2=>by
  have:=h5.mem_iff.1 ho;simp only[iV,jT,aY] at this;rcases this with rfl|rfl|h
  ·exact absurd J n1
  ·exact absurd J n2
  ·exact h
 have hlo2: ∀o∈[o2],o.lo=true:=by obtain⟨_,_,_,_,h⟩:=k1;exact h rfl
 have hall: ∀o∈[o1]++[o2],o.lo=true:=fun o ho=>by
  rcases bW.1 ho with h|h
  ·exact q4 o h
  ·exact hlo2 o h
 refine vN (M:=[o1]++[o2]) (rest:=rest) (vs:=[.slice (ρ nm).a (ρ nm).n (ρ nm).c, .int .i64 i, .slice (ρ nm2).a (ρ nm2).n (ρ nm2).c]) hy (by simp only[fm,p1,p2,p3]) h5 (hF G (ρ nm) (ρ nm2) [o1] [o2] r.gb hB q5 hB2) hd (fun v own1 G' hG hK a' w' rl=>?_) a w Q ⟨r.h,r.sz,c7 a,r.df⟩;obtain⟨z,rfl,vs',k1',k2',k3',k4'⟩:=hK;have hs1:=k1'.relo (gP ([o1]++[o2]));have e3: ∀o∈own1.map (relo (gP ([o1]++[o2]))),o.lo=true:=fun o ho=>by
  obtain⟨o',_,rfl⟩:=bV.1 ho;exact BD _ hall
 generalize own1.map (relo (gP ([o1]++[o2])))=B' at rl e3 hs1;have rl':gq C n (Sx.put (cB a) (some d) (.slice z.a z.n z.c)) (B'++rest) G' a' w':=rl;have hdis:=(gJ.1 rl'.h.nd).2.2;have rd:=(r.dropB nm).dropB nm2;have hin: ∀q B0,Sx.upB (Sx.upB tb [(nm,none)]) [(nm2,none)] q=some B0->q≠nm/\q≠nm2/\tb q=some B0:=fun q B0 e=>by
  simp only[Sx.upB] at e;split at e
  ·cases e
  ·split at e
   ·cases e
   ·exact⟨by assumption,by assumption,e⟩
 have hf2:kP [d] (some d) tl (Sx.upB (Sx.upB tb [(nm,none)]) [(nm2,none)]):=fun q hq=>by
  obtain⟨f1,f2⟩:=hf q hq;exact⟨f1,fun k B e1 e=>f2 k B e1 (hin k B e).2.2⟩
 have hsep: ∀q B0,Sx.upB (Sx.upB tb [(nm,none)]) [(nm2,none)] q=some B0-> ∀o∈ov,(ρ q).a=some ⟨o.b,0,none⟩->o∈rest:=fun q B0 e o ho hbq=>by
  obtain⟨n1,n2,n3⟩:=hin q B0 e;exact h6 o ho (fun e'=>r.dj nm q _ _ (s2 _ _ hb) n3 (Ne.symm n1) _ a1 (by rw[hbq,e'])) (fun e'=>r.dj nm2 q _ _ (s2 _ _ hb2) n3 (Ne.symm n2) _ a2 (by rw[hbq,e']))
 have r3:=rd.new' (x:=z) (B':= .b ty0 s dso true) (os:=B') (ov':=B'++rest) (f:= .rw d) (y:= .slice z.a z.n z.c) hf2 hG.le rl'.h ⟨vs',by simpa using hs1,k2',k3',fun _=>e3⟩ (fun o ho=>bU _ ho)
  (fun q B0 hq e o ho hbq=>⟨bL _ (hsep q B0 e o ho hbq),fun hc=>by
   have hx: ∃o1∈B',o1.b=o.b:=by
    rcases hs1 with⟨_,h,_⟩|⟨b0,rest0,lo0,h,hB,_⟩
    ·rw[show z=_ from h] at hc;cases hc
    ·rw[show z=_ from h] at hc;cases hc;exact⟨⟨_,aC vs'++rest0,_,lo0⟩,by rw[hB];exact aQ,J⟩
   obtain⟨o3,ho3,he3⟩:=hx;exact hdis o3 ho3 o (hsep q B0 e o ho hbq) he3⟩) (by show _=_;simp) (kH rl')
 exact hk.run _ G' _ a' w' r3
def ci[fu:Fu]{f:FuncId}{nm nm2 d cap s:Nat}{i:Int}{ty ty2:TypeId}{ds dso:List DV}{x:DV}(dso':List DV)(ha:KT fr own cf=some ⟨f,nm,nm2,i,ty,ty2,s,ds,x,cap,d⟩)(hF:PI GB prog f i s ty ty2 ds x cap dso)(he:dso=dso')
  (hgo:cP tt n fu.n fr own cf (.rw d) [(nm,none),(nm2,none),(d,some (.b ty s dso' true))] [d]=⟨vc,fr',own',cf'⟩)(k:av prog GB C n Q0 fr' own' cf')
  (hv:ac vc:=by first|exact trivial|(simp only[ac];kernel_rfl)|(simp only[ac];omega)):av prog GB C n Q0 fr own cf:=by
 subst he;unfold KT at ha;split at ha<;>try (cases ha;done)
 rename_i hh;split at ha<;>try (cases ha;done)
 rename_i h0 h1;split at ha<;>try (cases ha;done)
 rename_i h2 h3;split at ha<;>try (cases ha;done)
 rename_i hb hb2;rw[cond_eq_ite] at ha;split at ha<;>cases ha;rename_i hc;simp only[bM,gL,mK] at hc;obtain⟨⟨c1,c2⟩,c3,c4,c5⟩:=hc
 cases aR c4
 exact us hh (U0 c1 c2 c3 c5 h0 h1 h2 h3 hb hb2 hF) hgo hv k
def pi(d:Nat){ops:Array Oper}{r:List Oper}{K:List Kt}(hl:aI fr d=some (.d (.v (.bool true))))(k:av prog GB C n Q0 ((d, .tt)::fr) own (.ops ops r K)):av prog GB C n Q0 fr own (.ops ops r K):=qh (g:= .tt) hl (fun _ G _ e=>(aD (G:=G)).1 e) k
def rB(d:Nat){ops:Array Oper}{r:List Oper}{K:List Kt}(hl:aI fr d=some (.d (.v (.bool false))))(k:av prog GB C n Q0 ((d, .ff)::fr) own (.ops ops r K)):av prog GB C n Q0 fr own (.ops ops r K):=qh (g:= .ff) hl (fun _ G _ e=>(aD (G:=G)).1 e) k
end
section
variable {GB:Gh} {C:az} {n:Nat} {Q0:Exit->Act->World->Prop} {fr fr':ay} {own own':aE} {cf cf':Cf} {vc:List Prop}
def Ki(fr:ay)(cf:Cf):Option (Int×Int):=match cw fr cf with
 |some ⟨_, .binOp .xor _ x y _,_,_,_,_⟩=>match aG (bO fr cf) x,aG (bO fr cf) y with
  |some (.d (.v (.int .u32 p))),some (.d (.v (.int .u32 q)))=>some (p,q)
  |_,_=>none
 |_=>none
def xr[fu:Fu]{p q:Int}(u:Int)(h:Ki fr cf=some (p,q))(e:(((BitVec.ofInt 32 p^^^BitVec.ofInt 32 q).toNat:Nat):Int)=u)(hgo:cP tt n fu.n fr own cf (.d (.v (.int .u32 u))) [] []=⟨vc,fr',own',cf'⟩)(k:av prog GB C n Q0 fr' own' cf')
  (hv:ac vc:=by first|exact trivial|(simp only[ac];kernel_rfl)|(simp only[ac];omega)):av prog GB C n Q0 fr own cf:=by
 unfold Ki at h;split at h<;>try (cases h;done)
 rename_i hh;split at h<;>cases h;rename_i h1 h2;subst e;exact us hh (.yd fun ρ G ov a w r=>by
  obtain⟨y1,h3,h4⟩:=r.ev h1;obtain⟨y2,h5,h6⟩:=r.ev h2;rw[dk] at h4 h6;subst h4 h6;exact⟨_,dk.2 J,iF h3 h5 fun w=>by
   show(pure (Value.int .u32 (IntKind.u32.wrap ((BitVec.ofInt 32 p^^^BitVec.ofInt 32 q).toNat:Int))):Sem Value).run prog w=_;rw[Be];rfl⟩) hgo hv k
def LX(fr:ay)(cf:Cf):Option (Int×Int):=match cw fr cf with
 |some ⟨_, .binOp .sub _ x y _,_,_,_,_⟩=>match aG (bO fr cf) x,aG (bO fr cf) y with
  |some (.d (.v (.int .u32 p))),some (.d (.v (.int .u32 q)))=>some (p,q)
  |_,_=>none
 |_=>none
def sw[fu:Fu]{p q:Int}(u:Int)(h:LX fr cf=some (p,q))(e:(p-q)%4294967296=u)(hgo:cP tt n fu.n fr own cf (.d (.v (.int .u32 u))) [] []=⟨vc,fr',own',cf'⟩)(k:av prog GB C n Q0 fr' own' cf')
  (hv:ac vc:=by first|exact trivial|(simp only[ac];kernel_rfl)|(simp only[ac];omega)):av prog GB C n Q0 fr own cf:=by
 unfold LX at h;split at h<;>try (cases h;done)
 rename_i hh;split at h<;>cases h;rename_i h1 h2;subst e;exact us hh (.yd fun ρ G ov a w r=>by
  obtain⟨y1,h3,h4⟩:=r.ev h1;obtain⟨y2,h5,h6⟩:=r.ev h2;rw[dk] at h4 h6;subst h4 h6;exact⟨_,dk.2 J,by rw[<-qz];exact vL h3 h5⟩) hgo hv k
def Ln(fr:ay)(cf:Cf):Option Int:=match cw fr cf with
 |some ⟨_, .unOp .xor _ x,_,_,_,_⟩=>match aG (bO fr cf) x with
  |some (.d (.v (.int .u32 p)))=>some p
  |_=>none
 |_=>none
def nt[fu:Fu]{p:Int}(u:Int)(h:Ln fr cf=some p)(e:(((BitVec.ofInt 32 IntKind.u32.max^^^BitVec.ofInt 32 p).toNat:Nat):Int)=u)(hgo:cP tt n fu.n fr own cf (.d (.v (.int .u32 u))) [] []=⟨vc,fr',own',cf'⟩)(k:av prog GB C n Q0 fr' own' cf')
  (hv:ac vc:=by first|exact trivial|(simp only[ac];kernel_rfl)|(simp only[ac];omega)):av prog GB C n Q0 fr own cf:=by
 unfold Ln at h;split at h<;>try (cases h;done)
 rename_i hh;split at h<;>cases h;rename_i hx;subst e;refine us hh (.x1 hx fun ρ G ov a w y _ r h1 h2=>?_) hgo hv k;rw[dk] at h2;subst h2;refine⟨_,dk.2 J,fun a w hf hh=>?_⟩;simp only[execOp,bh hf h1];refine cG (w':=w) ?_;show(pure (Value.int .u32 (IntKind.u32.wrap ((BitVec.ofInt 32 IntKind.u32.max^^^BitVec.ofInt 32 p).toNat:Int))):Sem Value).run prog w=_;rw[Be];rfl
end

end Go.Sx
end
section
namespace Go.Sx
open Go
def dU(d:Nat):DV:= .v (.int .u32 (d:Int))
def fA(ds:List Nat):DV:= .sl (ds.map dU)
def dN(n:Nat):DV:= .sl ((dg n).map dU)
def dD(n:Nat):DV:= .sl (if n=1 then [] else(dg n).map dU)
def eI(m:Int):DV:= .ag [.v (.bool (decide (m<0))),dN m.natAbs]
def eQ(q:Rat):DV:= .ag [.v (.bool (decide (q.num<0))),dN q.num.natAbs,dD q.den]
def eP(p:ab):DV:= .ag [.v (.bool (decide (p.x.num<0))),dN p.x.num.natAbs,dD p.x.den, .v (.bool (decide (p.y.num<0))),dN p.y.num.natAbs,dD p.y.den]
def eL(l:aa):DV:= .ag [.v (.bool (decide (l.a<0))),dN l.a.natAbs, .v (.bool (decide (l.b<0))),dN l.b.natAbs, .v (.bool (decide (l.c<0))),dN l.c.natAbs]
def eR(q:Rat):DV:= .ag [.v (.bool (decide (q.num<0))),dN q.num.natAbs,dN q.den]
def pc(p:ab):DV:= .ag [.v (.bool (decide (p.x.num<0))),dN p.x.num.natAbs,dN p.x.den, .v (.bool (decide (p.y.num<0))),dN p.y.num.natAbs,dN p.y.den]
def vI(n:Int):DV:= .v (.int .i64 n)
def vB(b:Bool):DV:= .v (.bool b)
def GH(n:Nat):dN n=fA (dg n):=rfl
def aHm{ds:List Nat}(h:bp ds):fA (trimD ds)=dN (dv ds):=by unfold fA dN;rw[pf h]
def V8{ds:List Nat}{i:Nat}(h:i<ds.length):(ds.map dU)[i]? =some (dU (ds.getD i 0)):=by
 rw[cV,aZ h,aX,aZ h];rfl
def mH{ds:List Nat}{i:Nat}(h:i<ds.length):(ds.map dU)[(i:Int).toNat]? =some (dU (ds.getD i 0)):=by rw[aM];exact V8 h
def uP(ds:List Nat)(i d:Nat):(ds.map dU).set i (.v (.int .u32 (d:Int)))=(ds.set i d).map dU:=by rw[kU];rfl
def vD(n:Nat):List.replicate n (DV.v (.int .u32 0))=(List.replicate n 0).map dU:=by rw[List.map_replicate];rfl
def vh(ds:List Nat):cI 1 (ds.map dU):=fun d hd=>by
 obtain⟨n,_,rfl⟩:=bV.1 hd;exact⟨rfl,rfl⟩
def ig(n:Nat)(i:Nat):(dg n).getD i 0<4294967296:=(eo n).2.1.get i
def yr:dg 0=[]:=by rw[dg,dif_pos J]
def Ar:dg 1=[1]:=by rw[dg,dif_neg (by decide)];simp[yr]
def vW{n:Nat}:(dg n).length=0↔n=0:=by
 constructor
 ·intro h
  have:=(eo n).1;rw[bS h] at this;exact this.symm
 ·rintro rfl;rw[yr];rfl
def oE:dN 0= .sl []:=by unfold dN;rw[yr];rfl
def Bq{G:Gh}: ∀{ds:List Nat} {es:List Value},IsLs G (ds.map dU) es↔es=ds.map dI
 |[],es=>er
 |d::t,es=>by
  rw[bT,aH];constructor
  ·rintro ⟨y,n,rfl,h1,h2⟩
   rw[aD.1 h1,Bq.1 h2];rfl
  ·rintro rfl
   exact⟨_,_,J,aD.2 J,Bq.2 J⟩
def KN{G:Gh}{ds:List Nat}{v:Value}:Is G (fA ds) v↔ ∃x:SV,v= .slice x.a x.n x.c/\d8 G 1 x (ds.map dI):=by
 unfold fA;rw[iH];constructor
 ·rintro ⟨s,x,es,rfl,h1,h2⟩
  have:=Bq.1 h2;subst this;refine⟨x,J,?_⟩;rcases zG (s:=1) h1 h2 (vh ds) with h|h
  ·rw[h] at h1⊢
   exact⟨h1.len,h1.cap, .inl J⟩
  ·subst h;exact h1
 ·rintro ⟨x,rfl,h⟩
  exact⟨1,x,_,J,h,Bq.2 J⟩
def Gp{G:Gh}{n k:Nat}{v:Value}(hk:n<2^k):Is G (dN n) v↔ ∃x:SV,v= .slice x.a x.n x.c/\fP k G x n:=by
 rw[GH,KN];constructor
 ·rintro ⟨x,rfl,h⟩
  exact⟨x,J,⟨(eo n).2.1,h⟩,hk⟩
 ·rintro ⟨x,rfl,h⟩
  exact⟨x,J,h.d.sl⟩
def gz{ds:List Nat}{i:Int}{k:Nat}(hi:i=k)(h:k<ds.length):(ds.map dU)[i.toNat]? =some (dU (ds.getD k 0)):=by subst hi;exact mH h
class BN (n:Nat) (k:outParam Nat):Prop where h:n<2^k
class BI (m:Int) (k:outParam Nat):Prop where h:m.natAbs<2^k
class BQ (q:Rat) (k:outParam Nat):Prop where
 hn:q.num.natAbs<2^k
 hd:q.den<2^k
theorem BN.mono{n k k':Nat}(h:BN n k)(hk:k<=k'):BN n k':=⟨dJ h.h (bY (by decide) hk)⟩
def pw{a b i j:Nat}(h:a<2^i)(k:b<2^j):a*b<2^(i+j):=by rw[eJ];exact oX h k
def Dx{a b i j:Nat}(h:a<2^i)(k:b<2^j):a+b<2^(i+j+1):=by
 have h1:2^i<=2^(i+j):=bY (by decide) (by omega);have h2:2^j<=2^(i+j):=bY (by decide) (by omega);rw[fV];omega
instance BN.mul (a b i j:Nat) [h:BN a i] [k:BN b j]:BN (a*b) (i+j):=⟨pw h.h k.h⟩
instance BN.add (a b i j:Nat) [h:BN a i] [k:BN b j]:BN (a+b) (i+j+1):=⟨Dx h.h k.h⟩
instance BN.sub (a b i:Nat) [h:BN a i]:BN (a-b) i:=⟨by have:=h.h;omega⟩
instance BN.div (a b i:Nat) [h:BN a i]:BN (a/b) i:=⟨fJ (kR _ _) h.h⟩
instance BN.abs (m:Int) (i:Nat) [h:BI m i]:BN m.natAbs i:=⟨h.h⟩
instance BN.den (q:Rat) (i:Nat) [h:BQ q i]:BN q.den i:=⟨h.hd⟩
def GM{a b i j:Nat}(h:a<2^i)(k:b<2^j):Nat.gcd a b<2^(i+j):=by
 have h1:2^i<=2^(i+j):=bY (by decide) (by omega);have h2:2^j<=2^(i+j):=bY (by decide) (by omega);rcases fR a with h0|h0
 ·subst h0;rw[Nat.gcd_zero_left];omega
 ·have:=Nat.gcd_le_left b h0;omega
instance BN.gcd (a b i j:Nat) [h:BN a i] [k:BN b j]:BN (Nat.gcd a b) (i+j):=⟨GM h.h k.h⟩
instance BN.one:BN 1 1:=⟨by decide⟩
instance BN.zero:BN 0 0:=⟨by decide⟩
instance BI.mul (a b:Int) (i j:Nat) [h:BI a i] [k:BI b j]:BI (a*b) (i+j):=⟨by rw[jK];exact pw h.h k.h⟩
instance BI.add (a b:Int) (i j:Nat) [h:BI a i] [k:BI b j]:BI (a+b) (i+j+1):=⟨fJ (Int.natAbs_add_le a b) (Dx h.h k.h)⟩
instance BI.sub (a b:Int) (i j:Nat) [h:BI a i] [k:BI b j]:BI (a-b) (i+j+1):=⟨fJ (Int.natAbs_sub_le a b) (Dx h.h k.h)⟩
instance BI.neg (a:Int) (i:Nat) [h:BI a i]:BI (-a) i:=⟨by rw[iS];exact h.h⟩
instance BI.num (q:Rat) (i:Nat) [h:BQ q i]:BI q.num i:=⟨h.hn⟩
instance BI.nat (n:Nat) (i:Nat) [h:BN n i]:BI (n:Int) i:=⟨by rw[iN];exact h.h⟩
def m6(q:Rat):0<q.den:=iM q.den_nz
theorem zk{m:Int}{d i:Nat}(hd:0<d)(h:m.natAbs<2^i)(k:d<2^i):BQ (mkRat m d) i:=by
 refine⟨?_,?_⟩
 ·rw[Rat.num_mkRat,if_neg (by omega)]
  have:=nK m (d.gcd m.natAbs:Nat);omega
 ·rw[Rat.den_mkRat,if_neg (by omega)]
  have:=kR d (d.gcd m.natAbs);omega
theorem BQ.mono{q:Rat}{k k':Nat}(h:BQ q k)(hk:k<=k'):BQ q k':=⟨dJ h.hn (bY (by decide) hk),dJ h.hd (bY (by decide) hk)⟩
def zY(p q:Rat):p*q=mkRat (p.num*q.num) (p.den*q.den):=by rw[Rat.mul_def,Rat.normalize_eq_mkRat]
def Am(p q:Rat):p+q=mkRat (p.num*q.den+q.num*p.den) (p.den*q.den):=by rw[Rat.add_def,Rat.normalize_eq_mkRat]
instance BQ.mul (p q:Rat) (i j:Nat) [h:BQ p i] [k:BQ q j]:BQ (p*q) (i+j):=by
 rw[zY];exact zk (iJ (m6 p) (m6 q)) (BI.mul p.num q.num i j).h (pw h.hd k.hd)
instance BQ.add (p q:Rat) (i j:Nat) [h:BQ p i] [k:BQ q j]:BQ (p+q) (i+j+1):=by
 rw[Am];refine zk (iJ (m6 p) (m6 q)) ?_ ?_
 ·have h1:=pw h.hn k.hd
  have h2:=pw k.hn h.hd;have h3:(p.num*q.den+q.num*p.den).natAbs<=(p.num*q.den).natAbs+(q.num*p.den).natAbs:=Int.natAbs_add_le ..;rw[jK,jK,iN,iN] at h3;rw[jY j i] at h2;rw[fV];omega
 ·have h1:=pw h.hd k.hd
  rw[fV];omega
instance BQ.neg (p:Rat) (i:Nat) [h:BQ p i]:BQ (-p) i:=⟨by rw[oY,iS];exact h.hn,by rw[sY];exact h.hd⟩
instance BQ.sub (p q:Rat) (i j:Nat) [h:BQ p i] [k:BQ q j]:BQ (p-q) (i+j+1):=by
 rw[Rat.sub_eq_add_neg];exact BQ.add p (-q) i j
instance BQ.ofInt (m:Int) (i:Nat) [h:BI m i]:BQ (m:Rat) (i+1):=by
 refine⟨?_,?_⟩
 ·rw[qN];have:=h.h;rw[fV];omega
 ·rw[rQ];have:0<2^i:=fZ (by decide);rw[fV];omega
end Go.Sx
end
section
namespace Go.Sx
open Go Go.Proofs Tryz
variable {GB:Gh}
def De(p q:Int):Nat:=(BitVec.ofInt 32 p &&& BitVec.ofInt 32 q).toNat
def Jh(p q:Int):Nat:=(BitVec.ofInt 32 p ||| BitVec.ofInt 32 q).toNat
def AM(p q:Int):Nat:=(BitVec.ofInt 32 p^^^BitVec.ofInt 32 q).toNat
def atj{ds:List Nat}{n:Nat}(h:0<n/\n<=ds.length)(hz:ds.getD (n-1) 0=0):trimD (ds.take n)=trimD (ds.take (n-1)):=by
 obtain⟨m,rfl⟩: ∃m,n=m+1:=⟨n-1,by omega⟩;rw[fS (by omega),lR];rw[lR,aX,aZ (by omega)] at hz;simp only[lU] at hz;rw[hz,Nc]
def Xl{ds:List Nat}{n:Nat}(h:n<=ds.length)(hz:0<n->ds.getD (n-1) 0≠0):trimD (ds.take n)=ds.take n:=by
 rcases fR n with h0|h0
 ·subst h0;simp[trimD]
 ·obtain⟨m,rfl⟩: ∃m,n=m+1:=⟨n-1,by omega⟩
  have hz:=hz h0;rw[fS (by omega)];rw[lR,aX,aZ (by omega)] at hz;exact HG (by simpa using hz)
def SU{x y c:Nat}(hx:x<4294967296)(hy:y<4294967296)(hc:c<=1):PF GB prog 169 [.v (.int .u32 (x:Int)), .v (.int .u32 (y:Int)), .v (.int .u32 (c:Int))] (.tp [.v (.int .u32 (((x+y+c)%4294967296:Nat):Int)), .v (.int .u32 (((x+y+c)/4294967296:Nat):Int))]):=by
 refine fn (hv:=by simp only[ac];exact⟨⟨⟨⟨⟨by omega,by omega⟩,by omega⟩,by omega⟩,by omega⟩,(by decide)⟩) func169 J J ntmps169 J J (fun C=>?_);exact rz J (by
  have e1:((x:Int)+y+c)%4294967296=(((x+y+c)%4294967296:Nat):Int):=by omega
  have e2:((x:Int)+y+c).fdiv (2^min (32:Int).toNat IntKind.u64.bits)%4294967296=(((x+y+c)/4294967296:Nat):Int):=by
   rw[show(2:Int)^min (32:Int).toNat IntKind.u64.bits=((4294967296:Nat):Int) from J,gR _ (by decide)];omega
  show DV.tp [.v (.int _ _), .v (.int _ _)]=_;rw[e1,e2])
def Il(n:Nat)(h:n<4294967296):(BitVec.ofInt 32 (n:Int)).msb=decide (2147483648<=n):=by
 rw[show BitVec.ofInt 32 (n:Int)=BitVec.ofNat 32 n from BitVec.ofInt_natCast ..];rw[BitVec.msb_eq_decide,BitVec.toNat_ofNat,fW (by simpa using h)]
def ZF(b:BitVec 32):b.toNat/2147483648=if b.msb then 1 else 0:=by
 have:=b.isLt;rw[BitVec.msb_eq_decide];simp only[decide_eq_true_eq,Nat.reduceSub,Nat.reducePow] at*;split<;>omega
def akM(b:BitVec 32):BitVec.ofInt 32 (b.toNat:Int)=b:=by rw[BitVec.ofInt_natCast,BitVec.ofNat_toNat,BitVec.setWidth_eq]
def Us{x y c:Nat}(hx:x<4294967296)(hy:y<4294967296)(hc:c<=1):
  ((Jh (De (AM IntKind.u32.max x:Nat) y:Nat) (De (AM IntKind.u32.max (AM x y:Nat):Nat) (IntKind.u32.wrap (IntKind.u32.wrap ((x:Int)-y)-c)):Nat):Nat):Int).fdiv (2^min (31:Int).toNat IntKind.u32.bits)=(((if x<y+c then 1 else 0):Nat):Int):=by
 rw[show((2:Int)^min (31:Int).toNat IntKind.u32.bits)=((2147483648:Nat):Int) from J,gR _ (by decide),<-qZ];congr 1;have hd: ∃d:Nat,d<4294967296/\IntKind.u32.wrap (IntKind.u32.wrap ((x:Int)-y)-c)=(d:Int)/\((x>=y+c/\d=x-(y+c))\/(x<y+c/\d=x+4294967296-(y+c))):=by
  rw[qz,qz];refine⟨((((x:Int)-y)%4294967296-c)%4294967296).toNat,by omega,by omega,by omega⟩
 obtain⟨d,hd1,hd2,hd3⟩:=hd;rw[hd2];unfold Jh De AM;simp only[akM];rw[ZF];simp only[BitVec.msb_or,BitVec.msb_and,BitVec.msb_xor,Il x hx,Il y hy,Il d hd1];have h1:(BitVec.ofInt 32 IntKind.u32.max).msb=true:=by decide
 rw[h1];rcases iR x 2147483648 with a|a<;>rcases iR y 2147483648 with b|b<;>rcases iR d 2147483648 with e|e<;>
  simp[Nat.not_le.2, *]<;>(first|omega|(split<;>omega))
def Xu{x y c:Nat}(hx:x<4294967296)(hy:y<4294967296)(hc:c<=1):IntKind.u32.wrap (IntKind.u32.wrap ((x:Int)-y)-c)=(((if x<y+c then x+4294967296-(y+c) else x-(y+c)):Nat):Int):=by
 rw[qz,qz];split<;>omega
def So{x y c:Nat}(hx:x<4294967296)(hy:y<4294967296)(hc:c<=1):PF GB prog 171 [.v (.int .u32 (x:Int)), .v (.int .u32 (y:Int)), .v (.int .u32 (c:Int))] (.tp [.v (.int .u32 (((if x<y+c then x+4294967296-(y+c) else x-(y+c)):Nat):Int)), .v (.int .u32 (((if x<y+c then 1 else 0):Nat):Int))]):=by
 refine fn (fu:=⟨10⟩) func171 J J ntmps171 J J (fun C=>?_);refine sw (fu:=⟨1⟩) _ J (qz _).symm J<|sw (fu:=⟨6⟩) _ J (qz _).symm J<|nt (fu:=⟨4⟩) _ J J J<|xr (fu:=⟨0⟩) _ J J J<|nt _ J J J<|?_;exact rz J (by have h1:=Us hx hy hc;unfold Jh De AM at h1;show DV.tp [.v (.int _ _), .v (.int _ _)]=_;rw[h1,Xu hx hy hc])
def sA{ds:List Nat}(hl:ds.length<=1125899906842624):PF GB prog 115 [fA ds] (fA (trimD ds)):=by
 refine fn func115 J J ntmps115 J J (fun C=>?_);refine lp (X:=Nat) (fun n=>[(0, .d (fA ds)),(3, .d (vI (n:Nat)))]) (fun n=>[]) (fun n=>n<=ds.length/\trimD ds=trimD (ds.take n)) (fun n=>n) ds.length J ⟨aN _,by rw[dZ]⟩ (fun _=>J) (fun n hk=>?_);obtain⟨h1,h2⟩:=hk;refine cs 8 J J J (fun hg8=>?_) (fun hg8=>?_)
 .
  refine ix _ J (gz (k:=n-1) (by omega) (by omega)) J<|?_;refine br J J J (fun hc15=>?_) (fun hc15=>?_)
  .
   have hz:ds.getD (n-1) 0=0:=by omega
   exact at_ (n-1) ⟨⟨by omega,by rw[h2,atj (by omega) hz]⟩,(by omega)⟩
  .
   refine mz 0 n _ J J J J (vh _) (by omega) (by simp;omega) J<|?_;exact rz J (by have:=Xl h1 (fun _ h=>hc15 (by omega));rw[<-h2] at this;show DV.sl _=_;simp[fA,this])
 .
  refine mz 0 n _ J J J J (vh _) (by omega) (by simp;omega) J<|?_;exact rz rfl (by obtain rfl:n=0:=(by omega);show DV.sl _=_;simp[fA,h2,trimD])
def vm{a k:Nat}(h:a<2^k)(hk:k<=1000000000):(dg a).length<=100000000:=by have:=lB h;omega
def cd(a:Nat):dv (dg a)=a:=(eo a).1
def kI(a:Nat):bp (dg a):=(eo a).2.1
def fi(ds:List Nat):(ds.map dU).length=ds.length:=aK ..
def pe{ds:List Nat}{n:Nat}(h:ds.length<=n):ds.take n=ds:=aT h
def vk{ds:List Nat}{i:Nat}(h:ds.length<=i):ds.getD i 0=0:=by
 rw[aX,dX h];rfl
def sG{ds:List Nat}{n:Nat}(h:bp ds)(e:dv ds=n):fA (trimD ds)=dN n:=by rw[aHm h,e]
def IW{a b:Nat}(h:a<b):gy a b= -1:=by unfold gy;rw[if_pos h]
def Ho{a b:Nat}(h:b<a):gy a b=1:=by unfold gy;rw[if_neg (by omega),if_neg (by omega)]
def UT{a b:Nat}(h:a=b):gy a b=0:=by unfold gy;rw[if_neg (by omega),if_pos h]
def avE(m n:Nat):Int.sign ((m:Int)-n)=gy m n:=by
 unfold gy;split
 ·exact fM (by omega)
 ·split
  ·rw[show(m:Int)-n=0 by omega];rfl
  ·exact iZ (by omega)
def ayb{a b:Nat}(h:(dg a).length≠(dg b).length):gy (dg a).length (dg b).length=gy a b:=by
 rcases Nat.lt_or_gt_of_ne h with h|h
 ·have:=tE (kI a) (eo b).2.2 h
  rw[cd,cd] at this;rw[IW h,IW this]
 ·have:=tE (kI b) (eo a).2.2 h
  rw[cd,cd] at this;rw[Ho h,Ho this]
def EZ{a b i:Nat}(hl:(dg a).length=(dg b).length)(hi:i<(dg a).length)(hs:(dg a).drop (i+1)=(dg b).drop (i+1)):
  ((dg a).getD i 0<(dg b).getD i 0->a<b)/\((dg b).getD i 0<(dg a).getD i 0->b<a)/\((dg a).getD i 0=(dg b).getD i 0->(dg a).drop i=(dg b).drop i):=by
 refine⟨fun h=>?_,fun h=>?_,fun h=>?_⟩
 ·have:=Db (kI a) (kI b) i hi (by omega) hl hs h
  rwa [cd,cd] at this
 ·have:=Db (kI b) (kI a) i (by omega) hi hl.symm hs.symm h
  rwa [cd,cd] at this
 ·rw[bX hi,bX (by omega:i<(dg b).length),hs]
  rw[aX,aX,aZ hi,aZ (by omega:i<(dg b).length)] at h;simp only[lU] at h;rw[h]
def Ye{z:Int}:PF GB prog 170 [vI z] (vI z.sign):=by
 refine fn func170 J J ntmps170 J J (fun C=>?_);refine br J J J (fun hc4=>?_) (fun hc4=>?_)
 .
  exact rz J (by show DV.v (.int _ 1)=DV.v (.int _ _);rw[iZ (by omega)])
 .
  refine br J J J (fun hc6=>?_) (fun hc6=>?_)
  .
   exact rz J (by show DV.v (.int _ (-1))=DV.v (.int _ _);rw[fM (by omega)])
  .
   exact rz J (by show DV.v (.int _ 0)=DV.v (.int _ _);rw[show z=0 by omega];rfl)
def XN(u:Nat):dv [u%4294967296,u/4294967296]=u:=by simp only[dv];omega
def X0{u:Nat}(h:u<18446744073709551616):bp [u%4294967296,u/4294967296]:= .cons (by omega) (.cons (by omega) .nil)
def Ia(u:Nat):(u:Int).fdiv (2^min (32:Int).toNat IntKind.u64.bits)=((u/4294967296:Nat):Int):=by
 rw[show(2:Int)^min (32:Int).toNat IntKind.u64.bits=((4294967296:Nat):Int) from J,gR _ (by decide)];rfl
def t6{u:Nat}(hu:u<18446744073709551616):PF GB prog 114 [.v (.int .u64 (u:Int))] (dN u):=by
 refine fn (fu:=⟨11⟩) (hv:=by simp only[ac];exact(by decide)) func114 J J ntmps114 J J (fun C=>?_);refine aj 6 (.d (.v (.int .u64 (u/4294967296:Nat)))) J (by rw[Ia]) ?_;refine gx J<|rf (fu:=⟨0⟩) J J<|?_;refine aj 8 (.d (fA [u%4294967296,u/4294967296])) J (by show FX.d (.sl [.v (.int _ _), .v (.int _ _)])= .d (.sl [.v (.int _ _), .v (.int _ _)]);congr 6;omega) ?_;refine gx J<|cl J (sA (ds:=[u%4294967296,u/4294967296]) (by simp)) J<|?_;exact rz J (sG (X0 hu) (XN u))
def E1:PF GB prog 112 [] (dN 1):=by
 refine fn func112 J J ntmps112 J J (fun C=>?_);refine rf J J<|?_;exact rz J (by unfold dN;rw[Ar];rfl)
def y9{a b:Nat}(ha:(dg a).length<=100000000)(hb:(dg b).length<=100000000):PF GB prog 109 [dN a,dN b] (vI (gy a b)):=by
 have hla:=fi (dg a);have hlb:=fi (dg b);refine fn func109 J J ntmps109 J J (fun C=>?_);refine br J J J (fun hc10=>?_) (fun hc10=>?_)
 .
  refine cl J Ye J<|?_;exact rz J (by show DV.v (.int _ _)=DV.v (.int _ _);rw[hla,hlb,avE,ayb (by omega)])
 .
  have hl:(dg a).length=(dg b).length:=by omega
  refine lp (X:=Nat) (fun k=>[(0, .d (dN a)),(1, .d (dN b)),(5, .d (vI ((k:Nat)-1)))]) (fun k=>[]) (fun k=>k<=(dg a).length/\(dg a).drop k=(dg b).drop k) (fun k=>k) (dg a).length J ⟨aN _,by rw[gQ,hl,gQ]⟩ (fun _=>J) (fun k hk=>?_);obtain⟨h1,h2⟩:=hk;refine br J J J (fun hc21=>?_) (fun hc21=>?_)
  .
   obtain⟨k,rfl⟩: ∃m,k=m+1:=⟨k-1,by omega⟩;refine ix _ J (gz (k:=k) (by omega) (by omega)) J<|ix _ J (gz (k:=k) (by omega) (by omega)) J<|?_;refine br J J J (fun hc32=>?_) (fun hc32=>?_)
   .
    exact rz J (by show DV.v (.int _ 1)=DV.v (.int _ _);rw[Ho ((EZ hl (by omega) h2).2.1 (by omega))])
   .
    refine ix _ J (gz (k:=k) (by omega) (by omega)) J<|ix _ J (gz (k:=k) (by omega) (by omega)) J<|?_;refine br J J J (fun hc41=>?_) (fun hc41=>?_)
    .
     exact rz J (by show DV.v (.int _ (-1))=DV.v (.int _ _);rw[IW ((EZ hl (by omega) h2).1 (by omega))])
    .
     exact at_ k ⟨⟨by omega,(EZ (i:=k) hl (by omega) h2).2.2 (by omega)⟩,(by omega)⟩
  .
   exact rz rfl (by show DV.v (.int _ 0)=DV.v (.int _ _);rw[UT];obtain rfl:k=0:=(by omega);rw[iQ,iQ] at h2;rw[<-cd a,h2,cd])
def SK{A B W:List Nat}{i c:Nat}(hi:i<W.length)(h:dv (W.take i)+4294967296^i*c=dv (A.take i)+dv (B.take i)):
  dv ((W.set i ((A.getD i 0+B.getD i 0+c)%4294967296)).take (i+1))+4294967296^(i+1)*((A.getD i 0+B.getD i 0+c)/4294967296)=dv (A.take (i+1))+dv (B.take (i+1)):=by
 rw[qf hi,jg A,jg B,fV,show A.getD i 0+B.getD i 0+c=c+A.getD i 0+B.getD i 0 by omega];exact MO h
def Uu{a b n:Nat}{W:List Nat}{c:Nat}(hn:n=max (dg a).length (dg b).length)(hl:W.length=n+1)(h:dv (W.take n)+4294967296^n*c=dv ((dg a).take n)+dv ((dg b).take n)):dv (W.set n c)=a+b:=by
 have e:=qf (ws:=W) (k:=n) (d:=c) (by omega);rw[pe (by rw[bQ];omega)] at e;rw[e,h,pe (by omega),pe (by omega),cd,cd]
def aHQ{a b ia ib:Nat}[ha:BN a ia][hb:BN b ib](hi:ia<=1000000000:=by decide)(hj:ib<=1000000000:=by decide):PF GB prog 108 [dN a,dN b] (dN (a+b)):=by
 have hla:=fi (dg a);have hlb:=fi (dg b);have hba:=vm ha.h hi;have hbb:=vm hb.h hj;refine fn (fu:=⟨12⟩) func108 J J ntmps108 J J (fun C=>?_);obtain⟨n,hn⟩: ∃n,n=max (dg a).length (dg b).length:=⟨_,rfl⟩;refine aj 15 (.d (vI (n:Nat))) J (by show FX.d (.v (.int _ _))= .d (.v (.int _ _));congr 3;split<;>omega) ?_;refine gx J<|mk ((List.replicate (n+1) 0).map dU) J J (by rw[<-vD];rfl) J<|?_;refine lp (X:=List Nat×Nat×Nat) (fun⟨W,c,i⟩=>[(0, .d (dN a)),(1, .d (dN b)),(5, .d (vI (n:Nat))),(6, .rw 18),(7, .d (.v (.int .u32 (c:Nat)))),(8, .d (vI (i:Nat)))]) (fun⟨W,c,i⟩=>[(18,some (.b 215 1 (W.map dU) true))]) (fun⟨W,c,i⟩=>W.length=n+1/\bp W/\c<=1/\i<=n/\dv (W.take i)+4294967296^i*c=dv ((dg a).take i)+dv ((dg b).take i)) (fun⟨W,c,i⟩=>n-i) ⟨List.replicate (n+1) 0,0,0⟩ J ⟨by simp, .replicate _,by omega,by omega,by simp[dv]⟩ (fun _=>J) (fun⟨W,c,i⟩ hk=>?_);dsimp only at hk⊢;obtain⟨h1,h2,h3,h4,h5⟩:=hk;have hlw:=fi W;have hda:=ig a i;have hdb:=ig b i;refine br (fu1:=⟨11⟩) J J J (fun hc21=>?_) (fun hc21=>?_)
 .
  refine mg (fu:=⟨1⟩) (X:=Unit) (fun _=>[(0, .d (dN a)),(1, .d (dN b)),(5, .d (vI (n:Nat))),(6, .rw 18),(7, .d (.v (.int .u32 (c:Nat)))),(8, .d (vI (i:Nat))),(9, .d (dU ((dg a).getD i 0))),(10, .d (.v (.int .u32 0)))]) (fun _=>[(18,some (.b 215 1 (W.map dU) true))]) (fun _=>True) [0,1,5,6,7,8,9,10] [18] rfl ?_ (fun _=>J) (fun _ hm=>?_)
  .
   refine gx J<|?_;refine br J J J (fun hc27=>?_) (fun hc27=>?_)
   .
    refine ix _ J (mH (by omega)) J<|?_;exact at_ () trivial
   .
    refine aj 9 (.d (dU ((dg a).getD i 0))) J (by rw[vk (by omega)];rfl) ?_;exact at_ () trivial
  .
   refine mg (X:=Unit) (fun _=>[(0, .d (dN a)),(1, .d (dN b)),(5, .d (vI (n:Nat))),(6, .rw 18),(7, .d (.v (.int .u32 (c:Nat)))),(8, .d (vI (i:Nat))),(9, .d (dU ((dg a).getD i 0))),(10, .d (dU ((dg b).getD i 0)))]) (fun _=>[(18,some (.b 215 1 (W.map dU) true))]) (fun _=>True) [0,1,5,6,7,8,9,10] [18] rfl ?_ (fun _=>J) (fun _ hm=>?_)
   .
    refine gx J<|?_;refine br J J J (fun hc35=>?_) (fun hc35=>?_)
    .
     refine ix _ J (mH (by omega)) J<|?_;exact at_ () trivial
    .
     refine aj 10 (.d (dU ((dg b).getD i 0))) J (by rw[vk (by omega)];rfl) ?_;exact at_ () trivial
   .
    refine cl J (SU (by omega) (by omega) (by omega)) J<|sb _ ((W.set i (((dg a).getD i 0+(dg b).getD i 0+c)%4294967296)).map dU) J (mH (by omega)) J (by rw[<-uP];rfl) J<|?_;exact at_ ⟨W.set i (((dg a).getD i 0+(dg b).getD i 0+c)%4294967296),((dg a).getD i 0+(dg b).getD i 0+c)/4294967296,i+1⟩ (by dsimp only;exact⟨⟨by simpa using h1,h2.set _ (by omega),by omega,by omega,SK (by omega) h5⟩,(by omega)⟩)
 .
  obtain rfl:i=n:=by omega
  refine sb _ ((W.set i c).map dU) J (mH (by omega)) J (by rw[<-uP];rfl) J<|fz 18 J J<|cl J (sA (ds:=W.set i c) (by simp;omega)) J<|?_;exact rz J (sG (h2.set _ (by omega)) (Uu hn h1 h5))
def UQ{A B W:List Nat}{i c d c2:Nat}(hA:bp A)(hB:bp B)(hi:i<W.length)(hc:c<=1)(h:dv (W.take i)+dv (B.take i)=dv (A.take i)+4294967296^i*c)
  (hd:d=if A.getD i 0<B.getD i 0+c then A.getD i 0+4294967296-(B.getD i 0+c) else A.getD i 0-(B.getD i 0+c))(hc2:c2=if A.getD i 0<B.getD i 0+c then 1 else 0):
  dv ((W.set i d).take (i+1))+dv (B.take (i+1))=dv (A.take (i+1))+4294967296^(i+1)*c2:=by
 have h1:=hA.get i;have h2:=hB.get i;rw[qf hi,jg A,jg B,fV];split at hd
 ·rename_i q
  rw[if_pos q] at hc2;subst hc2 hd;rw[jY (B.getD i 0) c];exact Qc h (by omega) (by omega)
 ·rename_i q
  rw[if_neg q] at hc2;subst hc2 hd;rw[jY (B.getD i 0) c];exact QT h (by omega)
def Yh{a b c:Nat}{W:List Nat}(hw:bp W)(hl:W.length=(dg a).length)(hb:b<=a)(h:dv (W.take (dg a).length)+dv ((dg b).take (dg a).length)=dv ((dg a).take (dg a).length)+4294967296^(dg a).length*c):dv W=a-b:=by
 have hlb:(dg b).length<=(dg a).length:=by
  rcases iR (dg a).length (dg b).length with q|q
  ·have:=tE (kI a) (eo b).2.2 q
   rw[cd,cd] at this;omega
  ·exact q
 rw[pe (by omega),pe hlb,pe (aN _),cd,cd] at h;have h2:=jx hw;rw[hl] at h2;rcases fR c with q|q
 ·subst q;omega
 ·have:4294967296^(dg a).length*1<=4294967296^(dg a).length*c:=dS _ q
  omega
def Hv{a b ia:Nat}[ha:BN a ia](hb:b<=a)(hi:ia<=1000000000:=by decide):PF GB prog 110 [dN a,dN b] (dN (a-b)):=by
 have hla:=fi (dg a);have hlb:=fi (dg b);have hba:=vm ha.h hi;refine fn (fu:=⟨9⟩) func110 J J ntmps110 J J (fun C=>?_);refine aj 10 (.d (vI ((dg a).length:Nat))) J (by rw[hla];rfl) ?_;refine gx J<|mk (fu:=⟨13⟩) ((List.replicate (dg a).length 0).map dU) J J (by rw[<-vD];rfl) J<|?_;refine aj 13 (.d (vI ((dg a).length:Nat))) J (by rw[hla];rfl) ?_;refine gx J<|?_;refine lp (X:=List Nat×Nat×Nat) (fun⟨W,c,i⟩=>[(0, .d (dN a)),(1, .d (dN b)),(5, .rw 11),(6, .d (.v (.int .u32 (c:Nat)))),(13, .d (vI ((dg a).length:Nat))),(14, .d (vI (i:Nat)))]) (fun⟨W,c,i⟩=>[(11,some (.b 215 1 (W.map dU) true))]) (fun⟨W,c,i⟩=>W.length=(dg a).length/\bp W/\c<=1/\i<=(dg a).length/\dv (W.take i)+dv ((dg b).take i)=dv ((dg a).take i)+4294967296^i*c) (fun⟨W,c,i⟩=>(dg a).length-i) ⟨List.replicate (dg a).length 0,0,0⟩ J ⟨by simp, .replicate _,by omega,by omega,by simp[dv]⟩ (fun _=>J) (fun⟨W,c,i⟩ hk=>?_);dsimp only at hk⊢;obtain⟨h1,h2,h3,h4,h5⟩:=hk;have hlw:=fi W;have hda:=ig a i;have hdb:=ig b i;refine br (fu1:=⟨16⟩) J J J (fun hc15=>?_) (fun hc15=>?_)
 .
  refine mg (X:=Unit) (fun _=>[(0, .d (dN a)),(1, .d (dN b)),(5, .rw 11),(6, .d (.v (.int .u32 (c:Nat)))),(13, .d (vI ((dg a).length:Nat))),(14, .d (vI (i:Nat))),(7, .d (vI (i:Nat))),(8, .d (dU ((dg b).getD i 0)))]) (fun _=>[(11,some (.b 215 1 (W.map dU) true))]) (fun _=>True) [0,1,5,6,13,14,7,8] [11] rfl ?_ (fun _=>J) (fun _ hm=>?_)
  .
   refine gx J<|?_;refine br J J J (fun hc20=>?_) (fun hc20=>?_)
   .
    refine ix _ J (mH (by omega)) J<|?_;exact at_ () trivial
   .
    refine aj 8 (.d (dU ((dg b).getD i 0))) J (by rw[vk (by omega)];rfl) ?_;exact at_ () trivial
  .
   refine ix _ J (mH (by omega)) J<|cl J (So (by omega) (by omega) (by omega)) J<|sb _ ((W.set i (if(dg a).getD i 0<(dg b).getD i 0+c then(dg a).getD i 0+4294967296-((dg b).getD i 0+c) else(dg a).getD i 0-((dg b).getD i 0+c))).map dU) J (mH (by omega)) J (by rw[<-uP];rfl) J<|?_;exact at_ ⟨W.set i (if(dg a).getD i 0<(dg b).getD i 0+c then(dg a).getD i 0+4294967296-((dg b).getD i 0+c) else(dg a).getD i 0-((dg b).getD i 0+c)),(if(dg a).getD i 0<(dg b).getD i 0+c then 1 else 0),i+1⟩ (by dsimp only;exact⟨⟨by simpa using h1,h2.set _ (by split<;>omega),by split<;>omega,by omega,UQ (kI a) (kI b) (by omega) h3 h5 J J⟩,(by omega)⟩)
 .
  obtain rfl:i=(dg a).length:=by omega
  refine fz 11 J J<|cl J (sA (ds:=W) (by omega)) J<|?_;exact rz J (sG h2 (Yh h2 h1 hb h5))
def yu(n:Nat)(a b k:Nat)(ha:a<2^k)(h:a+b*2^k<2^n):(BitVec.ofInt n (a:Int) ||| BitVec.ofInt n ((b*2^k:Nat):Int)).toNat=a+b*2^k:=by
 rw[BitVec.toNat_or,BitVec.ofInt_natCast,BitVec.ofInt_natCast,BitVec.toNat_ofNat,BitVec.toNat_ofNat,fW (by omega),fW (by omega)];rw[<-lT,Nat.or_comm,<-lN ha,lT];omega
def Jf{x y:Nat}(hx:x<4294967296)(hy:y<4294967296):x*y<=18446744065119617025:=by
 have:=gW (by omega:x<=4294967295) (by omega:y<=4294967295);exact this
def KI(x y:Nat):(0:Int)<=(x:Int)*(y:Int):=by rw[<-jX];omega
def MA{x y:Nat}(hx:x<4294967296)(hy:y<4294967296):(x:Int)*(y:Int)<=18446744073709551615:=by
 have:=Jf hx hy;rw[<-jX];omega
def aGc{ds:List Nat}(h:ds.length=1):dv ds=ds.getD 0 0:=by
 match ds,h with
 |[d],_=>simp[dv]
def ya{a:Nat}(h:(dg a).length=1):(dg a).getD 0 0=a:=by rw[<-aGc h,cd]
def Wt{ds:List Nat}{j m:Nat}(h:j<m):(ds.take m).getD j 0=ds.getD j 0:=by
 rw[aX,aX,oT,if_pos h]
def OE{W:List Nat}{j m d:Nat}(hj:j<m)(hm:m<=W.length):dv ((W.set j d).take m)+4294967296^j*W.getD j 0=dv (W.take m)+4294967296^j*d:=by
 rw[List.take_set,<-Wt (ds:=W) hj];exact qA _ _ _ (by rw[cR];omega)
def ZN{W:List Nat}{P X Y m i k c y t S:Nat}(hk:i+k<m)(hm:m<=W.length)(h:dv (W.take m)+4294967296^(i+k)*c=P+X*(4294967296^i*S))(ht:t=Y+W.getD (i+k) 0+c)(hY:Y=X*y):
  dv ((W.set (i+k) (t%4294967296)).take m)+4294967296^(i+(k+1))*(t/4294967296)=P+X*(4294967296^i*(S+4294967296^k*y)):=by
 have h1:=OE (W:=W) (d:=t%4294967296) hk hm;rw[ht,show Y+W.getD (i+k) 0+c=c+Y+W.getD (i+k) 0 by omega] at h1⊢;have h2:=KK h1 h;rw[<-jN,fV,h2,hY,eJ];simp only[dK,cX,lX,cZ,jN]
def ax4{a b:Nat}{W:List Nat}{i c lb:Nat}(hlb:lb=(dg b).length)(hl:i+lb<W.length)(h:dv (W.take (i+lb))+4294967296^(i+lb)*c=dv ((dg a).take i)*b+(dg a).getD i 0*(4294967296^i*dv ((dg b).take lb))):
  dv ((W.set (i+lb) c).take (i+1+lb))=dv ((dg a).take (i+1))*b:=by
 rw[show i+1+lb=i+lb+1 by omega,qf hl,h,jg,pe (ds:=dg b) (by omega),cd b,cS];simp only[cX,lX,cZ]
def Pq(n j:Nat):(List.replicate n 0).getD j 0=0:=by
 rw[aX,List.getElem?_replicate];split<;>rfl
def zB{k:Nat}(h:k<=1000000000):IntKind.i64.wrap ((k:Int).tdiv 32)=((k/32:Nat):Int):=by
 rw[show(k:Int).tdiv 32=((k/32:Nat):Int) from J,Gk];omega
def Pa(k:Nat):(k:Int).tmod 32=((k%32:Nat):Int):=rfl
def sC{a b ia ib:Nat}[ha:BN a ia][hb:BN b ib](hi:ia<=1000000000:=by decide)(hj:ib<=1000000000:=by decide):PF GB prog 51 [dN a,dN b] (dN (a*b)):=by
 have hla:=fi (dg a);have hlb:=fi (dg b);have hba:=vm ha.h hi;have hbb:=vm hb.h hj;refine fn (fu:=⟨6⟩) func51 J J ntmps51 J J (fun C=>?_);refine mg (fu:=⟨4⟩) (X:=Unit) (fun _=>[(0, .d (dN a)),(1, .d (dN b))]) (fun _=>[]) (fun _=>True) [0,1] [] rfl ?_ (fun _=>J) (fun _ hm=>?_)
 .
  refine gx J<|?_;refine cs 15 J J J (fun hg15=>?_) (fun hg15=>?_)
  .
   refine br J J J (fun hc19=>?_) (fun hc19=>?_)
   .
    have hd0:=ig a 0;have hd1:=ig b 0;refine ix _ J (gz (k:=0) J (by omega)) J<|ix (hv:=by simp only[ac];exact⟨by omega,⟨(KI _ _),(MA (ig _ _) (ig _ _))⟩⟩) _ J (gz (k:=0) J (by omega)) J<|cl J (t6 (u:=(dg a).getD 0 0*(dg b).getD 0 0) (by have:=Jf (ig a 0) (ig b 0);omega)) J<|?_;exact rz J (by rw[ya (by omega),ya (by omega)];rfl)
   .
    exact at_ () trivial
  .
   exact at_ () trivial
 .
  refine aj 31 (.d (vI ((dg a).length:Nat))) J (by rw[hla];rfl) ?_;refine gx (fu:=⟨2⟩) J<|?_;refine aj 33 (.d (vI ((dg b).length:Nat))) J (by rw[hlb];rfl) ?_;refine gx J<|mk (fu:=⟨8⟩) ((List.replicate ((dg a).length+(dg b).length) 0).map dU) J J (by rw[<-vD];rfl) J<|?_;refine aj 37 (.d (vI ((dg a).length:Nat))) J (by rw[hla];rfl) ?_;refine gx J<|?_;refine lp (X:=List Nat×Nat) (fun⟨W,i⟩=>[(0, .d (dN a)),(1, .d (dN b)),(5, .rw 35),(36, .d (dN a)),(37, .d (vI ((dg a).length:Nat))),(38, .d (vI (i:Nat)))]) (fun⟨W,i⟩=>[(35,some (.b 215 1 (W.map dU) true))]) (fun⟨W,i⟩=>W.length=(dg a).length+(dg b).length/\bp W/\i<=(dg a).length/\dv (W.take (i+(dg b).length))=dv ((dg a).take i)*b) (fun⟨W,i⟩=>(dg a).length-i) ⟨List.replicate ((dg a).length+(dg b).length) 0,0⟩ J ⟨by simp, .replicate _,by omega,by rw[List.take_replicate,xD];simp[dv]⟩ (fun _=>J) (fun⟨W,i⟩ hk=>?_);dsimp only at hk⊢;obtain⟨h1,h2,h3,h4⟩:=hk;refine br J J J (fun hc39=>?_) (fun hc39=>?_)
  .
   refine ix (fu:=⟨15⟩) _ J (mH (by omega)) J<|?_;refine aj 44 (.d (vI ((dg b).length:Nat))) J (by rw[hlb];rfl) ?_;refine gx J<|?_;refine lp (X:=List Nat×Nat×Nat) (fun⟨W2,c,k⟩=>[(0, .d (dN a)),(1, .d (dN b)),(5, .rw 35),(6, .d (vI (i:Nat))),(7, .d (dU ((dg a).getD i 0))),(8, .d (.v (.int .u64 (c:Nat)))),(36, .d (dN a)),(37, .d (vI ((dg a).length:Nat))),(38, .d (vI (i:Nat))),(43, .d (dN b)),(44, .d (vI ((dg b).length:Nat))),(45, .d (vI (k:Nat)))]) (fun⟨W2,c,k⟩=>[(35,some (.b 215 1 (W2.map dU) true))]) (fun⟨W2,c,k⟩=>W2.length=(dg a).length+(dg b).length/\bp W2/\c<4294967296/\k<=(dg b).length/\dv (W2.take (i+(dg b).length))+4294967296^(i+k)*c=dv ((dg a).take i)*b+(dg a).getD i 0*(4294967296^i*dv ((dg b).take k))) (fun⟨W2,c,k⟩=>(dg b).length-k) ⟨W,0,0⟩ J ⟨h1,h2,by omega,by omega,by rw[h4];simp[dv]⟩ (fun _=>J) (fun⟨W2,c,k⟩ hk=>?_);dsimp only at hk⊢;obtain⟨g1,g2,g3,g4,g5⟩:=hk;have hlw:=fi W2;have hw:=g2.get (i+k);have hda:=ig a i;have hdb:=ig b k;refine br (fu2:=⟨10⟩) J J J (fun hc46=>?_) (fun hc46=>?_)
   .
    refine ix (fu:=⟨12⟩) (hv:=by simp only[ac];exact⟨⟨by omega,by omega⟩,⟨(KI _ _),(MA (ig _ _) (ig _ _))⟩⟩) _ J (mH (by omega)) J<|?_;obtain⟨p,hp⟩: ∃p,p=(dg a).getD i 0*(dg b).getD k 0:=⟨_,rfl⟩;have hp1:p<=18446744065119617025:=hp▸Jf hda hdb;refine aj 54 (.d (.v (.int .u64 (p:Nat)))) J (by rw[hp,jX]) ?_;refine gx J<|lb (fu:=⟨4⟩) _ J (gz (k:=i+k) (by omega) (by omega)) J<|?_;obtain⟨t,ht⟩: ∃t,t=p+W2.getD (i+k) 0+c:=⟨_,rfl⟩;refine aj 64 (.d (.v (.int .u64 (t:Nat)))) J (by congr 3;omega) ?_;refine gx (fu:=⟨11⟩) J<|?_;refine aj 70 (.d (dU (t%4294967296))) J (by show FX.d (.v (.int _ _))= .d (.v (.int _ _));congr 3) ?_;refine gx J<|sb (fu:=⟨5⟩) (hv:=by simp only[ac];exact(by decide)) _ ((W2.set (i+k) (t%4294967296)).map dU) J (gz (k:=i+k) (by omega) (by omega)) J (by(rw[show((i:Int)+k).toNat=i+k by omega,<-uP])<;>rfl) J<|?_;refine aj 73 (.d (.v (.int .u64 (t/4294967296:Nat)))) J (by rw[Ia]) ?_;refine gx J<|?_;exact at_ ⟨W2.set (i+k) (t%4294967296),t/4294967296,k+1⟩ (by dsimp only;exact⟨⟨by simpa using g1,g2.set _ (by omega),by omega,by omega,by rw[jg];exact ZN (by omega) (by omega) g5 ht hp⟩,(by omega)⟩)
   .
    obtain rfl:k=(dg b).length:=by omega
    refine aj 78 (.d (vI ((dg b).length:Nat))) J (by rw[hlb];rfl) ?_;refine gx (fu:=⟨3⟩) J<|?_;refine aj 81 (.d (dU c)) J (by show FX.d (.v (.int _ _))= .d (.v (.int _ _));congr 3;omega) ?_;refine gx J<|sb _ ((W2.set (i+(dg b).length) c).map dU) J (gz (k:=i+(dg b).length) (by omega) (by omega)) J (by(rw[show((i:Int)+((dg b).length:Nat)).toNat=i+(dg b).length by omega,<-uP])<;>rfl) J<|?_;exact at_ ⟨W2.set (i+(dg b).length) c,i+1⟩ (by dsimp only;exact⟨⟨by simpa using g1,g2.set _ g3,by omega,ax4 J (by omega) g5⟩,(by omega)⟩)
  .
   obtain rfl:i=(dg a).length:=by omega
   refine fz 35 J J<|cl J (sA (ds:=W) (by omega)) J<|?_;exact rz J (sG h2 (by have:=h4;rw[pe (by omega),pe (by omega),cd] at this;exact this))
def QL(x s:Nat):x*2^s=x*2^s%4294967296+4294967296*(x*2^s/4294967296):=by omega
def aDv{x s:Nat}(hx:x<4294967296)(hs:s<32):x*2^s/4294967296<2^s:=by
 rw[kV (by decide),cZ (2^s)];exact mN hx (aN _) (fZ (by decide))
def H0{s:Nat}(hs:s<32):2^s*2^(32-s)=4294967296:=by rw[<-eJ,show s+(32-s)=32 by omega]
def Vq(x s:Nat)(hs:s<32):x*2^s%4294967296=x%2^(32-s)*2^s:=by
 rw[<-H0 hs,cZ (2^s),rM]
def Sf{x s:Nat}(hx:x<4294967296)(hs:s<32):x*2^s<18446744073709551616:=by
 have h1:2^s<=2^31:=bY (by decide) (by omega);have:=mN hx h1 (by decide);omega
def UI{w x s:Nat}(hw:w<2^s)(hs:s<32):(BitVec.ofInt 32 (w:Int) ||| BitVec.ofInt 32 ((x*2^s%4294967296:Nat):Int)).toNat=w+x*2^s%4294967296:=by
 rw[Vq x s hs];refine yu 32 _ _ _ hw ?_;have h1:x%2^(32-s)+1<=2^(32-s):=dQ _ (fZ (by decide));have h2:=bK (2^s) h1;rw[cZ (2^(32-s)),H0 hs,cS,lM] at h2;show _<4294967296;omega
def Wh{h:Nat}(hh:h<4294967296):(BitVec.ofInt 32 ((0:Nat):Int) ||| BitVec.ofInt 32 (h:Int)).toNat=h:=by
 have:=yu 32 0 h 0 (by decide) (by simpa using hh);simpa using this
def GZ(k:Nat):2^k=4294967296^(k/32)*2^(k%32):=by
 rw[show(4294967296:Nat)=2^32 from J,<-pT,<-eJ,qL]
def getD_set_ne{W:List Nat}{i j d:Nat}(h:i≠j):(W.set i d).getD j 0=W.getD j 0:=by
 rw[aX,aX,List.getElem?_set_ne h]
def KC{W:List Nat}{i d:Nat}(h:i<W.length):(W.set i d).getD i 0=d:=by
 rw[aX,oR h];rfl
def WY{A W:List Nat}{k q s i x:Nat}(hq:q=k/32)(hs:s=k%32)(hl:q+i+1<W.length)(hx:x=A.getD i 0)
  (h:dv (W.take (q+i+1))=dv (A.take i)*2^k):
  dv (((W.set (q+i) (W.getD (q+i) 0+x*2^s%4294967296)).set (q+i+1) (x*2^s/4294967296)).take (q+(i+1)+1))=dv (A.take (i+1))*2^k:=by
 have e1:=OE (W:=W) (j:=q+i) (m:=q+i+1) (d:=W.getD (q+i) 0+x*2^s%4294967296) (by omega) (by omega);rw[show q+(i+1)+1=q+i+1+1 by omega,qf (by rw[bQ];omega),jg A,<-hx];have e2:dv ((W.set (q+i) (W.getD (q+i) 0+x*2^s%4294967296)).take (q+i+1))=dv (A.take i)*2^k+4294967296^(q+i)*(x*2^s%4294967296):=by
  rw[dK,h] at e1;omega
 rw[e2,fV,cX,jN,<-dK,<-QL,cS,GZ k,<-hq,<-hs,eJ];simp only[cX,lX,cZ]
def Eh{a k ia:Nat}[ha:BN a ia](hk:k<=1000000000)(hi:ia<=1000000000:=by decide):PF GB prog 232 [dN a,vI (k:Nat)] (dN (a*2^k)):=by
 have hla:=fi (dg a);have hba:=vm ha.h hi;refine fn (fu:=⟨9⟩) func232 J J ntmps232 J J (fun C=>?_);refine aj 11 (.d (vI (k/32:Nat))) J (by show FX.d (.v (.int _ _))= .d (.v (.int _ _));rw[zB hk]) ?_;refine gx (fu:=⟨2⟩) J<|?_;refine aj 13 (.d (vI ((dg a).length:Nat))) J (by rw[hla];rfl) ?_;refine gx (fu:=⟨2⟩) J<|?_;refine aj 15 (.d (vI (k/32+(dg a).length+1:Nat))) J (by show FX.d (.v (.int _ _))= .d (.v (.int _ _));congr 3) ?_;refine gx J<|mk (fu:=⟨7⟩) (hv:=by simp only[ac];exact(by decide)) ((List.replicate (k/32+(dg a).length+1) 0).map dU) J J (by rw[<-vD];rfl) J<|?_;refine aj 18 (.d (vI (k%32:Nat))) J (by show FX.d (.v (.int _ _))= .d (.v (.int _ _));rw[Pa]) ?_;refine gx (fu:=⟨9⟩) J<|?_;refine aj 21 (.d (vI ((dg a).length:Nat))) J (by rw[hla];rfl) ?_;refine gx J<|?_;refine lp (X:=List Nat×Nat) (fun⟨W,i⟩=>[(0, .d (dN a)),(1, .d (vI (k:Nat))),(5, .rw 16),(6, .d (.v (.int .u64 (k%32:Nat)))),(20, .d (dN a)),(21, .d (vI ((dg a).length:Nat))),(22, .d (vI (i:Nat)))]) (fun⟨W,i⟩=>[(16,some (.b 215 1 (W.map dU) true))]) (fun⟨W,i⟩=>W.length=k/32+(dg a).length+1/\bp W/\i<=(dg a).length/\dv (W.take (k/32+i+1))=dv ((dg a).take i)*2^k/\W.getD (k/32+i) 0<2^(k%32)/\ ∀j,k/32+i<j->W.getD j 0=0) (fun⟨W,i⟩=>(dg a).length-i) ⟨List.replicate (k/32+(dg a).length+1) 0,0⟩ J ⟨by simp, .replicate _,by omega,by rw[List.take_replicate,xD];simp[dv],by rw[Pq];exact fZ (by decide),fun j _=>Pq _ _⟩ (fun _=>J) (fun⟨W,i⟩ hk=>?_);dsimp only at hk⊢;obtain⟨h1,h2,h3,h4,h5,h6⟩:=hk;have hlw:=fi W;have hda:=ig a i;have hsk:k%32<32:=dQ _ (by decide)
 have hpp:2^(k%32)<=2^31:=bY (by decide) (by omega);refine br J J J (fun hc23=>?_) (fun hc23=>?_)
 .
  refine ix (fu:=⟨11⟩) (hv:=by simp only[ac];exact⟨by omega,(by omega)⟩) _ J (mH (by omega)) J<|?_;have hhi:=aDv hda hsk;have hfit0:=Sf hda hsk;have hor:=UI (x:=(dg a).getD i 0) h5 hsk;have hfit:W.getD (k/32+i) 0+(dg a).getD i 0*2^(k%32)%4294967296<4294967296:=by rw[<-hor];exact BitVec.isLt _
  have hlp:=QL ((dg a).getD i 0) (k%32);refine aj 30 (.d (.v (.int .u64 ((dg a).getD i 0*2^(k%32):Nat)))) J (by show FX.d (.v (.int _ _))= .d (.v (.int _ _));rw[sj _ (k%32) (by omega) hfit0 (by omega)]) ?_;obtain⟨t,ht⟩: ∃t,t=(dg a).getD i 0*2^(k%32):=⟨_,rfl⟩;simp only[<-ht] at hhi hfit0 hor hfit hlp;rw[<-ht];refine gx (fu:=⟨8⟩) J<|?_;refine aj 33 (.d (vI (k/32:Nat))) J (by show FX.d (.v (.int _ _))= .d (.v (.int _ _));rw[zB hk]) ?_;refine gx J<|lb (fu:=⟨2⟩) _ J (gz (k:=k/32+i) (by omega) (by omega)) J<|?_;refine aj 39 (.d (dU (t%4294967296))) J (by show FX.d (.v (.int _ _))= .d (.v (.int _ _));congr 3) ?_;refine gx (fu:=⟨1⟩) J<|?_;refine aj 40 _ J (congrArg (fun z:Nat=>FX.d (.v (.int .u32 (z:Int)))) hor) ?_;refine gx J<|sb (fu:=⟨6⟩) _ ((W.set (k/32+i) (W.getD (k/32+i) 0+t%4294967296)).map dU) J (gz (k:=k/32+i) (by omega) (by omega)) J (by(rw[show(((k/32:Nat):Int)+i).toNat=k/32+i by omega];simp only[kU];rfl)<;>rfl) J<|?_;refine aj 44 (.d (vI (k/32:Nat))) J (by show FX.d (.v (.int _ _))= .d (.v (.int _ _));rw[zB hk]) ?_;refine gx J<|lb (fu:=⟨0⟩) _ J (gz (k:=k/32+i+1) (by omega) (by rw[bQ];omega)) J<|?_;refine aj 49 (.d (dU 0)) J (by rw[getD_set_ne (by omega),h6 _ (by omega)]) ?_;refine gx (fu:=⟨2⟩) (hv:=by simp only[ac];exact(by decide)) J<|?_;refine aj 51 (.d (.v (.int .u64 (t/4294967296:Nat)))) J (by rw[Ia]) ?_;refine gx (fu:=⟨1⟩) J<|?_;refine aj 52 (.d (dU (t/4294967296))) J (by show FX.d (.v (.int _ _))= .d (.v (.int _ _));congr 3;omega) ?_;refine gx (fu:=⟨1⟩) J<|?_;refine aj 53 _ J (congrArg (fun z:Nat=>FX.d (.v (.int .u32 (z:Int)))) (Wh (by omega))) ?_
  refine gx J<|sb _ (((W.set (k/32+i) (W.getD (k/32+i) 0+t%4294967296)).set (k/32+i+1) (t/4294967296)).map dU) J (gz (k:=k/32+i+1) (by omega) (by rw[bQ];omega)) J (by(rw[show(((k/32:Nat):Int)+i+1).toNat=k/32+i+1 by omega];simp only[kU];rfl)<;>rfl) J<|?_;exact at_ ⟨(W.set (k/32+i) (W.getD (k/32+i) 0+t%4294967296)).set (k/32+i+1) (t/4294967296),i+1⟩ (by dsimp only;exact⟨⟨by simpa using h1,(h2.set _ hfit).set _ (by omega),by omega,by have q:=WY (x:=(dg a).getD i 0) J J (by omega) J h4;rw[<-ht] at q;exact q,by rw[show k/32+(i+1)=k/32+i+1 by omega,KC (by simp;omega)];exact hhi,fun j hj=>by rw[getD_set_ne (by omega),getD_set_ne (by omega)];exact h6 j (by omega)⟩,(by omega)⟩)
 .
  obtain rfl:i=(dg a).length:=by omega
  refine fz 16 J J<|cl J (sA (ds:=W) (by omega)) J<|?_;exact rz J (sG h2 (by have:=h4;rw[pe (by omega),pe (by omega),cd] at this;exact this))
def Xn{a k:Nat}(h:(dg a).length<=k/32):a/2^k=0:=by
 refine kZ ?_;have h1:=jx (kI a);rw[cd] at h1;have h2:4294967296^(dg a).length<=4294967296^(k/32):=bY (by decide) h;have h3:4294967296^(k/32)*1<=4294967296^(k/32)*2^(k%32):=dS _ (fZ (by decide));rw[GZ k];omega
def HW{ds:List Nat}(h:bp ds)(q:Nat):dv (ds.drop q)=dv ds/4294967296^q:=by
 rcases iR ds.length q with hq|hq
 ·rw[kQ (by omega)]
  have h1:=jx h;have h2:4294967296^ds.length<=4294967296^q:=bY (by decide) (by omega);rw[kZ (by omega)];rfl
 ·have e:=Cl ds q hq
  have h1:=jx (h.take q);rw[cR,iY hq] at h1;rw[e,mQ _ _ (fZ (by decide)),kZ h1,dT]
def GJ{ds:List Nat}(h:bp ds)(i:Nat):dv ds/4294967296^i=ds.getD i 0+4294967296*ds.getD (i+1) 0+18446744073709551616*(dv ds/4294967296^(i+2)):=by
 have e0:=HW h i;have e2:=HW h (i+2);rw[<-e0,<-e2];have g0:ds.getD i 0=(ds.drop i).getD 0 0:=by rw[aX,aX,mL];rfl
 have g1:ds.getD (i+1) 0=(ds.drop i).getD 1 0:=by rw[aX,aX,mL]
 have g2:ds.drop (i+2)=(ds.drop i).drop 2:=by rw[List.drop_drop]
 rw[g0,g1,g2]
 match ds.drop i with
 |[]=>rfl
 |[u]=>simp[dv]
 |u::v::t=>simp only[dv,tZ,lV,tQ,iQ];omega
def TO{D s i u v w Z:Nat}(hs:s<32)(hZ:D/4294967296^i=u+4294967296*v+18446744073709551616*Z)(hw:w=(u+v*4294967296)/2^s%4294967296):(D/2^s)%4294967296^(i+1)=(D/2^s)%4294967296^i+4294967296^i*w:=by
 rw[fV,Nat.mod_mul];congr 2;rw[mY,cZ (2^s),<-mY,hZ,hw];have h1:18446744073709551616=2^s*(2^(32-s)*4294967296):=by rw[<-cX,H0 hs]
 rw[h1,cX (2^s),mQ _ _ (fZ (by decide)),cZ v];rw[cZ (2^(32-s)),cX,nJ]
def YU{a k:Nat}{W:List Nat}{q s:Nat}(hq:q=k/32)(hs:s=k%32)(hl:W.length=(dg a).length-q)(h:dv (W.take ((dg a).length-q))=(dv ((dg a).drop q)/2^s)%4294967296^((dg a).length-q)):dv W=a/2^k:=by
 rw[pe (by omega)] at h;have h1:=jx ((kI a).drop q);rw[gM] at h1;have h2:=kR (dv ((dg a).drop q)) (2^s);rw[h,fW (by omega),HW (kI a),cd,GZ k,<-hq,<-hs,mY]
def XS{a k ia:Nat}[ha:BN a ia](hk:k<=1000000000)(hi:ia<=1000000000:=by decide):PF GB prog 233 [dN a,vI (k:Nat)] (dN (a/2^k)):=by
 have hla:=fi (dg a);have hba:=vm ha.h hi;refine fn (fu:=⟨10⟩) func233 J J ntmps233 J J (fun C=>?_);refine aj 12 (.d (vI (k/32:Nat))) J (by show FX.d (.v (.int _ _))= .d (.v (.int _ _));rw[zB hk]) ?_;refine gx (fu:=⟨2⟩) J<|?_;refine aj 14 (.d (vI ((dg a).length:Nat))) J (by rw[hla];rfl) ?_;refine gx J<|?_;refine br (fu2:=⟨6⟩) (v2:=fun _=>by simp only[ac];exact(by decide)) J J J (fun hc15=>?_) (fun hc15=>?_)
 .
  exact rz J (by rw[Xn (by omega),oE];rfl)
 .
  refine aj 17 (.d (vI (k%32:Nat))) J (by show FX.d (.v (.int _ _))= .d (.v (.int _ _));rw[Pa]) ?_;refine gx (fu:=⟨9⟩) J<|?_;refine aj 21 (.d (vI (k/32:Nat))) J (by show FX.d (.v (.int _ _))= .d (.v (.int _ _));rw[zB hk]) ?_;refine gx J<|mz (fu:=⟨0⟩) (k/32) (dg a).length _ J J (by rw[hla]) J (vh _) (by omega) (by omega) J<|?_;obtain⟨I,hI⟩: ∃I,I=(dg a).drop (k/32):=⟨_,rfl⟩;have hIl:I.length=(dg a).length-k/32:=by rw[hI,gM]
  have hIm:=fi I;have hIo:bp I:=hI▸(kI a).drop _;refine aj 22 (.d (fA I)) J (by show FX.d (.sl _)= .d (.sl _);rw[hI,<-hla,dZ,jQ]) ?_;refine gx (fu:=⟨7⟩) J<|?_;refine aj 24 (.d (vI (I.length:Nat))) J (by rw[hIm];rfl) ?_;refine gx J<|mk (fu:=⟨8⟩) ((List.replicate I.length 0).map dU) J J (by rw[<-vD];rfl) J<|?_;refine aj 27 (.d (vI (I.length:Nat))) J (by rw[hIm];rfl) ?_;refine gx J<|?_;refine lp (X:=List Nat×Nat) (fun⟨W,i⟩=>[(0, .d (dN a)),(5, .d (.v (.int .u64 (k%32:Nat)))),(6, .d (fA I)),(7, .rw 25),(26, .d (fA I)),(27, .d (vI (I.length:Nat))),(28, .d (vI (i:Nat)))]) (fun⟨W,i⟩=>[(25,some (.b 215 1 (W.map dU) true))]) (fun⟨W,i⟩=>W.length=I.length/\bp W/\i<=I.length/\dv (W.take i)=(dv I/2^(k%32))%4294967296^i) (fun⟨W,i⟩=>I.length-i) ⟨List.replicate I.length 0,0⟩ J ⟨by simp, .replicate _,by omega,by simp[dv,Nat.mod_one]⟩ (fun _=>J) (fun⟨W,i⟩ hk=>?_);dsimp only at hk⊢;obtain⟨h1,h2,h3,h4⟩:=hk;have hlw:=fi W;have hda:=hIo.get i;have hdb:=hIo.get (i+1);have hsk:k%32<32:=dQ _ (by decide);refine br J J J (fun hc29=>?_) (fun hc29=>?_)
  .
   refine ix (fu:=⟨13⟩) _ J (mH (by omega)) J<|?_;refine mg (fu:=⟨6⟩) (hv:=fun _ _=>by simp only[ac];exact(by omega)) (X:=Unit) (fun _=>[(0, .d (dN a)),(5, .d (.v (.int .u64 (k%32:Nat)))),(6, .d (fA I)),(7, .rw 25),(26, .d (fA I)),(27, .d (vI (I.length:Nat))),(28, .d (vI (i:Nat))),(8, .d (vI (i:Nat))),(10, .d (.v (.int .u64 (I.getD i 0+I.getD (i+1) 0*4294967296:Nat))))]) (fun _=>[(25,some (.b 215 1 (W.map dU) true))]) (fun _=>True) [0,5,6,7,26,27,28,8,10] [25] rfl ?_ (fun _=>J) (fun _ hm=>?_)
   .
    refine gx (fu:=⟨6⟩) J<|?_;refine aj 38 (.d (vI (I.length:Nat))) J (by rw[hIm];rfl) ?_;refine gx J<|?_;refine br J J J (fun hc39=>?_) (fun hc39=>?_)
    .
     refine ix (fu:=⟨3⟩) (hv:=by simp only[ac];exact⟨by omega,(by decide)⟩) _ J (gz (k:=i+1) (by omega) (by omega)) J<|?_;refine aj 47 (.d (.v (.int .u64 (I.getD (i+1) 0*4294967296:Nat)))) J (by show FX.d (.v (.int _ _))= .d (.v (.int _ _));rw[sj _ 32 (by decide) (by show _*4294967296<_;omega) J]) ?_;refine gx (fu:=⟨1⟩) J<|?_;refine aj 48 _ J (congrArg (fun z:Nat=>FX.d (.v (.int .u64 (z:Int)))) (yu 64 (I.getD i 0) (I.getD (i+1) 0) 32 hda (by show _+_*4294967296<18446744073709551616;omega))) ?_;refine gx J<|?_;exact at_ () trivial
    .
     refine aj 10 (.d (.v (.int .u64 (I.getD i 0+I.getD (i+1) 0*4294967296:Nat)))) J (by rw[vk (by omega:I.length<=i+1),kY,eY]) ?_;exact at_ () trivial
   .
    refine aj 53 (.d (.v (.int .u64 ((I.getD i 0+I.getD (i+1) 0*4294967296)/2^(k%32):Nat)))) J (by show FX.d (.v (.int _ _))= .d (.v (.int _ _));rw[s5 _ (k%32) (by omega) (by omega)]) ?_;refine gx (fu:=⟨1⟩) J<|?_;obtain⟨w,hw⟩: ∃w,w=(I.getD i 0+I.getD (i+1) 0*4294967296)/2^(k%32)%4294967296:=⟨_,rfl⟩;have hw1:w<4294967296:=hw▸dQ _ (by decide);refine aj 54 (.d (dU w)) J (by show FX.d (.v (.int _ _))= .d (.v (.int _ _));rw[hw];congr 3) ?_;refine gx J<|sb _ ((W.set i w).map dU) J (mH (by omega)) J (by(rw[<-uP];rfl)<;>rfl) J<|?_;exact at_ ⟨W.set i w,i+1⟩ (by dsimp only;exact⟨⟨by simpa using h1,h2.set _ (by omega),by omega,by rw[qf (by omega),h4];exact(TO hsk (GJ hIo i) hw).symm⟩,(by omega)⟩)
  .
   refine fz 25 J J<|cl J (sA (ds:=W) (by omega)) J<|?_;exact rz rfl (sG h2 (by obtain rfl:i=I.length:=(by omega);rw[hIl] at h1 h4;rw[hI] at h4;exact YU rfl rfl h1 h4))
def Ef{a k:Nat}(h:a<4294967296^k):(dg a).length<=k:=by
 rcases iR k (dg a).length with q|q
 ·have h1:=r4 (eo a).2.2 (by intro e;rw[e] at q;simp at q)
  rw[cd] at h1;have h2:4294967296^k<=4294967296^((dg a).length-1):=bY (by decide) (by omega);omega
 ·exact q
def Sw{a:Nat}(h:(dg a).length=2):(dg a).getD 0 0+(dg a).getD 1 0*4294967296=a:=by
 have e:=cd a;revert e
 match dg a,h with
 |[x,y],_=>intro e;simp[dv] at e⊢;omega
def zf(a:Nat):DV:= .tp [.v (.int .u64 ((if a<18446744073709551616 then a else 0:Nat):Int)),vB (decide (a<18446744073709551616))]
def Lb{a:Nat}(h:a<18446744073709551616):zf a= .tp [.v (.int .u64 (a:Int)),vB true]:=by unfold zf;rw[if_pos h,decide_eq_true h]
def axH{a:Nat}(h: ¬a<18446744073709551616):zf a= .tp [.v (.int .u64 0),vB false]:=by unfold zf;rw[if_neg h,decide_eq_false h];rfl
def vq(a:Nat):a<4294967296^(dg a).length:=by have:=jx (kI a);rwa [cd] at this
def Bg{a ia:Nat}[ha:BN a ia](hi:ia<=1000000000:=by decide):PF GB prog 172 [dN a] (zf a):=by
 have hla:=fi (dg a);have hba:=vm ha.h hi;have hlt:=vq a;have hd00:=ig a 0;refine fn (fu:=⟨11⟩) func172 J J ntmps172 J J (fun C=>?_);refine aj 5 (.d (vI ((dg a).length:Nat))) J (by rw[hla];rfl) ?_;refine gx J<|?_;refine br J J J (fun hc6=>?_) (fun hc6=>?_)
 .
  exact rz rfl (by rw[show(dg a).length=0 by omega] at hlt;obtain rfl:a=0:=(by omega);rfl)
 .
  refine br J J J (fun hc8=>?_) (fun hc8=>?_)
  .
   refine ix (fu:=⟨2⟩) _ J (gz (k:=0) J (by omega)) J<|?_;refine aj 13 (.d (.v (.int .u64 (a:Nat)))) J (by rw[ya (by omega)]) ?_;refine gx J<|?_;exact rz J (by rw[show(dg a).length=1 by omega] at hlt;rw[Lb (by omega),<-ya (a:=a) (by omega),ya (a:=a) (by omega)];rfl)
  .
   refine br J J J (fun hc14=>?_) (fun hc14=>?_)
   .
    have hd0:=ig a 0;have hd1:=ig a 1;refine ix (hv:=by simp only[ac];exact⟨by omega,(by decide)⟩) _ J (gz (k:=1) J (by omega)) J<|ix (fu:=⟨3⟩) _ J (gz (k:=0) J (by omega)) J<|?_;refine aj 25 (.d (.v (.int .u64 (a:Nat)))) J (congrArg (fun z:Nat=>FX.d (.v (.int .u64 (z:Int)))) (by rw[sj _ 32 (by decide) (by show _*4294967296<_;omega) J,BitVec.or_comm];exact(yu 64 ((dg a).getD 0 0) ((dg a).getD 1 0) 32 hd0 (by show _+_*4294967296<18446744073709551616;omega)).trans (Sw (by omega)))) ?_;refine gx J<|?_;exact rz J (by rw[show(dg a).length=2 by omega] at hlt;rw[Lb (by omega)];rfl)
   .
    exact rz rfl (by rw[axH];rfl;intro h;have:=Ef (a:=a) (k:=2) (by omega);omega)
end Go.Sx
end
