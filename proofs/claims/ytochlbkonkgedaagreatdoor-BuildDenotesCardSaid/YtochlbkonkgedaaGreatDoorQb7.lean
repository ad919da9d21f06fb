import Derived.Test.YtochlbkonkgedaaGreatDoorQb6
set_option linter.all false
set_option maxRecDepth 100000
section
namespace Go.Sx
open Go Go.Proofs Tryz
section
variable {GB:Gh} {C:aD} {n:Nat} {Q0:Exit->Act->World->Prop} {fr fr':aA} {own own':aI} {cf cf':Cf} {vc:List Prop} {ops:Array Oper} {o:Oper} {K:List Kt} {r:List Oper}
def ij:List (Option DV)->SV->List DV
 |[],_=>[]
 |some d::t,w=>d::ij t w
 |none::t,w=> .v (.slice w.a w.n w.c)::ij t w
def F'(lk:LK):List Operand->Option (Option Nat×List (Option DV))
 |[]=>some (none,[])
 |x::t=>match aO lk x,F' lk t with
  |some (.rw nm),some (none,l)=>some (some nm,none::l)
  |some f,some (q,l)=>match lh f with
   |some d=>some (q,some d::l)
   |none=>none
  |_,_=>none
def Ad(lk:LK)(fo:Operand)(args:Array Operand):Option (FuncId×Nat×List (Option DV)):=match aO lk fo with
 |some (.d (.v (.func (.func f) ⟨[]⟩ ⟨[]⟩)))=>match F' lk args.toList with
  |some (some nm,l)=>some (f,nm,l)
  |_=>none
 |_=>none
def GC{lk:LK}{bk:BM}{ρ:NE}{G:Gh}{ov:List ak}{a:Act}{w:World}(r:bG GB C n lk bk ρ G ov a w){z:SV}: ∀{x:List Operand} {q:Option Nat} {l:List (Option DV)},F' lk x=some (q,l)->(∀nm,q=some nm->ρ nm=z)->
  ∃y,fI (cG a) x=some y/\IsLs G (ij l z) y
 |[],q,l,e,_=>by cases e;exact⟨[],J, .nil⟩
 |x::t,q,l,e,hb=>by
  simp only[F'] at e;split at e
  ·rename_i nm l' h1 h2
   cases e
   obtain⟨y,h3,h4⟩:=r.ev h1
   cases (show y=_ from h4)
   obtain⟨ys,h5,h6⟩:=GC r (z:=z) h2 (fun nm e=>by cases e);have hz:=hb nm J;subst hz;exact⟨Value.slice (ρ nm).a (ρ nm).n (ρ nm).c::ys,by simp only[fI,h3,h5], .cons ((aH (G:=G)).2 J) h6⟩
  ·rename_i f q' l' _ h1 h2
   cases hd:lh f with
   |none=>rw[hd] at e;cases e
   |some d=>
   rw[hd] at e;cases e;obtain⟨y,h3,h4⟩:=r.ev h1;obtain⟨ys,h5,h6⟩:=GC r (z:=z) h2 hb;exact⟨y::ys,by simp only[fI,h3,h5], .cons (oy h4 hd) h6⟩
  ·cases e
structure UJ where
 f:FuncId
 nm:Nat
 l:List (Option DV)
 ty:TypeId
 s:Nat
 ds:List DV
 lo:Bool
 d:Nat
def TW(fr:aA)(own:aI)(cf:Cf):Option UJ:=match ce fr cf with
 |some ⟨some d, .call ⟨.value fo,args,_⟩,_,_,_,_⟩=>match Ad (bE fr cf) fo args with
  |some (f,nm,l)=>match gD fr own cf nm with
   |some (.b ty s ds lo)=>bif Nat.beq nm d then none else some ⟨f,nm,l,ty,s,ds,lo,d⟩
   |_=>none
  |none=>none
 |_=>none
def An:Nat->List (Option DV)->aA
 |_,[]=>[]
 |i,some v::t=>(i, .d v)::An (i+1) t
 |i,none::t=>(i, .rw NM)::An (i+1) t
def Lq(w:SV): ∀l:List (Option DV),(ij l w).length=l.length
 |[]=>rfl
 |some d::t=>by simp[ij,Lq w t]
 |none::t=>by simp[ij,Lq w t]
def Lk{w:SV}{ρ:NE}{G:Gh}(hρ:ρ NM=w): ∀{ds:List (Option DV)} {vs:List Value} (i:Nat),IsLs G (ij ds w) vs-> ∀k f,bg (An i ds) k=some f-> ∃y,(∃j,k=i+j/\vs[j]? =some y)/\cb ρ G f y
 |[],vs,i,h,k,f,e=>by cases e
 |some d::t,vs,i,h,k,f,e=>by
  obtain⟨y,m,rfl,h1,h2⟩:=aP.1 h;simp only[An] at e;rw[ju] at e;split at e
  ·cases e;rename_i hk;exact⟨y,⟨0,hk,rfl⟩,h1⟩
  ·obtain⟨u,⟨j,hj,hu⟩,h3⟩:=Lk hρ (i+1) h2 k f e
   exact⟨u,⟨j+1,by omega,by simpa using hu⟩,h3⟩
 |none::t,vs,i,h,k,f,e=>by
  obtain⟨y,m,rfl,h1,h2⟩:=aP.1 h;simp only[An] at e;rw[ju] at e;split at e
  ·cases e;rename_i hk;exact⟨y,⟨0,hk,rfl⟩,by show y=_;rw[hρ];exact aH.1 h1⟩
  ·obtain⟨u,⟨j,hj,hu⟩,h3⟩:=Lk hρ (i+1) h2 k f e
   exact⟨u,⟨j+1,by omega,by simpa using hu⟩,h3⟩
def aID(C:aD)(s:Nat)(ty:TypeId)(pre post dso:List DV):Ending->World->Prop:=sd C (fun v own' G'=> ∃w',Is G' (.tp (pre++ .v (.slice w'.a w'.n w'.c)::post)) v/\du G' ⟨w',s,ty,dso,false⟩ own')
def ax5{B:List ak}{G:Gh}{w:SV}{s:Nat}{ty:TypeId}{ds:List DV}{lo:Bool}{ov:List ak}(h:du G ⟨w,s,ty,ds,lo⟩ B)(g: ∀o∈B,o∈ov): ∃rest,ov.Perm (B++rest):=by
 rcases h with⟨vs',⟨_,_,e⟩|⟨b0,r0,lo0,_,e,_⟩,_⟩
 ·rw[e];exact⟨ov,List.Perm.refl _⟩
 ·rw[e] at g⊢
  obtain⟨l1,l2,e2⟩:=mJ (g _ aQ);rw[e2];exact⟨l1++l2,oR⟩
def Tt(lk:LK):List Operand->Option (List (Option DV))
 |[]=>some []
 |x::t=>match aO lk x,Tt lk t with
  |some .nl,some l=>some (none::l)
  |some f,some l=>match lh f with
   |some d=>some (some d::l)
   |none=>none
  |_,_=>none
def aGf(lk:LK)(fo:Operand)(args:Array Operand):Option (FuncId×List (Option DV)):=match aO lk fo with
 |some (.d (.v (.func (.func f) ⟨[]⟩ ⟨[]⟩)))=>match Tt lk args.toList with
  |some l=>some (f,l)
  |_=>none
 |_=>none
def aJc(fr:aA)(cf:Cf):Option (FuncId×List (Option DV)×Nat):=match ce fr cf with
 |some ⟨some d, .call ⟨.value fo,args,_⟩,_,_,_,_⟩=>match aGf (bE fr cf) fo args with
  |some (f,l)=>some (f,l,d)
  |none=>none
 |_=>none
end
section
variable {P:Program} {C:aD} {n:Nat} {fr:Fr} {own own':List ak} {G:Gh} {Φ:Act->World->Prop}
variable {dst:Option Nat} {t t' ty':TypeId} {pos:String} {af:Array Edge} {gd:Option (Nat×Bool)} {x y:Operand} {e s by_:Nat}
def aFf[hT:cv P t e s by_]{z:Value}[hz:gh P e z]{k k':IntKind}{l:Int}(hx:aw fr x=some (.int k 0))(hy:aw fr y=some (.int k' l))(h0:0<=l)(hb:by_*l<=2^47)(hl:l<=2^60)(hs:(aF z).length=s)(hd:cd n dst=true)
  (h: ∀b,St C n (put fr dst (.slice (some ⟨b,0,none⟩) 0 l.toNat)) (⟨b,cP z l.toNat,e,true⟩::own) G Φ):
  Ch P C n fr own G ⟨dst, .makeSlice t x y,ty',pos,af,gd⟩ Φ:=by
 intro a w Q rl;have h1:(Instr.makeSlice t (a.eval x) (a.eval y)).run P w= .ok (.slice (some ⟨w.heap.size,0,none⟩) 0 l.toNat) (w.alloc (.cells ⟨cP z l.toNat⟩ e)):=by
  obtain⟨i,hi,hib⟩:=TS (P:=P) (t:=t) (e:=e) (s:=s) (by_:=by_) w;rw[bm rl.fr hx,bm rl.fr hy];unfold Instr.makeSlice;rw[bc (hT.u w)];simp only[asInt,asIntOf];rw[bc (a:=0) (w':=w) J,bc (a:=l) (w':=w) J,bc hi,hib];have hw:IntKind.i64.wrap l=l:=ul (by simp[IntKind.min,IntKind.max,IntKind.signed,IntKind.bits];omega);have hw0:IntKind.i64.wrap 0=0:=J;simp only[hw,hw0];have c1: ¬((by_:Int)*l>2^48):=by
   have:(2:Int)^47<=2^48:=by decide
   omega
  have c5:decide ((by_:Int)*l>2^48)=false:=decide_eq_false c1;have c2:decide (l<0)=false:=decide_eq_false (by omega);have c4:decide ((0:Int)>l)=false:=by simp;omega
  simp only[c2,c4,c5,sU,Int.lt_irrefl,decide_false,sT,dJ,if_false];have hr: ¬(l.toNat*by_>roomBytes):=by
   unfold roomBytes;have:((l.toNat*by_:Nat):Int)=by_*l:=by rw[jX,qW h0,tV]
   have h47:((2^47:Nat):Int)=2^47:=by decide
   omega
  unfold askRoom;simp only[hr,if_false];rw[bc (run_pure _ _ _),bc (hT.siz w)];have hn:l.toNat*s=l.toNat*(aF z).length:=by rw[hs]
  by_cases h00:l.toNat*s=0
  ·rw[if_pos h00,bc (run_pure _ _ _)]
   have e0:cP z l.toNat=[]:=bU (by rw[nG,hs];exact h00);rw[h00,e0,show(Array.range 0)= #[] from J,Array.map_empty];rfl
  ·rw[if_neg h00,bc (hz.zero w),oI]
   rw[bc (run_pure _ _ _),Ds hn];rfl
 refine ke (v:= .slice (some ⟨w.heap.size,0,none⟩) 0 l.toNat) (c6 h1) (h w.heap.size _ _ ((rl.heap (rl.h.alloc _ _)).put _ hd))
def rk(G:Gh)(ov:List ak):Gh:=fun b=>match G b with
 |some cs=>some cs
 |none=>(ov.find? fun o=>Nat.beq o.b b).map (·.cs)
def KO{ov:List ak}:bD G (rk G ov):=fun b cs h=>by unfold rk;rw[h]
def TZ{o:ak}: ∀{ov:List ak},o∈ov->ov.Pairwise (fun x y=>x.b≠y.b)->ov.find? (fun u=>Nat.beq u.b o.b)=some o
 |u::t,ho,nd=>by
  rcases aW.1 ho with rfl|ho
  ·rw[List.find?_cons_of_pos (by simp)]
  ·have:=(bK.1 nd).1 o ho
   rw[List.find?_cons_of_neg (by simpa using this)];exact TZ ho (bK.1 nd).2
def ayh{ov:List ak}{o:ak}(ho:o∈ov)(hn:G o.b=none)(nd:ov.Pairwise (fun x y=>x.b≠y.b)):rk G ov o.b=some o.cs:=by
 unfold rk;rw[hn,TZ ho nd];rfl
def bu.lendSub{ov:List ak}{w:World}(h:bu C ov G w)(b:Nat)(cs:List Value)(hb:rk G ov b=some cs): ∃ty fz,w.heap[b]? =some (.cells ⟨cs⟩ ty fz):=by
 unfold rk at hb;split at hb
 ·rename_i hg;cases hb;exact h.sub _ _ hg
 ·cases hf:ov.find? (fun o=>Nat.beq o.b b) with
  |none=>rw[hf] at hb;cases hb
  |some o=>
   rw[hf] at hb;cases hb;have e:o.b=b:=aT (by simpa using List.find?_some hf);subst e;exact⟨_,_,(h.hown o (List.mem_of_find?_eq_some hf)).1⟩
def bu.lent{ov:List ak}{G':Gh}{w w':World}(h:bu C ov G w)(k:bu ⟨w,rk G ov,[],[],[],none,fun _=>none⟩ [] G' w'):bu C ov G w':=by
 have same: ∀b o,w.heap[b]? =some o->w'.heap[b]? =some o:=fun b o hb=>by rw[k.keep b (ik hb) (by simp)];exact hb
 have hsz:w.heap.size<=w'.heap.size:=k.size;refine⟨k.os.trans h.os,k.tape.trans h.tape,k.output.trans h.output,eY h.size hsz,fun b hb hm=>?_,fun b cs hb=>?_,h.gle,h.gold,fun o ho=>?_,h.nd,eY h.dr k.dr,fun p hp=>⟨(h.ext p hp).1,same _ _ (h.ext p hp).2⟩⟩
 ·have:=h.size;rw[k.keep b (by show b<w.heap.size;omega) (by simp)];exact h.keep b hb hm
 ·obtain⟨ty,fz,h1⟩:=h.sub b cs hb;exact⟨ty,fz,same _ _ h1⟩
 ·obtain⟨h1,h2⟩:=h.hown o ho;exact⟨same _ _ h1,h2⟩
def Yt{f:FuncId}{fo:Operand}{args:Array Operand}{tys:Array TypeId}{vs:List Value}{K:Value->Gh->Prop}(ho:aw fr fo=some (.func (.func f) #[] #[]))(hv:fI fr args.toList=some vs)
  (hF:Fn P f vs (rk G own) K)(hd:cd n dst=true)(h: ∀v (G':Gh),K v G'->St C n (put fr dst v) own G Φ):Ch P C n fr own G ⟨dst, .call ⟨.value fo,args,tys⟩,ty',pos,af,gd⟩ Φ:=by
 intro a w Q rl;have h2:=Eg (c1:=[]) (c2:=[]) (P:=P) (dst:=dst) (ty':=ty') (pos:=pos) (af:=af) (gd:=gd) (tys:=tys) (w:=w) hF.able rl.fr ho hv;rw[cY,iU] at h2;simp only[Oper.wp,h2,Oper.upon];refine(hF.run w rl.h.lendSub).mono ?_;rintro e w' ⟨v,G',rfl,hh,hK⟩;exact h v G' hK _ _ ((rl.heap (rl.h.lent hh)).put _ hd)
end
def DV.np:DV->Bool
 | .v _=>true
 | .tp l=>l.all fun d=>match d with
  | .v _=>true
  |_=>false
 |_=>false
def NJ{A G:Gh}: ∀{l:List DV} {m:List Value},(l.all fun d=>match d with| .v _=>true|_=>false)=true->IsLs A l m->IsLs G l m
 |[],m,_,k=>co.2 (co.1 k)
 |d::t,m,h,k=>by
  obtain⟨y,n,rfl,k1,k2⟩:=aP.1 k;simp only[sS,aL] at h;refine .cons ?_ (NJ h.2 k2)
  cases d with
  |v x=>exact aH.2 (aH.1 k1)
  |_=>simp at h
def Is.np{A G:Gh}{d:DV}{y:Value}(h:d.np=true)(k:Is A d y):Is G d y:=by
 cases d with
 |v x=>exact aH.2 (aH.1 k)
 |tp l=>obtain⟨m,e,k⟩:=jv.1 k;exact jv.2 ⟨m,e,NJ h k⟩
 |_=>cases h
section
variable {GB:Gh} {C:aD} {n:Nat} {Q0:Exit->Act->World->Prop} {fr fr':aA} {own own':aI} {cf cf':Cf} {vc:List Prop} {lk:LK} {bk:BM} {ρ:NE} {G:Gh} {ov:List ak} {a:Act} {w:World}
variable {dst:Option Nat} {t t' ty':TypeId} {pos:String} {af:Array Edge} {gd:Option (Nat×Bool)} {x y:Operand} {e s by_:Nat}
def Rs:Option Bk->Option (List DV)
 |some (.b _ _ ds _)=>some ds
 |some (.c _ _ ds _)=>some ds
 |_=>none
def HJ(lk:LK)(bk:BM)(x:Operand):Option DV:=match aO lk x with
 |some (.rw nm)=>match Rs (bk nm) with
  |some ds=>some (.sl ds)
  |none=>none
 |some f=>lh f
 |none=>none
def D4(lk:LK)(bk:BM):List Operand->Option (List DV)
 |[]=>some []
 |x::t=>match HJ lk bk x,D4 lk bk t with
  |some d,some l=>some (d::l)
  |_,_=>none
def Vb(r:bG GB C n lk bk ρ G ov a w){d:DV}(h:HJ lk bk x=some d): ∃y,aw (cG a) x=some y/\Is (rk G ov) d y:=by
 unfold HJ at h;split at h
 ·rename_i nm h1
  obtain⟨y,h2,h3⟩:=r.ev h1
  cases (show y=_ from h3)
  refine⟨_,h2,?_⟩;split at h<;>cases h;rename_i ds hr;obtain⟨ty,s,vs,B,hB,hv,hs,hBo⟩: ∃ty s vs B,iF s ty (ρ nm) vs B/\IsLs G ds vs/\(∀v∈vs,(aF v).length=s)/\ ∀o∈B,o∈ov:=by
   unfold Rs at hr;split at hr<;>cases hr
   ·rename_i hb;obtain⟨B,⟨vs,h4,h5,h6,_⟩,h7⟩:=r.bx _ _ hb;exact⟨_,_,vs,B,h4,h5,h6,h7⟩
   ·rename_i hb;obtain⟨B,⟨vs,h4,h5,h6,_⟩,h7⟩:=r.bx _ _ hb;exact⟨_,_,vs,B,h4,h5,h6,h7⟩
  rcases hB with⟨e1,e2,e3⟩|⟨b,rest,lo',e2,e3,h5,h6,h7⟩
  ·subst e1
   have ed:ds=[]:=bU (by rw[<-hv.len];rfl);subst ed;rw[e2];exact iu.2 ⟨0,⟨none,0,0⟩,[],J, .nil _ 0, .nil⟩
  ·subst e3
   have ho:=hBo _ aQ;have hg:=ayh ho (r.h.hown _ ho).2.1 r.h.nd;rw[e2];exact iu.2 ⟨s,⟨some ⟨b,0,none⟩,vs.length,_⟩,vs,J,eH.of_flat hs hg h7,hv.up KO⟩
 ·rename_i h1
  obtain⟨y,h2,h3⟩:=r.ev h1;exact⟨y,h2,(oy h3 h).up KO⟩
 ·cases h
def Rt(r:bG GB C n lk bk ρ G ov a w): ∀{l:List Operand} {ds:List DV},D4 lk bk l=some ds-> ∃vs,fI (cG a) l=some vs/\IsLs (rk G ov) ds vs
 |[],ds,e=>by cases e;exact⟨[],J, .nil⟩
 |x::t,ds,e=>by
  simp only[D4] at e;split at e<;>cases e;rename_i h1 h2;obtain⟨y,h3,h4⟩:=Vb r h1;obtain⟨vs,h5,h6⟩:=Rt r h2;exact⟨y::vs,by simp only[fI,h3,h5], .cons h4 h6⟩
def KE(lk:LK)(bk:BM)(fo:Operand)(args:Array Operand):Option (FuncId×List DV):=match aO lk fo with
 |some (.d (.v (.func (.func f) ⟨[]⟩ ⟨[]⟩)))=>match D4 lk bk args.toList with
  |some ds=>some (f,ds)
  |none=>none
 |_=>none
def axm{fo:Operand}{args:Array Operand}{tys:Array TypeId}{f:FuncId}{ds:List DV}{rv:DV}(ha:KE lk bk fo args=some (f,ds))(hnp:rv.np=true)(hF:PF GB prog f ds rv):b8 prog GB C n lk bk ⟨dst, .call ⟨.value fo,args,tys⟩,ty',pos,af,gd⟩ (.d rv) [] []:=by
 intro hd tl tb K' s1 s2 hf hk;refine⟨fun ρ G ov a w r Q=>?_⟩;have r1:=r.mono s1 s2;unfold KE at ha;split at ha<;>try (cases ha;done)
 rename_i h1;split at ha<;>cases ha;rename_i h2;obtain⟨y,hy,hy'⟩:=r1.ev h1;rw[(aH (G:=G)).1 hy'] at hy;obtain⟨vs,h3,h4⟩:=Rt r1 h2;refine Yt hy h3 (hF _ vs (r.gb.trans KO) h4) hd (fun v G' hK a' w' rl=>?_) a w Q ⟨r.h,r.sz,c9 a,r.df⟩;exact hk.run ρ G ov a' w' ⟨r.gb,rl.h,rl.sz,rl.df,(kG rl).fx (fun k g _ e=>r.fx k g e) (Is.np hnp hK),r.bx,r.dj,r.fxd⟩
def PD(fr:aA)(own:aI)(cf:Cf):Option (FuncId×List DV):=match ce fr cf with
 |some ⟨_, .call ⟨.value fo,args,_⟩,_,_,_,_⟩=>KE (bE fr cf) (gD fr own cf) fo args
 |_=>none
def cL[fu:Fu]{f:FuncId}{ds:List DV}{rv:DV}(ha:PD fr own cf=some (f,ds))(hF:PF GB prog f ds rv)(hnp:rv.np=true)(hgo:cI tt n fu.n fr own cf (.d rv) [] []=⟨vc,fr',own',cf'⟩)(k:aj prog GB C n Q0 fr' own' cf')
  (hv:ah vc:=by first|exact trivial|(simp only[ah];kernel_rfl)|(simp only[ah];omega)):aj prog GB C n Q0 fr own cf:=by
 unfold PD at ha;split at ha<;>try (cases ha;done)
 rename_i hh;exact us hh (axm ha hnp hF) hgo hv k
def aEN{d cap:Nat}{i:TI}{z:DV}{k k':IntKind}[hT:cv prog t e s by_](hi:fg prog e=some i)(hz:m9 i=some z)(hs:Nat.beq z.cells.length s=true)(hx:aO lk x=some (.d (.v (.int k 0))))(hy:aO lk y=some (.d (.v (.int k' (cap:Nat)))))(hb:by_*cap<=140737488355328)(hl:cap<=1152921504606846976):
  b8 prog GB C n lk bk ⟨some d, .makeSlice t x y,ty',pos,af,gd⟩ (.rw d) [(d,some (.c e s [] cap))] [d]:=by
 intro hd tl tb K s1 s2 hf hk;refine⟨fun ρ G ov a w r Q=>?_⟩;obtain⟨v,hz1,hz2,hz3⟩:=yh hi hz;obtain⟨q1,p1,p2⟩:=(r.mono s1 s2).ev hx;obtain⟨q2,p3,p4⟩:=(r.mono s1 s2).ev hy;rw[dl] at p2 p4;subst p2 p4;have c1:=((hz2 G).cells hz3).1.len;replace hs:=aT hs;refine aFf p1 p3 (by omega) (by have:((by_*cap:Nat):Int)=by_*cap:=jX ..;omega) (by omega) (by rw[c1,hs]) hd (fun b a' w' rl=>?_) a w Q ⟨r.h,r.sz,c9 a,r.df⟩;rw[bZ] at rl;have hnd:=(bK.1 rl.h.nd).1;refine hk.run _ _ _ a' w' (r.new' (x:=⟨some ⟨b,0,none⟩,0,cap⟩) (B':= .c e s [] cap) (os:=[⟨b,cP v cap,e,true⟩]) (f:= .rw d) (y:= .slice (some ⟨b,0,none⟩) 0 cap) hf (bD.refl _) rl.h ⟨[], .inr ⟨b,cP v cap,true,by simp,J,by simp[aC],?_,by simp⟩, .nil,by simp,fun o ho=>by rw[aV.1 ho],by simp⟩
  (fun o ho=>by rw[aV.1 ho];exact aQ) (fun m B' _ _ o ho _=>⟨aZ _ ho,fun e'=>by cases e';exact hnd o ho J⟩) (by show _=_;simp) (kG rl))
 rw[nG,c1,hs];simp[aC]
def ZC{d nm cap:Nat}{ds ds2:List DV}[hT:cv prog t e s by_][hN:kj prog t'](hx:aO lk x=some (.rw nm))(hb:bk nm=some (.c e s ds cap))(hy:qH lk bk s y=some ds2)(hk2:dH s ds2)(hc:ds.length+ds2.length<=cap)(hp:0<ds2.length)(hnd:Nat.beq nm d=false):
  b8 prog GB C n lk bk ⟨some d, .call ⟨.builtin .append, #[x,y], #[t,t']⟩,ty',pos,af,gd⟩ (.rw d) [(nm,none),(d,some (.c e s (ds++ds2) cap))] [d]:=by
 intro hd tl tb K s1 s2 hf hk;refine⟨fun ρ G ov a w r Q=>?_⟩;have r1:=r.mono s1 s2;have hne:nm≠d:=fun e=>by subst e;simp at hnd
 obtain⟨u,hx',hx2⟩:=r1.ev hx
 cases hx2
 obtain⟨B,⟨vs,hB,hv,hvs,hlo,hcap⟩,hBo⟩:=r1.bx _ _ hb;obtain⟨w2,us,hy',h2,h3,h4,h5,h6⟩:=Cx (P:=prog) (C:=C) r1 hy hk2;have hus:(aC us).length=us.length*s:=ew us h4;have hl1:=hv.len;have hl2:=h3.len;have rd:=r.dropB nm;have hf':kz [d] (some d) tl (Sx.upB tb [(nm,none)]):=fun m hm=>by
  obtain⟨g1,g2⟩:=hf m hm;refine⟨g1,fun k B' hk e=>g2 k B' hk ?_⟩;simp only[Sx.upB] at e;split at e
  ·cases e
  ·exact e
 rcases hB with⟨e1,e2,e3⟩|⟨b,rest,lo',k3,k4,k5,k6,k7⟩
 ·rw[e2] at hcap;simp at hcap;omega
 subst k4;have hl':=hlo _ aQ;simp only at hl';subst hl';have ha:(ρ nm).a=some ⟨b,0,none⟩:=by rw[k3]
 have hn:(ρ nm).n=vs.length:=by rw[k3]
 rw[ha,hn] at hx';rw[h2] at hy' h6;have hin:=hBo _ aQ;obtain⟨l1,l2,e5⟩:=mJ hin;have hperm:ov.Perm (⟨b,aC vs++rest,e,true⟩::(l1++l2)):=by rw[e5];exact oR
 have hall: ∀v∈vs++us,(aF v).length=s:=fun v hv=>by
  rcases bW.1 hv with hv|hv
  ·exact hvs v hv
  ·exact h4 v hv
 have hcs:(aC vs++rest).length=(ρ nm).c*s:=by rw[aR];exact k6
 have hroom:vs.length+us.length<=(ρ nm).c:=by omega
 have hmul:(vs.length+us.length)*s<=(ρ nm).c*s:=bR _ hroom;rw[dQ] at hmul;have hrest:us.length*s<=rest.length:=by rw[k5] at k6;omega
 have hovw:cE (aC vs++rest) (vs.length*s) (aC us)=aC (vs++us)++rest.drop (us.length*s):=by
  rw[pD _ _ _ (by rw[hus,aR];omega),nq,<-k5];simp[hus,nZ,dX]
 refine Nm (P:=prog) (own:=⟨b,aC vs++rest,e,true⟩::(l1++l2)) (m:=us.length) (ys:=aC us) hx' hy' (.hd ..) hcs (fun w hh=>h6 w (hh.perm hperm.symm)) hus h5 hroom hd (fun a' w' rl=>?_) a w Q ⟨r.h.perm hperm,r.sz,c9 a,r.df⟩;rw[hovw] at rl;have hnd':=(bK.1 rl.h.nd).1;refine hk.run _ _ _ a' w' (rd.new' (x:=⟨some ⟨b,0,none⟩,vs.length+us.length,(ρ nm).c⟩) (B':= .c e s (ds++ds2) cap) (os:=[⟨b,aC (vs++us)++rest.drop (us.length*s),e,true⟩]) (f:= .rw d) (y:= .slice (some ⟨b,0,none⟩) (vs.length+us.length) (ρ nm).c) hf' (bD.refl _) rl.h
  ⟨vs++us, .inr ⟨b,rest.drop (us.length*s),true,by simp,J,ew _ hall,?_,by simpa using hroom⟩,hv.app h3,hall,fun o ho=>by rw[aV.1 ho],by simpa using hcap⟩ (fun o ho=>by rw[aV.1 ho];exact aQ)
  (fun m B' hm e' o ho hmo=>?_) (by show _=_;simp) (kG rl))
 ·rw[ew _ hall,aR,iW,dQ]
  simp only[if_true];rw[k5] at k6;omega
 ·have hmn:m≠nm/\tb m=some B':=by
   simp only[Sx.upB] at e';split at e'
   ·cases e'
   ·exact⟨by assumption,e'⟩
  have hob:o.b≠b:=fun e6=>r.dj m nm B' _ hmn.2 (s2 _ _ hb) hmn.1 b (by rw[hmo,e6]) ha;refine⟨?_,fun e6=>by cases e6;exact hob J⟩;rcases aW.1 (hperm.mem_iff.1 ho) with rfl|ho
  ·exact absurd J hob
  ·exact aZ _ ho
end
section
variable {GB:Gh} {C:aD} {n:Nat} {Q0:Exit->Act->World->Prop} {fr fr':aA} {own own':aI} {cf cf':Cf} {vc:List Prop}
def mkc[fu:Fu]{d e s b:Nat}{z:DV}{k':IntKind}(cap:Nat)(h:EO fr cf=some ⟨d,e,s,b,z,0⟩)(hy:(match ce fr cf with|some ⟨_, .makeSlice _ _ y,_,_,_,_⟩=>aO (bE fr cf) y|_=>none)=some (.d (.v (.int k' (cap:Nat)))))
  (hgo:cI tt n fu.n fr own cf (.rw d) [(d,some (.c e s [] cap))] [d]=⟨vc,fr',own',cf'⟩)(k:aj prog GB C n Q0 fr' own' cf')(hb:b*cap<=140737488355328:=by omega)(hl:cap<=1152921504606846976:=by omega)
  (hv:ah vc:=by first|exact trivial|(simp only[ah];kernel_rfl)|(simp only[ah];omega)):aj prog GB C n Q0 fr own cf:=by
 unfold EO at h;split at h<;>try (cases h;done)
 rename_i hh;split at h<;>try (cases h;done)
 rename_i hx;split at h<;>try (cases h;done)
 rename_i hT;split at h<;>try (cases h;done)
 rename_i hi;split at h<;>try (cases h;done)
 rename_i hz;rw[cond_eq_ite] at h;split at h<;>cases h;rename_i hs;rw[hh] at hy;have:=ja (d9 _ _ hT) J;exact us hh (aEN (d9 _ _ hi) hz hs hx hy hb hl) hgo hv k
structure aJx where
 d:Nat
 nm:Nat
 e:Nat
 s:Nat
 ds:List DV
 ds2:List DV
 cap:Nat
def MI(fr:aA)(own:aI)(cf:Cf):Option aJx:=match ce fr cf with
 |some ⟨some d, .call ⟨.builtin .append,⟨[x,y]⟩,⟨[t,t']⟩⟩,_,_,_,_⟩=>match dB tt t,dB tt t' with
  |some ⟨.sl e s _,_,_,_⟩,some ⟨.sl _ _ _,_,_,_⟩=>match aO (bE fr cf) x with
   |some (.rw nm)=>match gD fr own cf nm,qH (bE fr cf) (gD fr own cf) s y with
    |some (.c e' s' ds cap),some ds2=>bif (Nat.beq e' e&&Nat.beq s' s)&&!Nat.beq nm d then some ⟨d,nm,e,s,ds,ds2,cap⟩ else none
    |_,_=>none
   |_=>none
  |_,_=>none
 |_=>none
def Uq[fu:Fu]{d nm e s cap:Nat}{ds ds2:List DV}(ds':List DV)(h:MI fr own cf=some ⟨d,nm,e,s,ds,ds2,cap⟩)(hds:ds++ds2=ds')(ho2:dH s ds2)(hc:ds.length+ds2.length<=cap)(hgo:cI tt n fu.n fr own cf (.rw d) [(nm,none),(d,some (.c e s ds' cap))] [d]=⟨vc,fr',own',cf'⟩)(k:aj prog GB C n Q0 fr' own' cf')
  (hp:0<ds2.length:=by simp)(hv:ah vc:=by first|exact trivial|(simp only[ah];kernel_rfl)|(simp only[ah];omega)):aj prog GB C n Q0 fr own cf:=by
 subst hds;unfold MI at h;split at h<;>try (cases h;done)
 rename_i hh;split at h<;>try (cases h;done)
 rename_i hT hT';split at h<;>try (cases h;done)
 rename_i hx;split at h<;>try (cases h;done)
 rename_i hb hy;rw[cond_eq_ite] at h;split at h<;>cases h;rename_i h2;simp only[aL,iK] at h2
 cases aT h2.1.1
 cases aT h2.1.2
 have:=ja (d9 _ _ hT) J;have hN:kj prog _:=⟨_,(ja (d9 _ _ hT') J).un⟩;exact us hh (ZC hx hb hy ho2 hc hp h2.2) hgo hv k
def PI(GB:Gh)(P:Program)(f:FuncId)(i:Int)(s:Nat)(ty ty2:TypeId)(ds:List DV)(x:DV)(cap:Nat)(dso:List DV):Prop:=
 ∀G w w2 B B2,bD GB G->du G ⟨w,s,ty,ds,false⟩ B->cap<=w.c->du G ⟨w2,s,ty2,[x],false⟩ B2->je P f [.slice w.a w.n w.c, .int .i64 i, .slice w2.a w2.n w2.c] (B++B2) G fun v own' G'=> ∃w',v= .slice w'.a w'.n w'.c/\du G' ⟨w',s,ty,dso,false⟩ own'
structure CiA where
 f:FuncId
 nm:Nat
 nm2:Nat
 i:Int
 ty:TypeId
 ty2:TypeId
 s:Nat
 ds:List DV
 x:DV
 cap:Nat
 d:Nat
def N3(fr:aA)(own:aI)(cf:Cf):Option CiA:=match ce fr cf with
 |some ⟨some d, .call ⟨.value fo,⟨[x1,x2,x3]⟩,_⟩,_,_,_,_⟩=>match aO (bE fr cf) fo,aO (bE fr cf) x1 with
  |some (.d (.v (.func (.func f) ⟨[]⟩ ⟨[]⟩))),some (.rw nm)=>match aO (bE fr cf) x2,aO (bE fr cf) x3 with
   |some (.d (.v (.int .i64 i))),some (.rw nm2)=>match gD fr own cf nm,gD fr own cf nm2 with
    |some (.c ty s ds cap),some (.b ty2 s2 [x] true)=>bif (!Nat.beq nm d&&!Nat.beq nm2 d)&&(!Nat.beq nm nm2&&(Nat.beq s2 s&&Nat.blt 0 cap)) then some ⟨f,nm,nm2,i,ty,ty2,s,ds,x,cap,d⟩ else none
    |_,_=>none
   |_,_=>none
  |_,_=>none
 |_=>none
def VQ{lk:LK}{bk:BM}{fo x1 x2 x3:Operand}{tys:Array TypeId}{f:FuncId}{nm nm2 d cap s:Nat}{i:Int}{ty0 ty2:TypeId}{ty:TypeId}{pos:String}{af:Array Edge}{gd:Option (Nat×Bool)}{ds dso:List DV}{x:DV}(hne:Nat.beq nm d=false)(hne2:Nat.beq nm2 d=false)(hn2:Nat.beq nm nm2=false)(hcp:0<cap)
  (h0:aO lk fo=some (.d (.v (.func (.func f) ⟨[]⟩ ⟨[]⟩))))(h1:aO lk x1=some (.rw nm))(h2:aO lk x2=some (.d (.v (.int .i64 i))))(h3:aO lk x3=some (.rw nm2))(hb:bk nm=some (.c ty0 s ds cap))(hb2:bk nm2=some (.b ty2 s [x] true))(hF:PI GB prog f i s ty0 ty2 ds x cap dso):
  b8 prog GB C n lk bk ⟨some d, .call ⟨.value fo,⟨[x1,x2,x3]⟩,tys⟩,ty,pos,af,gd⟩ (.rw d) [(nm,none),(nm2,none),(d,some (.b ty0 s dso true))] [d]:=by
 intro hd tl tb K' s1 s2 hf hk;refine⟨fun ρ G ov a w r Q=>?_⟩;have r1:=r.mono s1 s2;obtain⟨y,hy,hy'⟩:=r1.ev h0;rw[(aH (G:=G)).1 hy'] at hy;obtain⟨y1,p1,p1'⟩:=r1.ev h1
 cases (show y1=_ from p1')
 obtain⟨y2,p2,p2'⟩:=r1.ev h2;rw[dl] at p2';subst p2';obtain⟨y3,p3,p3'⟩:=r1.ev h3
 cases (show y3=_ from p3')
 have hnn:nm≠d:=fun e=>by subst e;rw[pX] at hne;cases hne
 have hnn2:nm2≠d:=fun e=>by subst e;rw[pX] at hne2;cases hne2
 have hnm:nm≠nm2:=fun e=>by subst e;rw[pX] at hn2;cases hn2
 obtain⟨B,g1,g2⟩:=r1.bx _ _ hb;obtain⟨B2,k1,k2⟩:=r1.bx _ _ hb2;obtain⟨vs,q1,q2,q3,q4,q5⟩:=g1;have hB:du G ⟨ρ nm,s,ty0,ds,false⟩ B:=⟨vs,q1,q2,q3,fun h=>by cases h⟩;have hB2:du G ⟨ρ nm2,s,ty2,[x],false⟩ B2:=du.weak (lo:=true) k1;have e1: ∃o,B=[o]/\(ρ nm).a=some ⟨o.b,0,none⟩:=by
  rcases q1 with⟨_,e,_⟩|⟨b,rest,lo',e,rfl,_⟩
  ·rw[e] at q5;simp at q5;omega
  ·exact⟨_,J,by rw[e]⟩
 have e2: ∃o,B2=[o]/\(ρ nm2).a=some ⟨o.b,0,none⟩:=by
  obtain⟨vs2,c1,c2,_⟩:=k1;rcases c1 with⟨e,_,_⟩|⟨b,rest,lo',e,rfl,_⟩
  ·subst e;have:=c2.len;simp at this
  ·exact⟨_,J,by rw[e]⟩
 obtain⟨o1,rfl,a1⟩:=e1;obtain⟨o2,rfl,a2⟩:=e2;have hob:o1.b≠o2.b:=fun e=>r.dj nm nm2 _ _ (s2 _ _ hb) (s2 _ _ hb2) hnm _ a1 (by rw[a2,e]);have hp: ∃rest,ov.Perm ([o1]++[o2]++rest):=by
  obtain⟨l1,l2,e3⟩:=mJ (g2 _ aQ);have hm:=k2 _ aQ;rw[e3] at hm⊢;have hm2:o2∈l1++l2:=by
   rcases bW.1 hm with h|h
   ·exact bM _ h
   ·rcases aW.1 h with h|h
    ·exact absurd (by rw[h]) hob
    ·exact cJ _ h
  obtain⟨l3,l4,e4⟩:=mJ hm2;refine⟨l3++l4,List.perm_middle.trans ?_⟩;rw[e4];exact(oR (l₁:=l3) (l₂:=l4) (a:=o2)).cons o1
 obtain⟨rest,h5⟩:=hp;have h6: ∀o∈ov,o.b≠o1.b->o.b≠o2.b->o∈rest:=fun o ho n1 n2=>by
  have:=h5.mem_iff.1 ho;simp only[cR,cY,aW] at this;rcases this with rfl|rfl|h
  ·exact absurd J n1
  ·exact absurd J n2
  ·exact h
 have hlo2: ∀o∈[o2],o.lo=true:=by obtain⟨_,_,_,_,h⟩:=k1;exact h rfl
 have hall: ∀o∈[o1]++[o2],o.lo=true:=fun o ho=>by
  rcases bW.1 ho with h|h
  ·exact q4 o h
  ·exact hlo2 o h
 refine BC (M:=[o1]++[o2]) (rest:=rest) (vs:=[.slice (ρ nm).a (ρ nm).n (ρ nm).c, .int .i64 i, .slice (ρ nm2).a (ρ nm2).n (ρ nm2).c]) hy (by simp only[fI,p1,p2,p3]) h5 (hF G (ρ nm) (ρ nm2) [o1] [o2] r.gb hB q5 hB2) hd (fun v own1 G' hG hK a' w' rl=>?_) a w Q ⟨r.h,r.sz,c9 a,r.df⟩;obtain⟨z,rfl,vs',k1',k2',k3',k4'⟩:=hK;have hs1:=k1'.relo (jp ([o1]++[o2]));have e3: ∀o∈own1.map (relo (jp ([o1]++[o2]))),o.lo=true:=fun o ho=>by
  obtain⟨o',_,rfl⟩:=bJ.1 ho;exact DE _ hall
 generalize own1.map (relo (jp ([o1]++[o2])))=B' at rl e3 hs1;have rl':gu C n (Sx.put (cG a) (some d) (.slice z.a z.n z.c)) (B'++rest) G' a' w':=rl;have hdis:=(kZ.1 rl'.h.nd).2.2;have rd:=(r.dropB nm).dropB nm2;have hin: ∀q B0,Sx.upB (Sx.upB tb [(nm,none)]) [(nm2,none)] q=some B0->q≠nm/\q≠nm2/\tb q=some B0:=fun q B0 e=>by
  simp only[Sx.upB] at e;split at e
  ·cases e
  ·split at e
   ·cases e
   ·exact⟨by assumption,by assumption,e⟩
 have hf2:kz [d] (some d) tl (Sx.upB (Sx.upB tb [(nm,none)]) [(nm2,none)]):=fun q hq=>by
  obtain⟨f1,f2⟩:=hf q hq;exact⟨f1,fun k B e1 e=>f2 k B e1 (hin k B e).2.2⟩
 have hsep: ∀q B0,Sx.upB (Sx.upB tb [(nm,none)]) [(nm2,none)] q=some B0-> ∀o∈ov,(ρ q).a=some ⟨o.b,0,none⟩->o∈rest:=fun q B0 e o ho hbq=>by
  obtain⟨n1,n2,n3⟩:=hin q B0 e;exact h6 o ho (fun e'=>r.dj nm q _ _ (s2 _ _ hb) n3 (Ne.symm n1) _ a1 (by rw[hbq,e'])) (fun e'=>r.dj nm2 q _ _ (s2 _ _ hb2) n3 (Ne.symm n2) _ a2 (by rw[hbq,e']))
 have r3:=rd.new' (x:=z) (B':= .b ty0 s dso true) (os:=B') (ov':=B'++rest) (f:= .rw d) (y:= .slice z.a z.n z.c) hf2 hG.le rl'.h ⟨vs',by simpa using hs1,k2',k3',fun _=>e3⟩ (fun o ho=>bM _ ho)
  (fun q B0 hq e o ho hbq=>⟨cJ _ (hsep q B0 e o ho hbq),fun hc=>by
   have hx: ∃o1∈B',o1.b=o.b:=by
    rcases hs1 with⟨_,h,_⟩|⟨b0,rest0,lo0,h,hB,_⟩
    ·rw[show z=_ from h] at hc;cases hc
    ·rw[show z=_ from h] at hc;cases hc;exact⟨⟨_,aC vs'++rest0,_,lo0⟩,by rw[hB];exact aQ,J⟩
   obtain⟨o3,ho3,he3⟩:=hx;exact hdis o3 ho3 o (hsep q B0 e o ho hbq) he3⟩) (by show _=_;simp) (kG rl')
 exact hk.run _ G' _ a' w' r3
def ci[fu:Fu]{f:FuncId}{nm nm2 d cap s:Nat}{i:Int}{ty ty2:TypeId}{ds dso:List DV}{x:DV}(dso':List DV)(ha:N3 fr own cf=some ⟨f,nm,nm2,i,ty,ty2,s,ds,x,cap,d⟩)(hF:PI GB prog f i s ty ty2 ds x cap dso)(he:dso=dso')
  (hgo:cI tt n fu.n fr own cf (.rw d) [(nm,none),(nm2,none),(d,some (.b ty s dso' true))] [d]=⟨vc,fr',own',cf'⟩)(k:aj prog GB C n Q0 fr' own' cf')
  (hv:ah vc:=by first|exact trivial|(simp only[ah];kernel_rfl)|(simp only[ah];omega)):aj prog GB C n Q0 fr own cf:=by
 subst he;unfold N3 at ha;split at ha<;>try (cases ha;done)
 rename_i hh;split at ha<;>try (cases ha;done)
 rename_i h0 h1;split at ha<;>try (cases ha;done)
 rename_i h2 h3;split at ha<;>try (cases ha;done)
 rename_i hb hb2;rw[cond_eq_ite] at ha;split at ha<;>cases ha;rename_i hc;simp only[aL,iK,mT] at hc;obtain⟨⟨c1,c2⟩,c3,c4,c5⟩:=hc
 cases aT c4
 exact us hh (VQ c1 c2 c3 c5 h0 h1 h2 h3 hb hb2 hF) hgo hv k
def lx(d:Nat){ops:Array Oper}{r:List Oper}{K:List Kt}(hl:bg fr d=some (.d (.v (.bool true))))(k:aj prog GB C n Q0 ((d, .tt)::fr) own (.ops ops r K)):aj prog GB C n Q0 fr own (.ops ops r K):=oB (g:= .tt) hl (fun _ G _ e=>(aH (G:=G)).1 e) k
def s9(d:Nat){ops:Array Oper}{r:List Oper}{K:List Kt}(hl:bg fr d=some (.d (.v (.bool false))))(k:aj prog GB C n Q0 ((d, .ff)::fr) own (.ops ops r K)):aj prog GB C n Q0 fr own (.ops ops r K):=oB (g:= .ff) hl (fun _ G _ e=>(aH (G:=G)).1 e) k
end
section
variable {GB:Gh} {C:aD} {n:Nat} {Q0:Exit->Act->World->Prop} {fr fr':aA} {own own':aI} {cf cf':Cf} {vc:List Prop}
def PR(GB:Gh)(P:Program)(f:FuncId)(ds:List DV)(s:Nat)(ty:TypeId)(rows:List DV):Prop:=
 ∀G vs,bD GB G->IsLs G ds vs->je P f vs [] G (fun v own' G'=> ∃w:SV,v= .slice w.a w.n w.c/\du G' ⟨w,s,ty,rows,true⟩ own')
def aJ7(fr:aA)(cf:Cf):Option (FuncId×List DV×Nat):=match ce fr cf with
 |some ⟨some d, .call ⟨.value fo,args,_⟩,_,_,_,_⟩=>match xt (bE fr cf) fo args with
  |some (f,ds)=>some (f,ds,d)
  |none=>none
 |_=>none
def aH0(C:aD)(s:Nat)(ty:TypeId)(rows:List DV):Ending->World->Prop:=sd C (fun v own' G'=> ∃w:SV,v= .slice w.a w.n w.c/\du G' ⟨w,s,ty,rows,true⟩ own')
end
section
variable {GB:Gh} {C:aD} {n:Nat} {Q0:Exit->Act->World->Prop} {fr fr':aA} {own own':aI} {cf cf':Cf} {vc:List Prop}
def Zr{lk:LK}{bk:BM}{fo:Operand}{args:Array Operand}{tys:Array TypeId}{f:FuncId}{nm d:Nat}{l:List (Option DV)}{s:Nat}{ty ty0:TypeId}{pos:String}{af:Array Edge}{gd:Option (Nat×Bool)}{dsi dso:List DV}{lo:Bool}(hne:Nat.beq nm d=false)
  (ha:Ad lk fo args=some (f,nm,l))(hb:bk nm=some (.b ty0 s dsi lo))(hF:PB GB prog f (ij l) s ty0 dsi (fun w=> .v (.slice w.a w.n w.c)) dso):b8 prog GB C n lk bk ⟨some d, .call ⟨.value fo,args,tys⟩,ty,pos,af,gd⟩ (.rw d) [(nm,none),(d,some (.b ty0 s dso lo))] [d]:=by
 intro hd tl tb K' s1 s2 hf hk;refine⟨fun ρ G ov a w r Q=>?_⟩;have r1:=r.mono s1 s2;unfold Ad at ha;split at ha<;>try (cases ha;done)
 rename_i h1;split at ha<;>cases ha;rename_i h2;obtain⟨y,hy,hy'⟩:=r1.ev h1;rw[(aH (G:=G)).1 hy'] at hy;obtain⟨B,g1,g2⟩:=r1.bx _ _ hb;have hB:du G ⟨ρ nm,s,ty0,dsi,lo⟩ B:=g1;obtain⟨vs,h7,h8⟩:=GC r1 (z:=ρ nm) h2 (fun nm e=>by cases e;rfl);have hp: ∃rest,ov.Perm (B++rest)/\ ∀o∈ov,(∀o'∈B,o.b≠o'.b)->o∈rest:=by
  rcases hB with⟨vs',⟨_,_,e⟩|⟨b0,r0,lo0,_,e,_⟩,_⟩
  ·rw[e];exact⟨ov,List.Perm.refl _,fun o ho _=>ho⟩
  ·rw[e] at g2⊢
   obtain⟨l1,l2,e2⟩:=mJ (g2 _ aQ);rw[e2];refine⟨l1++l2,oR,fun o ho hno=>?_⟩;rcases bW.1 ho with ho|ho
   ·exact bM _ ho
   ·rcases aW.1 ho with rfl|ho
    ·exact absurd J (hno _ aQ)
    ·exact cJ _ ho
 obtain⟨rest,h5,h6⟩:=hp;refine BC (M:=B) (rest:=rest) hy h7 h5 (hF G (ρ nm) vs B r.gb hB.weak h8) hd (fun v own1 G' hG hK a' w' rl=>?_) a w Q ⟨r.h,r.sz,c9 a,r.df⟩;obtain⟨z,hr,vs',k1,k2,k3,k4⟩:=hK;have k1':=k1.relo (jp B);have e2:lo=true-> ∀o∈own1.map (relo (jp B)),o.lo=true:=fun hl o ho=>by
  obtain⟨o',_,rfl⟩:=bJ.1 ho;obtain⟨_,_,_,_,hlo⟩:=hB;exact DE _ (hlo hl)
 generalize own1.map (relo (jp B))=B' at rl e2 k1';have rl':gu C n (Sx.put (cG a) (some d) v) (B'++rest) G' a' w':=rl;have hdis:=(kZ.1 rl'.h.nd).2.2;have r2:=r.dropB nm;have hnn:nm≠d:=fun e=>by subst e;rw[pX] at hne;cases hne
 have hf2:kz [d] (some d) tl (Sx.upB tb [(nm,none)]):=fun q hq=>by
  obtain⟨f1,f2⟩:=hf q hq;refine⟨f1,fun k B e1 e=>?_⟩;simp only[Sx.upB] at e;split at e
  ·cases e
  ·exact f2 k B e1 e
 have hsep: ∀q B0,Sx.upB tb [(nm,none)] q=some B0-> ∀o∈ov,(ρ q).a=some ⟨o.b,0,none⟩->o∈rest:=fun q B0 e o ho hbq=>by
  simp only[Sx.upB] at e;split at e
  ·cases e
  ·rename_i hqn
   refine h6 o ho fun o' ho' he=>?_;exact r.dj nm q _ _ (s2 _ _ hb) e (Ne.symm hqn) o'.b (g1.blk ho') (by rw[hbq,he])
 rw[aH.1 hr] at rl';have r3:=r2.new' (x:=z) (B':= .b ty0 s dso lo) (os:=B') (ov':=B'++rest) (f:= .rw d) (y:= .slice z.a z.n z.c) hf2 hG.le rl'.h ⟨vs',by simpa using k1',k2,k3,e2⟩ (fun o ho=>bM _ ho)
  (fun q B0 hq e o ho hbq=>⟨cJ _ (hsep q B0 e o ho hbq),fun hc=>by
   have hx: ∃o1∈B',o1.b=o.b:=by
    rcases k1' with⟨_,h,_⟩|⟨b0,rest0,lo0,h,hB,_⟩
    ·rw[show z=_ from h] at hc;cases hc
    ·rw[show z=_ from h] at hc;cases hc;exact⟨⟨_,aC vs'++rest0,_,lo0⟩,by rw[hB];exact aQ,J⟩
   obtain⟨o1,ho1,he1⟩:=hx;exact hdis o1 ho1 o (hsep q B0 e o ho hbq) he1⟩) (by simp[cb]) (kG rl')
 exact hk.run _ G' _ a' w' r3
def cq[fu:Fu]{f:FuncId}{nm d:Nat}{l:List (Option DV)}{ty:TypeId}{s:Nat}{dsi dso:List DV}{lo:Bool}(dso':List DV)(ha:TW fr own cf=some ⟨f,nm,l,ty,s,dsi,lo,d⟩)(hF:PB GB prog f (ij l) s ty dsi (fun w=> .v (.slice w.a w.n w.c)) dso)(he:dso=dso')
  (hgo:cI tt n fu.n fr own cf (.rw d) [(nm,none),(d,some (.b ty s dso' lo))] [d]=⟨vc,fr',own',cf'⟩)(k:aj prog GB C n Q0 fr' own' cf')
  (hv:ah vc:=by first|exact trivial|(simp only[ah];kernel_rfl)|(simp only[ah];omega)|(simp only[ah,aJ,aN,aU];omega)):aj prog GB C n Q0 fr own cf:=by
 subst he;unfold TW at ha;split at ha<;>try (cases ha;done)
 rename_i hh;split at ha<;>try (cases ha;done)
 rename_i h1;split at ha<;>try (cases ha;done)
 rename_i h2;rw[cond_eq_ite] at ha;split at ha<;>cases ha;rename_i h3;exact us hh (Zr (by cases hq:Nat.beq nm d with|false=>rfl|true=>exact absurd hq h3) h1 h2 hF) hgo hv k
def Lc(C:aD)(s:Nat)(ty:TypeId)(dso:List DV):Ending->World->Prop:=sd C (fun v own' G'=> ∃w',Is G' (.v (.slice w'.a w'.n w'.c)) v/\du G' ⟨w',s,ty,dso,false⟩ own')
def xb[fu:Fu]{f:FuncId}{fb:Func}{c:Code}{k s:Nat}{l:List (Option DV)}{dsi dso:List DV}{ty:TypeId}(hf:prog.funcs[f]? =some fb)(hb:fb.body=some c)(hn:(fb.name== "runtime.NumGoroutine")=false)(hm:fb.ntmps=k)(hlen:Nat.ble l.length k=true)
  (hgo:go tt k fu.n [] (An 0 l) [(NM,some (.b ty s dsi false))] (.code c [])=⟨vc,fr,own,cf⟩)(h: ∀C,aj prog GB C k (gv C prog fb (Lc C s ty dso)) fr own cf)
  (hv:ah vc:=by first|exact trivial|(simp only[ah];kernel_rfl)|(simp only[ah];omega)|(simp only[ah,aJ,aN,aU];omega)):PB GB prog f (ij l) s ty dsi (fun w=> .v (.slice w.a w.n w.c)) dso:=by
 intro G w vs B hg hB hvs;refine je.introR hf hb hn hm (by rw[hvs.len,Lq];exact hlen) fun C _ hmb hrd hfx=>?_;intro a wd rl;refine z7 hrd ?_;have h1:=f5 (GB:=GB) (C:=C) (Q0:=gv C prog fb (Lc C s ty dso)) hgo hv (h C);refine h1.run (fun _=>w) G (Sx.asB B) a wd ⟨hg,rl.h,rl.sz,rl.df,fun k f e=>?_,fun nm B' e=>?_,fun nm nm' B' B2 e e' hne=>?_,fun nm p _ _ e=>by rw[hfx] at e;cases e⟩
 ·obtain⟨y,⟨j,hj,hy⟩,h2⟩:=Lk (ρ:=fun _=>w) (w:=w) rfl 0 hvs k f e
  refine⟨y,rl.fr k y ?_,h2⟩;rw[hj];exact y4 vs 0 j y hy
 ·rw[mr] at e
  split at e
  ·cases e;exact⟨Sx.asB B,hB.asB,fun o ho=>ho⟩
  ·cases e
 ·rw[mr] at e e'
  split at e<;>split at e'
  ·rename_i h2 h3;exact absurd (h2.trans h3.symm) hne
  ·cases e'
  ·cases e
  ·cases e
def tf{fb:Func}{t d s:Nat}{ty:TypeId}{ds dso:List DV}(hr:fb.results.toList=[.tmp t])(hl:bg fr t=some (.rw d))(hw:bi own d=some (.b ty s ds false))(ed:ds=dso):
  aj prog GB C n (gv C prog fb (Lc C s ty dso)) fr own (.ex .ret []):=by
 subst ed;refine⟨fun ρ G ov a w r=>?_⟩;obtain⟨B,g1,g2⟩:=r.bx _ _ hw;have hB:du G ⟨ρ d,s,ty,ds,false⟩ B:=g1;obtain⟨rest,hp⟩:=ax5 hB g2;obtain⟨y,hy,hy'⟩:=r.ev (x:= .tmp t) (f:= .rw d) hl
 cases (show y=_ from hy')
 exact DB (C:=C) (n:=n) (fr:=cG a) (own:=ov) (G:=G) (vs:=[.slice (ρ d).a (ρ d).n (ρ d).c]) (by rw[hr];exact .tmp hy .nil) (B++rest) B hp (List.sublist_append_left _ _) ⟨ρ d,aH.2 J,hB⟩ a w ⟨r.h,r.sz,c9 a,r.df⟩
def Bm(lk:LK):List Operand->Option (List (Option DV))
 |[]=>none
 |[x]=>match aO lk x with
  |some .nl=>some [none]
  |_=>none
 |x::t=>match aO lk x,Bm lk t with
  |some f,some l=>match lh f with
   |some d=>some (some d::l)
   |none=>none
  |_,_=>none
def Iv(lk:LK)(fo:Operand)(args:Array Operand):Option (FuncId×List (Option DV)):=match aO lk fo with
 |some (.d (.v (.func (.func f) ⟨[]⟩ ⟨[]⟩)))=>match Bm lk args.toList with
  |some l=>some (f,l)
  |_=>none
 |_=>none
def P3{lk:LK}{bk:BM}{ρ:NE}{G:Gh}{ov:List ak}{a:Act}{w:World}(r:bG GB C n lk bk ρ G ov a w): ∀{x:List Operand} {l:List (Option DV)},Bm lk x=some l-> ∃y,fI (cG a) x=some y/\IsLs G (ij l ⟨none,0,0⟩) y
 |[],l,e=>by cases e
 |[x],l,e=>by
  simp only[Bm] at e;split at e<;>cases e;rename_i h1;obtain⟨y,h3,h4⟩:=r.ev h1
  cases (show y=_ from h4)
  exact⟨[Value.slice none 0 0],by simp only[fI,h3], .cons ((aH (G:=G)).2 J) .nil⟩
 |x::x2::t,l,e=>by
  simp only[Bm] at e;split at e
  ·rename_i f l' h1 h2
   cases hd:lh f with
   |none=>rw[hd] at e;cases e
   |some d=>
   rw[hd] at e;cases e;obtain⟨y,h3,h4⟩:=r.ev h1;obtain⟨ys,h5,h6⟩:=P3 r (x:=x2::t) (by simpa only[Bm] using h2);exact⟨y::ys,by simp only[fI,h3] at h5⊢;rw[h5], .cons (oy h4 hd) h6⟩
  ·cases e
def Vf{lk:LK}{bk:BM}{fo:Operand}{args:Array Operand}{tys:Array TypeId}{f:FuncId}{d:Nat}{l:List (Option DV)}{s:Nat}{ty ty0:TypeId}{pos:String}{af:Array Edge}{gd:Option (Nat×Bool)}{dso:List DV}
  (ha:Iv lk fo args=some (f,l))(hF:PB GB prog f (ij l) s ty0 [] (fun w=> .v (.slice w.a w.n w.c)) dso):b8 prog GB C n lk bk ⟨some d, .call ⟨.value fo,args,tys⟩,ty,pos,af,gd⟩ (.rw d) [(d,some (.b ty0 s dso true))] [d]:=by
 intro hd tl tb K' s1 s2 hf hk;refine⟨fun ρ G ov a w r Q=>?_⟩;have r1:=r.mono s1 s2;unfold Iv at ha;split at ha<;>try (cases ha;done)
 rename_i h1;split at ha<;>cases ha;rename_i h2;obtain⟨y,hy,hy'⟩:=r1.ev h1;rw[(aH (G:=G)).1 hy'] at hy;obtain⟨vs,h7,h8⟩:=P3 r1 h2;refine BC (M:=[]) (rest:=ov) hy h7 (List.Perm.refl _) (hF G ⟨none,0,0⟩ vs [] r.gb ⟨[], .nil _ _, .nil,by simp,fun h=>by cases h⟩ h8) hd (fun v own1 G' hG hK a' w' rl=>?_) a w Q ⟨r.h,r.sz,c9 a,r.df⟩;obtain⟨z,hr,vs',k1,k2,k3,k4⟩:=hK;have k1':=k1.relo (jp []);have e2: ∀o∈own1.map (relo (jp [])),o.lo=true:=fun o ho=>by
  obtain⟨o',_,rfl⟩:=bJ.1 ho;rfl
 generalize own1.map (relo (jp []))=B' at rl e2 k1';have rl':gu C n (Sx.put (cG a) (some d) v) (B'++ov) G' a' w':=rl;have hdis:=(kZ.1 rl'.h.nd).2.2;rw[aH.1 hr] at rl';have r3:=r.new (x:=z) (B':= .b ty0 s dso true) (os:=B') (ov':=B'++ov) (f:= .rw d) (y:= .slice z.a z.n z.c) hf hG.le rl'.h ⟨vs',by simpa using k1',k2,k3,fun _=>e2⟩ (fun o ho=>bM _ ho) (fun o ho=>cJ _ ho)
  (fun o ho hc=>by
   have hx: ∃o1∈B',o1.b=o.b:=by
    rcases k1' with⟨_,h,_⟩|⟨b0,rest0,lo0,h,hB,_⟩
    ·rw[show z=_ from h] at hc;cases hc
    ·rw[show z=_ from h] at hc;cases hc;exact⟨⟨_,aC vs'++rest0,_,lo0⟩,by rw[hB];exact aQ,J⟩
   obtain⟨o1,ho1,he1⟩:=hx;exact hdis o1 ho1 o ho he1) (by simp[cb]) (kG rl')
 exact hk.run _ G' _ a' w' r3
def PY(fr:aA)(cf:Cf):Option (FuncId×List (Option DV)×Nat):=match ce fr cf with
 |some ⟨some d, .call ⟨.value fo,args,_⟩,_,_,_,_⟩=>match Iv (bE fr cf) fo args with
  |some (f,l)=>some (f,l,d)
  |none=>none
 |_=>none
def cqn[fu:Fu]{f:FuncId}{d:Nat}{l:List (Option DV)}{ty:TypeId}{s:Nat}{dso:List DV}(dso':List DV)(ha:PY fr cf=some (f,l,d))(hF:PB GB prog f (ij l) s ty [] (fun w=> .v (.slice w.a w.n w.c)) dso)(he:dso=dso')
  (hgo:cI tt n fu.n fr own cf (.rw d) [(d,some (.b ty s dso' true))] [d]=⟨vc,fr',own',cf'⟩)(k:aj prog GB C n Q0 fr' own' cf')
  (hv:ah vc:=by first|exact trivial|(simp only[ah];kernel_rfl)|(simp only[ah];omega)|(simp only[ah,aJ,aN,aU];omega)):aj prog GB C n Q0 fr own cf:=by
 subst he;unfold PY at ha;split at ha<;>try (cases ha;done)
 rename_i hh;split at ha<;>cases ha;rename_i h1;exact us hh (Vf h1 hF) hgo hv k
end
section
variable {P:Program} {T:TT} {GB:Gh} {C:aD} {n:Nat} {lk:LK} {bk:BM} {ρ:NE} {G:Gh} {ov:List ak} {a:Act} {w:World}
variable {dst:Option Nat} {t t' ty':TypeId} {pos:String} {af:Array Edge} {gd:Option (Nat×Bool)} {x y:Operand} {e s by_:Nat}
def axT{d nm:Nat}{i:TI}{z:DV}{ds ds2:List DV}[hT:cv P t e s by_][hN:kj P t'](hi:fg P e=some i)(hz:m9 i=some z)(hs:Nat.beq z.cells.length s=true)(hx:aO lk x=some (.rw nm))(hb:bk nm=some (.b e s ds false))(hy:qH lk bk s y=some ds2)(hk2:dH s ds2)
  (hby:Nat.blt 0 by_=true)(hbd:(ds.length+ds2.length)*by_<=140737488355328)(hnd:Nat.beq nm d=false){ds':List DV}(hds:ds++ds2=ds'):
  b8 P GB C n lk bk ⟨some d, .call ⟨.builtin .append, #[x,y], #[t,t']⟩,ty',pos,af,gd⟩ (.rw d) [(nm,none),(d,some (.b e s ds' false))] [d]:=by
 intro hd tl tb K s1 s2 hf hk;refine⟨fun ρ G ov a w r Q=>?_⟩;subst hds;have r1:=r.mono s1 s2;obtain⟨v,hz1,hz2,hz3⟩:=yh hi hz;have cz:=((hz2 G).cells hz3).1.len;replace hs:=aT hs;rw[mT] at hby
 have hne:nm≠d:=fun e=>by subst e;simp at hnd
 obtain⟨u,hx',hx2⟩:=r1.ev hx
 cases hx2
 obtain⟨B,hB0,hBo⟩:=r1.bx _ _ hb;have hB1:du G ⟨ρ nm,s,e,ds,false⟩ B:=hB0;clear hB0;obtain⟨vs,hB,hv,hvs,_⟩:=hB1;simp only[] at hB hv hvs;obtain⟨w2,us,hy',h2,h3,h4,h5,h6⟩:=Cx (P:=P) r1 hy hk2;have hus:(aC us).length=us.length*s:=ew us h4;have hbd':(vs.length+us.length)*by_<=140737488355328:=by rw[hv.len,h3.len];exact hbd
 have hall: ∀v∈vs++us,(aF v).length=s:=fun v hv=>by
  rcases bW.1 hv with hv|hv
  ·exact hvs v hv
  ·exact h4 v hv
 have rd:=r.dropB nm;have hf':kz [d] (some d) tl (Sx.upB tb [(nm,none)]):=fun m hm=>by
  obtain⟨g1,g2⟩:=hf m hm;refine⟨g1,fun k B' hk e=>g2 k B' hk ?_⟩;simp only[Sx.upB] at e;split at e
  ·cases e
  ·exact e
 have hbk: ∀m B',(Sx.upB tb [(nm,none)]) m=some B'->m≠nm/\tb m=some B':=fun m B' e=>by
  simp only[Sx.upB] at e;split at e
  ·cases e
  ·exact⟨by assumption,e⟩
 have hnew: ∀{z:SV} {ov':List ak} {B1:List ak} {a':Act} {w':World} {dz:List DV},du G ⟨z,s,e,dz,false⟩ B1->(∀o∈B1,o∈ov')->(∀m B',m≠d->(Sx.upB tb [(nm,none)]) m=some B'-> ∀o∈ov,(ρ m).a=some ⟨o.b,0,none⟩->o∈ov'/\z.a≠some ⟨o.b,0,none⟩)->
   SX GB C n (ey tl (some d) (.rw d)) (Sx.upB (Sx.upB tb [(nm,none)]) [(d,some (.b e s dz false))]) K->gu C n (Sx.put (cG a) (some d) (.slice z.a z.n z.c)) ov' G a' w'->K a' w':=fun hB1 hos hov hk1 rl=>
  hk1.run _ _ _ _ _ (rd.new' (f:= .rw d) (y:= .slice _ _ _) hf' (bD.refl _) rl.h (hB1.toBk (by simp)) hos hov (by show _=_;simp) (kG rl))
 have hfin: ∀(b:Nat) (lo1:Bool) (cap':Nat) (rest':List Value) (ov1:List ak) a' w',vs.length+us.length<=cap'->rest'.length+(vs.length+us.length)*s=cap'*s->(∀o∈ov,(ρ nm).a≠some ⟨o.b,0,none⟩->o∈ov1)->
   gu C n (put (cG a) (some d) (.slice (some ⟨b,0,none⟩) (vs.length+us.length) cap')) (⟨b,aC (vs++us)++rest',e,lo1⟩::ov1) G a' w'->K a' w':=by
  intro b lo1 cap' rest' ov1 a' w' hc hr ho1 rl;have hnd':=(bK.1 rl.h.nd).1;refine hnew (z:=⟨some ⟨b,0,none⟩,vs.length+us.length,cap'⟩) (B1:=[⟨b,aC (vs++us)++rest',e,lo1⟩]) ⟨vs++us, .inr ⟨b,rest',lo1,by simp,J,ew _ hall,?_,by simpa using hc⟩,hv.app h3,hall,fun h=>by cases h⟩
   (fun o ho=>by rw[aV.1 ho];exact aQ) (fun m B' hm e o ho hmo=>?_) hk rl
  ·rw[ew _ hall,aR]
   simp only[];omega
  ·obtain⟨h7,h8⟩:=hbk m B' e
   have ho2:=ho1 o ho fun hc=>r.dj m nm B' _ h8 (s2 _ _ hb) h7 _ hmo hc;exact⟨aZ _ ho2,fun e'=>by cases e';exact hnd' o ho2 J⟩
 rcases hB with⟨e1,e2,e3⟩|⟨b,rest,lo',k3,k4,k5,k6,k7⟩
 ·subst e1
  rw[e2] at hx';by_cases hne:us=[]
  ·subst hne
   have:ds2=[]:=bU (by rw[<-h3.len];rfl);subst this;rw[h2] at hy';refine Mk hx' hy' hd (fun a' w' rl=>?_) a w Q ⟨r.h,r.sz,c9 a,r.df⟩;refine hnew (z:=⟨none,0,0⟩) (B1:=[]) ⟨[], .inl ⟨J,J,J⟩,by simpa using hv,by simp,fun h=>by cases h⟩ (fun o ho=>by cases ho) (fun m B' hm e o ho hmo=>⟨ho,fun e'=>by cases e'⟩) hk rl
  ·have hup:0<us.length:=qU.2 hne
   rw[h2] at hy' h6;refine BS (z:=v) (xs:=[]) (ys:=aC us) hx' hy' vU h6 (by show(0:Nat)<0+us.length;omega) hby (by simpa using hbd') hd (fun b cap' hc a' w' rl=>?_) a w Q ⟨r.h,r.sz,c9 a,r.df⟩;exact hfin b true cap' (cP v (cap'-us.length)) ov a' w' (by simpa using hc) (by rw[nG,cz,hs,<-dQ];simp at hc⊢;congr 1;omega) (fun o ho _=>ho) (by simpa using rl)
 ·subst k4
  have ha:(ρ nm).a=some ⟨b,0,none⟩:=by rw[k3]
  have hn:(ρ nm).n=vs.length:=by rw[k3]
  rw[ha,hn] at hx';rw[h2] at hy' h6;obtain⟨ov1,o1,o2⟩:=jy.of_mem (hBo _ aQ);refine T4 (z:=v) (xs:=aC vs) (ys:=aC us) (rest:=rest) (own1:=ov1) hx' hy' o1 k5 k6 k7 h6 hus h5 hby hbd' (by rw[cz,hs]) hd (fun b' lo2 cap' rest' hc hr a' w' rl=>?_) a w Q ⟨r.h,r.sz,c9 a,r.df⟩;rw[<-nq] at rl;exact hfin b' lo2 cap' rest' ov1 a' w' hc hr (fun o ho hne=>o2 o ho fun e'=>hne (by rw[ha,e'])) rl
end
section
variable {GB:Gh} {C:aD} {n:Nat} {Q0:Exit->Act->World->Prop} {fr fr':aA} {own own':aI} {cf cf':Cf} {vc:List Prop}
def RU(fr:aA)(own:aI)(cf:Cf):Option (Nat×Nat×Nat×Nat×Nat×List DV×List DV):=match ce fr cf with
 |some ⟨some d, .call ⟨.builtin .append,⟨[x,y]⟩,⟨[t,t']⟩⟩,_,_,_,_⟩=>match dB tt t with
  |some ⟨.sl e s b,_,_,_⟩=>match dB tt t' with
   |some ⟨.sl _ _ _,_,_,_⟩=>match dB tt e with
    |some i=>match m9 i with
     |some z=>bif Nat.beq z.cells.length s&&Nat.blt 0 b then(match qH (bE fr cf) (gD fr own cf) s y with
      |some ds2=>match aO (bE fr cf) x with
       |some (.rw nm)=>match gD fr own cf nm with
        |some (.b e' s' ds false)=>bif (Nat.beq e' e&&Nat.beq s' s)&&!Nat.beq nm d then some (d,nm,e,s,b,ds,ds2) else none
        |_=>none
       |_=>none
      |none=>none) else none
     |none=>none
    |none=>none
   |_=>none
  |_=>none
 |_=>none
def VM[fu:Fu]{d nm:Nat}{e s b:Nat}{ds ds2:List DV}(ds':List DV)(h:RU fr own cf=some (d,nm,e,s,b,ds,ds2))(hds:ds++ds2=ds')(ho2:dH s ds2)(hgo:cI tt n fu.n fr own cf (.rw d) [(nm,none),(d,some (.b e s ds' false))] [d]=⟨vc,fr',own',cf'⟩)(k:aj prog GB C n Q0 fr' own' cf')
  (hbd:(ds.length+ds2.length)*b<=140737488355328:=by simp;omega)
  (hv:ah vc:=by first|exact trivial|(simp only[ah];kernel_rfl)|(simp only[ah];omega)|(simp only[ah,aJ,aN,aU];omega)):aj prog GB C n Q0 fr own cf:=by
 unfold RU at h;split at h<;>try (cases h;done)
 rename_i hh;split at h<;>try (cases h;done)
 rename_i hT;split at h<;>try (cases h;done)
 rename_i hT';split at h<;>try (cases h;done)
 rename_i hi;split at h<;>try (cases h;done)
 rename_i hz;rw[cond_eq_ite] at h;split at h<;>try (cases h;done)
 rename_i hc;simp only[aL] at hc;split at h<;>try (cases h;done)
 rename_i hy;have:=ja (d9 _ _ hT) J;have hN:kj prog _:=⟨_,(ja (d9 _ _ hT') J).un⟩;split at h<;>try (cases h;done)
 rename_i hx;split at h<;>try (cases h;done)
 rename_i hb;rw[cond_eq_ite] at h;split at h<;>cases h;rename_i hq;simp only[aL,iK] at hq
 cases aT hq.1.1
 cases aT hq.1.2
 exact us hh (axT (d9 _ _ hi) hz hc.1 hx hb hy ho2 hc.2 hbd hq.2 hds) hgo hv k
end
def PW(GB:Gh)(P:Program)(f:FuncId)(l:List (Option DV))(s:Nat)(ty:TypeId)(dsi:List DV)(rv:DV)(dso:List DV):Prop:=
 ∀G w vs B,bD GB G->du G ⟨w,s,ty,dsi,false⟩ B->IsLs G (ij l w) vs->je P f vs B G (fun v own' G'=>Is G' rv v/\du G' ⟨w,s,ty,dso,false⟩ own')
def Wv{B:List ak}{G:Gh}{w:SV}{s:Nat}{ty:TypeId}{ds:List DV}{lo:Bool}{ov:List ak}(h:du G ⟨w,s,ty,ds,lo⟩ B)(g: ∀o∈B,o∈ov): ∃rest,ov.Perm (B++rest)/\ ∀o∈ov,(∀o'∈B,o.b≠o'.b)->o∈rest:=by
 rcases h with⟨vs',⟨_,_,e⟩|⟨b0,r0,lo0,_,e,_⟩,_⟩
 ·rw[e];exact⟨ov,List.Perm.refl _,fun o ho _=>ho⟩
 ·rw[e] at g⊢
  obtain⟨l1,l2,e2⟩:=mJ (g _ aQ);rw[e2];refine⟨l1++l2,oR,fun o ho hno=>?_⟩;rcases bW.1 ho with ho|ho
  ·exact bM _ ho
  ·rcases aW.1 ho with rfl|ho
   ·exact absurd J (hno _ aQ)
   ·exact cJ _ ho
section
variable {GB:Gh} {C:aD} {n:Nat} {Q0:Exit->Act->World->Prop} {fr fr':aA} {own own':aI} {cf cf':Cf} {vc:List Prop} {lk:LK} {bk:BM}
variable {dst:Option Nat} {t t' ty':TypeId} {pos:String} {af:Array Edge} {gd:Option (Nat×Bool)} {x y:Operand}
def ayA{fo:Operand}{args:Array Operand}{tys:Array TypeId}{f:FuncId}{nm:Nat}{l:List (Option DV)}{s:Nat}{ty0:TypeId}{dsi dso:List DV}{lo:Bool}{rv:DV}
  (ha:Ad lk fo args=some (f,nm,l))(hb:bk nm=some (.b ty0 s dsi lo))(hF:PW GB prog f l s ty0 dsi rv dso):b8 prog GB C n lk bk ⟨dst, .call ⟨.value fo,args,tys⟩,ty',pos,af,gd⟩ (.d rv) [(nm,some (.b ty0 s dso lo))] []:=by
 intro hd tl tb K' s1 s2 hf hk;refine⟨fun ρ G ov a w r Q=>?_⟩;have r1:=r.mono s1 s2;unfold Ad at ha;split at ha<;>try (cases ha;done)
 rename_i h1;split at ha<;>cases ha;rename_i h2;obtain⟨y,hy,hy'⟩:=r1.ev h1;rw[(aH (G:=G)).1 hy'] at hy;obtain⟨B,g1,g2⟩:=r1.bx _ _ hb;have hB:du G ⟨ρ nm,s,ty0,dsi,lo⟩ B:=g1;obtain⟨vs,h7,h8⟩:=GC r1 (z:=ρ nm) h2 (fun nm e=>by cases e;rfl);obtain⟨rest,h5,h6⟩:=Wv hB g2;refine BC (M:=B) (rest:=rest) hy h7 h5 (hF G (ρ nm) vs B r.gb hB.weak h8) hd (fun v own1 G' hG hK a' w' rl=>?_) a w Q ⟨r.h,r.sz,c9 a,r.df⟩;obtain⟨hr,vs',k1,k2,k3,k4⟩:=hK;have k1':=k1.relo (jp B);have e2:lo=true-> ∀o∈own1.map (relo (jp B)),o.lo=true:=fun hl o ho=>by
  obtain⟨o',_,rfl⟩:=bJ.1 ho;obtain⟨_,_,_,_,hlo⟩:=hB;exact DE _ (hlo hl)
 generalize own1.map (relo (jp B))=B' at rl e2 k1';have r2:=r.upB (G':=G') (ov':=B'++rest) (w':=w') (B':= .b ty0 s dso lo) (os:=B') hG.le rl.h ⟨vs',by simpa using k1',k2,k3,e2⟩ (fun o ho=>bM _ ho)
  (fun o ho hne=>cJ _ (h6 o ho fun o' ho' he=>hne (by rw[g1.blk ho',he]))) ⟨_,s2 _ _ hb⟩
 exact hk.run _ G' _ a' w' (r2.put hr (kG rl))
def Q7(fr:aA)(own:aI)(cf:Cf):Option (FuncId×Nat×List (Option DV)×TypeId×Nat×List DV×Bool):=match ce fr cf with
 |some ⟨_, .call ⟨.value fo,args,_⟩,_,_,_,_⟩=>match Ad (bE fr cf) fo args with
  |some (f,nm,l)=>match gD fr own cf nm with
   |some (.b ty s ds lo)=>some (f,nm,l,ty,s,ds,lo)
   |_=>none
  |none=>none
 |_=>none
def cw[fu:Fu]{f:FuncId}{nm:Nat}{l:List (Option DV)}{ty:TypeId}{s:Nat}{dsi dso:List DV}{lo:Bool}{rv:DV}(dso':List DV)(ha:Q7 fr own cf=some (f,nm,l,ty,s,dsi,lo))(hF:PW GB prog f l s ty dsi rv dso)(he:dso=dso')
  (hgo:cI tt n fu.n fr own cf (.d rv) [(nm,some (.b ty s dso' lo))] []=⟨vc,fr',own',cf'⟩)(k:aj prog GB C n Q0 fr' own' cf')
  (hv:ah vc:=by first|exact trivial|(simp only[ah];kernel_rfl)|(simp only[ah];omega)|(simp only[ah,aJ,aN,aU];omega)):aj prog GB C n Q0 fr own cf:=by
 subst he;unfold Q7 at ha;split at ha<;>try (cases ha;done)
 rename_i hh;split at ha<;>try (cases ha;done)
 rename_i h1;split at ha<;>cases ha;rename_i h2;exact us hh (ayA h1 h2 hF) hgo hv k
def Mz{G:Gh}{w:SV}{s:Nat}{ty:TypeId}{ds:List DV}{lo:Bool}{B:List ak}(h:du G ⟨w,s,ty,ds,lo⟩ B)(hn:0<ds.length): ∃b,w=⟨some ⟨b,0,none⟩,ds.length,w.c⟩/\ds.length<=w.c:=by
 obtain⟨vs,h1,h2,_⟩:=h;rcases h1 with⟨e1,_,_⟩|⟨b,rest,lo',e1,_,_,_,h5⟩
 ·subst e1;have:=h2.len;simp at this;omega
 ·exact⟨b,by rw[<-h2.len];exact e1,by rw[<-h2.len];exact h5⟩
def Vu{P:Program}{e s by_:Nat}[hT:cv P t e s by_]{nm:Nat}{k:IntKind}{j m:Nat}{ty:TypeId}{ds:List DV}{lo:Bool}(hx:aO lk x=some (.rw nm))(hb:bk nm=some (.b ty s ds lo))(hy:aO lk y=some (.d (.v (.int k j))))(hm:j+m=ds.length)(h1:0<m):
  b8 P GB C n lk bk ⟨dst, .slice t x (some y) none none,ty',pos,af,gd⟩ (.rs nm s j m) [] []:= .yd fun ρ G ov a w r=>by
 obtain⟨u,hu,hu2⟩:=r.ev hx
 cases (show u=_ from hu2)
 obtain⟨v,hv,hv2⟩:=r.ev hy;rw[dl] at hv2;subst hv2;obtain⟨B,hB,_⟩:=r.row (y:= .nilFunc) hb;obtain⟨b,hw,hc⟩:=Mz hB (by omega);rw[hw] at hu;have hs:=D0 (P:=P) (C:=C) (own:=ov) (G:=G) (dst:=dst) (ty':=ty') (pos:=pos) (af:=af) (gd:=gd) (t:=t) hu hv (by omega) (by show(j:Int)<=(ds.length:Nat);omega);have hne:(ρ nm).c≠j:=by omega
 refine⟨_,⟨b,(ρ nm).c-j,by rw[hw],?_,?_⟩,hs⟩
 ·unfold nn
  rw[bZ,if_neg hne,jM,pB,fQ,show ds.length-j=m by omega]
 ·omega
def Xo{P:Program}{e s by_:Nat}[hT:cv P t e s by_]{nm sz off m:Nat}(hx:aO lk x=some (.rs nm sz off m)):b8 P GB C n lk bk ⟨dst, .call ⟨.builtin .len, #[x], #[t]⟩,ty',pos,af,gd⟩ (.d (.v (.int .i64 (m:Nat)))) [] []:= .x1 hx fun ρ G ov a w y _ r h1 h2=>by
 obtain⟨b,c,_,rfl,_⟩:=h2;exact⟨_,dl.2 J,o8 h1⟩
def aD3{P:Program}{e s by_:Nat}[hT:cv P t e s by_]{nm off m j:Nat}{k:IntKind}{i:Int}(hx:aO lk x=some (.rs nm s off m))(hy:aO lk y=some (.d (.v (.int k i))))(h0:0<=i)(h1:i<(m:Nat))(hj:(off:Int)+i=(j:Nat)):
  b8 P GB C n lk bk ⟨dst, .indexAddr t x y,ty',pos,af,gd⟩ (.be nm s j 0) [] []:= .yd fun ρ G ov a w r=>by
 obtain⟨u,hu,hu2⟩:=r.ev hx;obtain⟨b,c,hb,rfl,hc⟩:=hu2;obtain⟨v,hv,hv2⟩:=r.ev hy;rw[dl] at hv2;subst hv2;have:=Cd (P:=P) (C:=C) (own:=ov) (G:=G) (dst:=dst) (ty':=ty') (pos:=pos) (af:=af) (gd:=gd) (t:=t) hu hv h0 h1;obtain rfl:off+i.toNat=j:=by omega
 exact⟨_,⟨b,hb,J⟩,by rw[fJ,dQ];exact this⟩
def ON(fr:aA)(own:aI)(cf:Cf):Option (Nat×Nat×List DV×Int):=match ce fr cf with
 |some ⟨_, .slice t x (some y) none none,_,_,_,_⟩=>match dB tt t with
  |some ⟨.sl _ s' _,_,_,_⟩=>match aO (bE fr cf) x with
   |some (.rw nm)=>match gD fr own cf nm with
    |some (.b _ s ds _)=>match aO (bE fr cf) y with
     |some (.d (.v (.int _ i)))=>bif Nat.beq s s' then some (nm,s,ds,i) else none
     |_=>none
    |_=>none
   |_=>none
  |_=>none
 |_=>none
def Qy[fu:Fu]{nm s:Nat}{ds:List DV}{i:Int}(k m:Nat)(h:ON fr own cf=some (nm,s,ds,i))(hi:i=(k:Nat))(hm:k+m=ds.length)(hp:0<m)(hgo:cI tt n fu.n fr own cf (.rs nm s k m) [] []=⟨vc,fr',own',cf'⟩)(kk:aj prog GB C n Q0 fr' own' cf')
  (hv:ah vc:=by first|exact trivial|(simp only[ah];kernel_rfl)|(simp only[ah];omega)|(simp only[ah,aJ,aN,aU];omega)):aj prog GB C n Q0 fr own cf:=by
 subst hi;unfold ON at h;split at h<;>try (cases h;done)
 rename_i hh;split at h<;>try (cases h;done)
 rename_i hT;split at h<;>try (cases h;done)
 rename_i hx;split at h<;>try (cases h;done)
 rename_i hb;split at h<;>try (cases h;done)
 rename_i hy;rw[cond_eq_ite] at h;split at h<;>cases h;rename_i hq
 cases aT hq
 have:=ja (d9 _ _ hT) J;exact us hh (Vu hx hb hy hm hp) hgo hv kk
def OW(fr:aA)(cf:Cf):Option Nat:=match ce fr cf with
 |some ⟨_, .call ⟨.builtin .len,⟨[x]⟩,⟨[t]⟩⟩,_,_,_,_⟩=>match dB tt t with
  |some ⟨.sl _ _ _,_,_,_⟩=>match aO (bE fr cf) x with
   |some (.rs _ _ _ m)=>some m
   |_=>none
  |_=>none
 |_=>none
def rsn[fu:Fu]{m:Nat}(h:OW fr cf=some m)(hgo:cI tt n fu.n fr own cf (.d (.v (.int .i64 (m:Nat)))) [] []=⟨vc,fr',own',cf'⟩)(kk:aj prog GB C n Q0 fr' own' cf')
  (hv:ah vc:=by first|exact trivial|(simp only[ah];kernel_rfl)|(simp only[ah];omega)|(simp only[ah,aJ,aN,aU];omega)):aj prog GB C n Q0 fr own cf:=by
 unfold OW at h;split at h<;>try (cases h;done)
 rename_i hh;split at h<;>try (cases h;done)
 rename_i hT;split at h<;>cases h;rename_i hx;have:=ja (d9 _ _ hT) J;exact us hh (Xo hx) hgo hv kk
def O'(fr:aA)(cf:Cf):Option (Nat×Nat×Nat×Nat×Int):=match ce fr cf with
 |some ⟨_, .indexAddr t x y,_,_,_,_⟩=>match dB tt t with
  |some ⟨.sl _ s' _,_,_,_⟩=>match aO (bE fr cf) x with
   |some (.rs nm s off m)=>match aO (bE fr cf) y with
    |some (.d (.v (.int _ i)))=>bif Nat.beq s s' then some (nm,s,off,m,i) else none
    |_=>none
   |_=>none
  |_=>none
 |_=>none
def K2[fu:Fu]{nm s off m:Nat}{i:Int}(k:Nat)(h:O' fr cf=some (nm,s,off,m,i))(hk:(off:Int)+i=(k:Nat))(h0:0<=i)(h1:i<(m:Nat))(hgo:cI tt n fu.n fr own cf (.be nm s k 0) [] []=⟨vc,fr',own',cf'⟩)(kk:aj prog GB C n Q0 fr' own' cf')
  (hv:ah vc:=by first|exact trivial|(simp only[ah];kernel_rfl)|(simp only[ah];omega)|(simp only[ah,aJ,aN,aU];omega)):aj prog GB C n Q0 fr own cf:=by
 unfold O' at h;split at h<;>try (cases h;done)
 rename_i hh;split at h<;>try (cases h;done)
 rename_i hT;split at h<;>try (cases h;done)
 rename_i hx;split at h<;>try (cases h;done)
 rename_i hy;rw[cond_eq_ite] at h;split at h<;>cases h;rename_i hq
 cases aT hq
 have:=ja (d9 _ _ hT) J;exact us hh (aD3 hx hy h0 h1 hk) hgo hv kk
def iF.cut{s:Nat}{ty:TypeId}{z:SV}{vs:List Value}{B:List ak}(h:iF s ty z vs B)(hs: ∀v∈vs,(aF v).length=s){k:Nat}(hk:k<=vs.length)(hne:0<vs.length):iF s ty ⟨z.a,k,z.c⟩ (vs.take k) B:=by
 rcases h with⟨h1,_,_⟩|⟨b,rest,lo,h1,h2,h3,h4,h5⟩
 ·subst h1;simp at hne
 ·have e:aC vs=aC (vs.take k)++aC (vs.drop k):=by rw[<-nq,lM]
  have hl:=ew (vs.take k) fun v hv=>hs v (fL hv);have hm:(vs.take k).length=k:=by rw[cK];omega
  refine .inr ⟨b,aC (vs.drop k)++rest,lo,by rw[hm,h1],by rw[h2,e,dX],hl,?_,by rw[hm];show k<=z.c;omega⟩;show _=z.c*s;rw[<-h4,e,aR,aR];omega
def aEQ{P:Program}{e s by_:Nat}[hT:cv P t e s by_]{nm d:Nat}{k:IntKind}{j:Nat}{ty:TypeId}{ds:List DV}{lo:Bool}(hne:Nat.beq nm d=false)(hx:aO lk x=some (.rw nm))(hb:bk nm=some (.b ty s ds lo))(hy:aO lk y=some (.d (.v (.int k j))))(h1:j<ds.length):
  b8 P GB C n lk bk ⟨some d, .slice t x none (some y) none,ty',pos,af,gd⟩ (.rw d) [(nm,none),(d,some (.b ty s (ds.take j) lo))] [d]:=by
 intro hd tl tb K s1 s2 hf hk;refine⟨fun ρ G ov a w r Q=>?_⟩;have r1:=r.mono s1 s2;obtain⟨u,hu,hu2⟩:=r1.ev hx
 cases (show u=_ from hu2)
 obtain⟨v,hv,hv2⟩:=r1.ev hy;rw[dl] at hv2;subst hv2;obtain⟨B,hB0,hBo⟩:=r1.bx _ _ hb;have hB:du G ⟨ρ nm,s,ty,ds,lo⟩ B:=hB0;obtain⟨b,hw,hc⟩:=Mz hB (by omega);obtain⟨vs,g1,g2,g3,g4⟩:=hB;have hvl:=g2.len;have hcut:du G ⟨⟨(ρ nm).a,j,(ρ nm).c⟩,s,ty,ds.take j,lo⟩ B:=⟨vs.take j,iF.cut g1 g3 (by simp only at hvl⊢;omega) (by simp only at hvl⊢;omega),g2.take _,fun v hv=>g3 v (fL hv),g4⟩;have hs:=Bo (P:=P) (C:=C) (own:=ov) (G:=G) (dst:=some d) (ty':=ty') (pos:=pos) (af:=af) (gd:=gd) (t:=t) hu hv (by omega) (by omega);have hnn:nm≠d:=fun e=>by subst e;rw[pX] at hne;cases hne
 have r2:=r.dropB nm;have hf2:kz [d] (some d) tl (Sx.upB tb [(nm,none)]):=fun q hq=>by
  obtain⟨f1,f2⟩:=hf q hq;refine⟨f1,fun k B e1 e=>?_⟩;simp only[Sx.upB] at e;split at e
  ·cases e
  ·exact f2 k B e1 e
 have r3:=r2.new' (x:=⟨(ρ nm).a,j,(ρ nm).c⟩) (B':= .b ty s (ds.take j) lo) (os:=B) (ov':=ov) (f:= .rw d) (y:= .slice (ρ nm).a j (ρ nm).c) hf2 (bD.refl _) r.h (hcut.toBk (by simp)) hBo
  (fun m B' hm e o ho hmo=>⟨ho,fun hc=>by
   simp only[Sx.upB] at e;split at e
   ·cases e
   ·rename_i hmn
    exact r.dj m nm B' _ e (s2 _ _ hb) hmn _ hmo hc⟩) (by simp[cb]) (r.putA (.slice (ρ nm).a j (ρ nm).c) hd)
 exact ke (hs a w (c9 a) r.h) (hk.run _ G _ _ w r3)
def Qs(fr:aA)(own:aI)(cf:Cf):Option (Nat×Nat×TypeId×Nat×List DV×Bool×Int):=match ce fr cf with
 |some ⟨some d, .slice t x none (some y) none,_,_,_,_⟩=>match dB tt t with
  |some ⟨.sl _ s' _,_,_,_⟩=>match aO (bE fr cf) x with
   |some (.rw nm)=>match gD fr own cf nm with
    |some (.b ty s ds lo)=>match aO (bE fr cf) y with
     |some (.d (.v (.int _ i)))=>bif Nat.beq s s'&&!Nat.beq nm d then some (d,nm,ty,s,ds,lo,i) else none
     |_=>none
    |_=>none
   |_=>none
  |_=>none
 |_=>none
def rct[fu:Fu]{d nm s:Nat}{ty:TypeId}{ds:List DV}{lo:Bool}{i:Int}(ds':List DV)(k:Nat)(h:Qs fr own cf=some (d,nm,ty,s,ds,lo,i))(hi:i=(k:Nat))(hl:k<ds.length)(hd:ds.take k=ds')(hgo:cI tt n fu.n fr own cf (.rw d) [(nm,none),(d,some (.b ty s ds' lo))] [d]=⟨vc,fr',own',cf'⟩)(kk:aj prog GB C n Q0 fr' own' cf')
  (hv:ah vc:=by first|exact trivial|(simp only[ah];kernel_rfl)|(simp only[ah];omega)|(simp only[ah,aJ,aN,aU];omega)):aj prog GB C n Q0 fr own cf:=by
 subst hi hd;unfold Qs at h;split at h<;>try (cases h;done)
 rename_i hh;split at h<;>try (cases h;done)
 rename_i hT;split at h<;>try (cases h;done)
 rename_i hx;split at h<;>try (cases h;done)
 rename_i hb;split at h<;>try (cases h;done)
 rename_i hy;rw[cond_eq_ite] at h;split at h<;>cases h;rename_i hq;simp only[aL,iK] at hq
 cases aT hq.1
 have:=ja (d9 _ _ hT) J;exact us hh (aEQ hq.2 hx hb hy hl) hgo hv kk
def O1(v:Value)(m:Nat):aC (List.replicate m v)=cP v m:=by
 unfold cP
 induction m with
 |zero=>rfl
 |succ m ih=>rw[jQ,jQ,lZ,<-ih];rfl
def M'{G:Gh}{z:DV}{v:Value}(h:Is G z v): ∀m:Nat,IsLs G (List.replicate m z) (List.replicate m v)
 |0=> .nil
 |m+1=>by rw[jQ,jQ];exact .cons h (M' h m)
def aDw{P:Program}{e s by_:Nat}[hT:cv P t e s by_]{i:TI}{z:DV}(hi:fg P e=some i)(hz:m9 i=some z)(hzs:z.cells.length=s){nm off m:Nat}{ty:TypeId}{ds:List DV}{lo:Bool}(hx:aO lk x=some (.rs nm s off (m+1)))(hb:bk nm=some (.b ty s ds lo))(hm:off+(m+1)=ds.length):
  b8 P GB C n lk bk ⟨dst, .call ⟨.builtin .clear, #[x], #[t]⟩,ty',pos,af,gd⟩ (.d (.tp [])) [(nm,some (.b ty s (ds.take off++List.replicate (m+1) z) lo))] []:=by
 intro hd tl tb K s1 s2 hf hk;refine⟨fun ρ G ov a w r Q=>?_⟩;have r1:=r.mono s1 s2;obtain⟨v,hz1,hz2,hz3⟩:=yh hi hz;have cz:=((hz2 G).cells hz3).1.len;have cf:=((hz2 G).cells hz3).2;rw[hzs] at cz;obtain⟨u,hu,b,c,hbq,rfl,hc⟩:=r1.ev hx;obtain⟨B,hB0,hBo⟩:=r1.bx _ _ hb;have hB:du G ⟨ρ nm,s,ty,ds,lo⟩ B:=hB0;obtain⟨vs,g1,g2,g3,g4⟩:=hB;simp only at g1 g2 g3 g4;have hvl:=g2.len;rcases g1 with⟨e1,e2,_⟩|⟨b',rest,lo',k1,k2,k3,k4,k5⟩
 ·subst e1;simp at hvl;omega
 ·have hbe:b'=b:=by rw[k1] at hbq;cases hbq;rfl
  subst hbe;subst k2;have hmem:=hBo _ aQ;have hblk:=(r.h.hown _ hmem).1;simp only at hblk;have hzl:(cP v (m+1)).length=(m+1)*s:=by rw[nG,cz]
  have hls:vs.length*s=off*s+(m+1)*s:=by rw[<-dQ];congr 1;omega
  have hst:=As (P:=P) (cP v (m+1)) w (off*s) 0 (aC vs++rest) (fun q hq=>by
   unfold cP at hq;obtain⟨l,hl,hql⟩:=List.mem_flatten.1 hq;rw[mV hl] at hql;exact cf q hql) hblk (by rw[hzl,aR];omega)
  rw[fJ] at hst;have htk:=ew (vs.take off) fun q hq=>g3 q (fL hq);have hov:cE (aC vs++rest) (off*s) (cP v (m+1))=aC (vs.take off++List.replicate (m+1) v)++rest:=by
   rw[pD _ _ _ (by rw[hzl,aR];omega),nq,O1];have e1:(aC vs++rest).take (off*s)=aC (vs.take off):=by
    rw[fV (by omega),E9 vs off g3 (by omega)]
   rw[e1,hzl,<-hls,jR (by omega),iQ (by omega),cY]
  have hrun:(Builtin.clear_ #[t] ty' #[.slice (some ⟨b',off*s,none⟩) (m+1) c]).run P w= .ok (.tuple #[]) (gk w b' (.cells ⟨aC (vs.take off++List.replicate (m+1) v)++rest⟩ ty (0,0))):=by
   unfold Builtin.clear_;show(underlying t>>=_).run P w=_;rw[bc (hT.u w)];show(zeroValue e>>=fun q=>storeCells ⟨b',off*s,none⟩ (Builtin.zeroCells q.cells (m+1)).toList>>=fun _=>pure (Value.tuple #[])).run P w=_;rw[bc (hz1.zero w)];show(storeCells ⟨b',off*s,none⟩ (Builtin.zeroCells v.cells (m+1)).toList>>=fun _=>pure (Value.tuple #[])).run P w=_;rw[oI,OH,bc (hov▸hst)];rfl
  obtain⟨own',u1,u2,u3⟩:=fG.of_mem (cs':=aC (vs.take off++List.replicate (m+1) v)++rest) hmem;have r2:=r.upB (G':=G) (ov':=own') (w':=gk w b' (.cells ⟨aC (vs.take off++List.replicate (m+1) v)++rest⟩ ty (0,0))) (B':= .b ty s (ds.take off++List.replicate (m+1) z) lo) (os:=[⟨b',aC (vs.take off++List.replicate (m+1) v)++rest,ty,lo'⟩]) (bD.refl _) (r.h.store u1)
   ⟨vs.take off++List.replicate (m+1) v, .inr ⟨b',rest,lo',?_,J,?_,?_,?_⟩,(g2.take _).app (M' (hz2 G) _),?_,?_⟩ (fun o ho=>by rw[aV.1 ho];exact u2) (fun o ho hne=>u3 o ho fun e=>hne (by rw[hbq,e])) ⟨_,s2 _ _ hb⟩
  ·have h3:=hk.run _ G _ _ _ (r2.put (f:= .d (.tp [])) (y:= .tuple #[]) (jv.2 ⟨[],J, .nil⟩) (r2.putA (.tuple #[]) hd))
   refine ke (v:= .tuple #[]) ?_ h3;simp only[execOp,resolve,gL,bL,fK,bm (c9 a) hu];exact c6 hrun
  ·rw[k1,aR,cK,aU,gT (by omega)]
   simp only[SV.mk.injEq,true_and,and_true];omega
  ·refine ew _ fun q hq=>?_
   rcases bW.1 hq with hq|hq
   ·exact g3 q (fL hq)
   ·rw[mV hq,cz]
  ·rw[nq,O1,aR,htk,hzl,cK,gT (by omega)]
   omega
  ·rw[aR,cK,aU,gT (by omega)];omega
  ·intro q hq
   rcases bW.1 hq with hq|hq
   ·exact g3 q (fL hq)
   ·rw[mV hq,cz]
  ·intro hl o ho
   have:=g4 hl _ aQ;rw[aV.1 ho];exact this
def SE(fr:aA)(own:aI)(cf:Cf):Option (Nat×TypeId×Nat×List DV×Bool×Nat×Nat×DV):=match ce fr cf with
 |some ⟨_, .call ⟨.builtin .clear,⟨[x]⟩,⟨[t]⟩⟩,_,_,_,_⟩=>match dB tt t with
  |some ⟨.sl e s' _,_,_,_⟩=>match aO (bE fr cf) x with
   |some (.rs nm s off m)=>match gD fr own cf nm with
    |some (.b ty s2 ds lo)=>match dB tt e with
     |some i=>match m9 i with
      |some z=>bif Nat.beq s s'&&(Nat.beq s s2&&Nat.beq z.cells.length s) then some (nm,ty,s,ds,lo,off,m,z) else none
      |none=>none
     |none=>none
    |_=>none
   |_=>none
  |_=>none
 |_=>none
def rcl[fu:Fu]{nm s off m:Nat}{ty:TypeId}{ds:List DV}{lo:Bool}{z:DV}(ds':List DV)(h:SE fr own cf=some (nm,ty,s,ds,lo,off,m,z))(hm:off+m=ds.length)(hp:0<m)(hd:ds.take off++List.replicate m z=ds')(hgo:cI tt n fu.n fr own cf (.d (.tp [])) [(nm,some (.b ty s ds' lo))] []=⟨vc,fr',own',cf'⟩)(kk:aj prog GB C n Q0 fr' own' cf')
  (hv:ah vc:=by first|exact trivial|(simp only[ah];kernel_rfl)|(simp only[ah];omega)|(simp only[ah,aJ,aN,aU];omega)):aj prog GB C n Q0 fr own cf:=by
 subst hd;obtain⟨m,rfl⟩: ∃q,m=q+1:=⟨m-1,by omega⟩;unfold SE at h;split at h<;>try (cases h;done)
 rename_i hh;split at h<;>try (cases h;done)
 rename_i hT;split at h<;>try (cases h;done)
 rename_i hx;split at h<;>try (cases h;done)
 rename_i hb;split at h<;>try (cases h;done)
 rename_i hi;split at h<;>try (cases h;done)
 rename_i hz;rw[cond_eq_ite] at h;split at h<;>cases h;rename_i hq;simp only[aL] at hq
 cases aT hq.1
 cases aT hq.2.1
 have:=ja (d9 _ _ hT) J;exact us hh (aDw (d9 _ _ hi) hz (aT hq.2.2) hx hb hm) hgo hv kk
end
end Go.Sx
end
