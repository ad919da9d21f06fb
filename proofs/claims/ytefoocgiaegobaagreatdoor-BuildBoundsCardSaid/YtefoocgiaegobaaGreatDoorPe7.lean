import Derived.Test.YtefoocgiaegobaaGreatDoorPe6
set_option linter.all false
set_option maxRecDepth 100000
section
namespace Go.Sx
open Go Go.Proofs Tryz
section
variable {GB:Gh} {C:aD} {n:Nat} {Q0:Exit->Act->World->Prop} {fr fr':aw} {own own':aH} {cf cf':Cf} {vc:List Prop} {ops:Array Oper} {o:Oper} {K:List Kt} {r:List Oper}
def mA:List (Option DV)->SV->List DV
 |[],_=>[]
 |some d::t,w=>d::mA t w
 |none::t,w=> .v (.slice w.a w.n w.c)::mA t w
def AP(lk:LK):List Operand->Option (Option Nat×List (Option DV))
 |[]=>some (none,[])
 |x::t=>match aI lk x,AP lk t with
  |some (.rw nm),some (none,l)=>some (some nm,none::l)
  |some f,some (q,l)=>match lB f with
   |some d=>some (q,some d::l)
   |none=>none
  |_,_=>none
def vl(lk:LK)(fo:Operand)(args:Array Operand):Option (FuncId×Nat×List (Option DV)):=match aI lk fo with
 |some (.d (.v (.func (.func f) ⟨[]⟩ ⟨[]⟩)))=>match AP lk args.toList with
  |some (some nm,l)=>some (f,nm,l)
  |_=>none
 |_=>none
def Bn{lk:LK}{bk:BM}{ρ:NE}{G:Gh}{ov:List aj}{a:Act}{w:World}(r:bE GB C n lk bk ρ G ov a w){z:SV}: ∀{x:List Operand} {q:Option Nat} {l:List (Option DV)},AP lk x=some (q,l)->(∀nm,q=some nm->ρ nm=z)->
  ∃y,fy (cF a) x=some y/\IsLs G (mA l z) y
 |[],q,l,e,_=>by cases e;exact⟨[],J, .nil⟩
 |x::t,q,l,e,hb=>by
  simp only[AP] at e;split at e
  ·rename_i nm l' h1 h2
   cases e
   obtain⟨y,h3,h4⟩:=r.ev h1
   cases (show y=_ from h4)
   obtain⟨ys,h5,h6⟩:=Bn r (z:=z) h2 (fun nm e=>by cases e);have hz:=hb nm J;subst hz;exact⟨Value.slice (ρ nm).a (ρ nm).n (ρ nm).c::ys,by simp only[fy,h3,h5], .cons ((aG (G:=G)).2 J) h6⟩
  ·rename_i f q' l' _ h1 h2
   cases hd:lB f with
   |none=>rw[hd] at e;cases e
   |some d=>
   rw[hd] at e;cases e;obtain⟨y,h3,h4⟩:=r.ev h1;obtain⟨ys,h5,h6⟩:=Bn r (z:=z) h2 hb;exact⟨y::ys,by simp only[fy,h3,h5], .cons (oP h4 hd) h6⟩
  ·cases e
structure Uz where
 f:FuncId
 nm:Nat
 l:List (Option DV)
 ty:TypeId
 s:Nat
 ds:List DV
 lo:Bool
 d:Nat
def M4(fr:aw)(own:aH)(cf:Cf):Option Uz:=match b8 fr cf with
 |some ⟨some d, .call ⟨.value fo,args,_⟩,_,_,_,_⟩=>match vl (bw fr cf) fo args with
  |some (f,nm,l)=>match fE fr own cf nm with
   |some (.b ty s ds lo)=>bif Nat.beq nm d then none else some ⟨f,nm,l,ty,s,ds,lo,d⟩
   |_=>none
  |none=>none
 |_=>none
def wo:Nat->List (Option DV)->aw
 |_,[]=>[]
 |i,some v::t=>(i, .d v)::wo (i+1) t
 |i,none::t=>(i, .rw NM)::wo (i+1) t
def Eg(w:SV): ∀l:List (Option DV),(mA l w).length=l.length
 |[]=>rfl
 |some d::t=>by simp[mA,Eg w t]
 |none::t=>by simp[mA,Eg w t]
def HO{w:SV}{ρ:NE}{G:Gh}(hρ:ρ NM=w): ∀{ds:List (Option DV)} {vs:List Value} (i:Nat),IsLs G (mA ds w) vs-> ∀k f,bc (wo i ds) k=some f-> ∃y,(∃j,k=i+j/\vs[j]? =some y)/\bP ρ G f y
 |[],vs,i,h,k,f,e=>by cases e
 |some d::t,vs,i,h,k,f,e=>by
  obtain⟨y,m,rfl,h1,h2⟩:=ba.1 h;simp only[wo] at e;rw[i7] at e;split at e
  ·cases e;rename_i hk;exact⟨y,⟨0,hk,rfl⟩,h1⟩
  ·obtain⟨u,⟨j,hj,hu⟩,h3⟩:=HO hρ (i+1) h2 k f e
   exact⟨u,⟨j+1,by omega,by simpa using hu⟩,h3⟩
 |none::t,vs,i,h,k,f,e=>by
  obtain⟨y,m,rfl,h1,h2⟩:=ba.1 h;simp only[wo] at e;rw[i7] at e;split at e
  ·cases e;rename_i hk;exact⟨y,⟨0,hk,rfl⟩,by show y=_;rw[hρ];exact aG.1 h1⟩
  ·obtain⟨u,⟨j,hj,hu⟩,h3⟩:=HO hρ (i+1) h2 k f e
   exact⟨u,⟨j+1,by omega,by simpa using hu⟩,h3⟩
def aEr(C:aD)(s:Nat)(ty:TypeId)(pre post dso:List DV):Ending->World->Prop:=pu C (fun v own' G'=> ∃w',Is G' (.tp (pre++ .v (.slice w'.a w'.n w'.c)::post)) v/\de G' ⟨w',s,ty,dso,false⟩ own')
def Xp{B:List aj}{G:Gh}{w:SV}{s:Nat}{ty:TypeId}{ds:List DV}{lo:Bool}{ov:List aj}(h:de G ⟨w,s,ty,ds,lo⟩ B)(g: ∀o∈B,o∈ov): ∃rest,ov.Perm (B++rest):=by
 rcases h with⟨vs',⟨_,_,e⟩|⟨b0,r0,lo0,_,e,_⟩,_⟩
 ·rw[e];exact⟨ov,List.Perm.refl _⟩
 ·rw[e] at g⊢
  obtain⟨l1,l2,e2⟩:=lV (g _ aQ);rw[e2];exact⟨l1++l2,nM⟩
def KL(lk:LK):List Operand->Option (List (Option DV))
 |[]=>some []
 |x::t=>match aI lk x,KL lk t with
  |some .nl,some l=>some (none::l)
  |some f,some l=>match lB f with
   |some d=>some (some d::l)
   |none=>none
  |_,_=>none
def UO(lk:LK)(fo:Operand)(args:Array Operand):Option (FuncId×List (Option DV)):=match aI lk fo with
 |some (.d (.v (.func (.func f) ⟨[]⟩ ⟨[]⟩)))=>match KL lk args.toList with
  |some l=>some (f,l)
  |_=>none
 |_=>none
def aE2(fr:aw)(cf:Cf):Option (FuncId×List (Option DV)×Nat):=match b8 fr cf with
 |some ⟨some d, .call ⟨.value fo,args,_⟩,_,_,_,_⟩=>match UO (bw fr cf) fo args with
  |some (f,l)=>some (f,l,d)
  |none=>none
 |_=>none
end
section
variable {P:Program} {C:aD} {n:Nat} {fr:Fr} {own own':List aj} {G:Gh} {Φ:Act->World->Prop}
variable {dst:Option Nat} {t t' ty':TypeId} {pos:String} {af:Array Edge} {gd:Option (Nat×Bool)} {x y:Operand} {e s by_:Nat}
def Wb[hT:cd P t e s by_]{z:Value}[hz:fk P e z]{k k':IntKind}{l:Int}(hx:av fr x=some (.int k 0))(hy:av fr y=some (.int k' l))(h0:0<=l)(hb:by_*l<=2^47)(hl:l<=2^60)(hs:(aE z).length=s)(hd:b7 n dst=true)
  (h: ∀b,St C n (put fr dst (.slice (some ⟨b,0,none⟩) 0 l.toNat)) (⟨b,cC z l.toNat,e,true⟩::own) G Φ):
  Ch P C n fr own G ⟨dst, .makeSlice t x y,ty',pos,af,gd⟩ Φ:=by
 intro a w Q rl;have h1:(Instr.makeSlice t (a.eval x) (a.eval y)).run P w= .ok (.slice (some ⟨w.heap.size,0,none⟩) 0 l.toNat) (w.alloc (.cells ⟨cC z l.toNat⟩ e)):=by
  obtain⟨i,hi,hib⟩:=OW (P:=P) (t:=t) (e:=e) (s:=s) (by_:=by_) w;rw[bh rl.fr hx,bh rl.fr hy];unfold Instr.makeSlice;rw[aP (hT.u w)];simp only[asInt,asIntOf];rw[aP (a:=0) (w':=w) J,aP (a:=l) (w':=w) J,aP hi,hib];have hw:IntKind.i64.wrap l=l:=qw (by simp[IntKind.min,IntKind.max,IntKind.signed,IntKind.bits];omega);have hw0:IntKind.i64.wrap 0=0:=J;simp only[hw,hw0];have c1: ¬((by_:Int)*l>2^48):=by
   have:(2:Int)^47<=2^48:=by decide
   omega
  have c5:decide ((by_:Int)*l>2^48)=false:=decide_eq_false c1;have c2:decide (l<0)=false:=decide_eq_false (by omega);have c4:decide ((0:Int)>l)=false:=by simp;omega
  simp only[c2,c4,c5,Bool.false_or,Int.lt_irrefl,decide_false,Bool.or_false,cM,if_false];have hr: ¬(l.toNat*by_>roomBytes):=by
   unfold roomBytes;have:((l.toNat*by_:Nat):Int)=by_*l:=by rw[iR,pT h0,sY]
   have h47:((2^47:Nat):Int)=2^47:=by decide
   omega
  unfold askRoom;simp only[hr,if_false];rw[aP (run_pure _ _ _),aP (hT.siz w)];have hn:l.toNat*s=l.toNat*(aE z).length:=by rw[hs]
  by_cases h00:l.toNat*s=0
  ·rw[if_pos h00,aP (run_pure _ _ _)]
   have e0:cC z l.toNat=[]:=bU (by rw[ml,hs];exact h00);rw[h00,e0,show(Array.range 0)= #[] from J,Array.map_empty];rfl
  ·rw[if_neg h00,aP (hz.zero w),mz]
   rw[aP (run_pure _ _ _),z7 hn];rfl
 refine jh (v:= .slice (some ⟨w.heap.size,0,none⟩) 0 l.toNat) (cx h1) (h w.heap.size _ _ ((rl.heap (rl.h.alloc _ _)).put _ hd))
def qe(G:Gh)(ov:List aj):Gh:=fun b=>match G b with
 |some cs=>some cs
 |none=>(ov.find? fun o=>Nat.beq o.b b).map (·.cs)
def Fh{ov:List aj}:bz G (qe G ov):=fun b cs h=>by unfold qe;rw[h]
def Od{o:aj}: ∀{ov:List aj},o∈ov->ov.Pairwise (fun x y=>x.b≠y.b)->ov.find? (fun u=>Nat.beq u.b o.b)=some o
 |u::t,ho,nd=>by
  rcases aW.1 ho with rfl|ho
  ·rw[List.find?_cons_of_pos (by simp)]
  ·have:=(bX.1 nd).1 o ho
   rw[List.find?_cons_of_neg (by simpa using this)];exact Od ho (bX.1 nd).2
def WP{ov:List aj}{o:aj}(ho:o∈ov)(hn:G o.b=none)(nd:ov.Pairwise (fun x y=>x.b≠y.b)):qe G ov o.b=some o.cs:=by
 unfold qe;rw[hn,Od ho nd];rfl
def bm.lendSub{ov:List aj}{w:World}(h:bm C ov G w)(b:Nat)(cs:List Value)(hb:qe G ov b=some cs): ∃ty fz,w.heap[b]? =some (.cells ⟨cs⟩ ty fz):=by
 unfold qe at hb;split at hb
 ·rename_i hg;cases hb;exact h.sub _ _ hg
 ·cases hf:ov.find? (fun o=>Nat.beq o.b b) with
  |none=>rw[hf] at hb;cases hb
  |some o=>
   rw[hf] at hb;cases hb;have e:o.b=b:=aY (by simpa using List.find?_some hf);subst e;exact⟨_,_,(h.hown o (List.mem_of_find?_eq_some hf)).1⟩
def bm.lent{ov:List aj}{G':Gh}{w w':World}(h:bm C ov G w)(k:bm ⟨w,qe G ov,[],[],[],none,fun _=>none⟩ [] G' w'):bm C ov G w':=by
 have same: ∀b o,w.heap[b]? =some o->w'.heap[b]? =some o:=fun b o hb=>by rw[k.keep b (f8 hb) (by simp)];exact hb
 have hsz:w.heap.size<=w'.heap.size:=k.size;refine⟨k.os.trans h.os,k.tape.trans h.tape,k.output.trans h.output,dW h.size hsz,fun b hb hm=>?_,fun b cs hb=>?_,h.gle,h.gold,fun o ho=>?_,h.nd,dW h.dr k.dr,fun p hp=>⟨(h.ext p hp).1,same _ _ (h.ext p hp).2⟩⟩
 ·have:=h.size;rw[k.keep b (by show b<w.heap.size;omega) (by simp)];exact h.keep b hb hm
 ·obtain⟨ty,fz,h1⟩:=h.sub b cs hb;exact⟨ty,fz,same _ _ h1⟩
 ·obtain⟨h1,h2⟩:=h.hown o ho;exact⟨same _ _ h1,h2⟩
def Vu{f:FuncId}{fo:Operand}{args:Array Operand}{tys:Array TypeId}{vs:List Value}{K:Value->Gh->Prop}(ho:av fr fo=some (.func (.func f) #[] #[]))(hv:fy fr args.toList=some vs)
  (hF:Fn P f vs (qe G own) K)(hd:b7 n dst=true)(h: ∀v (G':Gh),K v G'->St C n (put fr dst v) own G Φ):Ch P C n fr own G ⟨dst, .call ⟨.value fo,args,tys⟩,ty',pos,af,gd⟩ Φ:=by
 intro a w Q rl;have h2:=CO (c1:=[]) (c2:=[]) (P:=P) (dst:=dst) (ty':=ty') (pos:=pos) (af:=af) (gd:=gd) (tys:=tys) (w:=w) hF.able rl.fr ho hv;rw[cK,iS] at h2;simp only[Oper.wp,h2,Oper.upon];refine(hF.run w rl.h.lendSub).mono ?_;rintro e w' ⟨v,G',rfl,hh,hK⟩;exact h v G' hK _ _ ((rl.heap (rl.h.lent hh)).put _ hd)
end
def DV.np:DV->Bool
 | .v _=>true
 | .tp l=>l.all fun d=>match d with
  | .v _=>true
  |_=>false
 |_=>false
def J3{A G:Gh}: ∀{l:List DV} {m:List Value},(l.all fun d=>match d with| .v _=>true|_=>false)=true->IsLs A l m->IsLs G l m
 |[],m,_,k=>cA.2 (cA.1 k)
 |d::t,m,h,k=>by
  obtain⟨y,n,rfl,k1,k2⟩:=ba.1 k;simp only[List.all_cons,aN] at h;refine .cons ?_ (J3 h.2 k2)
  cases d with
  |v x=>exact aG.2 (aG.1 k1)
  |_=>simp at h
def Is.np{A G:Gh}{d:DV}{y:Value}(h:d.np=true)(k:Is A d y):Is G d y:=by
 cases d with
 |v x=>exact aG.2 (aG.1 k)
 |tp l=>obtain⟨m,e,k⟩:=iD.1 k;exact iD.2 ⟨m,e,J3 h k⟩
 |_=>cases h
section
variable {GB:Gh} {C:aD} {n:Nat} {Q0:Exit->Act->World->Prop} {fr fr':aw} {own own':aH} {cf cf':Cf} {vc:List Prop} {lk:LK} {bk:BM} {ρ:NE} {G:Gh} {ov:List aj} {a:Act} {w:World}
variable {dst:Option Nat} {t t' ty':TypeId} {pos:String} {af:Array Edge} {gd:Option (Nat×Bool)} {x y:Operand} {e s by_:Nat}
def LO:Option Bk->Option (List DV)
 |some (.b _ _ ds _)=>some ds
 |some (.c _ _ ds _)=>some ds
 |_=>none
def DR(lk:LK)(bk:BM)(x:Operand):Option DV:=match aI lk x with
 |some (.rw nm)=>match LO (bk nm) with
  |some ds=>some (.sl ds)
  |none=>none
 |some f=>lB f
 |none=>none
def C8(lk:LK)(bk:BM):List Operand->Option (List DV)
 |[]=>some []
 |x::t=>match DR lk bk x,C8 lk bk t with
  |some d,some l=>some (d::l)
  |_,_=>none
def RE(r:bE GB C n lk bk ρ G ov a w){d:DV}(h:DR lk bk x=some d): ∃y,av (cF a) x=some y/\Is (qe G ov) d y:=by
 unfold DR at h;split at h
 ·rename_i nm h1
  obtain⟨y,h2,h3⟩:=r.ev h1
  cases (show y=_ from h3)
  refine⟨_,h2,?_⟩;split at h<;>cases h;rename_i ds hr;obtain⟨ty,s,vs,B,hB,hv,hs,hBo⟩: ∃ty s vs B,gq s ty (ρ nm) vs B/\IsLs G ds vs/\(∀v∈vs,(aE v).length=s)/\ ∀o∈B,o∈ov:=by
   unfold LO at hr;split at hr<;>cases hr
   ·rename_i hb;obtain⟨B,⟨vs,h4,h5,h6,_⟩,h7⟩:=r.bx _ _ hb;exact⟨_,_,vs,B,h4,h5,h6,h7⟩
   ·rename_i hb;obtain⟨B,⟨vs,h4,h5,h6,_⟩,h7⟩:=r.bx _ _ hb;exact⟨_,_,vs,B,h4,h5,h6,h7⟩
  rcases hB with⟨e1,e2,e3⟩|⟨b,rest,lo',e2,e3,h5,h6,h7⟩
  ·subst e1
   have ed:ds=[]:=bU (by rw[<-hv.len];rfl);subst ed;rw[e2];exact gz.2 ⟨0,⟨none,0,0⟩,[],J, .nil _ 0, .nil⟩
  ·subst e3
   have ho:=hBo _ aQ;have hg:=WP ho (r.h.hown _ ho).2.1 r.h.nd;rw[e2];exact gz.2 ⟨s,⟨some ⟨b,0,none⟩,vs.length,_⟩,vs,J,d5.of_flat hs hg h7,hv.up Fh⟩
 ·rename_i h1
  obtain⟨y,h2,h3⟩:=r.ev h1;exact⟨y,h2,(oP h3 h).up Fh⟩
 ·cases h
def Jg(r:bE GB C n lk bk ρ G ov a w): ∀{l:List Operand} {ds:List DV},C8 lk bk l=some ds-> ∃vs,fy (cF a) l=some vs/\IsLs (qe G ov) ds vs
 |[],ds,e=>by cases e;exact⟨[],J, .nil⟩
 |x::t,ds,e=>by
  simp only[C8] at e;split at e<;>cases e;rename_i h1 h2;obtain⟨y,h3,h4⟩:=RE r h1;obtain⟨vs,h5,h6⟩:=Jg r h2;exact⟨y::vs,by simp only[fy,h3,h5], .cons h4 h6⟩
def EC(lk:LK)(bk:BM)(fo:Operand)(args:Array Operand):Option (FuncId×List DV):=match aI lk fo with
 |some (.d (.v (.func (.func f) ⟨[]⟩ ⟨[]⟩)))=>match C8 lk bk args.toList with
  |some ds=>some (f,ds)
  |none=>none
 |_=>none
def SC{fo:Operand}{args:Array Operand}{tys:Array TypeId}{f:FuncId}{ds:List DV}{rv:DV}(ha:EC lk bk fo args=some (f,ds))(hnp:rv.np=true)(hF:PF GB prog f ds rv):bH prog GB C n lk bk ⟨dst, .call ⟨.value fo,args,tys⟩,ty',pos,af,gd⟩ (.d rv) [] []:=by
 intro hd tl tb K' s1 s2 hf hk;refine⟨fun ρ G ov a w r Q=>?_⟩;have r1:=r.mono s1 s2;unfold EC at ha;split at ha<;>try (cases ha;done)
 rename_i h1;split at ha<;>cases ha;rename_i h2;obtain⟨y,hy,hy'⟩:=r1.ev h1;rw[(aG (G:=G)).1 hy'] at hy;obtain⟨vs,h3,h4⟩:=Jg r1 h2;refine Vu hy h3 (hF _ vs (r.gb.trans Fh) h4) hd (fun v G' hK a' w' rl=>?_) a w Q ⟨r.h,r.sz,cP a,r.df⟩;exact hk.run ρ G ov a' w' ⟨r.gb,rl.h,rl.sz,rl.df,(jO rl).fx (fun k g _ e=>r.fx k g e) (Is.np hnp hK),r.bx,r.dj,r.fxd⟩
def Nf(fr:aw)(own:aH)(cf:Cf):Option (FuncId×List DV):=match b8 fr cf with
 |some ⟨_, .call ⟨.value fo,args,_⟩,_,_,_,_⟩=>EC (bw fr cf) (fE fr own cf) fo args
 |_=>none
def cL[fu:Fu]{f:FuncId}{ds:List DV}{rv:DV}(ha:Nf fr own cf=some (f,ds))(hF:PF GB prog f ds rv)(hnp:rv.np=true)(hgo:cB tt n fu.n fr own cf (.d rv) [] []=⟨vc,fr',own',cf'⟩)(k:ak prog GB C n Q0 fr' own' cf')
  (hv:ah vc:=by first|exact trivial|(simp only[ah];kernel_rfl)|(simp only[ah];omega)):ak prog GB C n Q0 fr own cf:=by
 unfold Nf at ha;split at ha<;>try (cases ha;done)
 rename_i hh;exact us hh (SC ha hnp hF) hgo hv k
def Xc{d cap:Nat}{i:TI}{z:DV}{k k':IntKind}[hT:cd prog t e s by_](hi:er prog e=some i)(hz:mE i=some z)(hs:Nat.beq z.cells.length s=true)(hx:aI lk x=some (.d (.v (.int k 0))))(hy:aI lk y=some (.d (.v (.int k' (cap:Nat)))))(hb:by_*cap<=140737488355328)(hl:cap<=1152921504606846976):
  bH prog GB C n lk bk ⟨some d, .makeSlice t x y,ty',pos,af,gd⟩ (.rw d) [(d,some (.c e s [] cap))] [d]:=by
 intro hd tl tb K s1 s2 hf hk;refine⟨fun ρ G ov a w r Q=>?_⟩;obtain⟨v,hz1,hz2,hz3⟩:=vR hi hz;obtain⟨q1,p1,p2⟩:=(r.mono s1 s2).ev hx;obtain⟨q2,p3,p4⟩:=(r.mono s1 s2).ev hy;rw[cH] at p2 p4;subst p2 p4;have c1:=((hz2 G).cells hz3).1.len;replace hs:=aY hs;refine Wb p1 p3 (by omega) (by have:((by_*cap:Nat):Int)=by_*cap:=iR ..;omega) (by omega) (by rw[c1,hs]) hd (fun b a' w' rl=>?_) a w Q ⟨r.h,r.sz,cP a,r.df⟩;rw[aM] at rl;have hnd:=(bX.1 rl.h.nd).1;refine hk.run _ _ _ a' w' (r.new' (x:=⟨some ⟨b,0,none⟩,0,cap⟩) (B':= .c e s [] cap) (os:=[⟨b,cC v cap,e,true⟩]) (f:= .rw d) (y:= .slice (some ⟨b,0,none⟩) 0 cap) hf (bz.refl _) rl.h ⟨[], .inr ⟨b,cC v cap,true,by simp,J,by simp[aC],?_,by simp⟩, .nil,by simp,fun o ho=>by rw[aU.1 ho],by simp⟩
  (fun o ho=>by rw[aU.1 ho];exact aQ) (fun m B' _ _ o ho _=>⟨aZ _ ho,fun e'=>by cases e';exact hnd o ho J⟩) (by show _=_;simp) (jO rl))
 rw[ml,c1,hs];simp[aC]
def WA{d nm cap:Nat}{ds ds2:List DV}[hT:cd prog t e s by_][hN:ka prog t'](hx:aI lk x=some (.rw nm))(hb:bk nm=some (.c e s ds cap))(hy:qm lk bk s y=some ds2)(hk2:dB s ds2)(hc:ds.length+ds2.length<=cap)(hp:0<ds2.length)(hnd:Nat.beq nm d=false):
  bH prog GB C n lk bk ⟨some d, .call ⟨.builtin .append, #[x,y], #[t,t']⟩,ty',pos,af,gd⟩ (.rw d) [(nm,none),(d,some (.c e s (ds++ds2) cap))] [d]:=by
 intro hd tl tb K s1 s2 hf hk;refine⟨fun ρ G ov a w r Q=>?_⟩;have r1:=r.mono s1 s2;have hne:nm≠d:=fun e=>by subst e;simp at hnd
 obtain⟨u,hx',hx2⟩:=r1.ev hx
 cases hx2
 obtain⟨B,⟨vs,hB,hv,hvs,hlo,hcap⟩,hBo⟩:=r1.bx _ _ hb;obtain⟨w2,us,hy',h2,h3,h4,h5,h6⟩:=BP (P:=prog) (C:=C) r1 hy hk2;have hus:(aC us).length=us.length*s:=d8 us h4;have hl1:=hv.len;have hl2:=h3.len;have rd:=r.dropB nm;have hf':kc [d] (some d) tl (Sx.upB tb [(nm,none)]):=fun m hm=>by
  obtain⟨g1,g2⟩:=hf m hm;refine⟨g1,fun k B' hk e=>g2 k B' hk ?_⟩;simp only[Sx.upB] at e;split at e
  ·cases e
  ·exact e
 rcases hB with⟨e1,e2,e3⟩|⟨b,rest,lo',k3,k4,k5,k6,k7⟩
 ·rw[e2] at hcap;simp at hcap;omega
 subst k4;have hl':=hlo _ aQ;simp only at hl';subst hl';have ha:(ρ nm).a=some ⟨b,0,none⟩:=by rw[k3]
 have hn:(ρ nm).n=vs.length:=by rw[k3]
 rw[ha,hn] at hx';rw[h2] at hy' h6;have hin:=hBo _ aQ;obtain⟨l1,l2,e5⟩:=lV hin;have hperm:ov.Perm (⟨b,aC vs++rest,e,true⟩::(l1++l2)):=by rw[e5];exact nM
 have hall: ∀v∈vs++us,(aE v).length=s:=fun v hv=>by
  rcases cX.1 hv with hv|hv
  ·exact hvs v hv
  ·exact h4 v hv
 have hcs:(aC vs++rest).length=(ρ nm).c*s:=by rw[aR];exact k6
 have hroom:vs.length+us.length<=(ρ nm).c:=by omega
 have hmul:(vs.length+us.length)*s<=(ρ nm).c*s:=bK _ hroom;rw[cY] at hmul;have hrest:us.length*s<=rest.length:=by rw[k5] at k6;omega
 have hovw:ck (aC vs++rest) (vs.length*s) (aC us)=aC (vs++us)++rest.drop (us.length*s):=by
  rw[nC _ _ _ (by rw[hus,aR];omega),l5,<-k5];simp[hus,lN,dQ]
 refine Ja (P:=prog) (own:=⟨b,aC vs++rest,e,true⟩::(l1++l2)) (m:=us.length) (ys:=aC us) hx' hy' (.hd ..) hcs (fun w hh=>h6 w (hh.perm hperm.symm)) hus h5 hroom hd (fun a' w' rl=>?_) a w Q ⟨r.h.perm hperm,r.sz,cP a,r.df⟩;rw[hovw] at rl;have hnd':=(bX.1 rl.h.nd).1;refine hk.run _ _ _ a' w' (rd.new' (x:=⟨some ⟨b,0,none⟩,vs.length+us.length,(ρ nm).c⟩) (B':= .c e s (ds++ds2) cap) (os:=[⟨b,aC (vs++us)++rest.drop (us.length*s),e,true⟩]) (f:= .rw d) (y:= .slice (some ⟨b,0,none⟩) (vs.length+us.length) (ρ nm).c) hf' (bz.refl _) rl.h
  ⟨vs++us, .inr ⟨b,rest.drop (us.length*s),true,by simp,J,d8 _ hall,?_,by simpa using hroom⟩,hv.app h3,hall,fun o ho=>by rw[aU.1 ho],by simpa using hcap⟩ (fun o ho=>by rw[aU.1 ho];exact aQ)
  (fun m B' hm e' o ho hmo=>?_) (by show _=_;simp) (jO rl))
 ·rw[d8 _ hall,aR,gM,cY]
  simp only[if_true];rw[k5] at k6;omega
 ·have hmn:m≠nm/\tb m=some B':=by
   simp only[Sx.upB] at e';split at e'
   ·cases e'
   ·exact⟨by assumption,e'⟩
  have hob:o.b≠b:=fun e6=>r.dj m nm B' _ hmn.2 (s2 _ _ hb) hmn.1 b (by rw[hmo,e6]) ha;refine⟨?_,fun e6=>by cases e6;exact hob J⟩;rcases aW.1 (hperm.mem_iff.1 ho) with rfl|ho
  ·exact absurd J hob
  ·exact aZ _ ho
end
section
variable {GB:Gh} {C:aD} {n:Nat} {Q0:Exit->Act->World->Prop} {fr fr':aw} {own own':aH} {cf cf':Cf} {vc:List Prop}
def QI[fu:Fu]{d e s b:Nat}{z:DV}{k':IntKind}(cap:Nat)(h:Dj fr cf=some ⟨d,e,s,b,z,0⟩)(hy:(match b8 fr cf with|some ⟨_, .makeSlice _ _ y,_,_,_,_⟩=>aI (bw fr cf) y|_=>none)=some (.d (.v (.int k' (cap:Nat)))))
  (hgo:cB tt n fu.n fr own cf (.rw d) [(d,some (.c e s [] cap))] [d]=⟨vc,fr',own',cf'⟩)(k:ak prog GB C n Q0 fr' own' cf')(hb:b*cap<=140737488355328:=by omega)(hl:cap<=1152921504606846976:=by omega)
  (hv:ah vc:=by first|exact trivial|(simp only[ah];kernel_rfl)|(simp only[ah];omega)):ak prog GB C n Q0 fr own cf:=by
 unfold Dj at h;split at h<;>try (cases h;done)
 rename_i hh;split at h<;>try (cases h;done)
 rename_i hx;split at h<;>try (cases h;done)
 rename_i hT;split at h<;>try (cases h;done)
 rename_i hi;split at h<;>try (cases h;done)
 rename_i hz;rw[cond_eq_ite] at h;split at h<;>cases h;rename_i hs;rw[hh] at hy;have:=i5 (d7 _ _ hT) J;exact us hh (Xc (d7 _ _ hi) hz hs hx hy hb hl) hgo hv k
structure Z1 where
 d:Nat
 nm:Nat
 e:Nat
 s:Nat
 ds:List DV
 ds2:List DV
 cap:Nat
def JM(fr:aw)(own:aH)(cf:Cf):Option Z1:=match b8 fr cf with
 |some ⟨some d, .call ⟨.builtin .append,⟨[x,y]⟩,⟨[t,t']⟩⟩,_,_,_,_⟩=>match cO tt t,cO tt t' with
  |some ⟨.sl e s _,_,_,_⟩,some ⟨.sl _ _ _,_,_,_⟩=>match aI (bw fr cf) x with
   |some (.rw nm)=>match fE fr own cf nm,qm (bw fr cf) (fE fr own cf) s y with
    |some (.c e' s' ds cap),some ds2=>bif (Nat.beq e' e&&Nat.beq s' s)&&!Nat.beq nm d then some ⟨d,nm,e,s,ds,ds2,cap⟩ else none
    |_,_=>none
   |_=>none
  |_,_=>none
 |_=>none
def Se[fu:Fu]{d nm e s cap:Nat}{ds ds2:List DV}(ds':List DV)(h:JM fr own cf=some ⟨d,nm,e,s,ds,ds2,cap⟩)(hds:ds++ds2=ds')(ho2:dB s ds2)(hc:ds.length+ds2.length<=cap)(hgo:cB tt n fu.n fr own cf (.rw d) [(nm,none),(d,some (.c e s ds' cap))] [d]=⟨vc,fr',own',cf'⟩)(k:ak prog GB C n Q0 fr' own' cf')
  (hp:0<ds2.length:=by simp)(hv:ah vc:=by first|exact trivial|(simp only[ah];kernel_rfl)|(simp only[ah];omega)):ak prog GB C n Q0 fr own cf:=by
 subst hds;unfold JM at h;split at h<;>try (cases h;done)
 rename_i hh;split at h<;>try (cases h;done)
 rename_i hT hT';split at h<;>try (cases h;done)
 rename_i hx;split at h<;>try (cases h;done)
 rename_i hb hy;rw[cond_eq_ite] at h;split at h<;>cases h;rename_i h2;simp only[aN,iZ] at h2
 cases aY h2.1.1
 cases aY h2.1.2
 have:=i5 (d7 _ _ hT) J;have hN:ka prog _:=⟨_,(i5 (d7 _ _ hT') J).un⟩;exact us hh (WA hx hb hy ho2 hc hp h2.2) hgo hv k
def PI(GB:Gh)(P:Program)(f:FuncId)(i:Int)(s:Nat)(ty ty2:TypeId)(ds:List DV)(x:DV)(cap:Nat)(dso:List DV):Prop:=
 ∀G w w2 B B2,bz GB G->de G ⟨w,s,ty,ds,false⟩ B->cap<=w.c->de G ⟨w2,s,ty2,[x],false⟩ B2->gF P f [.slice w.a w.n w.c, .int .i64 i, .slice w2.a w2.n w2.c] (B++B2) G fun v own' G'=> ∃w',v= .slice w'.a w'.n w'.c/\de G' ⟨w',s,ty,dso,false⟩ own'
structure Tj where
 f:FuncId
 nm:Nat
 nm2:Nat
 i:Int
 ty:TypeId
 ty2:TypeId
 s:Nat
 ds:List DV
 x:DV
 cap:Nat
 d:Nat
def Iq(fr:aw)(own:aH)(cf:Cf):Option Tj:=match b8 fr cf with
 |some ⟨some d, .call ⟨.value fo,⟨[x1,x2,x3]⟩,_⟩,_,_,_,_⟩=>match aI (bw fr cf) fo,aI (bw fr cf) x1 with
  |some (.d (.v (.func (.func f) ⟨[]⟩ ⟨[]⟩))),some (.rw nm)=>match aI (bw fr cf) x2,aI (bw fr cf) x3 with
   |some (.d (.v (.int .i64 i))),some (.rw nm2)=>match fE fr own cf nm,fE fr own cf nm2 with
    |some (.c ty s ds cap),some (.b ty2 s2 [x] true)=>bif (!Nat.beq nm d&&!Nat.beq nm2 d)&&(!Nat.beq nm nm2&&(Nat.beq s2 s&&Nat.blt 0 cap)) then some ⟨f,nm,nm2,i,ty,ty2,s,ds,x,cap,d⟩ else none
    |_,_=>none
   |_,_=>none
  |_,_=>none
 |_=>none
def Zm{lk:LK}{bk:BM}{fo x1 x2 x3:Operand}{tys:Array TypeId}{f:FuncId}{nm nm2 d cap s:Nat}{i:Int}{ty0 ty2:TypeId}{ty:TypeId}{pos:String}{af:Array Edge}{gd:Option (Nat×Bool)}{ds dso:List DV}{x:DV}(hne:Nat.beq nm d=false)(hne2:Nat.beq nm2 d=false)(hn2:Nat.beq nm nm2=false)(hcp:0<cap)
  (h0:aI lk fo=some (.d (.v (.func (.func f) ⟨[]⟩ ⟨[]⟩))))(h1:aI lk x1=some (.rw nm))(h2:aI lk x2=some (.d (.v (.int .i64 i))))(h3:aI lk x3=some (.rw nm2))(hb:bk nm=some (.c ty0 s ds cap))(hb2:bk nm2=some (.b ty2 s [x] true))(hF:PI GB prog f i s ty0 ty2 ds x cap dso):
  bH prog GB C n lk bk ⟨some d, .call ⟨.value fo,⟨[x1,x2,x3]⟩,tys⟩,ty,pos,af,gd⟩ (.rw d) [(nm,none),(nm2,none),(d,some (.b ty0 s dso true))] [d]:=by
 intro hd tl tb K' s1 s2 hf hk;refine⟨fun ρ G ov a w r Q=>?_⟩;have r1:=r.mono s1 s2;obtain⟨y,hy,hy'⟩:=r1.ev h0;rw[(aG (G:=G)).1 hy'] at hy;obtain⟨y1,p1,p1'⟩:=r1.ev h1
 cases (show y1=_ from p1')
 obtain⟨y2,p2,p2'⟩:=r1.ev h2;rw[cH] at p2';subst p2';obtain⟨y3,p3,p3'⟩:=r1.ev h3
 cases (show y3=_ from p3')
 have hnn:nm≠d:=fun e=>by subst e;rw[oK] at hne;cases hne
 have hnn2:nm2≠d:=fun e=>by subst e;rw[oK] at hne2;cases hne2
 have hnm:nm≠nm2:=fun e=>by subst e;rw[oK] at hn2;cases hn2
 obtain⟨B,g1,g2⟩:=r1.bx _ _ hb;obtain⟨B2,k1,k2⟩:=r1.bx _ _ hb2;obtain⟨vs,q1,q2,q3,q4,q5⟩:=g1;have hB:de G ⟨ρ nm,s,ty0,ds,false⟩ B:=⟨vs,q1,q2,q3,fun h=>by cases h⟩;have hB2:de G ⟨ρ nm2,s,ty2,[x],false⟩ B2:=de.weak (lo:=true) k1;have e1: ∃o,B=[o]/\(ρ nm).a=some ⟨o.b,0,none⟩:=by
  rcases q1 with⟨_,e,_⟩|⟨b,rest,lo',e,rfl,_⟩
  ·rw[e] at q5;simp at q5;omega
  ·exact⟨_,J,by rw[e]⟩
 have e2: ∃o,B2=[o]/\(ρ nm2).a=some ⟨o.b,0,none⟩:=by
  obtain⟨vs2,c1,c2,_⟩:=k1;rcases c1 with⟨e,_,_⟩|⟨b,rest,lo',e,rfl,_⟩
  ·subst e;have:=c2.len;simp at this
  ·exact⟨_,J,by rw[e]⟩
 obtain⟨o1,rfl,a1⟩:=e1;obtain⟨o2,rfl,a2⟩:=e2;have hob:o1.b≠o2.b:=fun e=>r.dj nm nm2 _ _ (s2 _ _ hb) (s2 _ _ hb2) hnm _ a1 (by rw[a2,e]);have hp: ∃rest,ov.Perm ([o1]++[o2]++rest):=by
  obtain⟨l1,l2,e3⟩:=lV (g2 _ aQ);have hm:=k2 _ aQ;rw[e3] at hm⊢;have hm2:o2∈l1++l2:=by
   rcases cX.1 hm with h|h
   ·exact cZ _ h
   ·rcases aW.1 h with h|h
    ·exact absurd (by rw[h]) hob
    ·exact cW _ h
  obtain⟨l3,l4,e4⟩:=lV hm2;refine⟨l3++l4,List.perm_middle.trans ?_⟩;rw[e4];exact(nM (l₁:=l3) (l₂:=l4) (a:=o2)).cons o1
 obtain⟨rest,h5⟩:=hp;have h6: ∀o∈ov,o.b≠o1.b->o.b≠o2.b->o∈rest:=fun o ho n1 n2=>by
  have:=h5.mem_iff.1 ho;simp only[cV,cK,aW] at this;rcases this with rfl|rfl|h
  ·exact absurd J n1
  ·exact absurd J n2
  ·exact h
 have hlo2: ∀o∈[o2],o.lo=true:=by obtain⟨_,_,_,_,h⟩:=k1;exact h rfl
 have hall: ∀o∈[o1]++[o2],o.lo=true:=fun o ho=>by
  rcases cX.1 ho with h|h
  ·exact q4 o h
  ·exact hlo2 o h
 refine xi (M:=[o1]++[o2]) (rest:=rest) (vs:=[.slice (ρ nm).a (ρ nm).n (ρ nm).c, .int .i64 i, .slice (ρ nm2).a (ρ nm2).n (ρ nm2).c]) hy (by simp only[fy,p1,p2,p3]) h5 (hF G (ρ nm) (ρ nm2) [o1] [o2] r.gb hB q5 hB2) hd (fun v own1 G' hG hK a' w' rl=>?_) a w Q ⟨r.h,r.sz,cP a,r.df⟩;obtain⟨z,rfl,vs',k1',k2',k3',k4'⟩:=hK;have hs1:=k1'.relo (iF ([o1]++[o2]));have e3: ∀o∈own1.map (relo (iF ([o1]++[o2]))),o.lo=true:=fun o ho=>by
  obtain⟨o',_,rfl⟩:=bJ.1 ho;exact Br _ hall
 generalize own1.map (relo (iF ([o1]++[o2])))=B' at rl e3 hs1;have rl':gh C n (Sx.put (cF a) (some d) (.slice z.a z.n z.c)) (B'++rest) G' a' w':=rl;have hdis:=(jT.1 rl'.h.nd).2.2;have rd:=(r.dropB nm).dropB nm2;have hin: ∀q B0,Sx.upB (Sx.upB tb [(nm,none)]) [(nm2,none)] q=some B0->q≠nm/\q≠nm2/\tb q=some B0:=fun q B0 e=>by
  simp only[Sx.upB] at e;split at e
  ·cases e
  ·split at e
   ·cases e
   ·exact⟨by assumption,by assumption,e⟩
 have hf2:kc [d] (some d) tl (Sx.upB (Sx.upB tb [(nm,none)]) [(nm2,none)]):=fun q hq=>by
  obtain⟨f1,f2⟩:=hf q hq;exact⟨f1,fun k B e1 e=>f2 k B e1 (hin k B e).2.2⟩
 have hsep: ∀q B0,Sx.upB (Sx.upB tb [(nm,none)]) [(nm2,none)] q=some B0-> ∀o∈ov,(ρ q).a=some ⟨o.b,0,none⟩->o∈rest:=fun q B0 e o ho hbq=>by
  obtain⟨n1,n2,n3⟩:=hin q B0 e;exact h6 o ho (fun e'=>r.dj nm q _ _ (s2 _ _ hb) n3 (Ne.symm n1) _ a1 (by rw[hbq,e'])) (fun e'=>r.dj nm2 q _ _ (s2 _ _ hb2) n3 (Ne.symm n2) _ a2 (by rw[hbq,e']))
 have r3:=rd.new' (x:=z) (B':= .b ty0 s dso true) (os:=B') (ov':=B'++rest) (f:= .rw d) (y:= .slice z.a z.n z.c) hf2 hG.le rl'.h ⟨vs',by simpa using hs1,k2',k3',fun _=>e3⟩ (fun o ho=>cZ _ ho)
  (fun q B0 hq e o ho hbq=>⟨cW _ (hsep q B0 e o ho hbq),fun hc=>by
   have hx: ∃o1∈B',o1.b=o.b:=by
    rcases hs1 with⟨_,h,_⟩|⟨b0,rest0,lo0,h,hB,_⟩
    ·rw[show z=_ from h] at hc;cases hc
    ·rw[show z=_ from h] at hc;cases hc;exact⟨⟨_,aC vs'++rest0,_,lo0⟩,by rw[hB];exact aQ,J⟩
   obtain⟨o3,ho3,he3⟩:=hx;exact hdis o3 ho3 o (hsep q B0 e o ho hbq) he3⟩) (by show _=_;simp) (jO rl')
 exact hk.run _ G' _ a' w' r3
def ci[fu:Fu]{f:FuncId}{nm nm2 d cap s:Nat}{i:Int}{ty ty2:TypeId}{ds dso:List DV}{x:DV}(dso':List DV)(ha:Iq fr own cf=some ⟨f,nm,nm2,i,ty,ty2,s,ds,x,cap,d⟩)(hF:PI GB prog f i s ty ty2 ds x cap dso)(he:dso=dso')
  (hgo:cB tt n fu.n fr own cf (.rw d) [(nm,none),(nm2,none),(d,some (.b ty s dso' true))] [d]=⟨vc,fr',own',cf'⟩)(k:ak prog GB C n Q0 fr' own' cf')
  (hv:ah vc:=by first|exact trivial|(simp only[ah];kernel_rfl)|(simp only[ah];omega)):ak prog GB C n Q0 fr own cf:=by
 subst he;unfold Iq at ha;split at ha<;>try (cases ha;done)
 rename_i hh;split at ha<;>try (cases ha;done)
 rename_i h0 h1;split at ha<;>try (cases ha;done)
 rename_i h2 h3;split at ha<;>try (cases ha;done)
 rename_i hb hb2;rw[cond_eq_ite] at ha;split at ha<;>cases ha;rename_i hc;simp only[aN,iZ,mJ] at hc;obtain⟨⟨c1,c2⟩,c3,c4,c5⟩:=hc
 cases aY c4
 exact us hh (Zm c1 c2 c3 c5 h0 h1 h2 h3 hb hb2 hF) hgo hv k
def kd(d:Nat){ops:Array Oper}{r:List Oper}{K:List Kt}(hl:bc fr d=some (.d (.v (.bool true))))(k:ak prog GB C n Q0 ((d, .tt)::fr) own (.ops ops r K)):ak prog GB C n Q0 fr own (.ops ops r K):=o7 (g:= .tt) hl (fun _ G _ e=>(aG (G:=G)).1 e) k
def sL(d:Nat){ops:Array Oper}{r:List Oper}{K:List Kt}(hl:bc fr d=some (.d (.v (.bool false))))(k:ak prog GB C n Q0 ((d, .ff)::fr) own (.ops ops r K)):ak prog GB C n Q0 fr own (.ops ops r K):=o7 (g:= .ff) hl (fun _ G _ e=>(aG (G:=G)).1 e) k
end
section
variable {GB:Gh} {C:aD} {n:Nat} {Q0:Exit->Act->World->Prop} {fr fr':aw} {own own':aH} {cf cf':Cf} {vc:List Prop}
def PR(GB:Gh)(P:Program)(f:FuncId)(ds:List DV)(s:Nat)(ty:TypeId)(rows:List DV):Prop:=
 ∀G vs,bz GB G->IsLs G ds vs->gF P f vs [] G (fun v own' G'=> ∃w:SV,v= .slice w.a w.n w.c/\de G' ⟨w,s,ty,rows,true⟩ own')
def JK: ∀(l:List aj),(∀o∈l,o.lo=true)->l.map (relo (iF []))=l
 |[],_=>rfl
 |a::t,h=>by
  have h1:=h a aQ;rw[bW,JK t fun o ho=>h o (aZ _ ho)];congr 1
  cases a
  simp[relo,iF] at*;exact h1
def Za{lk:LK}{bk:BM}{fo:Operand}{args:Array Operand}{tys:Array TypeId}{f:FuncId}{d s:Nat}{ds rows:List DV}{ty ty2:TypeId}{pos:String}{af:Array Edge}{gd:Option (Nat×Bool)}
  (ha:qO lk fo args=some (f,ds))(hF:PR GB prog f ds s ty2 rows):bH prog GB C n lk bk ⟨some d, .call ⟨.value fo,args,tys⟩,ty,pos,af,gd⟩ (.rw d) [(d,some (.b ty2 s rows true))] [d]:=by
 intro hd tl tb K' s1 s2 hf hk;refine⟨fun ρ G ov a w r Q=>?_⟩;have r1:=r.mono s1 s2;obtain⟨h1,h2⟩:=BV ha;obtain⟨y,hy,hy'⟩:=r1.ev h1;rw[(aG (G:=G)).1 hy'] at hy;obtain⟨vs,h3,h4⟩:=r1.evDs h2;refine xi (M:=[]) (rest:=ov) hy h3 (List.Perm.refl _) (hF G vs r.gb h4) hd (fun v own1 G' hG hK a' w' rl=>?_) a w Q ⟨r.h,r.sz,cP a,r.df⟩;obtain⟨z,rfl,vs',k1,k2,k3,k4⟩:=hK;rw[JK _ (k4 J)] at rl;have rl':gh C n (Sx.put (cF a) (some d) (.slice z.a z.n z.c)) (own1++ov) G' a' w':=rl;have hdis:=(jT.1 rl'.h.nd).2.2;have r3:=r.new' (x:=z) (B':= .b ty2 s rows true) (os:=own1) (ov':=own1++ov) (f:= .rw d) (y:= .slice z.a z.n z.c) hf hG.le rl'.h ⟨vs',by simpa using k1,k2,k3,k4⟩ (fun o ho=>cZ _ ho)
  (fun q B0 hq e o ho hbq=>⟨cW _ ho,fun hc=>by
   have hx: ∃o1∈own1,o1.b=o.b:=by
    rcases k1 with⟨_,h,_⟩|⟨b0,rest0,lo0,h,hB,_⟩
    ·rw[show z=_ from h] at hc;cases hc
    ·rw[show z=_ from h] at hc;cases hc;exact⟨⟨_,aC vs'++rest0,_,lo0⟩,by rw[hB];exact aQ,J⟩
   obtain⟨o1,ho1,he1⟩:=hx;exact hdis o1 ho1 o ho he1⟩) (by simp[bP]) (jO rl')
 exact hk.run _ G' _ a' w' r3
def Pp(fr:aw)(cf:Cf):Option (FuncId×List DV×Nat):=match b8 fr cf with
 |some ⟨some d, .call ⟨.value fo,args,_⟩,_,_,_,_⟩=>match qO (bw fr cf) fo args with
  |some (f,ds)=>some (f,ds,d)
  |none=>none
 |_=>none
def cr[fu:Fu]{f:FuncId}{d s:Nat}{ds rows:List DV}{ty:TypeId}(ha:Pp fr cf=some (f,ds,d))(hF:PR GB prog f ds s ty rows)
  (hgo:cB tt n fu.n fr own cf (.rw d) [(d,some (.b ty s rows true))] [d]=⟨vc,fr',own',cf'⟩)(k:ak prog GB C n Q0 fr' own' cf')
  (hv:ah vc:=by first|exact trivial|(simp only[ah];kernel_rfl)|(simp only[ah];omega)|(simp only[ah,aJ,aT,aV];omega)):ak prog GB C n Q0 fr own cf:=by
 unfold Pp at ha;split at ha<;>try (cases ha;done)
 rename_i hh;split at ha<;>cases ha;rename_i h1;exact us hh (Za h1 hF) hgo hv k
def aDP(C:aD)(s:Nat)(ty:TypeId)(rows:List DV):Ending->World->Prop:=pu C (fun v own' G'=> ∃w:SV,v= .slice w.a w.n w.c/\de G' ⟨w,s,ty,rows,true⟩ own')
end
section
variable {GB:Gh} {C:aD} {n:Nat} {Q0:Exit->Act->World->Prop} {fr fr':aw} {own own':aH} {cf cf':Cf} {vc:List Prop}
def TG{lk:LK}{bk:BM}{fo:Operand}{args:Array Operand}{tys:Array TypeId}{f:FuncId}{nm d:Nat}{l:List (Option DV)}{s:Nat}{ty ty0:TypeId}{pos:String}{af:Array Edge}{gd:Option (Nat×Bool)}{dsi dso:List DV}{lo:Bool}(hne:Nat.beq nm d=false)
  (ha:vl lk fo args=some (f,nm,l))(hb:bk nm=some (.b ty0 s dsi lo))(hF:PB GB prog f (mA l) s ty0 dsi (fun w=> .v (.slice w.a w.n w.c)) dso):bH prog GB C n lk bk ⟨some d, .call ⟨.value fo,args,tys⟩,ty,pos,af,gd⟩ (.rw d) [(nm,none),(d,some (.b ty0 s dso lo))] [d]:=by
 intro hd tl tb K' s1 s2 hf hk;refine⟨fun ρ G ov a w r Q=>?_⟩;have r1:=r.mono s1 s2;unfold vl at ha;split at ha<;>try (cases ha;done)
 rename_i h1;split at ha<;>cases ha;rename_i h2;obtain⟨y,hy,hy'⟩:=r1.ev h1;rw[(aG (G:=G)).1 hy'] at hy;obtain⟨B,g1,g2⟩:=r1.bx _ _ hb;have hB:de G ⟨ρ nm,s,ty0,dsi,lo⟩ B:=g1;obtain⟨vs,h7,h8⟩:=Bn r1 (z:=ρ nm) h2 (fun nm e=>by cases e;rfl);have hp: ∃rest,ov.Perm (B++rest)/\ ∀o∈ov,(∀o'∈B,o.b≠o'.b)->o∈rest:=by
  rcases hB with⟨vs',⟨_,_,e⟩|⟨b0,r0,lo0,_,e,_⟩,_⟩
  ·rw[e];exact⟨ov,List.Perm.refl _,fun o ho _=>ho⟩
  ·rw[e] at g2⊢
   obtain⟨l1,l2,e2⟩:=lV (g2 _ aQ);rw[e2];refine⟨l1++l2,nM,fun o ho hno=>?_⟩;rcases cX.1 ho with ho|ho
   ·exact cZ _ ho
   ·rcases aW.1 ho with rfl|ho
    ·exact absurd J (hno _ aQ)
    ·exact cW _ ho
 obtain⟨rest,h5,h6⟩:=hp;refine xi (M:=B) (rest:=rest) hy h7 h5 (hF G (ρ nm) vs B r.gb hB.weak h8) hd (fun v own1 G' hG hK a' w' rl=>?_) a w Q ⟨r.h,r.sz,cP a,r.df⟩;obtain⟨z,hr,vs',k1,k2,k3,k4⟩:=hK;have k1':=k1.relo (iF B);have e2:lo=true-> ∀o∈own1.map (relo (iF B)),o.lo=true:=fun hl o ho=>by
  obtain⟨o',_,rfl⟩:=bJ.1 ho;obtain⟨_,_,_,_,hlo⟩:=hB;exact Br _ (hlo hl)
 generalize own1.map (relo (iF B))=B' at rl e2 k1';have rl':gh C n (Sx.put (cF a) (some d) v) (B'++rest) G' a' w':=rl;have hdis:=(jT.1 rl'.h.nd).2.2;have r2:=r.dropB nm;have hnn:nm≠d:=fun e=>by subst e;rw[oK] at hne;cases hne
 have hf2:kc [d] (some d) tl (Sx.upB tb [(nm,none)]):=fun q hq=>by
  obtain⟨f1,f2⟩:=hf q hq;refine⟨f1,fun k B e1 e=>?_⟩;simp only[Sx.upB] at e;split at e
  ·cases e
  ·exact f2 k B e1 e
 have hsep: ∀q B0,Sx.upB tb [(nm,none)] q=some B0-> ∀o∈ov,(ρ q).a=some ⟨o.b,0,none⟩->o∈rest:=fun q B0 e o ho hbq=>by
  simp only[Sx.upB] at e;split at e
  ·cases e
  ·rename_i hqn
   refine h6 o ho fun o' ho' he=>?_;exact r.dj nm q _ _ (s2 _ _ hb) e (Ne.symm hqn) o'.b (g1.blk ho') (by rw[hbq,he])
 rw[aG.1 hr] at rl';have r3:=r2.new' (x:=z) (B':= .b ty0 s dso lo) (os:=B') (ov':=B'++rest) (f:= .rw d) (y:= .slice z.a z.n z.c) hf2 hG.le rl'.h ⟨vs',by simpa using k1',k2,k3,e2⟩ (fun o ho=>cZ _ ho)
  (fun q B0 hq e o ho hbq=>⟨cW _ (hsep q B0 e o ho hbq),fun hc=>by
   have hx: ∃o1∈B',o1.b=o.b:=by
    rcases k1' with⟨_,h,_⟩|⟨b0,rest0,lo0,h,hB,_⟩
    ·rw[show z=_ from h] at hc;cases hc
    ·rw[show z=_ from h] at hc;cases hc;exact⟨⟨_,aC vs'++rest0,_,lo0⟩,by rw[hB];exact aQ,J⟩
   obtain⟨o1,ho1,he1⟩:=hx;exact hdis o1 ho1 o (hsep q B0 e o ho hbq) he1⟩) (by simp[bP]) (jO rl')
 exact hk.run _ G' _ a' w' r3
def cq[fu:Fu]{f:FuncId}{nm d:Nat}{l:List (Option DV)}{ty:TypeId}{s:Nat}{dsi dso:List DV}{lo:Bool}(dso':List DV)(ha:M4 fr own cf=some ⟨f,nm,l,ty,s,dsi,lo,d⟩)(hF:PB GB prog f (mA l) s ty dsi (fun w=> .v (.slice w.a w.n w.c)) dso)(he:dso=dso')
  (hgo:cB tt n fu.n fr own cf (.rw d) [(nm,none),(d,some (.b ty s dso' lo))] [d]=⟨vc,fr',own',cf'⟩)(k:ak prog GB C n Q0 fr' own' cf')
  (hv:ah vc:=by first|exact trivial|(simp only[ah];kernel_rfl)|(simp only[ah];omega)|(simp only[ah,aJ,aT,aV];omega)):ak prog GB C n Q0 fr own cf:=by
 subst he;unfold M4 at ha;split at ha<;>try (cases ha;done)
 rename_i hh;split at ha<;>try (cases ha;done)
 rename_i h1;split at ha<;>try (cases ha;done)
 rename_i h2;rw[cond_eq_ite] at ha;split at ha<;>cases ha;rename_i h3;exact us hh (TG (by cases hq:Nat.beq nm d with|false=>rfl|true=>exact absurd hq h3) h1 h2 hF) hgo hv k
def Dw(C:aD)(s:Nat)(ty:TypeId)(dso:List DV):Ending->World->Prop:=pu C (fun v own' G'=> ∃w',Is G' (.v (.slice w'.a w'.n w'.c)) v/\de G' ⟨w',s,ty,dso,false⟩ own')
def Kl[fu:Fu]{f:FuncId}{fb:Func}{c:Code}{k s:Nat}{l:List (Option DV)}{dsi dso:List DV}{ty:TypeId}(hf:prog.funcs[f]? =some fb)(hb:fb.body=some c)(hn:(fb.name== "runtime.NumGoroutine")=false)(hm:fb.ntmps=k)(hlen:Nat.ble l.length k=true)
  (hgo:go tt k fu.n [] (wo 0 l) [(NM,some (.b ty s dsi false))] (.code c [])=⟨vc,fr,own,cf⟩)(h: ∀C,ak prog GB C k (fA C prog fb (Dw C s ty dso)) fr own cf)
  (hv:ah vc:=by first|exact trivial|(simp only[ah];kernel_rfl)|(simp only[ah];omega)|(simp only[ah,aJ,aT,aV];omega)):PB GB prog f (mA l) s ty dsi (fun w=> .v (.slice w.a w.n w.c)) dso:=by
 intro G w vs B hg hB hvs;refine gF.introR hf hb hn hm (by rw[hvs.len,Eg];exact hlen) fun C _ hmb hrd hfx=>?_;intro a wd rl;refine vL hrd ?_;have h1:=fg (GB:=GB) (C:=C) (Q0:=fA C prog fb (Dw C s ty dso)) hgo hv (h C);refine h1.run (fun _=>w) G (Sx.asB B) a wd ⟨hg,rl.h,rl.sz,rl.df,fun k f e=>?_,fun nm B' e=>?_,fun nm nm' B' B2 e e' hne=>?_,fun nm p _ _ e=>by rw[hfx] at e;cases e⟩
 ·obtain⟨y,⟨j,hj,hy⟩,h2⟩:=HO (ρ:=fun _=>w) (w:=w) rfl 0 hvs k f e
  refine⟨y,rl.fr k y ?_,h2⟩;rw[hj];exact uZ vs 0 j y hy
 ·rw[kt] at e
  split at e
  ·cases e;exact⟨Sx.asB B,hB.asB,fun o ho=>ho⟩
  ·cases e
 ·rw[kt] at e e'
  split at e<;>split at e'
  ·rename_i h2 h3;exact absurd (h2.trans h3.symm) hne
  ·cases e'
  ·cases e
  ·cases e
def AK{fb:Func}{t d s:Nat}{ty:TypeId}{ds dso:List DV}(hr:fb.results.toList=[.tmp t])(hl:bc fr t=some (.rw d))(hw:bj own d=some (.b ty s ds false))(ed:ds=dso):
  ak prog GB C n (fA C prog fb (Dw C s ty dso)) fr own (.ex .ret []):=by
 subst ed;refine⟨fun ρ G ov a w r=>?_⟩;obtain⟨B,g1,g2⟩:=r.bx _ _ hw;have hB:de G ⟨ρ d,s,ty,ds,false⟩ B:=g1;obtain⟨rest,hp⟩:=Xp hB g2;obtain⟨y,hy,hy'⟩:=r.ev (x:= .tmp t) (f:= .rw d) hl
 cases (show y=_ from hy')
 exact Bx (C:=C) (n:=n) (fr:=cF a) (own:=ov) (G:=G) (vs:=[.slice (ρ d).a (ρ d).n (ρ d).c]) (by rw[hr];exact .tmp hy .nil) (B++rest) B hp (List.sublist_append_left _ _) ⟨ρ d,aG.2 J,hB⟩ a w ⟨r.h,r.sz,cP a,r.df⟩
def I5(lk:LK):List Operand->Option (List (Option DV))
 |[]=>none
 |[x]=>match aI lk x with
  |some .nl=>some [none]
  |_=>none
 |x::t=>match aI lk x,I5 lk t with
  |some f,some l=>match lB f with
   |some d=>some (some d::l)
   |none=>none
  |_,_=>none
def ZX(lk:LK)(fo:Operand)(args:Array Operand):Option (FuncId×List (Option DV)):=match aI lk fo with
 |some (.d (.v (.func (.func f) ⟨[]⟩ ⟨[]⟩)))=>match I5 lk args.toList with
  |some l=>some (f,l)
  |_=>none
 |_=>none
def aFN(fr:aw)(cf:Cf):Option (FuncId×List (Option DV)×Nat):=match b8 fr cf with
 |some ⟨some d, .call ⟨.value fo,args,_⟩,_,_,_,_⟩=>match ZX (bw fr cf) fo args with
  |some (f,l)=>some (f,l,d)
  |none=>none
 |_=>none
end
section
variable {P:Program} {T:TT} {GB:Gh} {C:aD} {n:Nat} {lk:LK} {bk:BM} {ρ:NE} {G:Gh} {ov:List aj} {a:Act} {w:World}
variable {dst:Option Nat} {t t' ty':TypeId} {pos:String} {af:Array Edge} {gd:Option (Nat×Bool)} {x y:Operand} {e s by_:Nat}
end
section
variable {GB:Gh} {C:aD} {n:Nat} {Q0:Exit->Act->World->Prop} {fr fr':aw} {own own':aH} {cf cf':Cf} {vc:List Prop}
def aGw(fr:aw)(own:aH)(cf:Cf):Option (Nat×Nat×Nat×Nat×Nat×List DV×List DV):=match b8 fr cf with
 |some ⟨some d, .call ⟨.builtin .append,⟨[x,y]⟩,⟨[t,t']⟩⟩,_,_,_,_⟩=>match cO tt t with
  |some ⟨.sl e s b,_,_,_⟩=>match cO tt t' with
   |some ⟨.sl _ _ _,_,_,_⟩=>match cO tt e with
    |some i=>match mE i with
     |some z=>bif Nat.beq z.cells.length s&&Nat.blt 0 b then(match qm (bw fr cf) (fE fr own cf) s y with
      |some ds2=>match aI (bw fr cf) x with
       |some (.rw nm)=>match fE fr own cf nm with
        |some (.b e' s' ds false)=>bif (Nat.beq e' e&&Nat.beq s' s)&&!Nat.beq nm d then some (d,nm,e,s,b,ds,ds2) else none
        |_=>none
       |_=>none
      |none=>none) else none
     |none=>none
    |none=>none
   |_=>none
  |_=>none
 |_=>none
end
def PW(GB:Gh)(P:Program)(f:FuncId)(l:List (Option DV))(s:Nat)(ty:TypeId)(dsi:List DV)(rv:DV)(dso:List DV):Prop:=
 ∀G w vs B,bz GB G->de G ⟨w,s,ty,dsi,false⟩ B->IsLs G (mA l w) vs->gF P f vs B G (fun v own' G'=>Is G' rv v/\de G' ⟨w,s,ty,dso,false⟩ own')
def PT{B:List aj}{G:Gh}{w:SV}{s:Nat}{ty:TypeId}{ds:List DV}{lo:Bool}{ov:List aj}(h:de G ⟨w,s,ty,ds,lo⟩ B)(g: ∀o∈B,o∈ov): ∃rest,ov.Perm (B++rest)/\ ∀o∈ov,(∀o'∈B,o.b≠o'.b)->o∈rest:=by
 rcases h with⟨vs',⟨_,_,e⟩|⟨b0,r0,lo0,_,e,_⟩,_⟩
 ·rw[e];exact⟨ov,List.Perm.refl _,fun o ho _=>ho⟩
 ·rw[e] at g⊢
  obtain⟨l1,l2,e2⟩:=lV (g _ aQ);rw[e2];refine⟨l1++l2,nM,fun o ho hno=>?_⟩;rcases cX.1 ho with ho|ho
  ·exact cZ _ ho
  ·rcases aW.1 ho with rfl|ho
   ·exact absurd J (hno _ aQ)
   ·exact cW _ ho
section
variable {GB:Gh} {C:aD} {n:Nat} {Q0:Exit->Act->World->Prop} {fr fr':aw} {own own':aH} {cf cf':Cf} {vc:List Prop} {lk:LK} {bk:BM}
variable {dst:Option Nat} {t t' ty':TypeId} {pos:String} {af:Array Edge} {gd:Option (Nat×Bool)} {x y:Operand}
def RK{fo:Operand}{args:Array Operand}{tys:Array TypeId}{f:FuncId}{nm:Nat}{l:List (Option DV)}{s:Nat}{ty0:TypeId}{dsi dso:List DV}{lo:Bool}{rv:DV}
  (ha:vl lk fo args=some (f,nm,l))(hb:bk nm=some (.b ty0 s dsi lo))(hF:PW GB prog f l s ty0 dsi rv dso):bH prog GB C n lk bk ⟨dst, .call ⟨.value fo,args,tys⟩,ty',pos,af,gd⟩ (.d rv) [(nm,some (.b ty0 s dso lo))] []:=by
 intro hd tl tb K' s1 s2 hf hk;refine⟨fun ρ G ov a w r Q=>?_⟩;have r1:=r.mono s1 s2;unfold vl at ha;split at ha<;>try (cases ha;done)
 rename_i h1;split at ha<;>cases ha;rename_i h2;obtain⟨y,hy,hy'⟩:=r1.ev h1;rw[(aG (G:=G)).1 hy'] at hy;obtain⟨B,g1,g2⟩:=r1.bx _ _ hb;have hB:de G ⟨ρ nm,s,ty0,dsi,lo⟩ B:=g1;obtain⟨vs,h7,h8⟩:=Bn r1 (z:=ρ nm) h2 (fun nm e=>by cases e;rfl);obtain⟨rest,h5,h6⟩:=PT hB g2;refine xi (M:=B) (rest:=rest) hy h7 h5 (hF G (ρ nm) vs B r.gb hB.weak h8) hd (fun v own1 G' hG hK a' w' rl=>?_) a w Q ⟨r.h,r.sz,cP a,r.df⟩;obtain⟨hr,vs',k1,k2,k3,k4⟩:=hK;have k1':=k1.relo (iF B);have e2:lo=true-> ∀o∈own1.map (relo (iF B)),o.lo=true:=fun hl o ho=>by
  obtain⟨o',_,rfl⟩:=bJ.1 ho;obtain⟨_,_,_,_,hlo⟩:=hB;exact Br _ (hlo hl)
 generalize own1.map (relo (iF B))=B' at rl e2 k1';have r2:=r.upB (G':=G') (ov':=B'++rest) (w':=w') (B':= .b ty0 s dso lo) (os:=B') hG.le rl.h ⟨vs',by simpa using k1',k2,k3,e2⟩ (fun o ho=>cZ _ ho)
  (fun o ho hne=>cW _ (h6 o ho fun o' ho' he=>hne (by rw[g1.blk ho',he]))) ⟨_,s2 _ _ hb⟩
 exact hk.run _ G' _ a' w' (r2.put hr (jO rl))
def Ps(fr:aw)(own:aH)(cf:Cf):Option (FuncId×Nat×List (Option DV)×TypeId×Nat×List DV×Bool):=match b8 fr cf with
 |some ⟨_, .call ⟨.value fo,args,_⟩,_,_,_,_⟩=>match vl (bw fr cf) fo args with
  |some (f,nm,l)=>match fE fr own cf nm with
   |some (.b ty s ds lo)=>some (f,nm,l,ty,s,ds,lo)
   |_=>none
  |none=>none
 |_=>none
def cw[fu:Fu]{f:FuncId}{nm:Nat}{l:List (Option DV)}{ty:TypeId}{s:Nat}{dsi dso:List DV}{lo:Bool}{rv:DV}(dso':List DV)(ha:Ps fr own cf=some (f,nm,l,ty,s,dsi,lo))(hF:PW GB prog f l s ty dsi rv dso)(he:dso=dso')
  (hgo:cB tt n fu.n fr own cf (.d rv) [(nm,some (.b ty s dso' lo))] []=⟨vc,fr',own',cf'⟩)(k:ak prog GB C n Q0 fr' own' cf')
  (hv:ah vc:=by first|exact trivial|(simp only[ah];kernel_rfl)|(simp only[ah];omega)|(simp only[ah,aJ,aT,aV];omega)):ak prog GB C n Q0 fr own cf:=by
 subst he;unfold Ps at ha;split at ha<;>try (cases ha;done)
 rename_i hh;split at ha<;>try (cases ha;done)
 rename_i h1;split at ha<;>cases ha;rename_i h2;exact us hh (RK h1 h2 hF) hgo hv k
def LW{G:Gh}{w:SV}{s:Nat}{ty:TypeId}{ds:List DV}{lo:Bool}{B:List aj}(h:de G ⟨w,s,ty,ds,lo⟩ B)(hn:0<ds.length): ∃b,w=⟨some ⟨b,0,none⟩,ds.length,w.c⟩/\ds.length<=w.c:=by
 obtain⟨vs,h1,h2,_⟩:=h;rcases h1 with⟨e1,_,_⟩|⟨b,rest,lo',e1,_,_,_,h5⟩
 ·subst e1;have:=h2.len;simp at this;omega
 ·exact⟨b,by rw[<-h2.len];exact e1,by rw[<-h2.len];exact h5⟩
def TM{P:Program}{e s by_:Nat}[hT:cd P t e s by_]{nm:Nat}{k:IntKind}{j m:Nat}{ty:TypeId}{ds:List DV}{lo:Bool}(hx:aI lk x=some (.rw nm))(hb:bk nm=some (.b ty s ds lo))(hy:aI lk y=some (.d (.v (.int k j))))(hm:j+m=ds.length)(h1:0<m):
  bH P GB C n lk bk ⟨dst, .slice t x (some y) none none,ty',pos,af,gd⟩ (.rs nm s j m) [] []:= .yd fun ρ G ov a w r=>by
 obtain⟨u,hu,hu2⟩:=r.ev hx
 cases (show u=_ from hu2)
 obtain⟨v,hv,hv2⟩:=r.ev hy;rw[cH] at hv2;subst hv2;obtain⟨B,hB,_⟩:=r.row (y:= .nilFunc) hb;obtain⟨b,hw,hc⟩:=LW hB (by omega);rw[hw] at hu;have hs:=A4 (P:=P) (C:=C) (own:=ov) (G:=G) (dst:=dst) (ty':=ty') (pos:=pos) (af:=af) (gd:=gd) (t:=t) hu hv (by omega) (by show(j:Int)<=(ds.length:Nat);omega);have hne:(ρ nm).c≠j:=by omega
 refine⟨_,⟨b,(ρ nm).c-j,by rw[hw],?_,?_⟩,hs⟩
 ·unfold kP
  rw[aM,if_neg hne,jJ,nj,dK,show ds.length-j=m by omega]
 ·omega
def V9{P:Program}{e s by_:Nat}[hT:cd P t e s by_]{nm sz off m:Nat}(hx:aI lk x=some (.rs nm sz off m)):bH P GB C n lk bk ⟨dst, .call ⟨.builtin .len, #[x], #[t]⟩,ty',pos,af,gd⟩ (.d (.v (.int .i64 (m:Nat)))) [] []:= .x1 hx fun ρ G ov a w y _ r h1 h2=>by
 obtain⟨b,c,_,rfl,_⟩:=h2;exact⟨_,cH.2 J,mv h1⟩
def UP{P:Program}{e s by_:Nat}[hT:cd P t e s by_]{nm off m j:Nat}{k:IntKind}{i:Int}(hx:aI lk x=some (.rs nm s off m))(hy:aI lk y=some (.d (.v (.int k i))))(h0:0<=i)(h1:i<(m:Nat))(hj:(off:Int)+i=(j:Nat)):
  bH P GB C n lk bk ⟨dst, .indexAddr t x y,ty',pos,af,gd⟩ (.be nm s j 0) [] []:= .yd fun ρ G ov a w r=>by
 obtain⟨u,hu,hu2⟩:=r.ev hx;obtain⟨b,c,hb,rfl,hc⟩:=hu2;obtain⟨v,hv,hv2⟩:=r.ev hy;rw[cH] at hv2;subst hv2;have:=xw (P:=P) (C:=C) (own:=ov) (G:=G) (dst:=dst) (ty':=ty') (pos:=pos) (af:=af) (gd:=gd) (t:=t) hu hv h0 h1;obtain rfl:off+i.toNat=j:=by omega
 exact⟨_,⟨b,hb,J⟩,by rw[eJ,cY];exact this⟩
def Lz(fr:aw)(own:aH)(cf:Cf):Option (Nat×Nat×List DV×Int):=match b8 fr cf with
 |some ⟨_, .slice t x (some y) none none,_,_,_,_⟩=>match cO tt t with
  |some ⟨.sl _ s' _,_,_,_⟩=>match aI (bw fr cf) x with
   |some (.rw nm)=>match fE fr own cf nm with
    |some (.b _ s ds _)=>match aI (bw fr cf) y with
     |some (.d (.v (.int _ i)))=>bif Nat.beq s s' then some (nm,s,ds,i) else none
     |_=>none
    |_=>none
   |_=>none
  |_=>none
 |_=>none
def Ig[fu:Fu]{nm s:Nat}{ds:List DV}{i:Int}(k m:Nat)(h:Lz fr own cf=some (nm,s,ds,i))(hi:i=(k:Nat))(hm:k+m=ds.length)(hp:0<m)(hgo:cB tt n fu.n fr own cf (.rs nm s k m) [] []=⟨vc,fr',own',cf'⟩)(kk:ak prog GB C n Q0 fr' own' cf')
  (hv:ah vc:=by first|exact trivial|(simp only[ah];kernel_rfl)|(simp only[ah];omega)|(simp only[ah,aJ,aT,aV];omega)):ak prog GB C n Q0 fr own cf:=by
 subst hi;unfold Lz at h;split at h<;>try (cases h;done)
 rename_i hh;split at h<;>try (cases h;done)
 rename_i hT;split at h<;>try (cases h;done)
 rename_i hx;split at h<;>try (cases h;done)
 rename_i hb;split at h<;>try (cases h;done)
 rename_i hy;rw[cond_eq_ite] at h;split at h<;>cases h;rename_i hq
 cases aY hq
 have:=i5 (d7 _ _ hT) J;exact us hh (TM hx hb hy hm hp) hgo hv kk
def K6(fr:aw)(cf:Cf):Option Nat:=match b8 fr cf with
 |some ⟨_, .call ⟨.builtin .len,⟨[x]⟩,⟨[t]⟩⟩,_,_,_,_⟩=>match cO tt t with
  |some ⟨.sl _ _ _,_,_,_⟩=>match aI (bw fr cf) x with
   |some (.rs _ _ _ m)=>some m
   |_=>none
  |_=>none
 |_=>none
def U4[fu:Fu]{m:Nat}(h:K6 fr cf=some m)(hgo:cB tt n fu.n fr own cf (.d (.v (.int .i64 (m:Nat)))) [] []=⟨vc,fr',own',cf'⟩)(kk:ak prog GB C n Q0 fr' own' cf')
  (hv:ah vc:=by first|exact trivial|(simp only[ah];kernel_rfl)|(simp only[ah];omega)|(simp only[ah,aJ,aT,aV];omega)):ak prog GB C n Q0 fr own cf:=by
 unfold K6 at h;split at h<;>try (cases h;done)
 rename_i hh;split at h<;>try (cases h;done)
 rename_i hT;split at h<;>cases h;rename_i hx;have:=i5 (d7 _ _ hT) J;exact us hh (V9 hx) hgo hv kk
def L8(fr:aw)(cf:Cf):Option (Nat×Nat×Nat×Nat×Int):=match b8 fr cf with
 |some ⟨_, .indexAddr t x y,_,_,_,_⟩=>match cO tt t with
  |some ⟨.sl _ s' _,_,_,_⟩=>match aI (bw fr cf) x with
   |some (.rs nm s off m)=>match aI (bw fr cf) y with
    |some (.d (.v (.int _ i)))=>bif Nat.beq s s' then some (nm,s,off,m,i) else none
    |_=>none
   |_=>none
  |_=>none
 |_=>none
def DD[fu:Fu]{nm s off m:Nat}{i:Int}(k:Nat)(h:L8 fr cf=some (nm,s,off,m,i))(hk:(off:Int)+i=(k:Nat))(h0:0<=i)(h1:i<(m:Nat))(hgo:cB tt n fu.n fr own cf (.be nm s k 0) [] []=⟨vc,fr',own',cf'⟩)(kk:ak prog GB C n Q0 fr' own' cf')
  (hv:ah vc:=by first|exact trivial|(simp only[ah];kernel_rfl)|(simp only[ah];omega)|(simp only[ah,aJ,aT,aV];omega)):ak prog GB C n Q0 fr own cf:=by
 unfold L8 at h;split at h<;>try (cases h;done)
 rename_i hh;split at h<;>try (cases h;done)
 rename_i hT;split at h<;>try (cases h;done)
 rename_i hx;split at h<;>try (cases h;done)
 rename_i hy;rw[cond_eq_ite] at h;split at h<;>cases h;rename_i hq
 cases aY hq
 have:=i5 (d7 _ _ hT) J;exact us hh (UP hx hy h0 h1 hk) hgo hv kk
def gq.cut{s:Nat}{ty:TypeId}{z:SV}{vs:List Value}{B:List aj}(h:gq s ty z vs B)(hs: ∀v∈vs,(aE v).length=s){k:Nat}(hk:k<=vs.length)(hne:0<vs.length):gq s ty ⟨z.a,k,z.c⟩ (vs.take k) B:=by
 rcases h with⟨h1,_,_⟩|⟨b,rest,lo,h1,h2,h3,h4,h5⟩
 ·subst h1;simp at hne
 ·have e:aC vs=aC (vs.take k)++aC (vs.drop k):=by rw[<-l5,mU]
  have hl:=d8 (vs.take k) fun v hv=>hs v (eK hv);have hm:(vs.take k).length=k:=by rw[bM];omega
  refine .inr ⟨b,aC (vs.drop k)++rest,lo,by rw[hm,h1],by rw[h2,e,dQ],hl,?_,by rw[hm];show k<=z.c;omega⟩;show _=z.c*s;rw[<-h4,e,aR,aR];omega
def X1{P:Program}{e s by_:Nat}[hT:cd P t e s by_]{nm d:Nat}{k:IntKind}{j:Nat}{ty:TypeId}{ds:List DV}{lo:Bool}(hne:Nat.beq nm d=false)(hx:aI lk x=some (.rw nm))(hb:bk nm=some (.b ty s ds lo))(hy:aI lk y=some (.d (.v (.int k j))))(h1:j<ds.length):
  bH P GB C n lk bk ⟨some d, .slice t x none (some y) none,ty',pos,af,gd⟩ (.rw d) [(nm,none),(d,some (.b ty s (ds.take j) lo))] [d]:=by
 intro hd tl tb K s1 s2 hf hk;refine⟨fun ρ G ov a w r Q=>?_⟩;have r1:=r.mono s1 s2;obtain⟨u,hu,hu2⟩:=r1.ev hx
 cases (show u=_ from hu2)
 obtain⟨v,hv,hv2⟩:=r1.ev hy;rw[cH] at hv2;subst hv2;obtain⟨B,hB0,hBo⟩:=r1.bx _ _ hb;have hB:de G ⟨ρ nm,s,ty,ds,lo⟩ B:=hB0;obtain⟨b,hw,hc⟩:=LW hB (by omega);obtain⟨vs,g1,g2,g3,g4⟩:=hB;have hvl:=g2.len;have hcut:de G ⟨⟨(ρ nm).a,j,(ρ nm).c⟩,s,ty,ds.take j,lo⟩ B:=⟨vs.take j,gq.cut g1 g3 (by simp only at hvl⊢;omega) (by simp only at hvl⊢;omega),g2.take _,fun v hv=>g3 v (eK hv),g4⟩;have hs:=uX (P:=P) (C:=C) (own:=ov) (G:=G) (dst:=some d) (ty':=ty') (pos:=pos) (af:=af) (gd:=gd) (t:=t) hu hv (by omega) (by omega);have hnn:nm≠d:=fun e=>by subst e;rw[oK] at hne;cases hne
 have r2:=r.dropB nm;have hf2:kc [d] (some d) tl (Sx.upB tb [(nm,none)]):=fun q hq=>by
  obtain⟨f1,f2⟩:=hf q hq;refine⟨f1,fun k B e1 e=>?_⟩;simp only[Sx.upB] at e;split at e
  ·cases e
  ·exact f2 k B e1 e
 have r3:=r2.new' (x:=⟨(ρ nm).a,j,(ρ nm).c⟩) (B':= .b ty s (ds.take j) lo) (os:=B) (ov':=ov) (f:= .rw d) (y:= .slice (ρ nm).a j (ρ nm).c) hf2 (bz.refl _) r.h (hcut.toBk (by simp)) hBo
  (fun m B' hm e o ho hmo=>⟨ho,fun hc=>by
   simp only[Sx.upB] at e;split at e
   ·cases e
   ·rename_i hmn
    exact r.dj m nm B' _ e (s2 _ _ hb) hmn _ hmo hc⟩) (by simp[bP]) (r.putA (.slice (ρ nm).a j (ρ nm).c) hd)
 exact jh (hs a w (cP a) r.h) (hk.run _ G _ _ w r3)
def Jw(fr:aw)(own:aH)(cf:Cf):Option (Nat×Nat×TypeId×Nat×List DV×Bool×Int):=match b8 fr cf with
 |some ⟨some d, .slice t x none (some y) none,_,_,_,_⟩=>match cO tt t with
  |some ⟨.sl _ s' _,_,_,_⟩=>match aI (bw fr cf) x with
   |some (.rw nm)=>match fE fr own cf nm with
    |some (.b ty s ds lo)=>match aI (bw fr cf) y with
     |some (.d (.v (.int _ i)))=>bif Nat.beq s s'&&!Nat.beq nm d then some (d,nm,ty,s,ds,lo,i) else none
     |_=>none
    |_=>none
   |_=>none
  |_=>none
 |_=>none
def T4[fu:Fu]{d nm s:Nat}{ty:TypeId}{ds:List DV}{lo:Bool}{i:Int}(ds':List DV)(k:Nat)(h:Jw fr own cf=some (d,nm,ty,s,ds,lo,i))(hi:i=(k:Nat))(hl:k<ds.length)(hd:ds.take k=ds')(hgo:cB tt n fu.n fr own cf (.rw d) [(nm,none),(d,some (.b ty s ds' lo))] [d]=⟨vc,fr',own',cf'⟩)(kk:ak prog GB C n Q0 fr' own' cf')
  (hv:ah vc:=by first|exact trivial|(simp only[ah];kernel_rfl)|(simp only[ah];omega)|(simp only[ah,aJ,aT,aV];omega)):ak prog GB C n Q0 fr own cf:=by
 subst hi hd;unfold Jw at h;split at h<;>try (cases h;done)
 rename_i hh;split at h<;>try (cases h;done)
 rename_i hT;split at h<;>try (cases h;done)
 rename_i hx;split at h<;>try (cases h;done)
 rename_i hb;split at h<;>try (cases h;done)
 rename_i hy;rw[cond_eq_ite] at h;split at h<;>cases h;rename_i hq;simp only[aN,iZ] at hq
 cases aY hq.1
 have:=i5 (d7 _ _ hT) J;exact us hh (X1 hq.2 hx hb hy hl) hgo hv kk
def MZ(v:Value)(m:Nat):aC (List.replicate m v)=cC v m:=by
 unfold cC
 induction m with
 |zero=>rfl
 |succ m ih=>rw[iY,iY,kU,<-ih];rfl
def Oj{G:Gh}{z:DV}{v:Value}(h:Is G z v): ∀m:Nat,IsLs G (List.replicate m z) (List.replicate m v)
 |0=> .nil
 |m+1=>by rw[iY,iY];exact .cons h (Oj h m)
def Qx{P:Program}{e s by_:Nat}[hT:cd P t e s by_]{i:TI}{z:DV}(hi:er P e=some i)(hz:mE i=some z)(hzs:z.cells.length=s){nm off m:Nat}{ty:TypeId}{ds:List DV}{lo:Bool}(hx:aI lk x=some (.rs nm s off (m+1)))(hb:bk nm=some (.b ty s ds lo))(hm:off+(m+1)=ds.length):
  bH P GB C n lk bk ⟨dst, .call ⟨.builtin .clear, #[x], #[t]⟩,ty',pos,af,gd⟩ (.d (.tp [])) [(nm,some (.b ty s (ds.take off++List.replicate (m+1) z) lo))] []:=by
 intro hd tl tb K s1 s2 hf hk;refine⟨fun ρ G ov a w r Q=>?_⟩;have r1:=r.mono s1 s2;obtain⟨v,hz1,hz2,hz3⟩:=vR hi hz;have cz:=((hz2 G).cells hz3).1.len;have cf:=((hz2 G).cells hz3).2;rw[hzs] at cz;obtain⟨u,hu,b,c,hbq,rfl,hc⟩:=r1.ev hx;obtain⟨B,hB0,hBo⟩:=r1.bx _ _ hb;have hB:de G ⟨ρ nm,s,ty,ds,lo⟩ B:=hB0;obtain⟨vs,g1,g2,g3,g4⟩:=hB;simp only at g1 g2 g3 g4;have hvl:=g2.len;rcases g1 with⟨e1,e2,_⟩|⟨b',rest,lo',k1,k2,k3,k4,k5⟩
 ·subst e1;simp at hvl;omega
 ·have hbe:b'=b:=by rw[k1] at hbq;cases hbq;rfl
  subst hbe;subst k2;have hmem:=hBo _ aQ;have hblk:=(r.h.hown _ hmem).1;simp only at hblk;have hzl:(cC v (m+1)).length=(m+1)*s:=by rw[ml,cz]
  have hls:vs.length*s=off*s+(m+1)*s:=by rw[<-cY];congr 1;omega
  have hst:=vo (P:=P) (cC v (m+1)) w (off*s) 0 (aC vs++rest) (fun q hq=>by
   unfold cC at hq;obtain⟨l,hl,hql⟩:=List.mem_flatten.1 hq;rw[lY hl] at hql;exact cf q hql) hblk (by rw[hzl,aR];omega)
  rw[eJ] at hst;have htk:=d8 (vs.take off) fun q hq=>g3 q (eK hq);have hov:ck (aC vs++rest) (off*s) (cC v (m+1))=aC (vs.take off++List.replicate (m+1) v)++rest:=by
   rw[nC _ _ _ (by rw[hzl,aR];omega),l5,MZ];have e1:(aC vs++rest).take (off*s)=aC (vs.take off):=by
    rw[eX (by omega),Da vs off g3 (by omega)]
   rw[e1,hzl,<-hls,jZ (by omega),gU (by omega),cK]
  have hrun:(Builtin.clear_ #[t] ty' #[.slice (some ⟨b',off*s,none⟩) (m+1) c]).run P w= .ok (.tuple #[]) (fp w b' (.cells ⟨aC (vs.take off++List.replicate (m+1) v)++rest⟩ ty (0,0))):=by
   unfold Builtin.clear_;show(underlying t>>=_).run P w=_;rw[aP (hT.u w)];show(zeroValue e>>=fun q=>storeCells ⟨b',off*s,none⟩ (Builtin.zeroCells q.cells (m+1)).toList>>=fun _=>pure (Value.tuple #[])).run P w=_;rw[aP (hz1.zero w)];show(storeCells ⟨b',off*s,none⟩ (Builtin.zeroCells v.cells (m+1)).toList>>=fun _=>pure (Value.tuple #[])).run P w=_;rw[mz,JQ,aP (hov▸hst)];rfl
  obtain⟨own',u1,u2,u3⟩:=eE.of_mem (cs':=aC (vs.take off++List.replicate (m+1) v)++rest) hmem;have r2:=r.upB (G':=G) (ov':=own') (w':=fp w b' (.cells ⟨aC (vs.take off++List.replicate (m+1) v)++rest⟩ ty (0,0))) (B':= .b ty s (ds.take off++List.replicate (m+1) z) lo) (os:=[⟨b',aC (vs.take off++List.replicate (m+1) v)++rest,ty,lo'⟩]) (bz.refl _) (r.h.store u1)
   ⟨vs.take off++List.replicate (m+1) v, .inr ⟨b',rest,lo',?_,J,?_,?_,?_⟩,(g2.take _).app (Oj (hz2 G) _),?_,?_⟩ (fun o ho=>by rw[aU.1 ho];exact u2) (fun o ho hne=>u3 o ho fun e=>hne (by rw[hbq,e])) ⟨_,s2 _ _ hb⟩
  ·have h3:=hk.run _ G _ _ _ (r2.put (f:= .d (.tp [])) (y:= .tuple #[]) (iD.2 ⟨[],J, .nil⟩) (r2.putA (.tuple #[]) hd))
   refine jh (v:= .tuple #[]) ?_ h3;simp only[execOp,resolve,gV,bW,dR,bh (cP a) hu];exact cx hrun
  ·rw[k1,aR,bM,aV,fN (by omega)]
   simp only[SV.mk.injEq,true_and,and_true];omega
  ·refine d8 _ fun q hq=>?_
   rcases cX.1 hq with hq|hq
   ·exact g3 q (eK hq)
   ·rw[lY hq,cz]
  ·rw[l5,MZ,aR,htk,hzl,bM,fN (by omega)]
   omega
  ·rw[aR,bM,aV,fN (by omega)];omega
  ·intro q hq
   rcases cX.1 hq with hq|hq
   ·exact g3 q (eK hq)
   ·rw[lY hq,cz]
  ·intro hl o ho
   have:=g4 hl _ aQ;rw[aU.1 ho];exact this
def M5(fr:aw)(own:aH)(cf:Cf):Option (Nat×TypeId×Nat×List DV×Bool×Nat×Nat×DV):=match b8 fr cf with
 |some ⟨_, .call ⟨.builtin .clear,⟨[x]⟩,⟨[t]⟩⟩,_,_,_,_⟩=>match cO tt t with
  |some ⟨.sl e s' _,_,_,_⟩=>match aI (bw fr cf) x with
   |some (.rs nm s off m)=>match fE fr own cf nm with
    |some (.b ty s2 ds lo)=>match cO tt e with
     |some i=>match mE i with
      |some z=>bif Nat.beq s s'&&(Nat.beq s s2&&Nat.beq z.cells.length s) then some (nm,ty,s,ds,lo,off,m,z) else none
      |none=>none
     |none=>none
    |_=>none
   |_=>none
  |_=>none
 |_=>none
def R1[fu:Fu]{nm s off m:Nat}{ty:TypeId}{ds:List DV}{lo:Bool}{z:DV}(ds':List DV)(h:M5 fr own cf=some (nm,ty,s,ds,lo,off,m,z))(hm:off+m=ds.length)(hp:0<m)(hd:ds.take off++List.replicate m z=ds')(hgo:cB tt n fu.n fr own cf (.d (.tp [])) [(nm,some (.b ty s ds' lo))] []=⟨vc,fr',own',cf'⟩)(kk:ak prog GB C n Q0 fr' own' cf')
  (hv:ah vc:=by first|exact trivial|(simp only[ah];kernel_rfl)|(simp only[ah];omega)|(simp only[ah,aJ,aT,aV];omega)):ak prog GB C n Q0 fr own cf:=by
 subst hd;obtain⟨m,rfl⟩: ∃q,m=q+1:=⟨m-1,by omega⟩;unfold M5 at h;split at h<;>try (cases h;done)
 rename_i hh;split at h<;>try (cases h;done)
 rename_i hT;split at h<;>try (cases h;done)
 rename_i hx;split at h<;>try (cases h;done)
 rename_i hb;split at h<;>try (cases h;done)
 rename_i hi;split at h<;>try (cases h;done)
 rename_i hz;rw[cond_eq_ite] at h;split at h<;>cases h;rename_i hq;simp only[aN] at hq
 cases aY hq.1
 cases aY hq.2.1
 have:=i5 (d7 _ _ hT) J;exact us hh (Qx (d7 _ _ hi) hz (aY hq.2.2) hx hb hm) hgo hv kk
end
section
variable {F:Fence} {n:Nat} {P:Program} {Q:Exit->Act->World->Prop} {ops:Array Oper} {md:Region.Mode}
def KV: ∀{k:Nat} {listed:Array Bool} {a:Act} {w:World},wpAnyIn F n P md ops Q k listed a w->wpAnyIn F n P md ops Q (k+1) listed a w
 |0,_,_,_,h=>⟨fun _=>h.2,fun i hi=>by rw[h.1] at hi;cases hi⟩
 |_+1,_,_,_,h=>⟨h.1,fun i hi=>wpOpIn_mono (fun _ _ k=>KV k) (h.2 i hi)⟩
def Ip{k:Nat}{listed:Array Bool}{a:Act}{w:World}(h:wpAnyIn F n P md ops Q k listed a w): ∀j,wpAnyIn F n P md ops Q (j+k) listed a w
 |0=>by rw[dK];exact h
 |j+1=>by rw[show j+1+k=j+k+1 by omega];exact KV (Ip h j)
def Bf.lt{l:List Oper}(he:ly 0 l=true){i j:Nat}(h:Bf l i j):j<i:=by
 induction h with
 |b ho hm hb=>have:=pq he _ _ ho _ hm hb;omega
 |s ho hm hb _ ih=>have:=pq he _ _ ho _ hm hb;omega
def Bf.inv{l:List Oper}{i j:Nat}(h:Bf l i j): ∃o e,l[i]? =some o/\e∈o.after/\Region.binds .any e=true/\(e.on=j\/Bf l e.on j):=by
 induction h with
 |b ho hm hb=>exact⟨_,_,ho,hm,hb, .inl J⟩
 |s ho hm hb hh _=>exact⟨_,_,ho,hm,hb, .inr hh⟩
def KQ(he:ly 0 ops.toList=true): ∀(r pre:List Oper),ops.toList=pre++r->(∀i,pre.length<=i->i<ops.size-> ∀j,j<i->Bf ops.toList i j)-> ∀(listed:Array Bool) (a:Act) (w:World),(∀j d,listed.getD j d=if j<pre.length then true else if j<ops.size then false else d)->wpListIn F n P ops Q r a w->wpAnyIn F n P .any ops Q r.length listed a w
 |[],pre,hops,_,listed,a,w,hl,h=>by
  refine⟨?_,h⟩;rw[List.eq_nil_iff_forall_not_mem];intro i hi;obtain⟨h1,o,h2,_⟩:=mem_ready.1 hi;have h3:=(fK.1 h2).1;have h4:pre.length=ops.size:=by rw[<-iV,hops];simp
  rw[hl,if_pos (by omega)] at h1
  cases h1
 |o::r,pre,hops,hc,listed,a,w,hl,h=>by
  have hsz:ops.size=pre.length+(r.length+1):=by rw[<-iV,hops];simp
  have hp:ops.toList[pre.length]? =some o:=by rw[hops];simp
  have hp':ops[pre.length]? =some o:=by simpa using hp
  have only: ∀i,i∈Region.ready .any ops listed↔i=pre.length:=fun i=>by
   rw[mem_ready];constructor
   ·rintro ⟨h1,o',h2,h3⟩
    have h4:=(fK.1 h2).1;rw[hl] at h1;split at h1
    ·cases h1
    ·rename_i h5
     apply Classical.byContradiction;intro h6;have hb:=hc i (by omega) h4 pre.length (by omega);obtain⟨o2,e,ho,hm,hb,hh⟩:=hb.inv;have e':o'=o2:=Option.some.inj (h2.symm.trans (by simpa using ho));subst e';have h7:=h3 _ hm hb;have h9:=pq he _ _ ho _ hm hb;have h8:pre.length<=e.on:=by
      rcases hh with hh|hh
      ·omega
      ·have:=hh.lt he;omega
     rw[hl,if_neg (by omega),if_pos (by omega)] at h7
     cases h7
   ·rintro rfl
    refine⟨by rw[hl,if_neg (by omega),if_pos (by omega)],o,hp',fun e hm hb=>?_⟩;have:=pq he _ _ hp _ hm hb;rw[hl,if_pos (by omega)]
  refine⟨fun hn=>?_,fun i hi=>?_⟩
  ·have:=(only pre.length).2 J
   rw[hn] at this;cases this
  ·obtain rfl:=(only i).1 hi
   have ih:=KQ he r (pre++[o]) (by rw[hops];simp) (fun i h1 h2=>hc i (by simp at h1;omega) h2) (listed.setIfInBounds pre.length true);have hl': ∀j d,(listed.setIfInBounds pre.length true).getD j d=if j<(pre++[o]).length then true else if j<ops.size then false else d:=fun j d=>by
    have hls:pre.length<listed.size:=by
     apply Classical.byContradiction;intro hq;have h1:=hl pre.length true;rw[if_neg (by omega),if_pos (by omega),bY,lR (by omega)] at h1
     cases h1
    have h1:=hl j d;rw[bY] at h1⊢;rw[dV];by_cases hj:pre.length=j
    ·subst hj;rw[if_pos J,if_pos hls,if_pos (by simp)];rfl
    ·rw[if_neg hj,h1]
     simp only[aR,bT,jK];by_cases h2:j<pre.length
     ·rw[if_pos h2,if_pos (by omega)]
     ·rw[if_neg h2]
      by_cases h3:j<ops.size
      ·rw[if_pos h3,if_neg (by omega)];
      ·rw[if_neg h3,if_neg (by omega)]
   unfold wpOpIn;rw[hp'];simp only[wpListIn] at h⊢;split
   ·rename_i hw;rw[if_pos hw] at h
    exact Oper.wpIn_mono (fun a w k=>ih a w hl' k) h
   ·rename_i hw;rw[if_neg hw] at h
    exact⟨h.1,ih _ _ hl' h.2⟩
def CH(F:Fence)(n:Nat)(P:Program)(ops:Array Oper)(r:List Oper)(Q:Exit->Act->World->Prop):Exit->Act->World->Prop
 | .normal=>wpListIn F n P ops Q r
 |e=>Q e
def VJ{o:Oper}{a:Act}{w:World}{r:List Oper}{K:Act->World->Prop}(h:o.wpIn F n P a w K (CH F n P ops r Q)):o.wpIn F n P a w K Q:=by
 refine⟨h.1,?_⟩;have:=h.2
 cases hr:(o.semAt F.round a.eval).run P w with
 |ok x w'=>
  rw[hr] at this
  cases x with
  |enter f args=>exact⟨this.1,CallsIn.mono this.2 fun e w'' he=>by cases e<;>exact he⟩
  |round l f t x y=>exact⟨this.1,RoundIn.mono this.2 fun e w'' he=>by cases e<;>exact he⟩
  |_=>exact this
 |halt x w'=>
  rw[hr] at this
  cases x<;>exact this
def RC{pre r:List Oper}(hops:ops.toList=pre++r)(hg: ∀o∈pre,o.guard=none)(he:ly 0 ops.toList=true)(hc: ∀i,pre.length<=i->i<ops.size-> ∀j,j<i->Bf ops.toList i j):
  ∀(fuel:Nat) (L listed:Array Bool) (a:Act) (w:World),L.size=pre.length->(∀j d,listed.getD j d=if j<pre.length then L.getD j d else if j<ops.size then false else d)->(∀i o,ops.toList[i]? =some o->listed.getD i false=true-> ∀e∈o.after,Region.binds .any e=true->listed.getD e.on false=true)->
   wpAnyIn F n P .any pre.toArray (CH F n P ops r Q) fuel L a w->wpAnyIn F n P .any ops Q (fuel+r.length) listed a w:=by
 have hsz:ops.size=pre.length+r.length:=by rw[<-iV,hops];simp
 have hget: ∀i,i<pre.length->ops[i]? =pre.toArray[i]? :=fun i hi=>by rw[<-oR,hops,cS hi];simp
 -- all of the first part is done
 have fin: ∀(L listed:Array Bool) (a:Act) (w:World),L.size=pre.length->(∀j d,listed.getD j d=if j<pre.length then L.getD j d else if j<ops.size then false else d)->Region.ready .any pre.toArray L=[]->wpListIn F n P ops Q r a w->wpAnyIn F n P .any ops Q r.length listed a w:=by
  intro L listed a w hL hl hr h;have all: ∀i,i<pre.length->L.getD i true=true:=by
   intro i
   induction i using Nat.strongRecOn with
   |ind i ih=>
    intro hi
    cases hq:L.getD i true with
    |true=>rfl
    |false=>
     have:i∈Region.ready .any pre.toArray L:=mem_ready.2 ⟨hq,pre[i],by simp[hi],fun e hm hb=>by
      have hlt:=pq he i pre[i] (by rw[hops,cS hi];simp[hi]) e hm hb;have:=ih e.on (by omega) (by omega);rw[bY,gQ (by omega)] at this⊢;simpa using this⟩
     rw[hr] at this;cases this
  refine KQ he r pre hops hc listed a w (fun j d=>?_) h;rw[hl];by_cases hj:j<pre.length
  ·have:=all j hj
   rw[if_pos hj,if_pos hj];rw[bY,gQ (by omega)] at this⊢;simpa using this
  ·rw[if_neg hj,if_neg hj]
 intro fuel
 induction fuel with
 |zero=>
  intro L listed a w hL hl hcl h;rw[dK];exact fin L listed a w hL hl h.1 h.2
 |succ fuel ih=>
  intro L listed a w hL hl hcl h;by_cases hr:Region.ready .any pre.toArray L=[]
  ·exact Ip (fin L listed a w hL hl hr (h.1 hr)) (fuel+1)
  ·have sub: ∀i,i∈Region.ready .any pre.toArray L->i∈Region.ready .any ops listed:=fun i hi=>by
    obtain⟨h1,o,h2,h3⟩:=mem_ready.1 hi;have hi':i<pre.length:=by have:=(fK.1 h2).1;simpa using this
    refine mem_ready.2 ⟨by rw[hl,if_pos hi'];exact h1,o,by rw[hget i hi'];exact h2,fun e hm hb=>?_⟩;have hlt:=pq he i o (by rw[hops,cS hi'];simpa using h2) e hm hb;rw[hl,if_pos (by omega)];exact h3 e hm hb
   have sup: ∀i,i∈Region.ready .any ops listed->i∈Region.ready .any pre.toArray L:=fun i hi=>by
    obtain⟨h1,o,h2,h3⟩:=mem_ready.1 hi;have h4:=(fK.1 h2).1;by_cases hi':i<pre.length
    ·rw[hl,if_pos hi'] at h1
     refine mem_ready.2 ⟨h1,o,by rw[<-hget i hi'];exact h2,fun e hm hb=>?_⟩;have hlt:=pq he i o (by simpa using h2) e hm hb;have:=h3 e hm hb;rw[hl,if_pos (by omega)] at this;exact this
    ·exfalso
     obtain⟨j,hj⟩:=List.exists_mem_of_ne_nil _ hr;obtain⟨g1,o2,g2,_⟩:=mem_ready.1 hj;have hj':j<pre.length:=by have:=(fK.1 g2).1;simpa using this
     have clo: ∀i j,Bf ops.toList i j->listed.getD i false=true->listed.getD j false=true:=fun i j hb=>by
      induction hb with
      |b ho hm hb=>intro hi;exact hcl _ _ ho hi _ hm hb
      |s ho hm hb _ ih=>intro hi;exact ih (hcl _ _ ho hi _ hm hb)
     have hjf:listed.getD j false=false:=by
      rw[hl,if_pos hj'];rw[bY,gQ (by omega)] at g1⊢;simpa using g1
     have:listed.getD j false=true:=by
      obtain⟨o2,e,ho,hm,hb,hh⟩:=(hc i (by omega) h4 j (by omega)).inv;have e':o=o2:=Option.some.inj (h2.symm.trans (by simpa using ho));subst e';rcases hh with hh|hh
      ·rw[<-hh];exact h3 _ hm hb
      ·exact clo _ _ hh (h3 _ hm hb)
     rw[hjf] at this;cases this
   rw[show fuel+1+r.length=(fuel+r.length)+1 by omega];refine⟨fun hn=>?_,fun i hi=>?_⟩
   ·obtain⟨j,hj⟩:=List.exists_mem_of_ne_nil _ hr
    have:=sub j hj;rw[hn] at this;cases this
   ·have hi0:=sup i hi
    have hk:=h.2 i hi0;obtain⟨h1,o,h2,h3⟩:=mem_ready.1 hi0;have hi':i<pre.length:=by have:=(fK.1 h2).1;simpa using this
    have hgo:o.guard=none:=hg o (by
     have h2':pre[i]? =some o:=by simpa using h2
     exact bZ h2')
    have step: ∀a w,wpAnyIn F n P .any pre.toArray (CH F n P ops r Q) fuel (L.setIfInBounds i true) a w->wpAnyIn F n P .any ops Q (fuel+r.length) (listed.setIfInBounds i true) a w:=by
     intro a w hh;have hls:i<listed.size:=by
      apply Classical.byContradiction;intro hq;have q:=hl i true;have q':=hl i false;rw[if_pos hi'] at q q';rw[bY,lR (by omega)] at q q';rw[bY,gQ (by omega)] at q q';simp only[Option.getD_none,jV] at q q';rw[<-q] at q';cases q'
     have hl': ∀j d,(listed.setIfInBounds i true).getD j d=if j<pre.length then(L.setIfInBounds i true).getD j d else if j<ops.size then false else d:=fun j d=>by
      have q:=hl j d;rw[bY] at q⊢;rw[bY] at q⊢;rw[dV,dV];by_cases hj:i=j
      ·subst hj;rw[if_pos J,if_pos J,if_pos hls,if_pos hi',if_pos (by omega)]
      ·rw[if_neg hj,if_neg hj];exact q
     refine ih _ _ a w (by simp[hL]) hl' (fun i2 o2 g1 g2 e hm hb=>?_) hh;have g3:i2=i\/listed.getD i2 false=true:=by
      rw[bY,dV] at g2;by_cases hj:i=i2
      ·exact .inl hj.symm
      ·rw[if_neg hj] at g2;rw[bY];exact .inr g2
     have g4:listed.getD e.on false=true:=by
      rcases g3 with rfl|g3
      ·have e':o=o2:=Option.some.inj (((hget i2 hi').trans h2).symm.trans (by simpa using g1))
       subst e';have hlt:=pq he i2 o g1 e hm hb;rw[hl,if_pos (by omega)];exact h3 e hm hb
      ·exact hcl i2 o2 g1 g3 e hm hb
     rw[bY,dV];by_cases hj:i=e.on
     ·rw[if_pos hj];rw[if_pos hls];rfl
     ·rw[if_neg hj];rw[bY] at g4;exact g4
    unfold wpOpIn at hk⊢;rw[hget i hi',h2];rw[h2] at hk;have hw: ∀y,Region.wanted o y=true:=fun y=>by unfold Region.wanted;rw[hgo]
    simp only[hw,if_true] at hk⊢;exact VJ (Oper.wpIn_mono step hk)
end
section
variable {P:Program} {GB:Gh} {C:aD} {n:Nat} {Q0:Exit->Act->World->Prop} {fr fr0:aw} {own own0:aH} {ops:Array Oper} {us:List Rc} {r:List Oper} {K:List Kt} {id:Nat}
def Cd(x:Nat):Nat->Bool
 |0=>true
 |i+1=>x.testBit i&&Cd x i
def NH{x:Nat}: ∀{i:Nat},Cd x i=true-> ∀j,j<i->x.testBit j=true
 |i+1,h,j,hj=>by
  simp only[Cd,aN] at h;by_cases e:j=i
  ·subst e;exact h.1
  ·exact NH h.2 j (by omega)
def y6:Nat->List Nat->Bool
 |_,[]=>true
 |i,x::t=>Cd x i&&y6 (i+1) t
def Iw: ∀{l:List Nat} {k:Nat},y6 k l=true-> ∀i x,l[i]? =some x-> ∀j,j<k+i->x.testBit j=true
 |y::t,k,h,0,x,hx,j,hj=>by
  simp only[y6,aN] at h
  cases hx
  exact NH h.1 j (by omega)
 |y::t,k,h,i+1,x,hx,j,hj=>by
  simp only[y6,aN] at h;exact Iw h.2 i x (by simpa using hx) j (by omega)
def Il: ∀(r:List Oper) (acc:List Nat),(n4 r acc).length=acc.length+r.length
 |[],acc=>by simp[n4]
 |o::r,acc=>by simp only[n4];rw[Il];simp;omega
def FQ(m:Nat)(pre all:List Oper)(us:List Rc)(fr0:aw)(own0:aH):Bool:=
 (pre.all (fun o=>o.guard.isNone)&&rF (n4 pre []) [] us)&&((ly 0 all&&y6 m ((n4 all []).drop m))&&Cs us fr0 own0)
def Q8(hm:P.follows .mixedOrders=true)(h:FQ us.length (ops.toList.take us.length) ops.toList us fr0 own0=true)(k:ak P GB C n Q0 fr own (.ops ops r K)):ak P GB C n Q0 fr own (.dr id ops fr0 own0 us r K):=by
 intro D;obtain⟨pre,hp,hl⟩:=D.pre;have ht:ops.toList.take us.length=pre:=by rw[hp,<-hl];simp
 rw[ht] at h;simp only[FQ,aN] at h;obtain⟨⟨h1,h2⟩,⟨h3,h4⟩,h5⟩:=h;have hg: ∀o∈pre,o.guard=none:=fun o ho=>by simpa using fJ.1 h1 o ho
 have hgt: ∀i,i<pre.length->ops[i]? =pre.toArray[i]? :=fun i hi=>by rw[<-oR,hp,cS hi];simp
 have hc: ∀i,pre.length<=i->i<ops.size-> ∀j,j<i->Bf ops.toList i j:=fun i g1 g2 j g3=>by
  refine Hg ops.toList [] [] J J (fun i j h=>by simp at h) i j ?_;have hlen:=Il ops.toList [];have hi:i<(n4 ops.toList []).length:=by rw[hlen];simpa using g2
  rw[aK,aX hi];refine Iw h4 (i-us.length) _ ?_ j (by omega);rw[lJ,show us.length+(i-us.length)=i by omega];exact aX hi
 have he':ly 0 pre=true:=by
  have: ∀(l l':List Oper) (k:Nat),ly k (l++l')=true->ly k l=true:=by
   intro l l'
   induction l with
   |nil=>intros;rfl
   |cons o t ih=>intro k h;simp only[cV,ly,aN] at h⊢;exact⟨h.1,ih _ h.2⟩
  exact this pre r 0 (by rw[<-hp];exact h3)
 have D':iA P GB C n pre.toArray us (bc fr0,bj own0):=by
  refine⟨by simpa using hl.symm,fun i u o hu ho=>?_,by simpa using h2,by simpa using he',LU h5⟩;have hi:i<pre.length:=by have:=(fK.1 ho).1;simpa using this
  obtain⟨d1,d2⟩:=D.snd i u o hu (by rw[hgt i hi];exact ho);refine⟨d1,fun Q tl tb K s1 s2 hf hk=>?_⟩;refine(d2 Q tl tb K s1 s2 hf hk).imp fun a w q=>?_;have hgo:o.guard=none:=hg o (bZ (by simpa using ho));have hw: ∀y,Region.wanted o y=true:=fun y=>by unfold Region.wanted;rw[hgo]
  unfold wO at q⊢;simp only[hw,if_true] at q⊢;exact q
 have e:cj (du (Array.replicate pre.length false)) 0 (bc fr0,bj own0) us=(bc fr0,bj own0):=by
  have: ∀(l:List Rc) (k:Nat) (s:ST),cj (du (Array.replicate pre.length false)) k s l=s:=fun l=>by
   induction l with
   |nil=>intro k s;rfl
   |cons y l ih=>
    intro k s;simp only[cj];rw[ih];rw[Bl];rfl
  exact this us 0 _
 have hw:=D'.walk (Q:=CH (FW C.rd) 0 P ops r (cQ C.rd P Q0 K)) (by rw[D.st];exact k) pre.toArray.size (Array.replicate pre.length false) (by simp) (fun i o _ hi=>by rw[Bl] at hi;cases hi) (by unfold un;exact dW (rW _ _) (by simp));rw[e] at hw;refine hw.drew.imp fun a w q=>wpIn_region_any hm ?_;have hsz:ops.size=pre.toArray.size+r.length:=by rw[<-iV,hp];simp
 rw[show wpAnyIn (FW C.rd) 0 P .any ops (cQ C.rd P Q0 K) ops.size=wpAnyIn (FW C.rd) 0 P .any ops (cQ C.rd P Q0 K) (pre.toArray.size+r.length) by rw[hsz]];refine RC hp hg h3 hc _ _ _ _ _ (by simp) (fun j d=>?_) (fun i o _ hi=>?_) q
 ·have hs2:ops.size=pre.length+r.length:=by simpa using hsz
  simp only[bY,pM];by_cases g1:j<pre.length
  ·rw[if_pos (by omega),if_pos g1,if_pos g1]
  ·by_cases g2:j<ops.size
   ·rw[if_pos g2,if_neg g1,if_pos g2];rfl
   ·rw[if_neg g2,if_neg g1,if_neg g2];rfl
 ·simp only[bY,pM] at hi
  split at hi<;>cases hi
end
section
variable {GB:Gh} {C:aD} {n:Nat} {Q0:Exit->Act->World->Prop} {fr fr0 fr':aw} {own own0 own':aH} {cf':Cf} {vc:List Prop} {ops:Array Oper} {us:List Rc} {r:List Oper} {K:List Kt} {id:Nat}
def QZ[fu:Fu](h:FQ us.length (ops.toList.take us.length) ops.toList us fr0 own0=true)(hgo:go tt n fu.n [] fr own (.ops ops r K)=⟨vc,fr',own',cf'⟩)(k:ak prog GB C n Q0 fr' own' cf')
  (hv:ah vc:=by first|exact trivial|(simp only[ah];kernel_rfl)|(simp only[ah];omega)):ak prog GB C n Q0 fr own (.dr id ops fr0 own0 us r K):=
 Q8 follows h (fg hgo hv k)
end
end Go.Sx
end
