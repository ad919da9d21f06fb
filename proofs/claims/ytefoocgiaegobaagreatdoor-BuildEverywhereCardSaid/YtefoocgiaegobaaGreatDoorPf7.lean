import Derived.Test.YtefoocgiaegobaaGreatDoorPf6
set_option linter.all false
set_option maxRecDepth 100000
section
namespace Go.Sx
open Go Go.Proofs Tryz
section
variable {GB:Gh} {C:aD} {n:Nat} {Q0:Exit->Act->World->Prop} {fr fr':aA} {own own':aO} {cf cf':Cf} {vc:List Prop} {ops:Array Oper} {o:Oper} {K:List Kt} {r:List Oper}
def aKL(fr:aA)(cf:Cf):Option Nat:=match cd fr cf with
 |some o=>o.dst
 |none=>none
def aHc(C:aD)(b:Nat)(ty:TypeId)(s:Nat)(ty2:TypeId)(ι:Type)(rows cs':ι->List DV):Ending->World->Prop:=rx C (fun v own' G'=> ∃x w m' B,v= .slice w.a w.n w.c/\own'=⟨b,m',ty,false⟩::B/\IsLs G' (cs' x) m'/\dm G' ⟨w,s,ty2,rows x,true⟩ B/\ ∀o∈B,b≠o.b)
end
section
variable {GB:Gh} {C:aD} {n:Nat} {Q0:Exit->Act->World->Prop} {fr fr':aA} {own own':aO} {cf cf':Cf} {vc:List Prop} {ops:Array Oper} {o:Oper} {K:List Kt} {r:List Oper}
def EL(C:aD)(ty:TypeId)(ι:Type)(cs:ι->List DV):Ending->World->Prop:=rx C (fun v own' G'=> ∃x b m,v= .pointer (some ⟨b,0,none⟩)/\own'=[⟨b,m,ty,true⟩]/\IsLs G' (cs x) m)
def fnN[fu:Fu]{f:FuncId}{fb:Func}{c:Code}{m:Nat}{ds:List DV}{ty:TypeId}{ι:Type}{cs:ι->List DV}(hf:prog.funcs[f]? =some fb)(hb:fb.body=some c)(hn:(fb.name== "runtime.NumGoroutine")=false)(hm:fb.ntmps=m)(hlen:Nat.ble ds.length m=true)
  (hgo:go tt m fu.n [] (qa 0 ds) [] (.code c [])=⟨vc,fr,own,cf⟩)(k: ∀C:aD,C.mb=[]->aj prog GB C m (fH C prog fb (EL C ty ι cs)) fr own cf)
  (hv:ah vc:=by first|exact trivial|(simp only[ah];kernel_rfl)|(simp only[ah];omega)|(simp only[ah,aJ,aL,aW];omega)):PN GB prog f ds ty ι cs:=by
 intro G vs hg hvs;refine i8.introR hf hb hn hm (by rw[hvs.len];exact hlen) fun C _ hmb hrd hfx=>?_;intro a w rl;refine vl hrd ?_;have h:=fq (GB:=GB) (C:=C) (Q0:=fH C prog fb (EL C ty ι cs)) hgo hv (k C (by simpa using hmb));exact h.run (fun _=>⟨none,0,0⟩) G [] a w ⟨hg,rl.h,rl.sz,rl.df,(fun k f e=>vr hvs rl.fr k f e),(fun nm B e=>by cases e),(fun nm nm' B B' e=>by cases e),fun nm p _ _ e=>by rw[hfx] at e;cases e⟩
def WC{fb:Func}{t d:Nat}{ty:TypeId}{ι:Type}{cs:ι->List DV}{cs1:List FX}{l:List DV}(x:ι)(hr:fb.results.toList=[.tmp t])(hl:bg fr t=some (.ov d 0))(hw:bi own d=some (.o ty cs1 true))(hc:jq cs1=some l)(hd:l=cs x):
  aj prog GB C n (fH C prog fb (EL C ty ι cs)) fr own (.ex .ret []):=by
 refine⟨fun ρ G ov a w r=>?_⟩;subst hd;obtain⟨b,m,rest,h3,h4,h5,h6⟩:=r.lend hw hc;obtain⟨y,hy,b',hb',hy'⟩:=r.ev (x:= .tmp t) (f:= .ov d 0) hl;rw[h3] at hb';cases hb';subst hy';exact asE (C:=C) (n:=n) (fr:=cv a) (own:=ov) (G:=G) (vs:=[.pointer (some ⟨b,0,none⟩)]) (by rw[hr];exact .tmp hy .nil) (⟨b,m,ty,true⟩::rest) [⟨b,m,ty,true⟩] (by simpa using h5) (.cons_cons _ (kQ _)) (fun _=>⟨x,b,m,J,J,h4⟩) a w ⟨r.h,r.sz,cB a,r.df⟩
def X4[fu:Fu]{d:Nat}{l:List DV}(h:Kn fr cf=some (d,l))(hgo:cA tt n fu.n fr own cf (.d (.pt l)) [(d,none)] [d]=⟨vc,fr',own',cf'⟩)(k:aj prog GB C n Q0 fr' own' cf')
  (hv:ah vc:=by first|exact trivial|(simp only[ah];kernel_rfl)|(simp only[ah];omega)|(simp only[ah,aJ,aL,aW];omega)):aj prog GB C n Q0 fr own cf:=by
 unfold Kn at h;split at h<;>try (cases h;done)
 rename_i hh;split at h<;>try (cases h;done)
 rename_i g hx;rw[cond_eq_ite] at h;split at h<;>try (cases h;done)
 rename_i hc;simp only[aN] at hc;split at h<;>cases h;rename_i hl;exact us hh (Ug hx hc.1 hc.2 hl) hgo hv k
end
section
variable {GB:Gh} {C:aD} {n:Nat} {Q0:Exit->Act->World->Prop} {fr fr':aA} {own own':aO} {cf cf':Cf} {vc:List Prop} {ops:Array Oper} {o:Oper} {K:List Kt} {r:List Oper}
def gw:List (Option DV)->SV->List DV
 |[],_=>[]
 |some d::t,w=>d::gw t w
 |none::t,w=> .v (.slice w.a w.n w.c)::gw t w
def BV(lk:LK):List Operand->Option (Option Nat×List (Option DV))
 |[]=>some (none,[])
 |x::t=>match aP lk x,BV lk t with
  |some (.rw nm),some (none,l)=>some (some nm,none::l)
  |some f,some (q,l)=>match kG f with
   |some d=>some (q,some d::l)
   |none=>none
  |_,_=>none
def x8(lk:LK)(fo:Operand)(args:Array Operand):Option (FuncId×Nat×List (Option DV)):=match aP lk fo with
 |some (.d (.v (.func (.func f) ⟨[]⟩ ⟨[]⟩)))=>match BV lk args.toList with
  |some (some nm,l)=>some (f,nm,l)
  |_=>none
 |_=>none
def AV{lk:LK}{bk:BM}{ρ:NE}{G:Gh}{ov:List ak}{a:Act}{w:World}(r:bD GB C n lk bk ρ G ov a w){z:SV}: ∀{x:List Operand} {q:Option Nat} {l:List (Option DV)},BV lk x=some (q,l)->(∀nm,q=some nm->ρ nm=z)->
  ∃y,fP (cv a) x=some y/\IsLs G (gw l z) y
 |[],q,l,e,_=>by cases e;exact⟨[],J, .nil⟩
 |x::t,q,l,e,hb=>by
  simp only[BV] at e;split at e
  ·rename_i nm l' h1 h2
   cases e
   obtain⟨y,h3,h4⟩:=r.ev h1
   cases (show y=_ from h4)
   obtain⟨ys,h5,h6⟩:=AV r (z:=z) h2 (fun nm e=>by cases e);have hz:=hb nm J;subst hz;exact⟨Value.slice (ρ nm).a (ρ nm).n (ρ nm).c::ys,by simp only[fP,h3,h5], .cons ((aG (G:=G)).2 J) h6⟩
  ·rename_i f q' l' _ h1 h2
   cases hd:kG f with
   |none=>rw[hd] at e;cases e
   |some d=>
   rw[hd] at e;cases e;obtain⟨y,h3,h4⟩:=r.ev h1;obtain⟨ys,h5,h6⟩:=AV r (z:=z) h2 hb;exact⟨y::ys,by simp only[fP,h3,h5], .cons (og h4 hd) h6⟩
  ·cases e
structure XH where
 f:FuncId
 nm:Nat
 l:List (Option DV)
 ty:TypeId
 s:Nat
 ds:List DV
 lo:Bool
 d:Nat
def MZ(fr:aA)(own:aO)(cf:Cf):Option XH:=match cd fr cf with
 |some ⟨some d, .call ⟨.value fo,args,_⟩,_,_,_,_⟩=>match x8 (bz fr cf) fo args with
  |some (f,nm,l)=>match gq fr own cf nm with
   |some (.b ty s ds lo)=>bif Nat.beq nm d then none else some ⟨f,nm,l,ty,s,ds,lo,d⟩
   |_=>none
  |none=>none
 |_=>none
def xp:Nat->List (Option DV)->aA
 |_,[]=>[]
 |i,some v::t=>(i, .d v)::xp (i+1) t
 |i,none::t=>(i, .rw NM)::xp (i+1) t
def IB(w:SV): ∀l:List (Option DV),(gw l w).length=l.length
 |[]=>rfl
 |some d::t=>by simp[gw,IB w t]
 |none::t=>by simp[gw,IB w t]
def FC{w:SV}{ρ:NE}{G:Gh}(hρ:ρ NM=w): ∀{ds:List (Option DV)} {vs:List Value} (i:Nat),IsLs G (gw ds w) vs-> ∀k f,bg (xp i ds) k=some f-> ∃y,(∃j,k=i+j/\vs[j]? =some y)/\b7 ρ G f y
 |[],vs,i,h,k,f,e=>by cases e
 |some d::t,vs,i,h,k,f,e=>by
  obtain⟨y,m,rfl,h1,h2⟩:=ba.1 h;simp only[xp] at e;rw[jA] at e;split at e
  ·cases e;rename_i hk;exact⟨y,⟨0,hk,rfl⟩,h1⟩
  ·obtain⟨u,⟨j,hj,hu⟩,h3⟩:=FC hρ (i+1) h2 k f e
   exact⟨u,⟨j+1,by omega,by simpa using hu⟩,h3⟩
 |none::t,vs,i,h,k,f,e=>by
  obtain⟨y,m,rfl,h1,h2⟩:=ba.1 h;simp only[xp] at e;rw[jA] at e;split at e
  ·cases e;rename_i hk;exact⟨y,⟨0,hk,rfl⟩,by show y=_;rw[hρ];exact aG.1 h1⟩
  ·obtain⟨u,⟨j,hj,hu⟩,h3⟩:=FC hρ (i+1) h2 k f e
   exact⟨u,⟨j+1,by omega,by simpa using hu⟩,h3⟩
def aIL(C:aD)(s:Nat)(ty:TypeId)(pre post dso:List DV):Ending->World->Prop:=rx C (fun v own' G'=> ∃w',Is G' (.tp (pre++ .v (.slice w'.a w'.n w'.c)::post)) v/\dm G' ⟨w',s,ty,dso,false⟩ own')
def XO{B:List ak}{G:Gh}{w:SV}{s:Nat}{ty:TypeId}{ds:List DV}{lo:Bool}{ov:List ak}(h:dm G ⟨w,s,ty,ds,lo⟩ B)(g: ∀o∈B,o∈ov): ∃rest,ov.Perm (B++rest):=by
 rcases h with⟨vs',⟨_,_,e⟩|⟨b0,r0,lo0,_,e,_⟩,_⟩
 ·rw[e];exact⟨ov,List.Perm.refl _⟩
 ·rw[e] at g⊢
  obtain⟨l1,l2,e2⟩:=lN (g _ aQ);rw[e2];exact⟨l1++l2,oW⟩
def N5(lk:LK):List Operand->Option (List (Option DV))
 |[]=>some []
 |x::t=>match aP lk x,N5 lk t with
  |some .nl,some l=>some (none::l)
  |some f,some l=>match kG f with
   |some d=>some (some d::l)
   |none=>none
  |_,_=>none
def YE(lk:LK)(fo:Operand)(args:Array Operand):Option (FuncId×List (Option DV)):=match aP lk fo with
 |some (.d (.v (.func (.func f) ⟨[]⟩ ⟨[]⟩)))=>match N5 lk args.toList with
  |some l=>some (f,l)
  |_=>none
 |_=>none
def aI5(fr:aA)(cf:Cf):Option (FuncId×List (Option DV)×Nat):=match cd fr cf with
 |some ⟨some d, .call ⟨.value fo,args,_⟩,_,_,_,_⟩=>match YE (bz fr cf) fo args with
  |some (f,l)=>some (f,l,d)
  |none=>none
 |_=>none
end
section
variable {P:Program} {C:aD} {n:Nat} {fr:Fr} {own own':List ak} {G:Gh} {Φ:Act->World->Prop}
variable {dst:Option Nat} {t t' ty':TypeId} {pos:String} {af:Array Edge} {gd:Option (Nat×Bool)} {x y:Operand} {e s by_:Nat}
def R9[hT:cg P t e s by_]{z:Value}[hz:gj P e z]{k k':IntKind}{l:Int}(hx:aw fr x=some (.int k 0))(hy:aw fr y=some (.int k' l))(h0:0<=l)(hb:by_*l<=2^47)(hl:l<=2^60)(hs:(aE z).length=s)(hd:b9 n dst=true)
  (h: ∀b,St C n (put fr dst (.slice (some ⟨b,0,none⟩) 0 l.toNat)) (⟨b,cG z l.toNat,e,true⟩::own) G Φ):
  Ch P C n fr own G ⟨dst, .makeSlice t x y,ty',pos,af,gd⟩ Φ:=by
 intro a w Q rl;have h1:(Instr.makeSlice t (a.eval x) (a.eval y)).run P w= .ok (.slice (some ⟨w.heap.size,0,none⟩) 0 l.toNat) (w.alloc (.cells ⟨cG z l.toNat⟩ e)):=by
  obtain⟨i,hi,hib⟩:=Ry (P:=P) (t:=t) (e:=e) (s:=s) (by_:=by_) w;rw[bj rl.fr hx,bj rl.fr hy];unfold Instr.makeSlice;rw[bc (hT.u w)];simp only[asInt,asIntOf];rw[bc (a:=0) (w':=w) J,bc (a:=l) (w':=w) J,bc hi,hib];have hw:IntKind.i64.wrap l=l:=sC (by simp[IntKind.min,IntKind.max,IntKind.signed,IntKind.bits];omega);have hw0:IntKind.i64.wrap 0=0:=J;simp only[hw,hw0];have c1: ¬((by_:Int)*l>2^48):=by
   have:(2:Int)^47<=2^48:=by decide
   omega
  have c5:decide ((by_:Int)*l>2^48)=false:=decide_eq_false c1;have c2:decide (l<0)=false:=decide_eq_false (by omega);have c4:decide ((0:Int)>l)=false:=by simp;omega
  simp only[c2,c4,c5,Bool.false_or,Int.lt_irrefl,decide_false,Bool.or_false,dJ,if_false];have hr: ¬(l.toNat*by_>roomBytes):=by
   unfold roomBytes;have:((l.toNat*by_:Nat):Int)=by_*l:=by rw[jQ,qZ h0,tQ]
   have h47:((2^47:Nat):Int)=2^47:=by decide
   omega
  unfold askRoom;simp only[hr,if_false];rw[bc (run_pure _ _ _),bc (hT.siz w)];have hn:l.toNat*s=l.toNat*(aE z).length:=by rw[hs]
  by_cases h00:l.toNat*s=0
  ·rw[if_pos h00,bc (run_pure _ _ _)]
   have e0:cG z l.toNat=[]:=bT (by rw[ny,hs];exact h00);rw[h00,e0,show(Array.range 0)= #[] from J,Array.map_empty];rfl
  ·rw[if_neg h00,bc (hz.zero w),oe]
   rw[bc (run_pure _ _ _),y7 hn];rfl
 refine jF (v:= .slice (some ⟨w.heap.size,0,none⟩) 0 l.toNat) (cH h1) (h w.heap.size _ _ ((rl.heap (rl.h.alloc _ _)).put _ hd))
def rO(G:Gh)(ov:List ak):Gh:=fun b=>match G b with
 |some cs=>some cs
 |none=>(ov.find? fun o=>Nat.beq o.b b).map (·.cs)
def GG{ov:List ak}:bw G (rO G ov):=fun b cs h=>by unfold rO;rw[h]
def P6{o:ak}: ∀{ov:List ak},o∈ov->ov.Pairwise (fun x y=>x.b≠y.b)->ov.find? (fun u=>Nat.beq u.b o.b)=some o
 |u::t,ho,nd=>by
  rcases aV.1 ho with rfl|ho
  ·rw[List.find?_cons_of_pos (by simp)]
  ·have:=(bJ.1 nd).1 o ho
   rw[List.find?_cons_of_neg (by simpa using this)];exact P6 ho (bJ.1 nd).2
def Zh{ov:List ak}{o:ak}(ho:o∈ov)(hn:G o.b=none)(nd:ov.Pairwise (fun x y=>x.b≠y.b)):rO G ov o.b=some o.cs:=by
 unfold rO;rw[hn,P6 ho nd];rfl
def bm.lendSub{ov:List ak}{w:World}(h:bm C ov G w)(b:Nat)(cs:List Value)(hb:rO G ov b=some cs): ∃ty fz,w.heap[b]? =some (.cells ⟨cs⟩ ty fz):=by
 unfold rO at hb;split at hb
 ·rename_i hg;cases hb;exact h.sub _ _ hg
 ·cases hf:ov.find? (fun o=>Nat.beq o.b b) with
  |none=>rw[hf] at hb;cases hb
  |some o=>
   rw[hf] at hb;cases hb;have e:o.b=b:=aR (by simpa using List.find?_some hf);subst e;exact⟨_,_,(h.hown o (List.mem_of_find?_eq_some hf)).1⟩
def bm.lent{ov:List ak}{G':Gh}{w w':World}(h:bm C ov G w)(k:bm ⟨w,rO G ov,[],[],[],none,fun _=>none⟩ [] G' w'):bm C ov G w':=by
 have same: ∀b o,w.heap[b]? =some o->w'.heap[b]? =some o:=fun b o hb=>by rw[k.keep b (gG hb) (by simp)];exact hb
 have hsz:w.heap.size<=w'.heap.size:=k.size;refine⟨k.os.trans h.os,k.tape.trans h.tape,k.output.trans h.output,dR h.size hsz,fun b hb hm=>?_,fun b cs hb=>?_,h.gle,h.gold,fun o ho=>?_,h.nd,dR h.dr k.dr,fun p hp=>⟨(h.ext p hp).1,same _ _ (h.ext p hp).2⟩⟩
 ·have:=h.size;rw[k.keep b (by show b<w.heap.size;omega) (by simp)];exact h.keep b hb hm
 ·obtain⟨ty,fz,h1⟩:=h.sub b cs hb;exact⟨ty,fz,same _ _ h1⟩
 ·obtain⟨h1,h2⟩:=h.hown o ho;exact⟨same _ _ h1,h2⟩
def W4{f:FuncId}{fo:Operand}{args:Array Operand}{tys:Array TypeId}{vs:List Value}{K:Value->Gh->Prop}(ho:aw fr fo=some (.func (.func f) #[] #[]))(hv:fP fr args.toList=some vs)
  (hF:Fn P f vs (rO G own) K)(hd:b9 n dst=true)(h: ∀v (G':Gh),K v G'->St C n (put fr dst v) own G Φ):Ch P C n fr own G ⟨dst, .call ⟨.value fo,args,tys⟩,ty',pos,af,gd⟩ Φ:=by
 intro a w Q rl;have h2:=DB (c1:=[]) (c2:=[]) (P:=P) (dst:=dst) (ty':=ty') (pos:=pos) (af:=af) (gd:=gd) (tys:=tys) (w:=w) hF.able rl.fr ho hv;rw[cY,iW] at h2;simp only[Oper.wp,h2,Oper.upon];refine(hF.run w rl.h.lendSub).mono ?_;rintro e w' ⟨v,G',rfl,hh,hK⟩;exact h v G' hK _ _ ((rl.heap (rl.h.lent hh)).put _ hd)
end
def DV.np:DV->Bool
 | .v _=>true
 | .tp l=>l.all fun d=>match d with
  | .v _=>true
  |_=>false
 |_=>false
def Pq{A G:Gh}: ∀{l:List DV} {m:List Value},(l.all fun d=>match d with| .v _=>true|_=>false)=true->IsLs A l m->IsLs G l m
 |[],m,_,k=>cD.2 (cD.1 k)
 |d::t,m,h,k=>by
  obtain⟨y,n,rfl,k1,k2⟩:=ba.1 k;simp only[sV,aN] at h;refine .cons ?_ (Pq h.2 k2)
  cases d with
  |v x=>exact aG.2 (aG.1 k1)
  |_=>simp at h
def Is.np{A G:Gh}{d:DV}{y:Value}(h:d.np=true)(k:Is A d y):Is G d y:=by
 cases d with
 |v x=>exact aG.2 (aG.1 k)
 |tp l=>obtain⟨m,e,k⟩:=js.1 k;exact js.2 ⟨m,e,Pq h k⟩
 |_=>cases h
section
variable {GB:Gh} {C:aD} {n:Nat} {Q0:Exit->Act->World->Prop} {fr fr':aA} {own own':aO} {cf cf':Cf} {vc:List Prop} {lk:LK} {bk:BM} {ρ:NE} {G:Gh} {ov:List ak} {a:Act} {w:World}
variable {dst:Option Nat} {t t' ty':TypeId} {pos:String} {af:Array Edge} {gd:Option (Nat×Bool)} {x y:Operand} {e s by_:Nat}
def PT:Option Bk->Option (List DV)
 |some (.b _ _ ds _)=>some ds
 |some (.c _ _ ds _)=>some ds
 |_=>none
def Hs(lk:LK)(bk:BM)(x:Operand):Option DV:=match aP lk x with
 |some (.rw nm)=>match PT (bk nm) with
  |some ds=>some (.sl ds)
  |none=>none
 |some f=>kG f
 |none=>none
def BW(lk:LK)(bk:BM):List Operand->Option (List DV)
 |[]=>some []
 |x::t=>match Hs lk bk x,BW lk bk t with
  |some d,some l=>some (d::l)
  |_,_=>none
def S1(r:bD GB C n lk bk ρ G ov a w){d:DV}(h:Hs lk bk x=some d): ∃y,aw (cv a) x=some y/\Is (rO G ov) d y:=by
 unfold Hs at h;split at h
 ·rename_i nm h1
  obtain⟨y,h2,h3⟩:=r.ev h1
  cases (show y=_ from h3)
  refine⟨_,h2,?_⟩;split at h<;>cases h;rename_i ds hr;obtain⟨ty,s,vs,B,hB,hv,hs,hBo⟩: ∃ty s vs B,iw s ty (ρ nm) vs B/\IsLs G ds vs/\(∀v∈vs,(aE v).length=s)/\ ∀o∈B,o∈ov:=by
   unfold PT at hr;split at hr<;>cases hr
   ·rename_i hb;obtain⟨B,⟨vs,h4,h5,h6,_⟩,h7⟩:=r.bx _ _ hb;exact⟨_,_,vs,B,h4,h5,h6,h7⟩
   ·rename_i hb;obtain⟨B,⟨vs,h4,h5,h6,_⟩,h7⟩:=r.bx _ _ hb;exact⟨_,_,vs,B,h4,h5,h6,h7⟩
  rcases hB with⟨e1,e2,e3⟩|⟨b,rest,lo',e2,e3,h5,h6,h7⟩
  ·subst e1
   have ed:ds=[]:=bT (by rw[<-hv.len];rfl);subst ed;rw[e2];exact gO.2 ⟨0,⟨none,0,0⟩,[],J, .nil _ 0, .nil⟩
  ·subst e3
   have ho:=hBo _ aQ;have hg:=Zh ho (r.h.hown _ ho).2.1 r.h.nd;rw[e2];exact gO.2 ⟨s,⟨some ⟨b,0,none⟩,vs.length,_⟩,vs,J,eB.of_flat hs hg h7,hv.up GG⟩
 ·rename_i h1
  obtain⟨y,h2,h3⟩:=r.ev h1;exact⟨y,h2,(og h3 h).up GG⟩
 ·cases h
def Qn(r:bD GB C n lk bk ρ G ov a w): ∀{l:List Operand} {ds:List DV},BW lk bk l=some ds-> ∃vs,fP (cv a) l=some vs/\IsLs (rO G ov) ds vs
 |[],ds,e=>by cases e;exact⟨[],J, .nil⟩
 |x::t,ds,e=>by
  simp only[BW] at e;split at e<;>cases e;rename_i h1 h2;obtain⟨y,h3,h4⟩:=S1 r h1;obtain⟨vs,h5,h6⟩:=Qn r h2;exact⟨y::vs,by simp only[fP,h3,h5], .cons h4 h6⟩
def E5(lk:LK)(bk:BM)(fo:Operand)(args:Array Operand):Option (FuncId×List DV):=match aP lk fo with
 |some (.d (.v (.func (.func f) ⟨[]⟩ ⟨[]⟩)))=>match BW lk bk args.toList with
  |some ds=>some (f,ds)
  |none=>none
 |_=>none
def SJ{fo:Operand}{args:Array Operand}{tys:Array TypeId}{f:FuncId}{ds:List DV}{rv:DV}(ha:E5 lk bk fo args=some (f,ds))(hnp:rv.np=true)(hF:PF GB prog f ds rv):bH prog GB C n lk bk ⟨dst, .call ⟨.value fo,args,tys⟩,ty',pos,af,gd⟩ (.d rv) [] []:=by
 intro hd tl tb K' s1 s2 hf hk;refine⟨fun ρ G ov a w r Q=>?_⟩;have r1:=r.mono s1 s2;unfold E5 at ha;split at ha<;>try (cases ha;done)
 rename_i h1;split at ha<;>cases ha;rename_i h2;obtain⟨y,hy,hy'⟩:=r1.ev h1;rw[(aG (G:=G)).1 hy'] at hy;obtain⟨vs,h3,h4⟩:=Qn r1 h2;refine W4 hy h3 (hF _ vs (r.gb.trans GG) h4) hd (fun v G' hK a' w' rl=>?_) a w Q ⟨r.h,r.sz,cB a,r.df⟩;exact hk.run ρ G ov a' w' ⟨r.gb,rl.h,rl.sz,rl.df,(jm rl).fx (fun k g _ e=>r.fx k g e) (Is.np hnp hK),r.bx,r.dj,r.fxd⟩
def P1(fr:aA)(own:aO)(cf:Cf):Option (FuncId×List DV):=match cd fr cf with
 |some ⟨_, .call ⟨.value fo,args,_⟩,_,_,_,_⟩=>E5 (bz fr cf) (gq fr own cf) fo args
 |_=>none
def cL[fu:Fu]{f:FuncId}{ds:List DV}{rv:DV}(ha:P1 fr own cf=some (f,ds))(hF:PF GB prog f ds rv)(hnp:rv.np=true)(hgo:cA tt n fu.n fr own cf (.d rv) [] []=⟨vc,fr',own',cf'⟩)(k:aj prog GB C n Q0 fr' own' cf')
  (hv:ah vc:=by first|exact trivial|(simp only[ah];kernel_rfl)|(simp only[ah];omega)):aj prog GB C n Q0 fr own cf:=by
 unfold P1 at ha;split at ha<;>try (cases ha;done)
 rename_i hh;exact us hh (SJ ha hnp hF) hgo hv k
def ZG{d cap:Nat}{i:TI}{z:DV}{k k':IntKind}[hT:cg prog t e s by_](hi:fg prog e=some i)(hz:nB i=some z)(hs:Nat.beq z.cells.length s=true)(hx:aP lk x=some (.d (.v (.int k 0))))(hy:aP lk y=some (.d (.v (.int k' (cap:Nat)))))(hb:by_*cap<=140737488355328)(hl:cap<=1152921504606846976):
  bH prog GB C n lk bk ⟨some d, .makeSlice t x y,ty',pos,af,gd⟩ (.rw d) [(d,some (.c e s [] cap))] [d]:=by
 intro hd tl tb K s1 s2 hf hk;refine⟨fun ρ G ov a w r Q=>?_⟩;obtain⟨v,hz1,hz2,hz3⟩:=vx hi hz;obtain⟨q1,p1,p2⟩:=(r.mono s1 s2).ev hx;obtain⟨q2,p3,p4⟩:=(r.mono s1 s2).ev hy;rw[c8] at p2 p4;subst p2 p4;have c1:=((hz2 G).cells hz3).1.len;replace hs:=aR hs;refine R9 p1 p3 (by omega) (by have:((by_*cap:Nat):Int)=by_*cap:=jQ ..;omega) (by omega) (by rw[c1,hs]) hd (fun b a' w' rl=>?_) a w Q ⟨r.h,r.sz,cB a,r.df⟩;rw[bZ] at rl;have hnd:=(bJ.1 rl.h.nd).1;refine hk.run _ _ _ a' w' (r.new' (x:=⟨some ⟨b,0,none⟩,0,cap⟩) (B':= .c e s [] cap) (os:=[⟨b,cG v cap,e,true⟩]) (f:= .rw d) (y:= .slice (some ⟨b,0,none⟩) 0 cap) hf (bw.refl _) rl.h ⟨[], .inr ⟨b,cG v cap,true,by simp,J,by simp[aC],?_,by simp⟩, .nil,by simp,fun o ho=>by rw[aY.1 ho],by simp⟩
  (fun o ho=>by rw[aY.1 ho];exact aQ) (fun m B' _ _ o ho _=>⟨aZ _ ho,fun e'=>by cases e';exact hnd o ho J⟩) (by show _=_;simp) (jm rl))
 rw[ny,c1,hs];simp[aC]
def Yl{d nm cap:Nat}{ds ds2:List DV}[hT:cg prog t e s by_][hN:jE prog t'](hx:aP lk x=some (.rw nm))(hb:bk nm=some (.c e s ds cap))(hy:qg lk bk s y=some ds2)(hk2:dG s ds2)(hc:ds.length+ds2.length<=cap)(hp:0<ds2.length)(hnd:Nat.beq nm d=false):
  bH prog GB C n lk bk ⟨some d, .call ⟨.builtin .append, #[x,y], #[t,t']⟩,ty',pos,af,gd⟩ (.rw d) [(nm,none),(d,some (.c e s (ds++ds2) cap))] [d]:=by
 intro hd tl tb K s1 s2 hf hk;refine⟨fun ρ G ov a w r Q=>?_⟩;have r1:=r.mono s1 s2;have hne:nm≠d:=fun e=>by subst e;simp at hnd
 obtain⟨u,hx',hx2⟩:=r1.ev hx
 cases hx2
 obtain⟨B,⟨vs,hB,hv,hvs,hlo,hcap⟩,hBo⟩:=r1.bx _ _ hb;obtain⟨w2,us,hy',h2,h3,h4,h5,h6⟩:=zU (P:=prog) (C:=C) r1 hy hk2;have hus:(aC us).length=us.length*s:=ek us h4;have hl1:=hv.len;have hl2:=h3.len;have rd:=r.dropB nm;have hf':kl [d] (some d) tl (Sx.upB tb [(nm,none)]):=fun m hm=>by
  obtain⟨g1,g2⟩:=hf m hm;refine⟨g1,fun k B' hk e=>g2 k B' hk ?_⟩;simp only[Sx.upB] at e;split at e
  ·cases e
  ·exact e
 rcases hB with⟨e1,e2,e3⟩|⟨b,rest,lo',k3,k4,k5,k6,k7⟩
 ·rw[e2] at hcap;simp at hcap;omega
 subst k4;have hl':=hlo _ aQ;simp only at hl';subst hl';have ha:(ρ nm).a=some ⟨b,0,none⟩:=by rw[k3]
 have hn:(ρ nm).n=vs.length:=by rw[k3]
 rw[ha,hn] at hx';rw[h2] at hy' h6;have hin:=hBo _ aQ;obtain⟨l1,l2,e5⟩:=lN hin;have hperm:ov.Perm (⟨b,aC vs++rest,e,true⟩::(l1++l2)):=by rw[e5];exact oW
 have hall: ∀v∈vs++us,(aE v).length=s:=fun v hv=>by
  rcases bS.1 hv with hv|hv
  ·exact hvs v hv
  ·exact h4 v hv
 have hcs:(aC vs++rest).length=(ρ nm).c*s:=by rw[aT];exact k6
 have hroom:vs.length+us.length<=(ρ nm).c:=by omega
 have hmul:(vs.length+us.length)*s<=(ρ nm).c*s:=bU _ hroom;rw[cS] at hmul;have hrest:us.length*s<=rest.length:=by rw[k5] at k6;omega
 have hovw:cp (aC vs++rest) (vs.length*s) (aC us)=aC (vs++us)++rest.drop (us.length*s):=by
  rw[px _ _ _ (by rw[hus,aT];omega),mE,<-k5];simp[hus,mL,dQ]
 refine N0 (P:=prog) (own:=⟨b,aC vs++rest,e,true⟩::(l1++l2)) (m:=us.length) (ys:=aC us) hx' hy' (.hd ..) hcs (fun w hh=>h6 w (hh.perm hperm.symm)) hus h5 hroom hd (fun a' w' rl=>?_) a w Q ⟨r.h.perm hperm,r.sz,cB a,r.df⟩;rw[hovw] at rl;have hnd':=(bJ.1 rl.h.nd).1;refine hk.run _ _ _ a' w' (rd.new' (x:=⟨some ⟨b,0,none⟩,vs.length+us.length,(ρ nm).c⟩) (B':= .c e s (ds++ds2) cap) (os:=[⟨b,aC (vs++us)++rest.drop (us.length*s),e,true⟩]) (f:= .rw d) (y:= .slice (some ⟨b,0,none⟩) (vs.length+us.length) (ρ nm).c) hf' (bw.refl _) rl.h
  ⟨vs++us, .inr ⟨b,rest.drop (us.length*s),true,by simp,J,ek _ hall,?_,by simpa using hroom⟩,hv.app h3,hall,fun o ho=>by rw[aY.1 ho],by simpa using hcap⟩ (fun o ho=>by rw[aY.1 ho];exact aQ)
  (fun m B' hm e' o ho hmo=>?_) (by show _=_;simp) (jm rl))
 ·rw[ek _ hall,aT,gR,cS]
  simp only[if_true];rw[k5] at k6;omega
 ·have hmn:m≠nm/\tb m=some B':=by
   simp only[Sx.upB] at e';split at e'
   ·cases e'
   ·exact⟨by assumption,e'⟩
  have hob:o.b≠b:=fun e6=>r.dj m nm B' _ hmn.2 (s2 _ _ hb) hmn.1 b (by rw[hmo,e6]) ha;refine⟨?_,fun e6=>by cases e6;exact hob J⟩;rcases aV.1 (hperm.mem_iff.1 ho) with rfl|ho
  ·exact absurd J hob
  ·exact aZ _ ho
end
section
variable {GB:Gh} {C:aD} {n:Nat} {Q0:Exit->Act->World->Prop} {fr fr':aA} {own own':aO} {cf cf':Cf} {vc:List Prop}
def Tt[fu:Fu]{d e s b:Nat}{z:DV}{k':IntKind}(cap:Nat)(h:A3 fr cf=some ⟨d,e,s,b,z,0⟩)(hy:(match cd fr cf with|some ⟨_, .makeSlice _ _ y,_,_,_,_⟩=>aP (bz fr cf) y|_=>none)=some (.d (.v (.int k' (cap:Nat)))))
  (hgo:cA tt n fu.n fr own cf (.rw d) [(d,some (.c e s [] cap))] [d]=⟨vc,fr',own',cf'⟩)(k:aj prog GB C n Q0 fr' own' cf')(hb:b*cap<=140737488355328:=by omega)(hl:cap<=1152921504606846976:=by omega)
  (hv:ah vc:=by first|exact trivial|(simp only[ah];kernel_rfl)|(simp only[ah];omega)):aj prog GB C n Q0 fr own cf:=by
 unfold A3 at h;split at h<;>try (cases h;done)
 rename_i hh;split at h<;>try (cases h;done)
 rename_i hx;split at h<;>try (cases h;done)
 rename_i hT;split at h<;>try (cases h;done)
 rename_i hi;split at h<;>try (cases h;done)
 rename_i hz;rw[cond_eq_ite] at h;split at h<;>cases h;rename_i hs;rw[hh] at hy;have:=jh (er _ _ hT) J;exact us hh (ZG (er _ _ hi) hz hs hx hy hb hl) hgo hv k
structure V' where
 d:Nat
 nm:Nat
 e:Nat
 s:Nat
 ds:List DV
 ds2:List DV
 cap:Nat
def Qk(fr:aA)(own:aO)(cf:Cf):Option V':=match cd fr cf with
 |some ⟨some d, .call ⟨.builtin .append,⟨[x,y]⟩,⟨[t,t']⟩⟩,_,_,_,_⟩=>match dh tt t,dh tt t' with
  |some ⟨.sl e s _,_,_,_⟩,some ⟨.sl _ _ _,_,_,_⟩=>match aP (bz fr cf) x with
   |some (.rw nm)=>match gq fr own cf nm,qg (bz fr cf) (gq fr own cf) s y with
    |some (.c e' s' ds cap),some ds2=>bif (Nat.beq e' e&&Nat.beq s' s)&&!Nat.beq nm d then some ⟨d,nm,e,s,ds,ds2,cap⟩ else none
    |_,_=>none
   |_=>none
  |_,_=>none
 |_=>none
def WQ[fu:Fu]{d nm e s cap:Nat}{ds ds2:List DV}(ds':List DV)(h:Qk fr own cf=some ⟨d,nm,e,s,ds,ds2,cap⟩)(hds:ds++ds2=ds')(ho2:dG s ds2)(hc:ds.length+ds2.length<=cap)(hgo:cA tt n fu.n fr own cf (.rw d) [(nm,none),(d,some (.c e s ds' cap))] [d]=⟨vc,fr',own',cf'⟩)(k:aj prog GB C n Q0 fr' own' cf')
  (hp:0<ds2.length:=by simp)(hv:ah vc:=by first|exact trivial|(simp only[ah];kernel_rfl)|(simp only[ah];omega)):aj prog GB C n Q0 fr own cf:=by
 subst hds;unfold Qk at h;split at h<;>try (cases h;done)
 rename_i hh;split at h<;>try (cases h;done)
 rename_i hT hT';split at h<;>try (cases h;done)
 rename_i hx;split at h<;>try (cases h;done)
 rename_i hb hy;rw[cond_eq_ite] at h;split at h<;>cases h;rename_i h2;simp only[aN,iX] at h2
 cases aR h2.1.1
 cases aR h2.1.2
 have:=jh (er _ _ hT) J;have hN:jE prog _:=⟨_,(jh (er _ _ hT') J).un⟩;exact us hh (Yl hx hb hy ho2 hc hp h2.2) hgo hv k
def PI(GB:Gh)(P:Program)(f:FuncId)(i:Int)(s:Nat)(ty ty2:TypeId)(ds:List DV)(x:DV)(cap:Nat)(dso:List DV):Prop:=
 ∀G w w2 B B2,bw GB G->dm G ⟨w,s,ty,ds,false⟩ B->cap<=w.c->dm G ⟨w2,s,ty2,[x],false⟩ B2->i8 P f [.slice w.a w.n w.c, .int .i64 i, .slice w2.a w2.n w2.c] (B++B2) G fun v own' G'=> ∃w',v= .slice w'.a w'.n w'.c/\dm G' ⟨w',s,ty,dso,false⟩ own'
structure RB where
 f:FuncId
 nm:Nat
 nm2:Nat
 i:Int
 ty:TypeId
 ty2:TypeId
 s:Nat
 ds:List DV
 x:DV
 cap:Nat
 d:Nat
def Lk(fr:aA)(own:aO)(cf:Cf):Option RB:=match cd fr cf with
 |some ⟨some d, .call ⟨.value fo,⟨[x1,x2,x3]⟩,_⟩,_,_,_,_⟩=>match aP (bz fr cf) fo,aP (bz fr cf) x1 with
  |some (.d (.v (.func (.func f) ⟨[]⟩ ⟨[]⟩))),some (.rw nm)=>match aP (bz fr cf) x2,aP (bz fr cf) x3 with
   |some (.d (.v (.int .i64 i))),some (.rw nm2)=>match gq fr own cf nm,gq fr own cf nm2 with
    |some (.c ty s ds cap),some (.b ty2 s2 [x] true)=>bif (!Nat.beq nm d&&!Nat.beq nm2 d)&&(!Nat.beq nm nm2&&(Nat.beq s2 s&&Nat.blt 0 cap)) then some ⟨f,nm,nm2,i,ty,ty2,s,ds,x,cap,d⟩ else none
    |_,_=>none
   |_,_=>none
  |_,_=>none
 |_=>none
def Y9{lk:LK}{bk:BM}{fo x1 x2 x3:Operand}{tys:Array TypeId}{f:FuncId}{nm nm2 d cap s:Nat}{i:Int}{ty0 ty2:TypeId}{ty:TypeId}{pos:String}{af:Array Edge}{gd:Option (Nat×Bool)}{ds dso:List DV}{x:DV}(hne:Nat.beq nm d=false)(hne2:Nat.beq nm2 d=false)(hn2:Nat.beq nm nm2=false)(hcp:0<cap)
  (h0:aP lk fo=some (.d (.v (.func (.func f) ⟨[]⟩ ⟨[]⟩))))(h1:aP lk x1=some (.rw nm))(h2:aP lk x2=some (.d (.v (.int .i64 i))))(h3:aP lk x3=some (.rw nm2))(hb:bk nm=some (.c ty0 s ds cap))(hb2:bk nm2=some (.b ty2 s [x] true))(hF:PI GB prog f i s ty0 ty2 ds x cap dso):
  bH prog GB C n lk bk ⟨some d, .call ⟨.value fo,⟨[x1,x2,x3]⟩,tys⟩,ty,pos,af,gd⟩ (.rw d) [(nm,none),(nm2,none),(d,some (.b ty0 s dso true))] [d]:=by
 intro hd tl tb K' s1 s2 hf hk;refine⟨fun ρ G ov a w r Q=>?_⟩;have r1:=r.mono s1 s2;obtain⟨y,hy,hy'⟩:=r1.ev h0;rw[(aG (G:=G)).1 hy'] at hy;obtain⟨y1,p1,p1'⟩:=r1.ev h1
 cases (show y1=_ from p1')
 obtain⟨y2,p2,p2'⟩:=r1.ev h2;rw[c8] at p2';subst p2';obtain⟨y3,p3,p3'⟩:=r1.ev h3
 cases (show y3=_ from p3')
 have hnn:nm≠d:=fun e=>by subst e;rw[oM] at hne;cases hne
 have hnn2:nm2≠d:=fun e=>by subst e;rw[oM] at hne2;cases hne2
 have hnm:nm≠nm2:=fun e=>by subst e;rw[oM] at hn2;cases hn2
 obtain⟨B,g1,g2⟩:=r1.bx _ _ hb;obtain⟨B2,k1,k2⟩:=r1.bx _ _ hb2;obtain⟨vs,q1,q2,q3,q4,q5⟩:=g1;have hB:dm G ⟨ρ nm,s,ty0,ds,false⟩ B:=⟨vs,q1,q2,q3,fun h=>by cases h⟩;have hB2:dm G ⟨ρ nm2,s,ty2,[x],false⟩ B2:=dm.weak (lo:=true) k1;have e1: ∃o,B=[o]/\(ρ nm).a=some ⟨o.b,0,none⟩:=by
  rcases q1 with⟨_,e,_⟩|⟨b,rest,lo',e,rfl,_⟩
  ·rw[e] at q5;simp at q5;omega
  ·exact⟨_,J,by rw[e]⟩
 have e2: ∃o,B2=[o]/\(ρ nm2).a=some ⟨o.b,0,none⟩:=by
  obtain⟨vs2,c1,c2,_⟩:=k1;rcases c1 with⟨e,_,_⟩|⟨b,rest,lo',e,rfl,_⟩
  ·subst e;have:=c2.len;simp at this
  ·exact⟨_,J,by rw[e]⟩
 obtain⟨o1,rfl,a1⟩:=e1;obtain⟨o2,rfl,a2⟩:=e2;have hob:o1.b≠o2.b:=fun e=>r.dj nm nm2 _ _ (s2 _ _ hb) (s2 _ _ hb2) hnm _ a1 (by rw[a2,e]);have hp: ∃rest,ov.Perm ([o1]++[o2]++rest):=by
  obtain⟨l1,l2,e3⟩:=lN (g2 _ aQ);have hm:=k2 _ aQ;rw[e3] at hm⊢;have hm2:o2∈l1++l2:=by
   rcases bS.1 hm with h|h
   ·exact cJ _ h
   ·rcases aV.1 h with h|h
    ·exact absurd (by rw[h]) hob
    ·exact cV _ h
  obtain⟨l3,l4,e4⟩:=lN hm2;refine⟨l3++l4,List.perm_middle.trans ?_⟩;rw[e4];exact(oW (l₁:=l3) (l₂:=l4) (a:=o2)).cons o1
 obtain⟨rest,h5⟩:=hp;have h6: ∀o∈ov,o.b≠o1.b->o.b≠o2.b->o∈rest:=fun o ho n1 n2=>by
  have:=h5.mem_iff.1 ho;simp only[cK,cY,aV] at this;rcases this with rfl|rfl|h
  ·exact absurd J n1
  ·exact absurd J n2
  ·exact h
 have hlo2: ∀o∈[o2],o.lo=true:=by obtain⟨_,_,_,_,h⟩:=k1;exact h rfl
 have hall: ∀o∈[o1]++[o2],o.lo=true:=fun o ho=>by
  rcases bS.1 ho with h|h
  ·exact q4 o h
  ·exact hlo2 o h
 refine yI (M:=[o1]++[o2]) (rest:=rest) (vs:=[.slice (ρ nm).a (ρ nm).n (ρ nm).c, .int .i64 i, .slice (ρ nm2).a (ρ nm2).n (ρ nm2).c]) hy (by simp only[fP,p1,p2,p3]) h5 (hF G (ρ nm) (ρ nm2) [o1] [o2] r.gb hB q5 hB2) hd (fun v own1 G' hG hK a' w' rl=>?_) a w Q ⟨r.h,r.sz,cB a,r.df⟩;obtain⟨z,rfl,vs',k1',k2',k3',k4'⟩:=hK;have hs1:=k1'.relo (iA ([o1]++[o2]));have e3: ∀o∈own1.map (relo (iA ([o1]++[o2]))),o.lo=true:=fun o ho=>by
  obtain⟨o',_,rfl⟩:=bV.1 ho;exact CW _ hall
 generalize own1.map (relo (iA ([o1]++[o2])))=B' at rl e3 hs1;have rl':gg C n (Sx.put (cv a) (some d) (.slice z.a z.n z.c)) (B'++rest) G' a' w':=rl;have hdis:=(jW.1 rl'.h.nd).2.2;have rd:=(r.dropB nm).dropB nm2;have hin: ∀q B0,Sx.upB (Sx.upB tb [(nm,none)]) [(nm2,none)] q=some B0->q≠nm/\q≠nm2/\tb q=some B0:=fun q B0 e=>by
  simp only[Sx.upB] at e;split at e
  ·cases e
  ·split at e
   ·cases e
   ·exact⟨by assumption,by assumption,e⟩
 have hf2:kl [d] (some d) tl (Sx.upB (Sx.upB tb [(nm,none)]) [(nm2,none)]):=fun q hq=>by
  obtain⟨f1,f2⟩:=hf q hq;exact⟨f1,fun k B e1 e=>f2 k B e1 (hin k B e).2.2⟩
 have hsep: ∀q B0,Sx.upB (Sx.upB tb [(nm,none)]) [(nm2,none)] q=some B0-> ∀o∈ov,(ρ q).a=some ⟨o.b,0,none⟩->o∈rest:=fun q B0 e o ho hbq=>by
  obtain⟨n1,n2,n3⟩:=hin q B0 e;exact h6 o ho (fun e'=>r.dj nm q _ _ (s2 _ _ hb) n3 (Ne.symm n1) _ a1 (by rw[hbq,e'])) (fun e'=>r.dj nm2 q _ _ (s2 _ _ hb2) n3 (Ne.symm n2) _ a2 (by rw[hbq,e']))
 have r3:=rd.new' (x:=z) (B':= .b ty0 s dso true) (os:=B') (ov':=B'++rest) (f:= .rw d) (y:= .slice z.a z.n z.c) hf2 hG.le rl'.h ⟨vs',by simpa using hs1,k2',k3',fun _=>e3⟩ (fun o ho=>cJ _ ho)
  (fun q B0 hq e o ho hbq=>⟨cV _ (hsep q B0 e o ho hbq),fun hc=>by
   have hx: ∃o1∈B',o1.b=o.b:=by
    rcases hs1 with⟨_,h,_⟩|⟨b0,rest0,lo0,h,hB,_⟩
    ·rw[show z=_ from h] at hc;cases hc
    ·rw[show z=_ from h] at hc;cases hc;exact⟨⟨_,aC vs'++rest0,_,lo0⟩,by rw[hB];exact aQ,J⟩
   obtain⟨o3,ho3,he3⟩:=hx;exact hdis o3 ho3 o (hsep q B0 e o ho hbq) he3⟩) (by show _=_;simp) (jm rl')
 exact hk.run _ G' _ a' w' r3
def ci[fu:Fu]{f:FuncId}{nm nm2 d cap s:Nat}{i:Int}{ty ty2:TypeId}{ds dso:List DV}{x:DV}(dso':List DV)(ha:Lk fr own cf=some ⟨f,nm,nm2,i,ty,ty2,s,ds,x,cap,d⟩)(hF:PI GB prog f i s ty ty2 ds x cap dso)(he:dso=dso')
  (hgo:cA tt n fu.n fr own cf (.rw d) [(nm,none),(nm2,none),(d,some (.b ty s dso' true))] [d]=⟨vc,fr',own',cf'⟩)(k:aj prog GB C n Q0 fr' own' cf')
  (hv:ah vc:=by first|exact trivial|(simp only[ah];kernel_rfl)|(simp only[ah];omega)):aj prog GB C n Q0 fr own cf:=by
 subst he;unfold Lk at ha;split at ha<;>try (cases ha;done)
 rename_i hh;split at ha<;>try (cases ha;done)
 rename_i h0 h1;split at ha<;>try (cases ha;done)
 rename_i h2 h3;split at ha<;>try (cases ha;done)
 rename_i hb hb2;rw[cond_eq_ite] at ha;split at ha<;>cases ha;rename_i hc;simp only[aN,iX,mV] at hc;obtain⟨⟨c1,c2⟩,c3,c4,c5⟩:=hc
 cases aR c4
 exact us hh (Y9 c1 c2 c3 c5 h0 h1 h2 h3 hb hb2 hF) hgo hv k
def mf(d:Nat){ops:Array Oper}{r:List Oper}{K:List Kt}(hl:bg fr d=some (.d (.v (.bool true))))(k:aj prog GB C n Q0 ((d, .tt)::fr) own (.ops ops r K)):aj prog GB C n Q0 fr own (.ops ops r K):=pm (g:= .tt) hl (fun _ G _ e=>(aG (G:=G)).1 e) k
def qn(d:Nat){ops:Array Oper}{r:List Oper}{K:List Kt}(hl:bg fr d=some (.d (.v (.bool false))))(k:aj prog GB C n Q0 ((d, .ff)::fr) own (.ops ops r K)):aj prog GB C n Q0 fr own (.ops ops r K):=pm (g:= .ff) hl (fun _ G _ e=>(aG (G:=G)).1 e) k
end
section
variable {GB:Gh} {C:aD} {n:Nat} {Q0:Exit->Act->World->Prop} {fr fr':aA} {own own':aO} {cf cf':Cf} {vc:List Prop}
def PR(GB:Gh)(P:Program)(f:FuncId)(ds:List DV)(s:Nat)(ty:TypeId)(rows:List DV):Prop:=
 ∀G vs,bw GB G->IsLs G ds vs->i8 P f vs [] G (fun v own' G'=> ∃w:SV,v= .slice w.a w.n w.c/\dm G' ⟨w,s,ty,rows,true⟩ own')
def Nh: ∀(l:List ak),(∀o∈l,o.lo=true)->l.map (relo (iA []))=l
 |[],_=>rfl
 |a::t,h=>by
  have h1:=h a aQ;rw[bW,Nh t fun o ho=>h o (aZ _ ho)];congr 1
  cases a
  simp[relo,iA] at*;exact h1
def ayC{lk:LK}{bk:BM}{fo:Operand}{args:Array Operand}{tys:Array TypeId}{f:FuncId}{d s:Nat}{ds rows:List DV}{ty ty2:TypeId}{pos:String}{af:Array Edge}{gd:Option (Nat×Bool)}
  (ha:pH lk fo args=some (f,ds))(hF:PR GB prog f ds s ty2 rows):bH prog GB C n lk bk ⟨some d, .call ⟨.value fo,args,tys⟩,ty,pos,af,gd⟩ (.rw d) [(d,some (.b ty2 s rows true))] [d]:=by
 intro hd tl tb K' s1 s2 hf hk;refine⟨fun ρ G ov a w r Q=>?_⟩;have r1:=r.mono s1 s2;obtain⟨h1,h2⟩:=z7 ha;obtain⟨y,hy,hy'⟩:=r1.ev h1;rw[(aG (G:=G)).1 hy'] at hy;obtain⟨vs,h3,h4⟩:=r1.evDs h2;refine yI (M:=[]) (rest:=ov) hy h3 (List.Perm.refl _) (hF G vs r.gb h4) hd (fun v own1 G' hG hK a' w' rl=>?_) a w Q ⟨r.h,r.sz,cB a,r.df⟩;obtain⟨z,rfl,vs',k1,k2,k3,k4⟩:=hK;rw[Nh _ (k4 J)] at rl;have rl':gg C n (Sx.put (cv a) (some d) (.slice z.a z.n z.c)) (own1++ov) G' a' w':=rl;have hdis:=(jW.1 rl'.h.nd).2.2;have r3:=r.new' (x:=z) (B':= .b ty2 s rows true) (os:=own1) (ov':=own1++ov) (f:= .rw d) (y:= .slice z.a z.n z.c) hf hG.le rl'.h ⟨vs',by simpa using k1,k2,k3,k4⟩ (fun o ho=>cJ _ ho)
  (fun q B0 hq e o ho hbq=>⟨cV _ ho,fun hc=>by
   have hx: ∃o1∈own1,o1.b=o.b:=by
    rcases k1 with⟨_,h,_⟩|⟨b0,rest0,lo0,h,hB,_⟩
    ·rw[show z=_ from h] at hc;cases hc
    ·rw[show z=_ from h] at hc;cases hc;exact⟨⟨_,aC vs'++rest0,_,lo0⟩,by rw[hB];exact aQ,J⟩
   obtain⟨o1,ho1,he1⟩:=hx;exact hdis o1 ho1 o ho he1⟩) (by simp[b7]) (jm rl')
 exact hk.run _ G' _ a' w' r3
def Kf(fr:aA)(cf:Cf):Option (FuncId×List DV×Nat):=match cd fr cf with
 |some ⟨some d, .call ⟨.value fo,args,_⟩,_,_,_,_⟩=>match pH (bz fr cf) fo args with
  |some (f,ds)=>some (f,ds,d)
  |none=>none
 |_=>none
def cr[fu:Fu]{f:FuncId}{d s:Nat}{ds rows:List DV}{ty:TypeId}(ha:Kf fr cf=some (f,ds,d))(hF:PR GB prog f ds s ty rows)
  (hgo:cA tt n fu.n fr own cf (.rw d) [(d,some (.b ty s rows true))] [d]=⟨vc,fr',own',cf'⟩)(k:aj prog GB C n Q0 fr' own' cf')
  (hv:ah vc:=by first|exact trivial|(simp only[ah];kernel_rfl)|(simp only[ah];omega)|(simp only[ah,aJ,aL,aW];omega)):aj prog GB C n Q0 fr own cf:=by
 unfold Kf at ha;split at ha<;>try (cases ha;done)
 rename_i hh;split at ha<;>cases ha;rename_i h1;exact us hh (ayC h1 hF) hgo hv k
def aIp(C:aD)(s:Nat)(ty:TypeId)(rows:List DV):Ending->World->Prop:=rx C (fun v own' G'=> ∃w:SV,v= .slice w.a w.n w.c/\dm G' ⟨w,s,ty,rows,true⟩ own')
end
section
variable {GB:Gh} {C:aD} {n:Nat} {Q0:Exit->Act->World->Prop} {fr fr':aA} {own own':aO} {cf cf':Cf} {vc:List Prop}
def Wg{lk:LK}{bk:BM}{fo:Operand}{args:Array Operand}{tys:Array TypeId}{f:FuncId}{nm d:Nat}{l:List (Option DV)}{s:Nat}{ty ty0:TypeId}{pos:String}{af:Array Edge}{gd:Option (Nat×Bool)}{dsi dso:List DV}{lo:Bool}(hne:Nat.beq nm d=false)
  (ha:x8 lk fo args=some (f,nm,l))(hb:bk nm=some (.b ty0 s dsi lo))(hF:PB GB prog f (gw l) s ty0 dsi (fun w=> .v (.slice w.a w.n w.c)) dso):bH prog GB C n lk bk ⟨some d, .call ⟨.value fo,args,tys⟩,ty,pos,af,gd⟩ (.rw d) [(nm,none),(d,some (.b ty0 s dso lo))] [d]:=by
 intro hd tl tb K' s1 s2 hf hk;refine⟨fun ρ G ov a w r Q=>?_⟩;have r1:=r.mono s1 s2;unfold x8 at ha;split at ha<;>try (cases ha;done)
 rename_i h1;split at ha<;>cases ha;rename_i h2;obtain⟨y,hy,hy'⟩:=r1.ev h1;rw[(aG (G:=G)).1 hy'] at hy;obtain⟨B,g1,g2⟩:=r1.bx _ _ hb;have hB:dm G ⟨ρ nm,s,ty0,dsi,lo⟩ B:=g1;obtain⟨vs,h7,h8⟩:=AV r1 (z:=ρ nm) h2 (fun nm e=>by cases e;rfl);have hp: ∃rest,ov.Perm (B++rest)/\ ∀o∈ov,(∀o'∈B,o.b≠o'.b)->o∈rest:=by
  rcases hB with⟨vs',⟨_,_,e⟩|⟨b0,r0,lo0,_,e,_⟩,_⟩
  ·rw[e];exact⟨ov,List.Perm.refl _,fun o ho _=>ho⟩
  ·rw[e] at g2⊢
   obtain⟨l1,l2,e2⟩:=lN (g2 _ aQ);rw[e2];refine⟨l1++l2,oW,fun o ho hno=>?_⟩;rcases bS.1 ho with ho|ho
   ·exact cJ _ ho
   ·rcases aV.1 ho with rfl|ho
    ·exact absurd J (hno _ aQ)
    ·exact cV _ ho
 obtain⟨rest,h5,h6⟩:=hp;refine yI (M:=B) (rest:=rest) hy h7 h5 (hF G (ρ nm) vs B r.gb hB.weak h8) hd (fun v own1 G' hG hK a' w' rl=>?_) a w Q ⟨r.h,r.sz,cB a,r.df⟩;obtain⟨z,hr,vs',k1,k2,k3,k4⟩:=hK;have k1':=k1.relo (iA B);have e2:lo=true-> ∀o∈own1.map (relo (iA B)),o.lo=true:=fun hl o ho=>by
  obtain⟨o',_,rfl⟩:=bV.1 ho;obtain⟨_,_,_,_,hlo⟩:=hB;exact CW _ (hlo hl)
 generalize own1.map (relo (iA B))=B' at rl e2 k1';have rl':gg C n (Sx.put (cv a) (some d) v) (B'++rest) G' a' w':=rl;have hdis:=(jW.1 rl'.h.nd).2.2;have r2:=r.dropB nm;have hnn:nm≠d:=fun e=>by subst e;rw[oM] at hne;cases hne
 have hf2:kl [d] (some d) tl (Sx.upB tb [(nm,none)]):=fun q hq=>by
  obtain⟨f1,f2⟩:=hf q hq;refine⟨f1,fun k B e1 e=>?_⟩;simp only[Sx.upB] at e;split at e
  ·cases e
  ·exact f2 k B e1 e
 have hsep: ∀q B0,Sx.upB tb [(nm,none)] q=some B0-> ∀o∈ov,(ρ q).a=some ⟨o.b,0,none⟩->o∈rest:=fun q B0 e o ho hbq=>by
  simp only[Sx.upB] at e;split at e
  ·cases e
  ·rename_i hqn
   refine h6 o ho fun o' ho' he=>?_;exact r.dj nm q _ _ (s2 _ _ hb) e (Ne.symm hqn) o'.b (g1.blk ho') (by rw[hbq,he])
 rw[aG.1 hr] at rl';have r3:=r2.new' (x:=z) (B':= .b ty0 s dso lo) (os:=B') (ov':=B'++rest) (f:= .rw d) (y:= .slice z.a z.n z.c) hf2 hG.le rl'.h ⟨vs',by simpa using k1',k2,k3,e2⟩ (fun o ho=>cJ _ ho)
  (fun q B0 hq e o ho hbq=>⟨cV _ (hsep q B0 e o ho hbq),fun hc=>by
   have hx: ∃o1∈B',o1.b=o.b:=by
    rcases k1' with⟨_,h,_⟩|⟨b0,rest0,lo0,h,hB,_⟩
    ·rw[show z=_ from h] at hc;cases hc
    ·rw[show z=_ from h] at hc;cases hc;exact⟨⟨_,aC vs'++rest0,_,lo0⟩,by rw[hB];exact aQ,J⟩
   obtain⟨o1,ho1,he1⟩:=hx;exact hdis o1 ho1 o (hsep q B0 e o ho hbq) he1⟩) (by simp[b7]) (jm rl')
 exact hk.run _ G' _ a' w' r3
def cq[fu:Fu]{f:FuncId}{nm d:Nat}{l:List (Option DV)}{ty:TypeId}{s:Nat}{dsi dso:List DV}{lo:Bool}(dso':List DV)(ha:MZ fr own cf=some ⟨f,nm,l,ty,s,dsi,lo,d⟩)(hF:PB GB prog f (gw l) s ty dsi (fun w=> .v (.slice w.a w.n w.c)) dso)(he:dso=dso')
  (hgo:cA tt n fu.n fr own cf (.rw d) [(nm,none),(d,some (.b ty s dso' lo))] [d]=⟨vc,fr',own',cf'⟩)(k:aj prog GB C n Q0 fr' own' cf')
  (hv:ah vc:=by first|exact trivial|(simp only[ah];kernel_rfl)|(simp only[ah];omega)|(simp only[ah,aJ,aL,aW];omega)):aj prog GB C n Q0 fr own cf:=by
 subst he;unfold MZ at ha;split at ha<;>try (cases ha;done)
 rename_i hh;split at ha<;>try (cases ha;done)
 rename_i h1;split at ha<;>try (cases ha;done)
 rename_i h2;rw[cond_eq_ite] at ha;split at ha<;>cases ha;rename_i h3;exact us hh (Wg (by cases hq:Nat.beq nm d with|false=>rfl|true=>exact absurd hq h3) h1 h2 hF) hgo hv k
def EW(C:aD)(s:Nat)(ty:TypeId)(dso:List DV):Ending->World->Prop:=rx C (fun v own' G'=> ∃w',Is G' (.v (.slice w'.a w'.n w'.c)) v/\dm G' ⟨w',s,ty,dso,false⟩ own')
def vE[fu:Fu]{f:FuncId}{fb:Func}{c:Code}{k s:Nat}{l:List (Option DV)}{dsi dso:List DV}{ty:TypeId}(hf:prog.funcs[f]? =some fb)(hb:fb.body=some c)(hn:(fb.name== "runtime.NumGoroutine")=false)(hm:fb.ntmps=k)(hlen:Nat.ble l.length k=true)
  (hgo:go tt k fu.n [] (xp 0 l) [(NM,some (.b ty s dsi false))] (.code c [])=⟨vc,fr,own,cf⟩)(h: ∀C,aj prog GB C k (fH C prog fb (EW C s ty dso)) fr own cf)
  (hv:ah vc:=by first|exact trivial|(simp only[ah];kernel_rfl)|(simp only[ah];omega)|(simp only[ah,aJ,aL,aW];omega)):PB GB prog f (gw l) s ty dsi (fun w=> .v (.slice w.a w.n w.c)) dso:=by
 intro G w vs B hg hB hvs;refine i8.introR hf hb hn hm (by rw[hvs.len,IB];exact hlen) fun C _ hmb hrd hfx=>?_;intro a wd rl;refine vl hrd ?_;have h1:=fq (GB:=GB) (C:=C) (Q0:=fH C prog fb (EW C s ty dso)) hgo hv (h C);refine h1.run (fun _=>w) G (Sx.asB B) a wd ⟨hg,rl.h,rl.sz,rl.df,fun k f e=>?_,fun nm B' e=>?_,fun nm nm' B' B2 e e' hne=>?_,fun nm p _ _ e=>by rw[hfx] at e;cases e⟩
 ·obtain⟨y,⟨j,hj,hy⟩,h2⟩:=FC (ρ:=fun _=>w) (w:=w) rfl 0 hvs k f e
  refine⟨y,rl.fr k y ?_,h2⟩;rw[hj];exact wD vs 0 j y hy
 ·rw[mc] at e
  split at e
  ·cases e;exact⟨Sx.asB B,hB.asB,fun o ho=>ho⟩
  ·cases e
 ·rw[mc] at e e'
  split at e<;>split at e'
  ·rename_i h2 h3;exact absurd (h2.trans h3.symm) hne
  ·cases e'
  ·cases e
  ·cases e
def sF{fb:Func}{t d s:Nat}{ty:TypeId}{ds dso:List DV}(hr:fb.results.toList=[.tmp t])(hl:bg fr t=some (.rw d))(hw:bi own d=some (.b ty s ds false))(ed:ds=dso):
  aj prog GB C n (fH C prog fb (EW C s ty dso)) fr own (.ex .ret []):=by
 subst ed;refine⟨fun ρ G ov a w r=>?_⟩;obtain⟨B,g1,g2⟩:=r.bx _ _ hw;have hB:dm G ⟨ρ d,s,ty,ds,false⟩ B:=g1;obtain⟨rest,hp⟩:=XO hB g2;obtain⟨y,hy,hy'⟩:=r.ev (x:= .tmp t) (f:= .rw d) hl
 cases (show y=_ from hy')
 exact A0 (C:=C) (n:=n) (fr:=cv a) (own:=ov) (G:=G) (vs:=[.slice (ρ d).a (ρ d).n (ρ d).c]) (by rw[hr];exact .tmp hy .nil) (B++rest) B hp (List.sublist_append_left _ _) ⟨ρ d,aG.2 J,hB⟩ a w ⟨r.h,r.sz,cB a,r.df⟩
def yj(lk:LK):List Operand->Option (List (Option DV))
 |[]=>none
 |[x]=>match aP lk x with
  |some .nl=>some [none]
  |_=>none
 |x::t=>match aP lk x,yj lk t with
  |some f,some l=>match kG f with
   |some d=>some (some d::l)
   |none=>none
  |_,_=>none
def EH(lk:LK)(fo:Operand)(args:Array Operand):Option (FuncId×List (Option DV)):=match aP lk fo with
 |some (.d (.v (.func (.func f) ⟨[]⟩ ⟨[]⟩)))=>match yj lk args.toList with
  |some l=>some (f,l)
  |_=>none
 |_=>none
def J6{lk:LK}{bk:BM}{ρ:NE}{G:Gh}{ov:List ak}{a:Act}{w:World}(r:bD GB C n lk bk ρ G ov a w): ∀{x:List Operand} {l:List (Option DV)},yj lk x=some l-> ∃y,fP (cv a) x=some y/\IsLs G (gw l ⟨none,0,0⟩) y
 |[],l,e=>by cases e
 |[x],l,e=>by
  simp only[yj] at e;split at e<;>cases e;rename_i h1;obtain⟨y,h3,h4⟩:=r.ev h1
  cases (show y=_ from h4)
  exact⟨[Value.slice none 0 0],by simp only[fP,h3], .cons ((aG (G:=G)).2 J) .nil⟩
 |x::x2::t,l,e=>by
  simp only[yj] at e;split at e
  ·rename_i f l' h1 h2
   cases hd:kG f with
   |none=>rw[hd] at e;cases e
   |some d=>
   rw[hd] at e;cases e;obtain⟨y,h3,h4⟩:=r.ev h1;obtain⟨ys,h5,h6⟩:=J6 r (x:=x2::t) (by simpa only[yj] using h2);exact⟨y::ys,by simp only[fP,h3] at h5⊢;rw[h5], .cons (og h4 hd) h6⟩
  ·cases e
def Tj{lk:LK}{bk:BM}{fo:Operand}{args:Array Operand}{tys:Array TypeId}{f:FuncId}{d:Nat}{l:List (Option DV)}{s:Nat}{ty ty0:TypeId}{pos:String}{af:Array Edge}{gd:Option (Nat×Bool)}{dso:List DV}
  (ha:EH lk fo args=some (f,l))(hF:PB GB prog f (gw l) s ty0 [] (fun w=> .v (.slice w.a w.n w.c)) dso):bH prog GB C n lk bk ⟨some d, .call ⟨.value fo,args,tys⟩,ty,pos,af,gd⟩ (.rw d) [(d,some (.b ty0 s dso true))] [d]:=by
 intro hd tl tb K' s1 s2 hf hk;refine⟨fun ρ G ov a w r Q=>?_⟩;have r1:=r.mono s1 s2;unfold EH at ha;split at ha<;>try (cases ha;done)
 rename_i h1;split at ha<;>cases ha;rename_i h2;obtain⟨y,hy,hy'⟩:=r1.ev h1;rw[(aG (G:=G)).1 hy'] at hy;obtain⟨vs,h7,h8⟩:=J6 r1 h2;refine yI (M:=[]) (rest:=ov) hy h7 (List.Perm.refl _) (hF G ⟨none,0,0⟩ vs [] r.gb ⟨[], .nil _ _, .nil,by simp,fun h=>by cases h⟩ h8) hd (fun v own1 G' hG hK a' w' rl=>?_) a w Q ⟨r.h,r.sz,cB a,r.df⟩;obtain⟨z,hr,vs',k1,k2,k3,k4⟩:=hK;have k1':=k1.relo (iA []);have e2: ∀o∈own1.map (relo (iA [])),o.lo=true:=fun o ho=>by
  obtain⟨o',_,rfl⟩:=bV.1 ho;rfl
 generalize own1.map (relo (iA []))=B' at rl e2 k1';have rl':gg C n (Sx.put (cv a) (some d) v) (B'++ov) G' a' w':=rl;have hdis:=(jW.1 rl'.h.nd).2.2;rw[aG.1 hr] at rl';have r3:=r.new (x:=z) (B':= .b ty0 s dso true) (os:=B') (ov':=B'++ov) (f:= .rw d) (y:= .slice z.a z.n z.c) hf hG.le rl'.h ⟨vs',by simpa using k1',k2,k3,fun _=>e2⟩ (fun o ho=>cJ _ ho) (fun o ho=>cV _ ho)
  (fun o ho hc=>by
   have hx: ∃o1∈B',o1.b=o.b:=by
    rcases k1' with⟨_,h,_⟩|⟨b0,rest0,lo0,h,hB,_⟩
    ·rw[show z=_ from h] at hc;cases hc
    ·rw[show z=_ from h] at hc;cases hc;exact⟨⟨_,aC vs'++rest0,_,lo0⟩,by rw[hB];exact aQ,J⟩
   obtain⟨o1,ho1,he1⟩:=hx;exact hdis o1 ho1 o ho he1) (by simp[b7]) (jm rl')
 exact hk.run _ G' _ a' w' r3
def KV(fr:aA)(cf:Cf):Option (FuncId×List (Option DV)×Nat):=match cd fr cf with
 |some ⟨some d, .call ⟨.value fo,args,_⟩,_,_,_,_⟩=>match EH (bz fr cf) fo args with
  |some (f,l)=>some (f,l,d)
  |none=>none
 |_=>none
def YS[fu:Fu]{f:FuncId}{d:Nat}{l:List (Option DV)}{ty:TypeId}{s:Nat}{dso:List DV}(dso':List DV)(ha:KV fr cf=some (f,l,d))(hF:PB GB prog f (gw l) s ty [] (fun w=> .v (.slice w.a w.n w.c)) dso)(he:dso=dso')
  (hgo:cA tt n fu.n fr own cf (.rw d) [(d,some (.b ty s dso' true))] [d]=⟨vc,fr',own',cf'⟩)(k:aj prog GB C n Q0 fr' own' cf')
  (hv:ah vc:=by first|exact trivial|(simp only[ah];kernel_rfl)|(simp only[ah];omega)|(simp only[ah,aJ,aL,aW];omega)):aj prog GB C n Q0 fr own cf:=by
 subst he;unfold KV at ha;split at ha<;>try (cases ha;done)
 rename_i hh;split at ha<;>cases ha;rename_i h1;exact us hh (Tj h1 hF) hgo hv k
end
section
variable {P:Program} {T:TT} {GB:Gh} {C:aD} {n:Nat} {lk:LK} {bk:BM} {ρ:NE} {G:Gh} {ov:List ak} {a:Act} {w:World}
variable {dst:Option Nat} {t t' ty':TypeId} {pos:String} {af:Array Edge} {gd:Option (Nat×Bool)} {x y:Operand} {e s by_:Nat}
def ZE{d nm:Nat}{i:TI}{z:DV}{ds ds2:List DV}[hT:cg P t e s by_][hN:jE P t'](hi:fg P e=some i)(hz:nB i=some z)(hs:Nat.beq z.cells.length s=true)(hx:aP lk x=some (.rw nm))(hb:bk nm=some (.b e s ds false))(hy:qg lk bk s y=some ds2)(hk2:dG s ds2)
  (hby:Nat.blt 0 by_=true)(hbd:(ds.length+ds2.length)*by_<=140737488355328)(hnd:Nat.beq nm d=false){ds':List DV}(hds:ds++ds2=ds'):
  bH P GB C n lk bk ⟨some d, .call ⟨.builtin .append, #[x,y], #[t,t']⟩,ty',pos,af,gd⟩ (.rw d) [(nm,none),(d,some (.b e s ds' false))] [d]:=by
 intro hd tl tb K s1 s2 hf hk;refine⟨fun ρ G ov a w r Q=>?_⟩;subst hds;have r1:=r.mono s1 s2;obtain⟨v,hz1,hz2,hz3⟩:=vx hi hz;have cz:=((hz2 G).cells hz3).1.len;replace hs:=aR hs;rw[mV] at hby
 have hne:nm≠d:=fun e=>by subst e;simp at hnd
 obtain⟨u,hx',hx2⟩:=r1.ev hx
 cases hx2
 obtain⟨B,hB0,hBo⟩:=r1.bx _ _ hb;have hB1:dm G ⟨ρ nm,s,e,ds,false⟩ B:=hB0;clear hB0;obtain⟨vs,hB,hv,hvs,_⟩:=hB1;simp only[] at hB hv hvs;obtain⟨w2,us,hy',h2,h3,h4,h5,h6⟩:=zU (P:=P) r1 hy hk2;have hus:(aC us).length=us.length*s:=ek us h4;have hbd':(vs.length+us.length)*by_<=140737488355328:=by rw[hv.len,h3.len];exact hbd
 have hall: ∀v∈vs++us,(aE v).length=s:=fun v hv=>by
  rcases bS.1 hv with hv|hv
  ·exact hvs v hv
  ·exact h4 v hv
 have rd:=r.dropB nm;have hf':kl [d] (some d) tl (Sx.upB tb [(nm,none)]):=fun m hm=>by
  obtain⟨g1,g2⟩:=hf m hm;refine⟨g1,fun k B' hk e=>g2 k B' hk ?_⟩;simp only[Sx.upB] at e;split at e
  ·cases e
  ·exact e
 have hbk: ∀m B',(Sx.upB tb [(nm,none)]) m=some B'->m≠nm/\tb m=some B':=fun m B' e=>by
  simp only[Sx.upB] at e;split at e
  ·cases e
  ·exact⟨by assumption,e⟩
 have hnew: ∀{z:SV} {ov':List ak} {B1:List ak} {a':Act} {w':World} {dz:List DV},dm G ⟨z,s,e,dz,false⟩ B1->(∀o∈B1,o∈ov')->(∀m B',m≠d->(Sx.upB tb [(nm,none)]) m=some B'-> ∀o∈ov,(ρ m).a=some ⟨o.b,0,none⟩->o∈ov'/\z.a≠some ⟨o.b,0,none⟩)->
   SX GB C n (eh tl (some d) (.rw d)) (Sx.upB (Sx.upB tb [(nm,none)]) [(d,some (.b e s dz false))]) K->gg C n (Sx.put (cv a) (some d) (.slice z.a z.n z.c)) ov' G a' w'->K a' w':=fun hB1 hos hov hk1 rl=>
  hk1.run _ _ _ _ _ (rd.new' (f:= .rw d) (y:= .slice _ _ _) hf' (bw.refl _) rl.h (hB1.toBk (by simp)) hos hov (by show _=_;simp) (jm rl))
 have hfin: ∀(b:Nat) (lo1:Bool) (cap':Nat) (rest':List Value) (ov1:List ak) a' w',vs.length+us.length<=cap'->rest'.length+(vs.length+us.length)*s=cap'*s->(∀o∈ov,(ρ nm).a≠some ⟨o.b,0,none⟩->o∈ov1)->
   gg C n (put (cv a) (some d) (.slice (some ⟨b,0,none⟩) (vs.length+us.length) cap')) (⟨b,aC (vs++us)++rest',e,lo1⟩::ov1) G a' w'->K a' w':=by
  intro b lo1 cap' rest' ov1 a' w' hc hr ho1 rl;have hnd':=(bJ.1 rl.h.nd).1;refine hnew (z:=⟨some ⟨b,0,none⟩,vs.length+us.length,cap'⟩) (B1:=[⟨b,aC (vs++us)++rest',e,lo1⟩]) ⟨vs++us, .inr ⟨b,rest',lo1,by simp,J,ek _ hall,?_,by simpa using hc⟩,hv.app h3,hall,fun h=>by cases h⟩
   (fun o ho=>by rw[aY.1 ho];exact aQ) (fun m B' hm e o ho hmo=>?_) hk rl
  ·rw[ek _ hall,aT]
   simp only[];omega
  ·obtain⟨h7,h8⟩:=hbk m B' e
   have ho2:=ho1 o ho fun hc=>r.dj m nm B' _ h8 (s2 _ _ hb) h7 _ hmo hc;exact⟨aZ _ ho2,fun e'=>by cases e';exact hnd' o ho2 J⟩
 rcases hB with⟨e1,e2,e3⟩|⟨b,rest,lo',k3,k4,k5,k6,k7⟩
 ·subst e1
  rw[e2] at hx';by_cases hne:us=[]
  ·subst hne
   have:ds2=[]:=bT (by rw[<-h3.len];rfl);subst this;rw[h2] at hy';refine Mu hx' hy' hd (fun a' w' rl=>?_) a w Q ⟨r.h,r.sz,cB a,r.df⟩;refine hnew (z:=⟨none,0,0⟩) (B1:=[]) ⟨[], .inl ⟨J,J,J⟩,by simpa using hv,by simp,fun h=>by cases h⟩ (fun o ho=>by cases ho) (fun m B' hm e o ho hmo=>⟨ho,fun e'=>by cases e'⟩) hk rl
  ·have hup:0<us.length:=qJ.2 hne
   rw[h2] at hy' h6;refine AF (z:=v) (xs:=[]) (ys:=aC us) hx' hy' ux h6 (by show(0:Nat)<0+us.length;omega) hby (by simpa using hbd') hd (fun b cap' hc a' w' rl=>?_) a w Q ⟨r.h,r.sz,cB a,r.df⟩;exact hfin b true cap' (cG v (cap'-us.length)) ov a' w' (by simpa using hc) (by rw[ny,cz,hs,<-cS];simp at hc⊢;congr 1;omega) (fun o ho _=>ho) (by simpa using rl)
 ·subst k4
  have ha:(ρ nm).a=some ⟨b,0,none⟩:=by rw[k3]
  have hn:(ρ nm).n=vs.length:=by rw[k3]
  rw[ha,hn] at hx';rw[h2] at hy' h6;obtain⟨ov1,o1,o2⟩:=jn.of_mem (hBo _ aQ);refine O4 (z:=v) (xs:=aC vs) (ys:=aC us) (rest:=rest) (own1:=ov1) hx' hy' o1 k5 k6 k7 h6 hus h5 hby hbd' (by rw[cz,hs]) hd (fun b' lo2 cap' rest' hc hr a' w' rl=>?_) a w Q ⟨r.h,r.sz,cB a,r.df⟩;rw[<-mE] at rl;exact hfin b' lo2 cap' rest' ov1 a' w' hc hr (fun o ho hne=>o2 o ho fun e'=>hne (by rw[ha,e'])) rl
end
section
variable {GB:Gh} {C:aD} {n:Nat} {Q0:Exit->Act->World->Prop} {fr fr':aA} {own own':aO} {cf cf':Cf} {vc:List Prop}
def LW(fr:aA)(own:aO)(cf:Cf):Option (Nat×Nat×Nat×Nat×Nat×List DV×List DV):=match cd fr cf with
 |some ⟨some d, .call ⟨.builtin .append,⟨[x,y]⟩,⟨[t,t']⟩⟩,_,_,_,_⟩=>match dh tt t with
  |some ⟨.sl e s b,_,_,_⟩=>match dh tt t' with
   |some ⟨.sl _ _ _,_,_,_⟩=>match dh tt e with
    |some i=>match nB i with
     |some z=>bif Nat.beq z.cells.length s&&Nat.blt 0 b then(match qg (bz fr cf) (gq fr own cf) s y with
      |some ds2=>match aP (bz fr cf) x with
       |some (.rw nm)=>match gq fr own cf nm with
        |some (.b e' s' ds false)=>bif (Nat.beq e' e&&Nat.beq s' s)&&!Nat.beq nm d then some (d,nm,e,s,b,ds,ds2) else none
        |_=>none
       |_=>none
      |none=>none) else none
     |none=>none
    |none=>none
   |_=>none
  |_=>none
 |_=>none
def Yr[fu:Fu]{d nm:Nat}{e s b:Nat}{ds ds2:List DV}(ds':List DV)(h:LW fr own cf=some (d,nm,e,s,b,ds,ds2))(hds:ds++ds2=ds')(ho2:dG s ds2)(hgo:cA tt n fu.n fr own cf (.rw d) [(nm,none),(d,some (.b e s ds' false))] [d]=⟨vc,fr',own',cf'⟩)(k:aj prog GB C n Q0 fr' own' cf')
  (hbd:(ds.length+ds2.length)*b<=140737488355328:=by simp;omega)
  (hv:ah vc:=by first|exact trivial|(simp only[ah];kernel_rfl)|(simp only[ah];omega)|(simp only[ah,aJ,aL,aW];omega)):aj prog GB C n Q0 fr own cf:=by
 unfold LW at h;split at h<;>try (cases h;done)
 rename_i hh;split at h<;>try (cases h;done)
 rename_i hT;split at h<;>try (cases h;done)
 rename_i hT';split at h<;>try (cases h;done)
 rename_i hi;split at h<;>try (cases h;done)
 rename_i hz;rw[cond_eq_ite] at h;split at h<;>try (cases h;done)
 rename_i hc;simp only[aN] at hc;split at h<;>try (cases h;done)
 rename_i hy;have:=jh (er _ _ hT) J;have hN:jE prog _:=⟨_,(jh (er _ _ hT') J).un⟩;split at h<;>try (cases h;done)
 rename_i hx;split at h<;>try (cases h;done)
 rename_i hb;rw[cond_eq_ite] at h;split at h<;>cases h;rename_i hq;simp only[aN,iX] at hq
 cases aR hq.1.1
 cases aR hq.1.2
 exact us hh (ZE (er _ _ hi) hz hc.1 hx hb hy ho2 hc.2 hbd hq.2 hds) hgo hv k
end
def PW(GB:Gh)(P:Program)(f:FuncId)(l:List (Option DV))(s:Nat)(ty:TypeId)(dsi:List DV)(rv:DV)(dso:List DV):Prop:=
 ∀G w vs B,bw GB G->dm G ⟨w,s,ty,dsi,false⟩ B->IsLs G (gw l w) vs->i8 P f vs B G (fun v own' G'=>Is G' rv v/\dm G' ⟨w,s,ty,dso,false⟩ own')
def RG{B:List ak}{G:Gh}{w:SV}{s:Nat}{ty:TypeId}{ds:List DV}{lo:Bool}{ov:List ak}(h:dm G ⟨w,s,ty,ds,lo⟩ B)(g: ∀o∈B,o∈ov): ∃rest,ov.Perm (B++rest)/\ ∀o∈ov,(∀o'∈B,o.b≠o'.b)->o∈rest:=by
 rcases h with⟨vs',⟨_,_,e⟩|⟨b0,r0,lo0,_,e,_⟩,_⟩
 ·rw[e];exact⟨ov,List.Perm.refl _,fun o ho _=>ho⟩
 ·rw[e] at g⊢
  obtain⟨l1,l2,e2⟩:=lN (g _ aQ);rw[e2];refine⟨l1++l2,oW,fun o ho hno=>?_⟩;rcases bS.1 ho with ho|ho
  ·exact cJ _ ho
  ·rcases aV.1 ho with rfl|ho
   ·exact absurd J (hno _ aQ)
   ·exact cV _ ho
section
variable {GB:Gh} {C:aD} {n:Nat} {Q0:Exit->Act->World->Prop} {fr fr':aA} {own own':aO} {cf cf':Cf} {vc:List Prop} {lk:LK} {bk:BM}
variable {dst:Option Nat} {t t' ty':TypeId} {pos:String} {af:Array Edge} {gd:Option (Nat×Bool)} {x y:Operand}
def U4{fo:Operand}{args:Array Operand}{tys:Array TypeId}{f:FuncId}{nm:Nat}{l:List (Option DV)}{s:Nat}{ty0:TypeId}{dsi dso:List DV}{lo:Bool}{rv:DV}
  (ha:x8 lk fo args=some (f,nm,l))(hb:bk nm=some (.b ty0 s dsi lo))(hF:PW GB prog f l s ty0 dsi rv dso):bH prog GB C n lk bk ⟨dst, .call ⟨.value fo,args,tys⟩,ty',pos,af,gd⟩ (.d rv) [(nm,some (.b ty0 s dso lo))] []:=by
 intro hd tl tb K' s1 s2 hf hk;refine⟨fun ρ G ov a w r Q=>?_⟩;have r1:=r.mono s1 s2;unfold x8 at ha;split at ha<;>try (cases ha;done)
 rename_i h1;split at ha<;>cases ha;rename_i h2;obtain⟨y,hy,hy'⟩:=r1.ev h1;rw[(aG (G:=G)).1 hy'] at hy;obtain⟨B,g1,g2⟩:=r1.bx _ _ hb;have hB:dm G ⟨ρ nm,s,ty0,dsi,lo⟩ B:=g1;obtain⟨vs,h7,h8⟩:=AV r1 (z:=ρ nm) h2 (fun nm e=>by cases e;rfl);obtain⟨rest,h5,h6⟩:=RG hB g2;refine yI (M:=B) (rest:=rest) hy h7 h5 (hF G (ρ nm) vs B r.gb hB.weak h8) hd (fun v own1 G' hG hK a' w' rl=>?_) a w Q ⟨r.h,r.sz,cB a,r.df⟩;obtain⟨hr,vs',k1,k2,k3,k4⟩:=hK;have k1':=k1.relo (iA B);have e2:lo=true-> ∀o∈own1.map (relo (iA B)),o.lo=true:=fun hl o ho=>by
  obtain⟨o',_,rfl⟩:=bV.1 ho;obtain⟨_,_,_,_,hlo⟩:=hB;exact CW _ (hlo hl)
 generalize own1.map (relo (iA B))=B' at rl e2 k1';have r2:=r.upB (G':=G') (ov':=B'++rest) (w':=w') (B':= .b ty0 s dso lo) (os:=B') hG.le rl.h ⟨vs',by simpa using k1',k2,k3,e2⟩ (fun o ho=>cJ _ ho)
  (fun o ho hne=>cV _ (h6 o ho fun o' ho' he=>hne (by rw[g1.blk ho',he]))) ⟨_,s2 _ _ hb⟩
 exact hk.run _ G' _ a' w' (r2.put hr (jm rl))
def Nf(fr:aA)(own:aO)(cf:Cf):Option (FuncId×Nat×List (Option DV)×TypeId×Nat×List DV×Bool):=match cd fr cf with
 |some ⟨_, .call ⟨.value fo,args,_⟩,_,_,_,_⟩=>match x8 (bz fr cf) fo args with
  |some (f,nm,l)=>match gq fr own cf nm with
   |some (.b ty s ds lo)=>some (f,nm,l,ty,s,ds,lo)
   |_=>none
  |none=>none
 |_=>none
def cw[fu:Fu]{f:FuncId}{nm:Nat}{l:List (Option DV)}{ty:TypeId}{s:Nat}{dsi dso:List DV}{lo:Bool}{rv:DV}(dso':List DV)(ha:Nf fr own cf=some (f,nm,l,ty,s,dsi,lo))(hF:PW GB prog f l s ty dsi rv dso)(he:dso=dso')
  (hgo:cA tt n fu.n fr own cf (.d rv) [(nm,some (.b ty s dso' lo))] []=⟨vc,fr',own',cf'⟩)(k:aj prog GB C n Q0 fr' own' cf')
  (hv:ah vc:=by first|exact trivial|(simp only[ah];kernel_rfl)|(simp only[ah];omega)|(simp only[ah,aJ,aL,aW];omega)):aj prog GB C n Q0 fr own cf:=by
 subst he;unfold Nf at ha;split at ha<;>try (cases ha;done)
 rename_i hh;split at ha<;>try (cases ha;done)
 rename_i h1;split at ha<;>cases ha;rename_i h2;exact us hh (U4 h1 h2 hF) hgo hv k
def OU{G:Gh}{w:SV}{s:Nat}{ty:TypeId}{ds:List DV}{lo:Bool}{B:List ak}(h:dm G ⟨w,s,ty,ds,lo⟩ B)(hn:0<ds.length): ∃b,w=⟨some ⟨b,0,none⟩,ds.length,w.c⟩/\ds.length<=w.c:=by
 obtain⟨vs,h1,h2,_⟩:=h;rcases h1 with⟨e1,_,_⟩|⟨b,rest,lo',e1,_,_,_,h5⟩
 ·subst e1;have:=h2.len;simp at this;omega
 ·exact⟨b,by rw[<-h2.len];exact e1,by rw[<-h2.len];exact h5⟩
def aEV{P:Program}{e s by_:Nat}[hT:cg P t e s by_]{nm:Nat}{k:IntKind}{j m:Nat}{ty:TypeId}{ds:List DV}{lo:Bool}(hx:aP lk x=some (.rw nm))(hb:bk nm=some (.b ty s ds lo))(hy:aP lk y=some (.d (.v (.int k j))))(hm:j+m=ds.length)(h1:0<m):
  bH P GB C n lk bk ⟨dst, .slice t x (some y) none none,ty',pos,af,gd⟩ (.rs nm s j m) [] []:= .yd fun ρ G ov a w r=>by
 obtain⟨u,hu,hu2⟩:=r.ev hx
 cases (show u=_ from hu2)
 obtain⟨v,hv,hv2⟩:=r.ev hy;rw[c8] at hv2;subst hv2;obtain⟨B,hB,_⟩:=r.row (y:= .nilFunc) hb;obtain⟨b,hw,hc⟩:=OU hB (by omega);rw[hw] at hu;have hs:=CQ (P:=P) (C:=C) (own:=ov) (G:=G) (dst:=dst) (ty':=ty') (pos:=pos) (af:=af) (gd:=gd) (t:=t) hu hv (by omega) (by show(j:Int)<=(ds.length:Nat);omega);have hne:(ρ nm).c≠j:=by omega
 refine⟨_,⟨b,(ρ nm).c-j,by rw[hw],?_,?_⟩,hs⟩
 ·unfold mp
  rw[bZ,if_neg hne,jT,o8,dS,show ds.length-j=m by omega]
 ·omega
def TY{P:Program}{e s by_:Nat}[hT:cg P t e s by_]{nm sz off m:Nat}(hx:aP lk x=some (.rs nm sz off m)):bH P GB C n lk bk ⟨dst, .call ⟨.builtin .len, #[x], #[t]⟩,ty',pos,af,gd⟩ (.d (.v (.int .i64 (m:Nat)))) [] []:= .x1 hx fun ρ G ov a w y _ r h1 h2=>by
 obtain⟨b,c,_,rfl,_⟩:=h2;exact⟨_,c8.2 J,oh h1⟩
def Tx{P:Program}{e s by_:Nat}[hT:cg P t e s by_]{nm off m j:Nat}{k:IntKind}{i:Int}(hx:aP lk x=some (.rs nm s off m))(hy:aP lk y=some (.d (.v (.int k i))))(h0:0<=i)(h1:i<(m:Nat))(hj:(off:Int)+i=(j:Nat)):
  bH P GB C n lk bk ⟨dst, .indexAddr t x y,ty',pos,af,gd⟩ (.be nm s j 0) [] []:= .yd fun ρ G ov a w r=>by
 obtain⟨u,hu,hu2⟩:=r.ev hx;obtain⟨b,c,hb,rfl,hc⟩:=hu2;obtain⟨v,hv,hv2⟩:=r.ev hy;rw[c8] at hv2;subst hv2;have:=zV (P:=P) (C:=C) (own:=ov) (G:=G) (dst:=dst) (ty':=ty') (pos:=pos) (af:=af) (gd:=gd) (t:=t) hu hv h0 h1;obtain rfl:off+i.toNat=j:=by omega
 exact⟨_,⟨b,hb,J⟩,by rw[fQ,cS];exact this⟩
def PH(fr:aA)(own:aO)(cf:Cf):Option (Nat×Nat×List DV×Int):=match cd fr cf with
 |some ⟨_, .slice t x (some y) none none,_,_,_,_⟩=>match dh tt t with
  |some ⟨.sl _ s' _,_,_,_⟩=>match aP (bz fr cf) x with
   |some (.rw nm)=>match gq fr own cf nm with
    |some (.b _ s ds _)=>match aP (bz fr cf) y with
     |some (.d (.v (.int _ i)))=>bif Nat.beq s s' then some (nm,s,ds,i) else none
     |_=>none
    |_=>none
   |_=>none
  |_=>none
 |_=>none
def Kz[fu:Fu]{nm s:Nat}{ds:List DV}{i:Int}(k m:Nat)(h:PH fr own cf=some (nm,s,ds,i))(hi:i=(k:Nat))(hm:k+m=ds.length)(hp:0<m)(hgo:cA tt n fu.n fr own cf (.rs nm s k m) [] []=⟨vc,fr',own',cf'⟩)(kk:aj prog GB C n Q0 fr' own' cf')
  (hv:ah vc:=by first|exact trivial|(simp only[ah];kernel_rfl)|(simp only[ah];omega)|(simp only[ah,aJ,aL,aW];omega)):aj prog GB C n Q0 fr own cf:=by
 subst hi;unfold PH at h;split at h<;>try (cases h;done)
 rename_i hh;split at h<;>try (cases h;done)
 rename_i hT;split at h<;>try (cases h;done)
 rename_i hx;split at h<;>try (cases h;done)
 rename_i hb;split at h<;>try (cases h;done)
 rename_i hy;rw[cond_eq_ite] at h;split at h<;>cases h;rename_i hq
 cases aR hq
 have:=jh (er _ _ hT) J;exact us hh (aEV hx hb hy hm hp) hgo hv kk
def O0(fr:aA)(cf:Cf):Option Nat:=match cd fr cf with
 |some ⟨_, .call ⟨.builtin .len,⟨[x]⟩,⟨[t]⟩⟩,_,_,_,_⟩=>match dh tt t with
  |some ⟨.sl _ _ _,_,_,_⟩=>match aP (bz fr cf) x with
   |some (.rs _ _ _ m)=>some m
   |_=>none
  |_=>none
 |_=>none
def rsn[fu:Fu]{m:Nat}(h:O0 fr cf=some m)(hgo:cA tt n fu.n fr own cf (.d (.v (.int .i64 (m:Nat)))) [] []=⟨vc,fr',own',cf'⟩)(kk:aj prog GB C n Q0 fr' own' cf')
  (hv:ah vc:=by first|exact trivial|(simp only[ah];kernel_rfl)|(simp only[ah];omega)|(simp only[ah,aJ,aL,aW];omega)):aj prog GB C n Q0 fr own cf:=by
 unfold O0 at h;split at h<;>try (cases h;done)
 rename_i hh;split at h<;>try (cases h;done)
 rename_i hT;split at h<;>cases h;rename_i hx;have:=jh (er _ _ hT) J;exact us hh (TY hx) hgo hv kk
def Li(fr:aA)(cf:Cf):Option (Nat×Nat×Nat×Nat×Int):=match cd fr cf with
 |some ⟨_, .indexAddr t x y,_,_,_,_⟩=>match dh tt t with
  |some ⟨.sl _ s' _,_,_,_⟩=>match aP (bz fr cf) x with
   |some (.rs nm s off m)=>match aP (bz fr cf) y with
    |some (.d (.v (.int _ i)))=>bif Nat.beq s s' then some (nm,s,off,m,i) else none
    |_=>none
   |_=>none
  |_=>none
 |_=>none
def IQ[fu:Fu]{nm s off m:Nat}{i:Int}(k:Nat)(h:Li fr cf=some (nm,s,off,m,i))(hk:(off:Int)+i=(k:Nat))(h0:0<=i)(h1:i<(m:Nat))(hgo:cA tt n fu.n fr own cf (.be nm s k 0) [] []=⟨vc,fr',own',cf'⟩)(kk:aj prog GB C n Q0 fr' own' cf')
  (hv:ah vc:=by first|exact trivial|(simp only[ah];kernel_rfl)|(simp only[ah];omega)|(simp only[ah,aJ,aL,aW];omega)):aj prog GB C n Q0 fr own cf:=by
 unfold Li at h;split at h<;>try (cases h;done)
 rename_i hh;split at h<;>try (cases h;done)
 rename_i hT;split at h<;>try (cases h;done)
 rename_i hx;split at h<;>try (cases h;done)
 rename_i hy;rw[cond_eq_ite] at h;split at h<;>cases h;rename_i hq
 cases aR hq
 have:=jh (er _ _ hT) J;exact us hh (Tx hx hy h0 h1 hk) hgo hv kk
def iw.cut{s:Nat}{ty:TypeId}{z:SV}{vs:List Value}{B:List ak}(h:iw s ty z vs B)(hs: ∀v∈vs,(aE v).length=s){k:Nat}(hk:k<=vs.length)(hne:0<vs.length):iw s ty ⟨z.a,k,z.c⟩ (vs.take k) B:=by
 rcases h with⟨h1,_,_⟩|⟨b,rest,lo,h1,h2,h3,h4,h5⟩
 ·subst h1;simp at hne
 ·have e:aC vs=aC (vs.take k)++aC (vs.drop k):=by rw[<-mE,lR]
  have hl:=ek (vs.take k) fun v hv=>hs v (fV hv);have hm:(vs.take k).length=k:=by rw[bM];omega
  refine .inr ⟨b,aC (vs.drop k)++rest,lo,by rw[hm,h1],by rw[h2,e,dQ],hl,?_,by rw[hm];show k<=z.c;omega⟩;show _=z.c*s;rw[<-h4,e,aT,aT];omega
def ZR{P:Program}{e s by_:Nat}[hT:cg P t e s by_]{nm d:Nat}{k:IntKind}{j:Nat}{ty:TypeId}{ds:List DV}{lo:Bool}(hne:Nat.beq nm d=false)(hx:aP lk x=some (.rw nm))(hb:bk nm=some (.b ty s ds lo))(hy:aP lk y=some (.d (.v (.int k j))))(h1:j<ds.length):
  bH P GB C n lk bk ⟨some d, .slice t x none (some y) none,ty',pos,af,gd⟩ (.rw d) [(nm,none),(d,some (.b ty s (ds.take j) lo))] [d]:=by
 intro hd tl tb K s1 s2 hf hk;refine⟨fun ρ G ov a w r Q=>?_⟩;have r1:=r.mono s1 s2;obtain⟨u,hu,hu2⟩:=r1.ev hx
 cases (show u=_ from hu2)
 obtain⟨v,hv,hv2⟩:=r1.ev hy;rw[c8] at hv2;subst hv2;obtain⟨B,hB0,hBo⟩:=r1.bx _ _ hb;have hB:dm G ⟨ρ nm,s,ty,ds,lo⟩ B:=hB0;obtain⟨b,hw,hc⟩:=OU hB (by omega);obtain⟨vs,g1,g2,g3,g4⟩:=hB;have hvl:=g2.len;have hcut:dm G ⟨⟨(ρ nm).a,j,(ρ nm).c⟩,s,ty,ds.take j,lo⟩ B:=⟨vs.take j,iw.cut g1 g3 (by simp only at hvl⊢;omega) (by simp only at hvl⊢;omega),g2.take _,fun v hv=>g3 v (fV hv),g4⟩;have hs:=xZ (P:=P) (C:=C) (own:=ov) (G:=G) (dst:=some d) (ty':=ty') (pos:=pos) (af:=af) (gd:=gd) (t:=t) hu hv (by omega) (by omega);have hnn:nm≠d:=fun e=>by subst e;rw[oM] at hne;cases hne
 have r2:=r.dropB nm;have hf2:kl [d] (some d) tl (Sx.upB tb [(nm,none)]):=fun q hq=>by
  obtain⟨f1,f2⟩:=hf q hq;refine⟨f1,fun k B e1 e=>?_⟩;simp only[Sx.upB] at e;split at e
  ·cases e
  ·exact f2 k B e1 e
 have r3:=r2.new' (x:=⟨(ρ nm).a,j,(ρ nm).c⟩) (B':= .b ty s (ds.take j) lo) (os:=B) (ov':=ov) (f:= .rw d) (y:= .slice (ρ nm).a j (ρ nm).c) hf2 (bw.refl _) r.h (hcut.toBk (by simp)) hBo
  (fun m B' hm e o ho hmo=>⟨ho,fun hc=>by
   simp only[Sx.upB] at e;split at e
   ·cases e
   ·rename_i hmn
    exact r.dj m nm B' _ e (s2 _ _ hb) hmn _ hmo hc⟩) (by simp[b7]) (r.putA (.slice (ρ nm).a j (ρ nm).c) hd)
 exact jF (hs a w (cB a) r.h) (hk.run _ G _ _ w r3)
def I1(fr:aA)(own:aO)(cf:Cf):Option (Nat×Nat×TypeId×Nat×List DV×Bool×Int):=match cd fr cf with
 |some ⟨some d, .slice t x none (some y) none,_,_,_,_⟩=>match dh tt t with
  |some ⟨.sl _ s' _,_,_,_⟩=>match aP (bz fr cf) x with
   |some (.rw nm)=>match gq fr own cf nm with
    |some (.b ty s ds lo)=>match aP (bz fr cf) y with
     |some (.d (.v (.int _ i)))=>bif Nat.beq s s'&&!Nat.beq nm d then some (d,nm,ty,s,ds,lo,i) else none
     |_=>none
    |_=>none
   |_=>none
  |_=>none
 |_=>none
def Wy[fu:Fu]{d nm s:Nat}{ty:TypeId}{ds:List DV}{lo:Bool}{i:Int}(ds':List DV)(k:Nat)(h:I1 fr own cf=some (d,nm,ty,s,ds,lo,i))(hi:i=(k:Nat))(hl:k<ds.length)(hd:ds.take k=ds')(hgo:cA tt n fu.n fr own cf (.rw d) [(nm,none),(d,some (.b ty s ds' lo))] [d]=⟨vc,fr',own',cf'⟩)(kk:aj prog GB C n Q0 fr' own' cf')
  (hv:ah vc:=by first|exact trivial|(simp only[ah];kernel_rfl)|(simp only[ah];omega)|(simp only[ah,aJ,aL,aW];omega)):aj prog GB C n Q0 fr own cf:=by
 subst hi hd;unfold I1 at h;split at h<;>try (cases h;done)
 rename_i hh;split at h<;>try (cases h;done)
 rename_i hT;split at h<;>try (cases h;done)
 rename_i hx;split at h<;>try (cases h;done)
 rename_i hb;split at h<;>try (cases h;done)
 rename_i hy;rw[cond_eq_ite] at h;split at h<;>cases h;rename_i hq;simp only[aN,iX] at hq
 cases aR hq.1
 have:=jh (er _ _ hT) J;exact us hh (ZR hq.2 hx hb hy hl) hgo hv kk
def Po(v:Value)(m:Nat):aC (List.replicate m v)=cG v m:=by
 unfold cG
 induction m with
 |zero=>rfl
 |succ m ih=>rw[iM,iM,lQ,<-ih];rfl
def Mj{G:Gh}{z:DV}{v:Value}(h:Is G z v): ∀m:Nat,IsLs G (List.replicate m z) (List.replicate m v)
 |0=> .nil
 |m+1=>by rw[iM,iM];exact .cons h (Mj h m)
def TQ{P:Program}{e s by_:Nat}[hT:cg P t e s by_]{i:TI}{z:DV}(hi:fg P e=some i)(hz:nB i=some z)(hzs:z.cells.length=s){nm off m:Nat}{ty:TypeId}{ds:List DV}{lo:Bool}(hx:aP lk x=some (.rs nm s off (m+1)))(hb:bk nm=some (.b ty s ds lo))(hm:off+(m+1)=ds.length):
  bH P GB C n lk bk ⟨dst, .call ⟨.builtin .clear, #[x], #[t]⟩,ty',pos,af,gd⟩ (.d (.tp [])) [(nm,some (.b ty s (ds.take off++List.replicate (m+1) z) lo))] []:=by
 intro hd tl tb K s1 s2 hf hk;refine⟨fun ρ G ov a w r Q=>?_⟩;have r1:=r.mono s1 s2;obtain⟨v,hz1,hz2,hz3⟩:=vx hi hz;have cz:=((hz2 G).cells hz3).1.len;have cf:=((hz2 G).cells hz3).2;rw[hzs] at cz;obtain⟨u,hu,b,c,hbq,rfl,hc⟩:=r1.ev hx;obtain⟨B,hB0,hBo⟩:=r1.bx _ _ hb;have hB:dm G ⟨ρ nm,s,ty,ds,lo⟩ B:=hB0;obtain⟨vs,g1,g2,g3,g4⟩:=hB;simp only at g1 g2 g3 g4;have hvl:=g2.len;rcases g1 with⟨e1,e2,_⟩|⟨b',rest,lo',k1,k2,k3,k4,k5⟩
 ·subst e1;simp at hvl;omega
 ·have hbe:b'=b:=by rw[k1] at hbq;cases hbq;rfl
  subst hbe;subst k2;have hmem:=hBo _ aQ;have hblk:=(r.h.hown _ hmem).1;simp only at hblk;have hzl:(cG v (m+1)).length=(m+1)*s:=by rw[ny,cz]
  have hls:vs.length*s=off*s+(m+1)*s:=by rw[<-cS];congr 1;omega
  have hst:=yu (P:=P) (cG v (m+1)) w (off*s) 0 (aC vs++rest) (fun q hq=>by
   unfold cG at hq;obtain⟨l,hl,hql⟩:=List.mem_flatten.1 hq;rw[mX hl] at hql;exact cf q hql) hblk (by rw[hzl,aT];omega)
  rw[fQ] at hst;have htk:=ek (vs.take off) fun q hq=>g3 q (fV hq);have hov:cp (aC vs++rest) (off*s) (cG v (m+1))=aC (vs.take off++List.replicate (m+1) v)++rest:=by
   rw[px _ _ _ (by rw[hzl,aT];omega),mE,Po];have e1:(aC vs++rest).take (off*s)=aC (vs.take off):=by
    rw[eY (by omega),DR vs off g3 (by omega)]
   rw[e1,hzl,<-hls,jY (by omega),gL (by omega),cY]
  have hrun:(Builtin.clear_ #[t] ty' #[.slice (some ⟨b',off*s,none⟩) (m+1) c]).run P w= .ok (.tuple #[]) (gh w b' (.cells ⟨aC (vs.take off++List.replicate (m+1) v)++rest⟩ ty (0,0))):=by
   unfold Builtin.clear_;show(underlying t>>=_).run P w=_;rw[bc (hT.u w)];show(zeroValue e>>=fun q=>storeCells ⟨b',off*s,none⟩ (Builtin.zeroCells q.cells (m+1)).toList>>=fun _=>pure (Value.tuple #[])).run P w=_;rw[bc (hz1.zero w)];show(storeCells ⟨b',off*s,none⟩ (Builtin.zeroCells v.cells (m+1)).toList>>=fun _=>pure (Value.tuple #[])).run P w=_;rw[oe,Rj,bc (hov▸hst)];rfl
  obtain⟨own',u1,u2,u3⟩:=fD.of_mem (cs':=aC (vs.take off++List.replicate (m+1) v)++rest) hmem;have r2:=r.upB (G':=G) (ov':=own') (w':=gh w b' (.cells ⟨aC (vs.take off++List.replicate (m+1) v)++rest⟩ ty (0,0))) (B':= .b ty s (ds.take off++List.replicate (m+1) z) lo) (os:=[⟨b',aC (vs.take off++List.replicate (m+1) v)++rest,ty,lo'⟩]) (bw.refl _) (r.h.store u1)
   ⟨vs.take off++List.replicate (m+1) v, .inr ⟨b',rest,lo',?_,J,?_,?_,?_⟩,(g2.take _).app (Mj (hz2 G) _),?_,?_⟩ (fun o ho=>by rw[aY.1 ho];exact u2) (fun o ho hne=>u3 o ho fun e=>hne (by rw[hbq,e])) ⟨_,s2 _ _ hb⟩
  ·have h3:=hk.run _ G _ _ _ (r2.put (f:= .d (.tp [])) (y:= .tuple #[]) (js.2 ⟨[],J, .nil⟩) (r2.putA (.tuple #[]) hd))
   refine jF (v:= .tuple #[]) ?_ h3;simp only[execOp,resolve,gT,bW,eK,bj (cB a) hu];exact cH hrun
  ·rw[k1,aT,bM,aW,gV (by omega)]
   simp only[SV.mk.injEq,true_and,and_true];omega
  ·refine ek _ fun q hq=>?_
   rcases bS.1 hq with hq|hq
   ·exact g3 q (fV hq)
   ·rw[mX hq,cz]
  ·rw[mE,Po,aT,htk,hzl,bM,gV (by omega)]
   omega
  ·rw[aT,bM,aW,gV (by omega)];omega
  ·intro q hq
   rcases bS.1 hq with hq|hq
   ·exact g3 q (fV hq)
   ·rw[mX hq,cz]
  ·intro hl o ho
   have:=g4 hl _ aQ;rw[aY.1 ho];exact this
def KJ(fr:aA)(own:aO)(cf:Cf):Option (Nat×TypeId×Nat×List DV×Bool×Nat×Nat×DV):=match cd fr cf with
 |some ⟨_, .call ⟨.builtin .clear,⟨[x]⟩,⟨[t]⟩⟩,_,_,_,_⟩=>match dh tt t with
  |some ⟨.sl e s' _,_,_,_⟩=>match aP (bz fr cf) x with
   |some (.rs nm s off m)=>match gq fr own cf nm with
    |some (.b ty s2 ds lo)=>match dh tt e with
     |some i=>match nB i with
      |some z=>bif Nat.beq s s'&&(Nat.beq s s2&&Nat.beq z.cells.length s) then some (nm,ty,s,ds,lo,off,m,z) else none
      |none=>none
     |none=>none
    |_=>none
   |_=>none
  |_=>none
 |_=>none
def U9[fu:Fu]{nm s off m:Nat}{ty:TypeId}{ds:List DV}{lo:Bool}{z:DV}(ds':List DV)(h:KJ fr own cf=some (nm,ty,s,ds,lo,off,m,z))(hm:off+m=ds.length)(hp:0<m)(hd:ds.take off++List.replicate m z=ds')(hgo:cA tt n fu.n fr own cf (.d (.tp [])) [(nm,some (.b ty s ds' lo))] []=⟨vc,fr',own',cf'⟩)(kk:aj prog GB C n Q0 fr' own' cf')
  (hv:ah vc:=by first|exact trivial|(simp only[ah];kernel_rfl)|(simp only[ah];omega)|(simp only[ah,aJ,aL,aW];omega)):aj prog GB C n Q0 fr own cf:=by
 subst hd;obtain⟨m,rfl⟩: ∃q,m=q+1:=⟨m-1,by omega⟩;unfold KJ at h;split at h<;>try (cases h;done)
 rename_i hh;split at h<;>try (cases h;done)
 rename_i hT;split at h<;>try (cases h;done)
 rename_i hx;split at h<;>try (cases h;done)
 rename_i hb;split at h<;>try (cases h;done)
 rename_i hi;split at h<;>try (cases h;done)
 rename_i hz;rw[cond_eq_ite] at h;split at h<;>cases h;rename_i hq;simp only[aN] at hq
 cases aR hq.1
 cases aR hq.2.1
 have:=jh (er _ _ hT) J;exact us hh (TQ (er _ _ hi) hz (aR hq.2.2) hx hb hm) hgo hv kk
end
end Go.Sx
end
