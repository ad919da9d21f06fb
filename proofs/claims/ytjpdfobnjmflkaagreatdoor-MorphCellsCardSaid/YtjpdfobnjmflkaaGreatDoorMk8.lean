import Derived.Test.YtjpdfobnjmflkaaGreatDoorMk7
set_option linter.all false
set_option maxHeartbeats 2000000
set_option maxRecDepth 100000
section
namespace Go.Sx
open Go Go.Proofs Tryz
variable {C:aF}{n by_ b:Nat}{fr fr':aC}{own':aI}{G G' A GB:Gh}{dst:Option Nat}{t t' ty' ty0:TypeId}{pos:String}{af:Array Edge}{y fo x1 x2 x3:Operand}{ov:List aA}{w w':World}{args:Array Operand}{tys:Array TypeId}{K:List Kt}{Q0:Exit->Act->World->Prop}{cf cf':Cf}{vc:List Prop}{lk:LK}{bk:BM}{rv z:DV}{k k':IntKind}{dso:List DV}{ops:Array Oper}{r:List Oper}{p q:Int}
section
variable {P:Program}{fr:Fr}{own own':List aA}{Φ:Act->World->Prop}
variable {gd:Option (Nat×Bool)}{x:Operand}{e s:Nat}
def Up[hT:cw P t e s by_]{z:Value}[hz:gj P e z]{k k':IntKind}{l:Int}(hx:aB fr x=some (.int k 0))(hy:aB fr y=some (.int k' l))(h0:0<=l)(hb:by_*l<=2^47)(hl:l<=2^60)(hs:(aG z).length=s)(hd:ce n dst=true)
  (h: ∀b,St C n (put fr dst (.slice (some ⟨b,0,none⟩) 0 l.toNat)) (⟨b,dm z l.toNat,e,true⟩::own) G Φ):
  Ch P C n fr own G ⟨dst, .makeSlice t x y,ty',pos,af,gd⟩ Φ:=by
 intro a w Q rl;have h1:(Instr.makeSlice t (a.eval x) (a.eval y)).run P w= .ok (.slice (some ⟨w.heap.size,0,none⟩) 0 l.toNat) (w.alloc (.cells ⟨dm z l.toNat⟩ e)):=by
  obtain⟨i,hi,hib⟩:=Qc (P:=P) (t:=t) (e:=e) (s:=s) (by_:=by_) w;rw[bB rl.fr hx,bB rl.fr hy];unfold Instr.makeSlice;rw[aP (hT.u w)];simp only[asInt,asIntOf];rw[aP (a:=0) (w':=w) J,aP (a:=l) (w':=w) J,aP hi,hib];have hw:IntKind.i64.wrap l=l:=tq (by simp[IntKind.min,IntKind.max,IntKind.signed,IntKind.bits];omega);have hw0:IntKind.i64.wrap 0=0:=J;simp only[hw,hw0];have c1: ¬((by_:Int)*l>2^48):=by
   have:(2:Int)^47<=2^48:=by decide
   omega
  have c5:decide ((by_:Int)*l>2^48)=false:=decide_eq_false c1;have c2:decide (l<0)=false:=decide_eq_false (by omega);have c4:decide ((0:Int)>l)=false:=by simp;omega
  simp only[c2,c4,c5,Bool.false_or,Int.lt_irrefl,decide_false,Bool.or_false,kW,if_false];have hr: ¬(l.toNat*by_>roomBytes):=by
   unfold roomBytes;have:((l.toNat*by_:Nat):Int)=by_*l:=by rw[iL,qK h0,rS]
   have h47:((2^47:Nat):Int)=2^47:=by decide
   omega
  unfold askRoom;simp only[hr,if_false];rw[aP (run_pure _ _ _),aP (hT.siz w)];have hn:l.toNat*s=l.toNat*(aG z).length:=by rw[hs]
  by_cases h00:l.toNat*s=0
  .rw[if_pos h00,aP (run_pure _ _ _)]
   have e0:dm z l.toNat=[]:=cV (by rw[oh,hs];exact h00);rw[h00,e0,show(Array.range 0)= #[] from J,Array.map_empty];rfl
  .rw[if_neg h00,aP (hz.zero w),oC]
   rw[aP (run_pure _ _ _),Aj hn];rfl
 refine kr (v:= .slice (some ⟨w.heap.size,0,none⟩) 0 l.toNat) (c6 h1) (h w.heap.size _ _ ((rl.heap (rl.h.alloc _ _)).put _ hd))
def rh(G:Gh)(ov:List aA):Gh:=fun b=>match G b with
 |some cs=>some cs
 |none=>(ov.find? fun o=>Nat.beq o.b b).map (·.cs)
def I2:bI G (rh G ov):=fun b cs h=>by unfold rh;rw[h]
def Nw{o:aA}: ∀{ov:List aA},o∈ov->ov.Pairwise (fun x y=>x.b≠y.b)->ov.find? (fun u=>Nat.beq u.b o.b)=some o
 |u::t,ho,nd=>by
  rcases aW.1 ho with rfl|ho
  .rw[List.find?_cons_of_pos (by simp)]
  .have:=(bL.1 nd).1 o ho
   rw[List.find?_cons_of_neg (by simpa using this)];exact Nw ho (bL.1 nd).2
def T5{o:aA}(ho:o∈ov)(hn:G o.b=none)(nd:ov.Pairwise (fun x y=>x.b≠y.b)):rh G ov o.b=some o.cs:=by
 unfold rh;rw[hn,Nw ho nd];rfl
def bF.lendSub(h:bF C ov G w)(b:Nat)(cs:List Value)(hb:rh G ov b=some cs): ∃ty fz,w.heap[b]? =some (.cells ⟨cs⟩ ty fz):=by
 unfold rh at hb;split at hb
 .rename_i hg;cases hb;exact h.sub _ _ hg
 .cases hf:ov.find? (fun o=>Nat.beq o.b b) with
  |none=>rw[hf] at hb;cases hb
  |some o=>
   rw[hf] at hb;cases hb;have e:o.b=b:=aN (by simpa using List.find?_some hf);subst e;exact⟨_,_,(h.hown o (List.mem_of_find?_eq_some hf)).1⟩
def bF.lent(h:bF C ov G w)(k:bF ⟨w,rh G ov,[],[],[],none,fun _=>none⟩ [] G' w'):bF C ov G w':=by
 have same: ∀b o,w.heap[b]? =some o->w'.heap[b]? =some o:=fun b o hb=>by rw[k.keep b (ip hb) (by simp)];exact hb
 have hsz:w.heap.size<=w'.heap.size:=k.size;refine⟨k.os.trans h.os,k.tape.trans h.tape,k.output.trans h.output,cN h.size hsz,fun b hb hm=>?_,fun b cs hb=>?_,h.gle,h.gold,fun o ho=>?_,h.nd,cN h.dr k.dr,fun p hp=>⟨(h.ext p hp).1,same _ _ (h.ext p hp).2⟩⟩
 .have:=h.size;rw[k.keep b (by show b<w.heap.size;omega) (by simp)];exact h.keep b hb hm
 .obtain⟨ty,fz,h1⟩:=h.sub b cs hb;exact⟨ty,fz,same _ _ h1⟩
 .obtain⟨h1,h2⟩:=h.hown o ho;exact⟨same _ _ h1,h2⟩
def Yk{f:FuncId}{vs:List Value}{K:Value->Gh->Prop}(ho:aB fr fo=some (.func (.func f) #[] #[]))(hv:fi fr args.toList=some vs)
  (hF:Fn P f vs (rh G own) K)(hd:ce n dst=true)(h: ∀v (G':Gh),K v G'->St C n (put fr dst v) own G Φ):Ch P C n fr own G ⟨dst, .call ⟨.value fo,args,tys⟩,ty',pos,af,gd⟩ Φ:=by
 intro a w Q rl;have h2:=DF (c1:=[]) (c2:=[]) (P:=P) (dst:=dst) (ty':=ty') (pos:=pos) (af:=af) (gd:=gd) (tys:=tys) (w:=w) hF.able rl.fr ho hv;rw[jM,fW] at h2;simp only[Oper.wp,h2,Oper.upon];refine(hF.run w rl.h.lendSub).mono ?_;rintro e w' ⟨v,G',rfl,hh,hK⟩;exact h v G' hK _ _ ((rl.heap (rl.h.lent hh)).put _ hd)
end
def DV.np:DV->Bool
 | .v _=>true
 | .tp l=>l.all fun d=>match d with
  | .v _=>true
  |_=>false
 |_=>false
def NF{A G:Gh}: ∀{l:List DV} {m:List Value},(l.all fun d=>match d with| .v _=>true|_=>false)=true->IsLs A l m->IsLs G l m
 |[],m,_,k=>ef.2 (ef.1 k)
 |d::t,m,h,k=>by
  obtain⟨y,n,rfl,k1,k2⟩:=bi.1 k;simp only[sL,bK] at h;refine .cons ?_ (NF h.2 k2)
  cases d with
  |v x=>exact aH.2 (aH.1 k1)
  |_=>simp at h
def Is.np{d:DV}{y:Value}(h:d.np=true)(k:Is A d y):Is G d y:=by
 cases d with
 |v x=>exact aH.2 (aH.1 k)
 |tp l=>obtain⟨m,e,k⟩:=lv.1 k;exact lv.2 ⟨m,e,NF h k⟩
 |_=>cases h
section
variable {own:aI}{ρ:NE}{a:Act}
variable {gd:Option (Nat×Bool)}{x:Operand}{e s:Nat}
def OP:Option Bk->Option (List DV)
 |some (.b _ _ ds _)=>some ds
 |some (.c _ _ ds _)=>some ds
 |_=>none
def JD(lk:LK)(bk:BM)(x:Operand):Option DV:=match bh lk x with
 |some (.rw nm)=>match OP (bk nm) with
  |some ds=>some (.sl ds)
  |none=>none
 |some f=>jm f
 |none=>none
def CB(lk:LK)(bk:BM):List Operand->Option (List DV)
 |[]=>some []
 |x::t=>match JD lk bk x,CB lk bk t with
  |some d,some l=>some (d::l)
  |_,_=>none
def XK(r:bH GB C n lk bk ρ G ov a w){d:DV}(h:JD lk bk x=some d): ∃y,aB (co a) x=some y/\Is (rh G ov) d y:=by
 unfold JD at h;split at h
 .rename_i nm h1
  obtain⟨y,h2,h3⟩:=r.ev h1
  cases (show y=_ from h3)
  refine⟨_,h2,?_⟩;split at h<;>cases h;rename_i ds hr;obtain⟨ty,s,vs,B,hB,hv,hs,hBo⟩: ∃ty s vs B,il s ty (ρ nm) vs B/\IsLs G ds vs/\(∀v∈vs,(aG v).length=s)/\ ∀o∈B,o∈ov:=by
   unfold OP at hr;split at hr<;>cases hr
   .rename_i hb;obtain⟨B,⟨vs,h4,h5,h6,_⟩,h7⟩:=r.bx _ _ hb;exact⟨_,_,vs,B,h4,h5,h6,h7⟩
   .rename_i hb;obtain⟨B,⟨vs,h4,h5,h6,_⟩,h7⟩:=r.bx _ _ hb;exact⟨_,_,vs,B,h4,h5,h6,h7⟩
  rcases hB with⟨e1,e2,e3⟩|⟨b,rest,lo',e2,e3,h5,h6,h7⟩
  .subst e1
   have ed:ds=[]:=cV (by rw[<-hv.len];rfl);subst ed;rw[e2];exact gv.2 ⟨0,⟨none,0,0⟩,[],J, .nil _ 0, .nil⟩
  .subst e3
   have ho:=hBo _ aQ;have hg:=T5 ho (r.h.hown _ ho).2.1 r.h.nd;rw[e2];exact gv.2 ⟨s,⟨some ⟨b,0,none⟩,vs.length,_⟩,vs,J,gg.of_flat hs hg h7,hv.up I2⟩
 .rename_i h1
  obtain⟨y,h2,h3⟩:=r.ev h1;exact⟨y,h2,(l8 h3 h).up I2⟩
 .cases h
def NG(r:bH GB C n lk bk ρ G ov a w): ∀{l:List Operand} {ds:List DV},CB lk bk l=some ds-> ∃vs,fi (co a) l=some vs/\IsLs (rh G ov) ds vs
 |[],ds,e=>by cases e;exact⟨[],J, .nil⟩
 |x::t,ds,e=>by
  simp only[CB] at e;split at e<;>cases e;rename_i h1 h2;obtain⟨y,h3,h4⟩:=XK r h1;obtain⟨vs,h5,h6⟩:=NG r h2;exact⟨y::vs,by simp only[fi,h3,h5], .cons h4 h6⟩
def Ji(lk:LK)(bk:BM)(fo:Operand)(args:Array Operand):Option (FuncId×List DV):=match bh lk fo with
 |some (.d (.v (.func (.func f) ⟨[]⟩ ⟨[]⟩)))=>match CB lk bk args.toList with
  |some ds=>some (f,ds)
  |none=>none
 |_=>none
def Ze{f:FuncId}{ds:List DV}(ha:Ji lk bk fo args=some (f,ds))(hnp:rv.np=true)(hF:PF GB prog f ds rv):b7 prog GB C n lk bk ⟨dst, .call ⟨.value fo,args,tys⟩,ty',pos,af,gd⟩ (.d rv) [] []:=by
 intro hd tl tb K' s1 s2 hf hk;refine⟨fun ρ G ov a w r Q=>?_⟩;have r1:=r.mono s1 s2;unfold Ji at ha;split at ha<;>try (cases ha;done)
 rename_i h1;split at ha<;>cases ha;rename_i h2;obtain⟨y,hy,hy'⟩:=r1.ev h1;rw[(aH (G:=G)).1 hy'] at hy;obtain⟨vs,h3,h4⟩:=NG r1 h2;refine Yk hy h3 (hF _ vs (r.gb.trans I2) h4) hd (fun v G' hK a' w' rl=>?_) a w Q ⟨r.h,r.sz,cB a,r.df⟩;exact hk.run ρ G ov a' w' ⟨r.gb,rl.h,rl.sz,rl.df,(jb rl).fx (fun k g _ e=>r.fx k g e) (Is.np hnp hK),r.bx,r.dj,r.fxd⟩
def OJ(fr:aC)(own:aI)(cf:Cf):Option (FuncId×List DV):=match cI fr cf with
 |some ⟨_, .call ⟨.value fo,args,_⟩,_,_,_,_⟩=>Ji (b9 fr cf) (iH fr own cf) fo args
 |_=>none
def cL[fu:Fu]{f:FuncId}{ds:List DV}(ha:OJ fr own cf=some (f,ds))(hF:PF GB prog f ds rv)(hnp:rv.np=true)(hgo:cH tt n fu.n fr own cf (.d rv) [] []=⟨vc,fr',own',cf'⟩)(k:av prog GB C n Q0 fr' own' cf')
  (hv:ak vc:=by first|exact trivial|(simp only[ak];kernel_rfl)|(simp only[ak];omega)):av prog GB C n Q0 fr own cf:=by
 unfold OJ at ha;split at ha<;>try (cases ha;done)
 rename_i hh;exact us hh (Ze ha hnp hF) hgo hv k
def aGr{d cap:Nat}{i:TI}[hT:cw prog t e s by_](hi:eH prog e=some i)(hz:nq i=some z)(hs:Nat.beq z.cells.length s=true)(hx:bh lk x=some (.d (.v (.int k 0))))(hy:bh lk y=some (.d (.v (.int k' (cap:Nat)))))(hb:by_*cap<=140737488355328)(hl:cap<=1152921504606846976):
  b7 prog GB C n lk bk ⟨some d, .makeSlice t x y,ty',pos,af,gd⟩ (.rw d) [(d,some (.c e s [] cap))] [d]:=by
 intro hd tl tb K s1 s2 hf hk;refine⟨fun ρ G ov a w r Q=>?_⟩;obtain⟨v,hz1,hz2,hz3⟩:=yp hi hz;obtain⟨q1,p1,p2⟩:=(r.mono s1 s2).ev hx;obtain⟨q2,p3,p4⟩:=(r.mono s1 s2).ev hy;rw[c7] at p2 p4;subst p2 p4;have c1:=((hz2 G).cells hz3).1.len;replace hs:=aN hs;refine Up p1 p3 (by omega) (by have:((by_*cap:Nat):Int)=by_*cap:=iL ..;omega) (by omega) (by rw[c1,hs]) hd (fun b a' w' rl=>?_) a w Q ⟨r.h,r.sz,cB a,r.df⟩;rw[bM] at rl;have hnd:=(bL.1 rl.h.nd).1;refine hk.run _ _ _ a' w' (r.new' (x:=⟨some ⟨b,0,none⟩,0,cap⟩) (B':= .c e s [] cap) (os:=[⟨b,dm v cap,e,true⟩]) (f:= .rw d) (y:= .slice (some ⟨b,0,none⟩) 0 cap) hf (bI.refl _) rl.h ⟨[], .inr ⟨b,dm v cap,true,by simp,J,by simp[aE],?_,by simp⟩, .nil,by simp,fun o ho=>by rw[aU.1 ho],by simp⟩
  (fun o ho=>by rw[aU.1 ho];exact aQ) (fun m B' _ _ o ho _=>⟨aJ _ ho,fun e'=>by cases e';exact hnd o ho J⟩) (by show _=_;simp) (jb rl))
 rw[oh,c1,hs];simp[aE]
def YL{d nm cap:Nat}{ds ds2:List DV}[hT:cw prog t e s by_][hN:jn prog t'](hx:bh lk x=some (.rw nm))(hb:bk nm=some (.c e s ds cap))(hy:pD lk bk s y=some ds2)(hk2:cE s ds2)(hc:ds.length+ds2.length<=cap)(hp:0<ds2.length)(hnd:Nat.beq nm d=false):
  b7 prog GB C n lk bk ⟨some d, .call ⟨.builtin .append, #[x,y], #[t,t']⟩,ty',pos,af,gd⟩ (.rw d) [(nm,none),(d,some (.c e s (ds++ds2) cap))] [d]:=by
 intro hd tl tb K s1 s2 hf hk;refine⟨fun ρ G ov a w r Q=>?_⟩;have r1:=r.mono s1 s2;have hne:nm≠d:=fun e=>by subst e;simp at hnd
 obtain⟨u,hx',hx2⟩:=r1.ev hx
 cases hx2
 obtain⟨B,⟨vs,hB,hv,hvs,hlo,hcap⟩,hBo⟩:=r1.bx _ _ hb;obtain⟨w2,us,hy',h2,h3,h4,h5,h6⟩:=Ba (P:=prog) (C:=C) r1 hy hk2;have hus:(aE us).length=us.length*s:=eD us h4;have hl1:=hv.len;have hl2:=h3.len;have rd:=r.dropB nm;have hf':jp [d] (some d) tl (Sx.upB tb [(nm,none)]):=fun m hm=>by
  obtain⟨g1,g2⟩:=hf m hm;refine⟨g1,fun k B' hk e=>g2 k B' hk ?_⟩;simp only[Sx.upB] at e;split at e
  .cases e
  .exact e
 rcases hB with⟨e1,e2,e3⟩|⟨b,rest,lo',k3,k4,k5,k6,k7⟩
 .rw[e2] at hcap;simp at hcap;omega
 subst k4;have hl':=hlo _ aQ;simp only at hl';subst hl';have ha:(ρ nm).a=some ⟨b,0,none⟩:=by rw[k3]
 have hn:(ρ nm).n=vs.length:=by rw[k3]
 rw[ha,hn] at hx';rw[h2] at hy' h6;have hin:=hBo _ aQ;obtain⟨l1,l2,e5⟩:=mV hin;have hperm:ov.Perm (⟨b,aE vs++rest,e,true⟩::(l1++l2)):=by rw[e5];exact oT
 have hall: ∀v∈vs++us,(aG v).length=s:=fun v hv=>by
  rcases bJ.1 hv with hv|hv
  .exact hvs v hv
  .exact h4 v hv
 have hcs:(aE vs++rest).length=(ρ nm).c*s:=by rw[aY];exact k6
 have hroom:vs.length+us.length<=(ρ nm).c:=by omega
 have hmul:(vs.length+us.length)*s<=(ρ nm).c*s:=bS _ hroom;rw[dY] at hmul;have hrest:us.length*s<=rest.length:=by rw[k5] at k6;omega
 have hovw:cA (aE vs++rest) (vs.length*s) (aE us)=aE (vs++us)++rest.drop (us.length*s):=by
  rw[pq _ _ _ (by rw[hus,aY];omega),n7,<-k5];simp[hus,nK,dV]
 refine QL (P:=prog) (own:=⟨b,aE vs++rest,e,true⟩::(l1++l2)) (m:=us.length) (ys:=aE us) hx' hy' (.hd ..) hcs (fun w hh=>h6 w (hh.perm hperm.symm)) hus h5 hroom hd (fun a' w' rl=>?_) a w Q ⟨r.h.perm hperm,r.sz,cB a,r.df⟩;rw[hovw] at rl;have hnd':=(bL.1 rl.h.nd).1;refine hk.run _ _ _ a' w' (rd.new' (x:=⟨some ⟨b,0,none⟩,vs.length+us.length,(ρ nm).c⟩) (B':= .c e s (ds++ds2) cap) (os:=[⟨b,aE (vs++us)++rest.drop (us.length*s),e,true⟩]) (f:= .rw d) (y:= .slice (some ⟨b,0,none⟩) (vs.length+us.length) (ρ nm).c) hf' (bI.refl _) rl.h
  ⟨vs++us, .inr ⟨b,rest.drop (us.length*s),true,by simp,J,eD _ hall,?_,by simpa using hroom⟩,hv.app h3,hall,fun o ho=>by rw[aU.1 ho],by simpa using hcap⟩ (fun o ho=>by rw[aU.1 ho];exact aQ)
  (fun m B' hm e' o ho hmo=>?_) (by show _=_;simp) (jb rl))
 .rw[eD _ hall,aY,gV,dY]
  simp only[if_true];rw[k5] at k6;omega
 .have hmn:m≠nm/\tb m=some B':=by
   simp only[Sx.upB] at e';split at e'
   .cases e'
   .exact⟨by assumption,e'⟩
  have hob:o.b≠b:=fun e6=>r.dj m nm B' _ hmn.2 (s2 _ _ hb) hmn.1 b (by rw[hmo,e6]) ha;refine⟨?_,fun e6=>by cases e6;exact hob J⟩;rcases aW.1 (hperm.mem_iff.1 ho) with rfl|ho
  .exact absurd J hob
  .exact aJ _ ho
end
section
variable {own:aI}
def Tv[fu:Fu]{d e s:Nat}(cap:Nat)(h:B9 fr cf=some ⟨d,e,s,b,z,0⟩)(hy:(match cI fr cf with|some ⟨_, .makeSlice _ _ y,_,_,_,_⟩=>bh (b9 fr cf) y|_=>none)=some (.d (.v (.int k' (cap:Nat)))))
  (hgo:cH tt n fu.n fr own cf (.rw d) [(d,some (.c e s [] cap))] [d]=⟨vc,fr',own',cf'⟩)(k:av prog GB C n Q0 fr' own' cf')(hb:b*cap<=140737488355328:=by omega)(hl:cap<=1152921504606846976:=by omega)
  (hv:autoParam (ak vc) cL._auto_1):av prog GB C n Q0 fr own cf:=by
 unfold B9 at h;split at h<;>try (cases h;done)
 rename_i hh;split at h<;>try (cases h;done)
 rename_i hx;split at h<;>try (cases h;done)
 rename_i hT;split at h<;>try (cases h;done)
 rename_i hi;split at h<;>try (cases h;done)
 rename_i hz;rw[cond_eq_ite] at h;split at h<;>cases h;rename_i hs;rw[hh] at hy;have:=kt (et _ _ hT) J;exact us hh (aGr (et _ _ hi) hz hs hx hy hb hl) hgo hv k
structure Ta where
 d:Nat
 nm:Nat
 e:Nat
 s:Nat
 ds:List DV
 ds2:List DV
 cap:Nat
def Sd(fr:aC)(own:aI)(cf:Cf):Option Ta:=match cI fr cf with
 |some ⟨some d, .call ⟨.builtin .append,⟨[x,y]⟩,⟨[t,t']⟩⟩,_,_,_,_⟩=>match dO tt t,dO tt t' with
  |some ⟨.sl e s _,_,_,_⟩,some ⟨.sl _ _ _,_,_,_⟩=>match bh (b9 fr cf) x with
   |some (.rw nm)=>match iH fr own cf nm,pD (b9 fr cf) (iH fr own cf) s y with
    |some (.c e' s' ds cap),some ds2=>bif (Nat.beq e' e&&Nat.beq s' s)&&!Nat.beq nm d then some ⟨d,nm,e,s,ds,ds2,cap⟩ else none
    |_,_=>none
   |_=>none
  |_,_=>none
 |_=>none
def YI[fu:Fu]{d nm e s cap:Nat}{ds ds2:List DV}(ds':List DV)(h:Sd fr own cf=some ⟨d,nm,e,s,ds,ds2,cap⟩)(hds:ds++ds2=ds')(ho2:cE s ds2)(hc:ds.length+ds2.length<=cap)(hgo:cH tt n fu.n fr own cf (.rw d) [(nm,none),(d,some (.c e s ds' cap))] [d]=⟨vc,fr',own',cf'⟩)(k:av prog GB C n Q0 fr' own' cf')
  (hp:0<ds2.length:=by simp)(hv:autoParam (ak vc) cL._auto_1):av prog GB C n Q0 fr own cf:=by
 subst hds;unfold Sd at h;split at h<;>try (cases h;done)
 rename_i hh;split at h<;>try (cases h;done)
 rename_i hT hT';split at h<;>try (cases h;done)
 rename_i hx;split at h<;>try (cases h;done)
 rename_i hb hy;rw[cond_eq_ite] at h;split at h<;>cases h;rename_i h2;simp only[bK,gM] at h2
 cases aN h2.1.1
 cases aN h2.1.2
 have:=kt (et _ _ hT) J;have hN:jn prog _:=⟨_,(kt (et _ _ hT') J).un⟩;exact us hh (YL hx hb hy ho2 hc hp h2.2) hgo hv k
def PI(GB:Gh)(P:Program)(f:FuncId)(i:Int)(s:Nat)(ty ty2:TypeId)(ds:List DV)(x:DV)(cap:Nat)(dso:List DV):Prop:=
 ∀G w w2 B B2,bI GB G->dw G ⟨w,s,ty,ds,false⟩ B->cap<=w.c->dw G ⟨w2,s,ty2,[x],false⟩ B2->gt P f [.slice w.a w.n w.c, .int .i64 i, .slice w2.a w2.n w2.c] (B++B2) G fun v own' G'=> ∃w',v= .slice w'.a w'.n w'.c/\dw G' ⟨w',s,ty,dso,false⟩ own'
structure CiA where
 f:FuncId
 nm:Nat
 nm2:Nat
 i:Int
 ty:TypeId
 ty2:TypeId
 s:Nat
 ds:List DV
 x:DV
 cap:Nat
 d:Nat
def KT(fr:aC)(own:aI)(cf:Cf):Option CiA:=match cI fr cf with
 |some ⟨some d, .call ⟨.value fo,⟨[x1,x2,x3]⟩,_⟩,_,_,_,_⟩=>match bh (b9 fr cf) fo,bh (b9 fr cf) x1 with
  |some (.d (.v (.func (.func f) ⟨[]⟩ ⟨[]⟩))),some (.rw nm)=>match bh (b9 fr cf) x2,bh (b9 fr cf) x3 with
   |some (.d (.v (.int .i64 i))),some (.rw nm2)=>match iH fr own cf nm,iH fr own cf nm2 with
    |some (.c ty s ds cap),some (.b ty2 s2 [x] true)=>bif (!Nat.beq nm d&&!Nat.beq nm2 d)&&(!Nat.beq nm nm2&&(Nat.beq s2 s&&Nat.blt 0 cap)) then some ⟨f,nm,nm2,i,ty,ty2,s,ds,x,cap,d⟩ else none
    |_,_=>none
   |_,_=>none
  |_,_=>none
 |_=>none
def W9{f:FuncId}{nm nm2 d cap s:Nat}{i:Int}{ty2:TypeId}{ty:TypeId}{gd:Option (Nat×Bool)}{ds:List DV}{x:DV}(hne:Nat.beq nm d=false)(hne2:Nat.beq nm2 d=false)(hn2:Nat.beq nm nm2=false)(hcp:0<cap)
  (h0:bh lk fo=some (.d (.v (.func (.func f) ⟨[]⟩ ⟨[]⟩))))(h1:bh lk x1=some (.rw nm))(h2:bh lk x2=some (.d (.v (.int .i64 i))))(h3:bh lk x3=some (.rw nm2))(hb:bk nm=some (.c ty0 s ds cap))(hb2:bk nm2=some (.b ty2 s [x] true))(hF:PI GB prog f i s ty0 ty2 ds x cap dso):
  b7 prog GB C n lk bk ⟨some d, .call ⟨.value fo,⟨[x1,x2,x3]⟩,tys⟩,ty,pos,af,gd⟩ (.rw d) [(nm,none),(nm2,none),(d,some (.b ty0 s dso true))] [d]:=by
 intro hd tl tb K' s1 s2 hf hk;refine⟨fun ρ G ov a w r Q=>?_⟩;have r1:=r.mono s1 s2;obtain⟨y,hy,hy'⟩:=r1.ev h0;rw[(aH (G:=G)).1 hy'] at hy;obtain⟨y1,p1,p1'⟩:=r1.ev h1
 cases (show y1=_ from p1')
 obtain⟨y2,p2,p2'⟩:=r1.ev h2;rw[c7] at p2';subst p2';obtain⟨y3,p3,p3'⟩:=r1.ev h3
 cases (show y3=_ from p3')
 have hnn:nm≠d:=fun e=>by subst e;rw[lM] at hne;cases hne
 have hnn2:nm2≠d:=fun e=>by subst e;rw[lM] at hne2;cases hne2
 have hnm:nm≠nm2:=fun e=>by subst e;rw[lM] at hn2;cases hn2
 obtain⟨B,g1,g2⟩:=r1.bx _ _ hb;obtain⟨B2,k1,k2⟩:=r1.bx _ _ hb2;obtain⟨vs,q1,q2,q3,q4,q5⟩:=g1;have hB:dw G ⟨ρ nm,s,ty0,ds,false⟩ B:=⟨vs,q1,q2,q3,fun h=>by cases h⟩;have hB2:dw G ⟨ρ nm2,s,ty2,[x],false⟩ B2:=dw.weak (lo:=true) k1;have e1: ∃o,B=[o]/\(ρ nm).a=some ⟨o.b,0,none⟩:=by
  rcases q1 with⟨_,e,_⟩|⟨b,rest,lo',e,rfl,_⟩
  .rw[e] at q5;simp at q5;omega
  .exact⟨_,J,by rw[e]⟩
 have e2: ∃o,B2=[o]/\(ρ nm2).a=some ⟨o.b,0,none⟩:=by
  obtain⟨vs2,c1,c2,_⟩:=k1;rcases c1 with⟨e,_,_⟩|⟨b,rest,lo',e,rfl,_⟩
  .subst e;have:=c2.len;simp at this
  .exact⟨_,J,by rw[e]⟩
 obtain⟨o1,rfl,a1⟩:=e1;obtain⟨o2,rfl,a2⟩:=e2;have hob:o1.b≠o2.b:=fun e=>r.dj nm nm2 _ _ (s2 _ _ hb) (s2 _ _ hb2) hnm _ a1 (by rw[a2,e]);have hp: ∃rest,ov.Perm ([o1]++[o2]++rest):=by
  obtain⟨l1,l2,e3⟩:=mV (g2 _ aQ);have hm:=k2 _ aQ;rw[e3] at hm⊢;have hm2:o2∈l1++l2:=by
   rcases bJ.1 hm with h|h
   .exact bR _ h
   .rcases aW.1 h with h|h
    .exact absurd (by rw[h]) hob
    .exact bV _ h
  obtain⟨l3,l4,e4⟩:=mV hm2;refine⟨l3++l4,List.perm_middle.trans ?_⟩;rw[e4];exact(oT (l₁:=l3) (l₂:=l4) (a:=o2)).cons o1
 obtain⟨rest,h5⟩:=hp;have h6: ∀o∈ov,o.b≠o1.b->o.b≠o2.b->o∈rest:=fun o ho n1 n2=>by
  have:=h5.mem_iff.1 ho;simp only[gN,jM,aW] at this;rcases this with rfl|rfl|h
  .exact absurd J n1
  .exact absurd J n2
  .exact h
 have hlo2: ∀o∈[o2],o.lo=true:=by obtain⟨_,_,_,_,h⟩:=k1;exact h rfl
 have hall: ∀o∈[o1]++[o2],o.lo=true:=fun o ho=>by
  rcases bJ.1 ho with h|h
  .exact q4 o h
  .exact hlo2 o h
 refine uu (M:=[o1]++[o2]) (rest:=rest) (vs:=[.slice (ρ nm).a (ρ nm).n (ρ nm).c, .int .i64 i, .slice (ρ nm2).a (ρ nm2).n (ρ nm2).c]) hy (by simp only[fi,p1,p2,p3]) h5 (hF G (ρ nm) (ρ nm2) [o1] [o2] r.gb hB q5 hB2) hd (fun v own1 G' hG hK a' w' rl=>?_) a w Q ⟨r.h,r.sz,cB a,r.df⟩;obtain⟨z,rfl,vs',k1',k2',k3',k4'⟩:=hK;have hs1:=k1'.relo (fC ([o1]++[o2]));have e3: ∀o∈own1.map (relo (fC ([o1]++[o2]))),o.lo=true:=fun o ho=>by
  obtain⟨o',_,rfl⟩:=aT.1 ho;exact Ew _ hall
 generalize own1.map (relo (fC ([o1]++[o2])))=B' at rl e3 hs1;have rl':gq C n (Sx.put (co a) (some d) (.slice z.a z.n z.c)) (B'++rest) G' a' w':=rl;have hdis:=(fS.1 rl'.h.nd).2.2;have rd:=(r.dropB nm).dropB nm2;have hin: ∀q B0,Sx.upB (Sx.upB tb [(nm,none)]) [(nm2,none)] q=some B0->q≠nm/\q≠nm2/\tb q=some B0:=fun q B0 e=>by
  simp only[Sx.upB] at e;split at e
  .cases e
  .split at e
   .cases e
   .exact⟨by assumption,by assumption,e⟩
 have hf2:jp [d] (some d) tl (Sx.upB (Sx.upB tb [(nm,none)]) [(nm2,none)]):=fun q hq=>by
  obtain⟨f1,f2⟩:=hf q hq;exact⟨f1,fun k B e1 e=>f2 k B e1 (hin k B e).2.2⟩
 have hsep: ∀q B0,Sx.upB (Sx.upB tb [(nm,none)]) [(nm2,none)] q=some B0-> ∀o∈ov,(ρ q).a=some ⟨o.b,0,none⟩->o∈rest:=fun q B0 e o ho hbq=>by
  obtain⟨n1,n2,n3⟩:=hin q B0 e;exact h6 o ho (fun e'=>r.dj nm q _ _ (s2 _ _ hb) n3 (Ne.symm n1) _ a1 (by rw[hbq,e'])) (fun e'=>r.dj nm2 q _ _ (s2 _ _ hb2) n3 (Ne.symm n2) _ a2 (by rw[hbq,e']))
 have r3:=rd.new' (x:=z) (B':= .b ty0 s dso true) (os:=B') (ov':=B'++rest) (f:= .rw d) (y:= .slice z.a z.n z.c) hf2 hG.le rl'.h ⟨vs',by simpa using hs1,k2',k3',fun _=>e3⟩ (fun o ho=>bR _ ho)
  (fun q B0 hq e o ho hbq=>⟨bV _ (hsep q B0 e o ho hbq),fun hc=>by
   have hx: ∃o1∈B',o1.b=o.b:=by
    rcases hs1 with⟨_,h,_⟩|⟨b0,rest0,lo0,h,hB,_⟩
    .rw[show z=_ from h] at hc;cases hc
    .rw[show z=_ from h] at hc;cases hc;exact⟨⟨_,aE vs'++rest0,_,lo0⟩,by rw[hB];exact aQ,J⟩
   obtain⟨o3,ho3,he3⟩:=hx;exact hdis o3 ho3 o (hsep q B0 e o ho hbq) he3⟩) (by show _=_;simp) (jb rl')
 exact hk.run _ G' _ a' w' r3
def ci[fu:Fu]{f:FuncId}{nm nm2 d cap s:Nat}{i:Int}{ty ty2:TypeId}{ds:List DV}{x:DV}(dso':List DV)(ha:KT fr own cf=some ⟨f,nm,nm2,i,ty,ty2,s,ds,x,cap,d⟩)(hF:PI GB prog f i s ty ty2 ds x cap dso)(he:dso=dso')
  (hgo:cH tt n fu.n fr own cf (.rw d) [(nm,none),(nm2,none),(d,some (.b ty s dso' true))] [d]=⟨vc,fr',own',cf'⟩)(k:av prog GB C n Q0 fr' own' cf')
  (hv:autoParam (ak vc) cL._auto_1):av prog GB C n Q0 fr own cf:=by
 subst he;unfold KT at ha;split at ha<;>try (cases ha;done)
 rename_i hh;split at ha<;>try (cases ha;done)
 rename_i h0 h1;split at ha<;>try (cases ha;done)
 rename_i h2 h3;split at ha<;>try (cases ha;done)
 rename_i hb hb2;rw[cond_eq_ite] at ha;split at ha<;>cases ha;rename_i hc;simp only[bK,gM,kL] at hc;obtain⟨⟨c1,c2⟩,c3,c4,c5⟩:=hc
 cases aN c4
 exact us hh (W9 c1 c2 c3 c5 h0 h1 h2 h3 hb hb2 hF) hgo hv k
def jO(d:Nat)(hl:aO fr d=some (.d (.v (.bool true))))(k:av prog GB C n Q0 ((d, .tt)::fr) own (.ops ops r K)):av prog GB C n Q0 fr own (.ops ops r K):=mo (g:= .tt) hl (fun _ G _ e=>(aH (G:=G)).1 e) k
def qc(d:Nat)(hl:aO fr d=some (.d (.v (.bool false))))(k:av prog GB C n Q0 ((d, .ff)::fr) own (.ops ops r K)):av prog GB C n Q0 fr own (.ops ops r K):=mo (g:= .ff) hl (fun _ G _ e=>(aH (G:=G)).1 e) k
end
section
variable {own:aI}
def Lt(fr:aC)(cf:Cf):Option (Int×Int):=match cI fr cf with
 |some ⟨_, .binOp .xor _ x y _,_,_,_,_⟩=>match bh (b9 fr cf) x,bh (b9 fr cf) y with
  |some (.d (.v (.int .u32 p))),some (.d (.v (.int .u32 q)))=>some (p,q)
  |_,_=>none
 |_=>none
def xr[fu:Fu](u:Int)(h:Lt fr cf=some (p,q))(e:(((BitVec.ofInt 32 p^^^BitVec.ofInt 32 q).toNat:Nat):Int)=u)(hgo:cH tt n fu.n fr own cf (.d (.v (.int .u32 u))) [] []=⟨vc,fr',own',cf'⟩)(k:av prog GB C n Q0 fr' own' cf')
  (hv:autoParam (ak vc) cL._auto_1):av prog GB C n Q0 fr own cf:=by
 unfold Lt at h;split at h<;>try (cases h;done)
 rename_i hh;split at h<;>cases h;rename_i h1 h2;subst e;exact us hh (.yd fun ρ G ov a w r=>by
  obtain⟨y1,h3,h4⟩:=r.ev h1;obtain⟨y2,h5,h6⟩:=r.ev h2;rw[c7] at h4 h6;subst h4 h6;exact⟨_,c7.2 J,lh h3 h5 fun w=>by
   show(pure (Value.int .u32 (IntKind.u32.wrap ((BitVec.ofInt 32 p^^^BitVec.ofInt 32 q).toNat:Int))):Sem Value).run prog w=_;rw[ET];rfl⟩) hgo hv k
def Li(fr:aC)(cf:Cf):Option (Int×Int):=match cI fr cf with
 |some ⟨_, .binOp .sub _ x y _,_,_,_,_⟩=>match bh (b9 fr cf) x,bh (b9 fr cf) y with
  |some (.d (.v (.int .u32 p))),some (.d (.v (.int .u32 q)))=>some (p,q)
  |_,_=>none
 |_=>none
def sw[fu:Fu](u:Int)(h:Li fr cf=some (p,q))(e:(p-q)%4294967296=u)(hgo:cH tt n fu.n fr own cf (.d (.v (.int .u32 u))) [] []=⟨vc,fr',own',cf'⟩)(k:av prog GB C n Q0 fr' own' cf')
  (hv:autoParam (ak vc) cL._auto_1):av prog GB C n Q0 fr own cf:=by
 unfold Li at h;split at h<;>try (cases h;done)
 rename_i hh;split at h<;>cases h;rename_i h1 h2;subst e;exact us hh (.yd fun ρ G ov a w r=>by
  obtain⟨y1,h3,h4⟩:=r.ev h1;obtain⟨y2,h5,h6⟩:=r.ev h2;rw[c7] at h4 h6;subst h4 h6;exact⟨_,c7.2 J,by rw[<-so];exact Wb h3 h5⟩) hgo hv k
def RF(fr:aC)(cf:Cf):Option Int:=match cI fr cf with
 |some ⟨_, .unOp .xor _ x,_,_,_,_⟩=>match bh (b9 fr cf) x with
  |some (.d (.v (.int .u32 p)))=>some p
  |_=>none
 |_=>none
def nt[fu:Fu](u:Int)(h:RF fr cf=some p)(e:(((BitVec.ofInt 32 IntKind.u32.max^^^BitVec.ofInt 32 p).toNat:Nat):Int)=u)(hgo:cH tt n fu.n fr own cf (.d (.v (.int .u32 u))) [] []=⟨vc,fr',own',cf'⟩)(k:av prog GB C n Q0 fr' own' cf')
  (hv:autoParam (ak vc) cL._auto_1):av prog GB C n Q0 fr own cf:=by
 unfold RF at h;split at h<;>try (cases h;done)
 rename_i hh;split at h<;>cases h;rename_i hx;subst e;refine us hh (.x1 hx fun ρ G ov a w y _ r h1 h2=>?_) hgo hv k;rw[c7] at h2;subst h2;refine⟨_,c7.2 J,fun a w hf hh=>?_⟩;simp only[execOp,bB hf h1];refine c6 (w':=w) ?_;show(pure (Value.int .u32 (IntKind.u32.wrap ((BitVec.ofInt 32 IntKind.u32.max^^^BitVec.ofInt 32 p).toNat:Int))):Sem Value).run prog w=_;rw[ET];rfl
end

end Go.Sx
end
section
namespace Go.Sx
open Go
variable {ds:List Nat}{i n k k' a b j d:Nat}{G:Gh}{v:Value}
def dU(d:Nat):DV:= .v (.int .u32 (d:Int))
def dk(ds:List Nat):DV:= .sl (ds.map dU)
def dN(n:Nat):DV:= .sl ((dg n).map dU)
def dD(n:Nat):DV:= .sl (if n=1 then [] else(dg n).map dU)
def eI(m:Int):DV:= .ag [.v (.bool (decide (m<0))),dN m.natAbs]
def eQ(q:Rat):DV:= .ag [.v (.bool (decide (q.num<0))),dN q.num.natAbs,dD q.den]
def eP(p:ah):DV:= .ag [.v (.bool (decide (p.x.num<0))),dN p.x.num.natAbs,dD p.x.den, .v (.bool (decide (p.y.num<0))),dN p.y.num.natAbs,dD p.y.den]
def eL(l:aa):DV:= .ag [.v (.bool (decide (l.a<0))),dN l.a.natAbs, .v (.bool (decide (l.b<0))),dN l.b.natAbs, .v (.bool (decide (l.c<0))),dN l.c.natAbs]
def eR(q:Rat):DV:= .ag [.v (.bool (decide (q.num<0))),dN q.num.natAbs,dN q.den]
def nO(p:ah):DV:= .ag [.v (.bool (decide (p.x.num<0))),dN p.x.num.natAbs,dN p.x.den, .v (.bool (decide (p.y.num<0))),dN p.y.num.natAbs,dN p.y.den]
def vI(n:Int):DV:= .v (.int .i64 n)
def vB(b:Bool):DV:= .v (.bool b)
def J4(n:Nat):dN n=dk (dg n):=rfl
def YD(h:bD ds):dk (trimD ds)=dN (dv ds):=by unfold dk dN;rw[Cn h]
def Vz(h:i<ds.length):(ds.map dU)[i]? =some (dU (ds.getD i 0)):=by
 rw[cR,aZ h,aV,aZ h];rfl
def ek(h:i<ds.length:=by omega):(ds.map dU)[(i:Int).toNat]? =some (dU (ds.getD i 0)):=by rw[bM];exact Vz h
def jt(ds:List Nat)(i d:Nat):(ds.map dU).set i (.v (.int .u32 (d:Int)))=(ds.set i d).map dU:=by rw[jW];rfl
def m6(n:Nat):List.replicate n (DV.v (.int .u32 0))=(List.replicate n 0).map dU:=by rw[List.map_replicate];rfl
def rE(ds:List Nat):cE 1 (ds.map dU):=fun d hd=>by
 obtain⟨n,_,rfl⟩:=aT.1 hd;exact⟨rfl,rfl⟩
def dG(n:Nat)(i:Nat):(dg n).getD i 0<4294967296:=(fI n).2.1.get i
def vh:dg 0=[]:=by rw[dg,dif_pos J]
def Ak:dg 1=[1]:=by rw[dg,dif_neg (by decide)];simp[vh]
def vq{n:Nat}:(dg n).length=0↔n=0:=by
 constructor
 .intro h
  have:=(fI n).1;rw[cV h] at this;exact this.symm
 .rintro rfl;rw[vh];rfl
def l9:dN 0= .sl []:=by unfold dN;rw[vh];rfl
def CC{G:Gh}: ∀{ds:List Nat} {es:List Value},IsLs G (ds.map dU) es↔es=ds.map dI
 |[],es=>ef
 |d::t,es=>by
  rw[bU,bi];constructor
  .rintro ⟨y,n,rfl,h1,h2⟩
   rw[aH.1 h1,CC.1 h2];rfl
  .rintro rfl
   exact⟨_,_,J,aH.2 J,CC.2 J⟩
def Hc:Is G (dk ds) v↔ ∃x:SV,v= .slice x.a x.n x.c/\gg G 1 x (ds.map dI):=by
 unfold dk;rw[gv];constructor
 .rintro ⟨s,x,es,rfl,h1,h2⟩
  have:=CC.1 h2;subst this;refine⟨x,J,?_⟩;rcases By (s:=1) h1 h2 (rE ds) with h|h
  .rw[h] at h1⊢
   exact⟨h1.len,h1.cap, .inl J⟩
  .subst h;exact h1
 .rintro ⟨x,rfl,h⟩
  exact⟨1,x,_,J,h,CC.2 J⟩
def OF(hk:n<2^k):Is G (dN n) v↔ ∃x:SV,v= .slice x.a x.n x.c/\Bs k G x n:=by
 rw[J4,Hc];constructor
 .rintro ⟨x,rfl,h⟩
  exact⟨x,J,⟨(fI n).2.1,h⟩,hk⟩
 .rintro ⟨x,rfl,h⟩
  exact⟨x,J,h.d.sl⟩
def cD{i:Int}(hi:i=k:=by omega)(h:k<ds.length:=by omega):(ds.map dU)[i.toNat]? =some (dU (ds.getD k 0)):=by subst hi;exact ek h
class BN (n:Nat) (k:outParam Nat):Prop where h:n<2^k
class BI (m:Int) (k:outParam Nat):Prop where h:m.natAbs<2^k
class BQ (q:Rat) (k:outParam Nat):Prop where
 hn:q.num.natAbs<2^k
 hd:q.den<2^k
theorem BN.mono(h:BN n k)(hk:k<=k'):BN n k':=⟨cM h.h (bY (by decide) hk)⟩
def mn(h:a<2^i)(k:b<2^j):a*b<2^(i+j):=by rw[fZ];exact oR h k
def PK(h:a<2^i)(k:b<2^j):a+b<2^(i+j+1):=by
 have h1:2^i<=2^(i+j):=bY (by decide) (by omega);have h2:2^j<=2^(i+j):=bY (by decide) (by omega);rw[gT];omega
instance BN.mul (a b i j:Nat) [h:BN a i] [k:BN b j]:BN (a*b) (i+j):=⟨mn h.h k.h⟩
instance BN.div (a b i:Nat) [h:BN a i]:BN (a/b) i:=⟨dR (mM _ _) h.h⟩
instance BN.abs (m:Int) (i:Nat) [h:BI m i]:BN m.natAbs i:=⟨h.h⟩
instance BN.den (q:Rat) (i:Nat) [h:BQ q i]:BN q.den i:=⟨h.hd⟩
def Nz(h:a<2^i)(k:b<2^j):Nat.gcd a b<2^(i+j):=by
 have h1:2^i<=2^(i+j):=bY (by decide) (by omega);have h2:2^j<=2^(i+j):=bY (by decide) (by omega);rcases fT a with h0|h0
 .subst h0;rw[Nat.gcd_zero_left];omega
 .have:=Nat.gcd_le_left b h0;omega
instance BN.gcd (a b i j:Nat) [h:BN a i] [k:BN b j]:BN (Nat.gcd a b) (i+j):=⟨Nz h.h k.h⟩
instance BN.one:BN 1 1:=⟨by decide⟩
instance BI.mul (a b:Int) (i j:Nat) [h:BI a i] [k:BI b j]:BI (a*b) (i+j):=⟨by rw[fV];exact mn h.h k.h⟩
instance BI.add (a b:Int) (i j:Nat) [h:BI a i] [k:BI b j]:BI (a+b) (i+j+1):=⟨dR (Int.natAbs_add_le a b) (PK h.h k.h)⟩
instance BI.sub (a b:Int) (i j:Nat) [h:BI a i] [k:BI b j]:BI (a-b) (i+j+1):=⟨dR (Int.natAbs_sub_le a b) (PK h.h k.h)⟩
instance BI.neg (a:Int) (i:Nat) [h:BI a i]:BI (-a) i:=⟨by rw[jT];exact h.h⟩
instance BI.num (q:Rat) (i:Nat) [h:BQ q i]:BI q.num i:=⟨h.hn⟩
instance BI.nat (n:Nat) (i:Nat) [h:BN n i]:BI (n:Int) i:=⟨by rw[fX];exact h.h⟩
def l5(q:Rat):0<q.den:=iV q.den_nz
theorem Aa{m:Int}(hd:0<d)(h:m.natAbs<2^i)(k:d<2^i):BQ (mkRat m d) i:=by
 refine⟨?_,?_⟩
 .rw[Rat.num_mkRat,if_neg (by omega)]
  have:=nN m (d.gcd m.natAbs:Nat);omega
 .rw[Rat.den_mkRat,if_neg (by omega)]
  have:=mM d (d.gcd m.natAbs);omega
theorem BQ.mono{q:Rat}(h:BQ q k)(hk:k<=k':=by decide):BQ q k':=⟨cM h.hn (bY (by decide) hk),cM h.hd (bY (by decide) hk)⟩
def A1(p q:Rat):p*q=mkRat (p.num*q.num) (p.den*q.den):=by rw[Rat.mul_def,Rat.normalize_eq_mkRat]
def BB(p q:Rat):p+q=mkRat (p.num*q.den+q.num*p.den) (p.den*q.den):=by rw[Rat.add_def,Rat.normalize_eq_mkRat]
instance BQ.mul (p q:Rat) (i j:Nat) [h:BQ p i] [k:BQ q j]:BQ (p*q) (i+j):=by
 rw[A1];exact Aa (jJ (l5 p) (l5 q)) (BI.mul p.num q.num i j).h (mn h.hd k.hd)
instance BQ.add (p q:Rat) (i j:Nat) [h:BQ p i] [k:BQ q j]:BQ (p+q) (i+j+1):=by
 rw[BB];refine Aa (jJ (l5 p) (l5 q)) ?_ ?_
 .have h1:=mn h.hn k.hd
  have h2:=mn k.hn h.hd;have h3:(p.num*q.den+q.num*p.den).natAbs<=(p.num*q.den).natAbs+(q.num*p.den).natAbs:=Int.natAbs_add_le ..;rw[fV,fV,fX,fX] at h3;rw[kR j i] at h2;rw[gT];omega
 .have h1:=mn h.hd k.hd
  rw[gT];omega
instance BQ.neg (p:Rat) (i:Nat) [h:BQ p i]:BQ (-p) i:=⟨by rw[oZ,jT];exact h.hn,by rw[sN];exact h.hd⟩
instance BQ.sub (p q:Rat) (i j:Nat) [h:BQ p i] [k:BQ q j]:BQ (p-q) (i+j+1):=by
 rw[Rat.sub_eq_add_neg];exact BQ.add p (-q) i j
instance BQ.ofInt (m:Int) (i:Nat) [h:BI m i]:BQ (m:Rat) (i+1):=by
 refine⟨?_,?_⟩
 .rw[mN];have:=h.h;rw[gT];omega
 .rw[nQ];have:0<2^i:=gQ (by decide);rw[gT];omega
end Go.Sx
end
section
namespace Go.Sx
open Go Go.Proofs Tryz
variable {GB:Gh}{ds A B W:List Nat}{n x y c a k i b u ia ib d c2 j m s w h q t:Nat}{f:FuncId}{rows rws:List DV}{ty ty2:TypeId}{fb:Func}
def E4(p q:Int):Nat:=(BitVec.ofInt 32 p &&& BitVec.ofInt 32 q).toNat
def Gj(p q:Int):Nat:=(BitVec.ofInt 32 p ||| BitVec.ofInt 32 q).toNat
def z6(p q:Int):Nat:=(BitVec.ofInt 32 p^^^BitVec.ofInt 32 q).toNat
def Km(h:0<n/\n<=ds.length)(hz:ds.getD (n-1) 0=0):trimD (ds.take n)=trimD (ds.take (n-1)):=by
 obtain⟨m,rfl⟩: ∃m,n=m+1:=⟨n-1,by omega⟩;rw[iJ (by omega),nY];rw[nY,aV,aZ (by omega)] at hz;simp only[lU] at hz;rw[hz,Zt]
def KO(h:n<=ds.length)(hz:0<n->ds.getD (n-1) 0≠0):trimD (ds.take n)=ds.take n:=by
 rcases fT n with h0|h0
 .subst h0;simp[trimD]
 .obtain⟨m,rfl⟩: ∃m,n=m+1:=⟨n-1,by omega⟩
  have hz:=hz h0;rw[iJ (by omega)];rw[nY,aV,aZ (by omega)] at hz;exact Kz (by simpa using hz)
def aDQ(hx:x<4294967296)(hy:y<4294967296)(hc:c<=1):PF GB prog 281 [.v (.int .u32 (x:Int)), .v (.int .u32 (y:Int)), .v (.int .u32 (c:Int))] (.tp [.v (.int .u32 (((x+y+c)%4294967296:Nat):Int)), .v (.int .u32 (((x+y+c)/4294967296:Nat):Int))]):=by
 refine fn (hv:=by simp only[ak];exact⟨⟨⟨⟨⟨by omega,by omega⟩,by omega⟩,by omega⟩,by omega⟩,(by decide)⟩) func281 J J ntmps281 J J (fun C=>?_);exact rz J (by
  have e1:((x:Int)+y+c)%4294967296=(((x+y+c)%4294967296:Nat):Int):=by omega
  have e2:((x:Int)+y+c).fdiv (2^min (32:Int).toNat IntKind.u64.bits)%4294967296=(((x+y+c)/4294967296:Nat):Int):=by
   rw[show(2:Int)^min (32:Int).toNat IntKind.u64.bits=((4294967296:Nat):Int) from J,kY _ (by decide)];omega
  show DV.tp [.v (.int _ _), .v (.int _ _)]=_;rw[e1,e2])
def Gz(n:Nat)(h:n<4294967296):(BitVec.ofInt 32 (n:Int)).msb=decide (2147483648<=n):=by
 rw[show BitVec.ofInt 32 (n:Int)=BitVec.ofNat 32 n from BitVec.ofInt_natCast ..];rw[BitVec.msb_eq_decide,BitVec.toNat_ofNat,kZ (by simpa using h)]
def aug(b:BitVec 32):b.toNat/2147483648=if b.msb then 1 else 0:=by
 have:=b.isLt;rw[BitVec.msb_eq_decide];simp only[decide_eq_true_eq,Nat.reduceSub,Nat.reducePow] at*;split<;>omega
def S7(b:BitVec 32):BitVec.ofInt 32 (b.toNat:Int)=b:=by rw[BitVec.ofInt_natCast,BitVec.ofNat_toNat,BitVec.setWidth_eq]
def asF(hx:x<4294967296)(hy:y<4294967296)(hc:c<=1):
  ((Gj (E4 (z6 IntKind.u32.max x:Nat) y:Nat) (E4 (z6 IntKind.u32.max (z6 x y:Nat):Nat) (IntKind.u32.wrap (IntKind.u32.wrap ((x:Int)-y)-c)):Nat):Nat):Int).fdiv (2^min (31:Int).toNat IntKind.u32.bits)=(((if x<y+c then 1 else 0):Nat):Int):=by
 rw[show((2:Int)^min (31:Int).toNat IntKind.u32.bits)=((2147483648:Nat):Int) from J,kY _ (by decide),<-sY];congr 1;have hd: ∃d:Nat,d<4294967296/\IntKind.u32.wrap (IntKind.u32.wrap ((x:Int)-y)-c)=(d:Int)/\((x>=y+c/\d=x-(y+c))\/(x<y+c/\d=x+4294967296-(y+c))):=by
  rw[so,so];refine⟨((((x:Int)-y)%4294967296-c)%4294967296).toNat,by omega,by omega,by omega⟩
 obtain⟨d,hd1,hd2,hd3⟩:=hd;rw[hd2];unfold Gj E4 z6;simp only[S7];rw[aug];simp only[BitVec.msb_or,BitVec.msb_and,BitVec.msb_xor,Gz x hx,Gz y hy,Gz d hd1];have h1:(BitVec.ofInt 32 IntKind.u32.max).msb=true:=by decide
 rw[h1];rcases jK x 2147483648 with a|a<;>rcases jK y 2147483648 with b|b<;>rcases jK d 2147483648 with e|e<;>
  simp[Nat.not_le.2, *]<;>(first|omega|(split<;>omega))
def Tz(hx:x<4294967296)(hy:y<4294967296)(hc:c<=1):IntKind.u32.wrap (IntKind.u32.wrap ((x:Int)-y)-c)=(((if x<y+c then x+4294967296-(y+c) else x-(y+c)):Nat):Int):=by
 rw[so,so];split<;>omega
def YB(hx:x<4294967296)(hy:y<4294967296)(hc:c<=1):PF GB prog 282 [.v (.int .u32 (x:Int)), .v (.int .u32 (y:Int)), .v (.int .u32 (c:Int))] (.tp [.v (.int .u32 (((if x<y+c then x+4294967296-(y+c) else x-(y+c)):Nat):Int)), .v (.int .u32 (((if x<y+c then 1 else 0):Nat):Int))]):=by
 refine fn (fu:=⟨10⟩) func282 J J ntmps282 J J (fun C=>?_);refine sw (fu:=⟨1⟩) _ J (so _).symm J<|sw (fu:=⟨6⟩) _ J (so _).symm J<|nt (fu:=⟨4⟩) _ J J J<|xr (fu:=⟨0⟩) _ J J J<|nt _ J J J<|rz J (by have h1:=asF hx hy hc;unfold Gj E4 z6 at h1;show DV.tp [.v (.int _ _), .v (.int _ _)]=_;rw[h1,Tz hx hy hc])
def qI(hl:ds.length<=1125899906842624:=by omega):PF GB prog 116 [dk ds] (dk (trimD ds)):=by
 refine fn func116 J J ntmps116 J J (fun C=>?_);refine lp (X:=Nat) (fun n=>[(0, .d (dk ds)),(3, .d (vI (n:Nat)))]) (fun n=>[]) (fun n=>n<=ds.length/\trimD ds=trimD (ds.take n)) (fun n=>n) ds.length J ⟨bW _,by rw[cS]⟩ (fun _=>J) (fun n hk=>?_);obtain⟨h1,h2⟩:=hk;refine cs 8 J J J (fun hg8=>?_) (fun hg8=>?_)
 .
  refine ix _ J (cD (k:=n-1)) J<|br J J J (fun hc15=>?_) (fun hc15=>?_)
  .
   have hz:ds.getD (n-1) 0=0:=by omega
   exact at_ (n-1) ⟨⟨by omega,by rw[h2,Km (by omega) hz]⟩,(by omega)⟩
  .
   refine kn 0 n _ J J J J (rE _) (by omega) (by simp;omega) J<|rz J (by have:=KO h1 (fun _ h=>hc15 (by omega));rw[<-h2] at this;show DV.sl _=_;simp[dk,this])
 .
  refine kn 0 n _ J J J J (rE _) (by omega) (by simp;omega) rfl<|rz rfl (by obtain rfl:n=0:=(by omega);show DV.sl _=_;simp[dk,h2,trimD])
def ud(h:a<2^k)(hk:k<=1000000000):(dg a).length<=100000000:=by have:=jC h;omega
def c8(a:Nat):dv (dg a)=a:=(fI a).1
def gi(a:Nat):bD (dg a):=(fI a).2.1
def bO(ds:List Nat):(ds.map dU).length=ds.length:=aX ..
def km(h:ds.length<=n:=by omega):ds.take n=ds:=cX h
def pp(h:ds.length<=i:=by omega):ds.getD i 0=0:=by
 rw[aV,eK h];rfl
def kC(h:bD ds)(e:dv ds=n):dk (trimD ds)=dN n:=by rw[YD h,e]
def Ap(h:a<b):iE a b= -1:=by unfold iE;rw[if_pos h]
def zl(h:b<a):iE a b=1:=by unfold iE;rw[if_neg (by omega),if_neg (by omega)]
def F5(h:a=b):iE a b=0:=by unfold iE;rw[if_neg (by omega),if_pos h]
def Wa(m n:Nat):Int.sign ((m:Int)-n)=iE m n:=by
 unfold iE;split
 .exact eX (by omega)
 .split
  .rw[show(m:Int)-n=0 by omega];rfl
  .exact fU (by omega)
def JG(h:(dg a).length≠(dg b).length:=by omega):iE (dg a).length (dg b).length=iE a b:=by
 rcases Nat.lt_or_gt_of_ne h with h|h
 .have:=yg (gi a) (fI b).2.2 h
  rw[c8,c8] at this;rw[Ap h,Ap this]
 .have:=yg (gi b) (fI a).2.2 h
  rw[c8,c8] at this;rw[zl h,zl this]
def xd(hl:(dg a).length=(dg b).length)(hi:i<(dg a).length)(hs:(dg a).drop (i+1)=(dg b).drop (i+1)):
  ((dg a).getD i 0<(dg b).getD i 0->a<b)/\((dg b).getD i 0<(dg a).getD i 0->b<a)/\((dg a).getD i 0=(dg b).getD i 0->(dg a).drop i=(dg b).drop i):=by
 refine⟨fun h=>?_,fun h=>?_,fun h=>?_⟩
 .have:=L6 (gi a) (gi b) i hi (by omega) hl hs h
  rwa [c8,c8] at this
 .have:=L6 (gi b) (gi a) i (by omega) hi hl.symm hs.symm h
  rwa [c8,c8] at this
 .rw[bX hi,bX (by omega:i<(dg b).length),hs]
  rw[aV,aV,aZ hi,aZ (by omega:i<(dg b).length)] at h;simp only[lU] at h;rw[h]
def aEO{z:Int}:PF GB prog 177 [vI z] (vI z.sign):=by
 refine fn func177 J J ntmps177 J J (fun C=>?_);refine br J J J (fun hc4=>?_) (fun hc4=>?_)
 .
  exact rz J (by show DV.v (.int _ 1)=DV.v (.int _ _);rw[fU (by omega)])
 .
  refine br J J J (fun hc6=>?_) (fun hc6=>?_)
  .
   exact rz J (by show DV.v (.int _ (-1))=DV.v (.int _ _);rw[eX (by omega)])
  .
   exact rz J (by show DV.v (.int _ 0)=DV.v (.int _ _);rw[show z=0 by omega];rfl)
def Mu(u:Nat):dv [u%4294967296,u/4294967296]=u:=by simp only[dv];omega
def OY(h:u<18446744073709551616):bD [u%4294967296,u/4294967296]:= .cons (by omega) (.cons (by omega) .nil)
def oB(u:Nat):(u:Int).fdiv (2^min (32:Int).toNat IntKind.u64.bits)=((u/4294967296:Nat):Int):=by
 rw[show(2:Int)^min (32:Int).toNat IntKind.u64.bits=((4294967296:Nat):Int) from J,kY _ (by decide)];rfl
def sO(hu:u<18446744073709551616:=by omega):PF GB prog 54 [.v (.int .u64 (u:Int))] (dN u):=by
 refine fn (fu:=⟨11⟩) (hv:=by simp only[ak];exact(by decide)) func54 J J ntmps54 J J (fun C=>?_);refine aj 6 (.d (.v (.int .u64 (u/4294967296:Nat)))) J (by rw[oB])<|gx J<|rf (fu:=⟨0⟩) J J<|aj 8 (.d (dk [u%4294967296,u/4294967296])) J (by show FX.d (.sl [.v (.int _ _), .v (.int _ _)])= .d (.sl [.v (.int _ _), .v (.int _ _)]);congr 6;omega)<|gx J<|cl J (qI (ds:=[u%4294967296,u/4294967296]) (by simp)) J<|rz J (kC (OY hu) (Mu u))
def D4:PF GB prog 113 [] (dN 1):=by
 refine fn func113 J J ntmps113 J J (fun C=>?_);refine rf J J<|rz J (by unfold dN;rw[Ak];rfl)
def yv(ha:(dg a).length<=100000000:=by omega)(hb:(dg b).length<=100000000:=by omega):PF GB prog 112 [dN a,dN b] (vI (iE a b)):=by
 have hla:=bO (dg a);have hlb:=bO (dg b);refine fn func112 J J ntmps112 J J (fun C=>?_);refine br J J J (fun hc10=>?_) (fun hc10=>?_)
 .
  refine cl J aEO J<|rz J (by show DV.v (.int _ _)=DV.v (.int _ _);rw[hla,hlb,Wa,JG])
 .
  have hl:(dg a).length=(dg b).length:=by omega
  refine lp (X:=Nat) (fun k=>[(0, .d (dN a)),(1, .d (dN b)),(5, .d (vI ((k:Nat)-1)))]) (fun k=>[]) (fun k=>k<=(dg a).length/\(dg a).drop k=(dg b).drop k) (fun k=>k) (dg a).length J ⟨bW _,by rw[fL,hl,fL]⟩ (fun _=>J) (fun k hk=>?_);obtain⟨h1,h2⟩:=hk;refine br J J J (fun hc21=>?_) (fun hc21=>?_)
  .
   obtain⟨k,rfl⟩: ∃m,k=m+1:=⟨k-1,by omega⟩;refine ix _ J (cD (k:=k)) J<|ix _ J (cD (k:=k)) J<|br J J J (fun hc32=>?_) (fun hc32=>?_)
   .
    exact rz J (by show DV.v (.int _ 1)=DV.v (.int _ _);rw[zl ((xd hl (by omega) h2).2.1 (by omega))])
   .
    refine ix _ J (cD (k:=k)) J<|ix _ J (cD (k:=k)) J<|br J J J (fun hc41=>?_) (fun hc41=>?_)
    .
     exact rz J (by show DV.v (.int _ (-1))=DV.v (.int _ _);rw[Ap ((xd hl (by omega) h2).1 (by omega))])
    .
     exact at_ k ⟨⟨by omega,(xd (i:=k) hl (by omega) h2).2.2 (by omega)⟩,(by omega)⟩
  .
   exact rz rfl (by show DV.v (.int _ 0)=DV.v (.int _ _);rw[F5];obtain rfl:k=0:=(by omega);rw[iX,iX] at h2;rw[<-c8 a,h2,c8])
def RZ(hi:i<W.length)(h:dv (W.take i)+4294967296^i*c=dv (A.take i)+dv (B.take i)):
  dv ((W.set i ((A.getD i 0+B.getD i 0+c)%4294967296)).take (i+1))+4294967296^(i+1)*((A.getD i 0+B.getD i 0+c)/4294967296)=dv (A.take (i+1))+dv (B.take (i+1)):=by
 rw[vV hi,n4 A,n4 B,gT,show A.getD i 0+B.getD i 0+c=c+A.getD i 0+B.getD i 0 by omega];exact aze h
def SH(hn:n=max (dg a).length (dg b).length)(hl:W.length=n+1)(h:dv (W.take n)+4294967296^n*c=dv ((dg a).take n)+dv ((dg b).take n)):dv (W.set n c)=a+b:=by
 have e:=vV (ws:=W) (k:=n) (d:=c);rw[km (by rw[bQ];omega)] at e;rw[e,h,km,km,c8,c8]
def XD[ha:BN a ia][hb:BN b ib](hi:ia<=1000000000:=by decide)(hj:ib<=1000000000:=by decide):PF GB prog 226 [dN a,dN b] (dN (a+b)):=by
 have hla:=bO (dg a);have hlb:=bO (dg b);have hba:=ud ha.h hi;have hbb:=ud hb.h hj;refine fn (fu:=⟨12⟩) func226 J J ntmps226 J J (fun C=>?_);obtain⟨n,hn⟩: ∃n,n=max (dg a).length (dg b).length:=⟨_,rfl⟩;refine aj 15 (.d (vI (n:Nat))) J (by show FX.d (.v (.int _ _))= .d (.v (.int _ _));congr 3;split<;>omega)<|gx J<|mk ((List.replicate (n+1) 0).map dU) J J (by rw[<-m6];rfl) J<|lp (X:=List Nat×Nat×Nat) (fun⟨W,c,i⟩=>[(0, .d (dN a)),(1, .d (dN b)),(5, .d (vI (n:Nat))),(6, .rw 18),(7, .d (.v (.int .u32 (c:Nat)))),(8, .d (vI (i:Nat)))]) (fun⟨W,c,i⟩=>[(18,some (.b 208 1 (W.map dU) true))]) (fun⟨W,c,i⟩=>W.length=n+1/\bD W/\c<=1/\i<=n/\dv (W.take i)+4294967296^i*c=dv ((dg a).take i)+dv ((dg b).take i)) (fun⟨W,c,i⟩=>n-i) ⟨List.replicate (n+1) 0,0,0⟩ J ⟨by simp, .replicate _,by omega,by omega,by simp[dv]⟩ (fun _=>J) (fun⟨W,c,i⟩ hk=>?_);dsimp only at hk⊢;obtain⟨h1,h2,h3,h4,h5⟩:=hk;have hlw:=bO W;have hda:=dG a i;have hdb:=dG b i;refine br (fu1:=⟨11⟩) J J J (fun hc21=>?_) (fun hc21=>?_)
 .
  refine mg (fu:=⟨1⟩) (X:=Unit) (fun _=>[(0, .d (dN a)),(1, .d (dN b)),(5, .d (vI (n:Nat))),(6, .rw 18),(7, .d (.v (.int .u32 (c:Nat)))),(8, .d (vI (i:Nat))),(9, .d (dU ((dg a).getD i 0))),(10, .d (.v (.int .u32 0)))]) (fun _=>[(18,some (.b 208 1 (W.map dU) true))]) (fun _=>True) [0,1,5,6,7,8,9,10] [18] rfl ?_ (fun _=>J) (fun _ hm=>?_)
  .
   refine gx J<|br J J J (fun hc27=>?_) (fun hc27=>?_)
   .
    refine ix _ J (ek) J<|at_ () trivial
   .
    refine aj 9 (.d (dU ((dg a).getD i 0))) J (by rw[pp];rfl)<|at_ () trivial
  .
   refine mg (X:=Unit) (fun _=>[(0, .d (dN a)),(1, .d (dN b)),(5, .d (vI (n:Nat))),(6, .rw 18),(7, .d (.v (.int .u32 (c:Nat)))),(8, .d (vI (i:Nat))),(9, .d (dU ((dg a).getD i 0))),(10, .d (dU ((dg b).getD i 0)))]) (fun _=>[(18,some (.b 208 1 (W.map dU) true))]) (fun _=>True) [0,1,5,6,7,8,9,10] [18] rfl ?_ (fun _=>J) (fun _ hm=>?_)
   .
    refine gx J<|br J J J (fun hc35=>?_) (fun hc35=>?_)
    .
     refine ix _ J (ek) J<|at_ () trivial
    .
     refine aj 10 (.d (dU ((dg b).getD i 0))) J (by rw[pp];rfl)<|at_ () trivial
   .
    refine cl J (aDQ (by omega) (by omega) (by omega)) J<|sb _ ((W.set i (((dg a).getD i 0+(dg b).getD i 0+c)%4294967296)).map dU) J (ek) J (by rw[<-jt];rfl) J<|at_ ⟨W.set i (((dg a).getD i 0+(dg b).getD i 0+c)%4294967296),((dg a).getD i 0+(dg b).getD i 0+c)/4294967296,i+1⟩ (by dsimp only;exact⟨⟨by simpa using h1,h2.set _ (by omega),by omega,by omega,RZ (by omega) h5⟩,(by omega)⟩)
 .
  obtain rfl:i=n:=by omega
  refine sb _ ((W.set i c).map dU) J (ek) J (by rw[<-jt];rfl) J<|fz 18 J J<|cl J (qI (ds:=W.set i c) (by simp;omega)) J<|rz J (kC (h2.set _ (by omega)) (SH hn h1 h5))
def Ou(hA:bD A)(hB:bD B)(hi:i<W.length)(hc:c<=1)(h:dv (W.take i)+dv (B.take i)=dv (A.take i)+4294967296^i*c)
  (hd:d=if A.getD i 0<B.getD i 0+c then A.getD i 0+4294967296-(B.getD i 0+c) else A.getD i 0-(B.getD i 0+c))(hc2:c2=if A.getD i 0<B.getD i 0+c then 1 else 0):
  dv ((W.set i d).take (i+1))+dv (B.take (i+1))=dv (A.take (i+1))+4294967296^(i+1)*c2:=by
 have h1:=hA.get i;have h2:=hB.get i;rw[vV hi,n4 A,n4 B,gT];split at hd
 .rename_i q
  rw[if_pos q] at hc2;subst hc2 hd;rw[kR (B.getD i 0) c];exact aDP h (by omega) (by omega)
 .rename_i q
  rw[if_neg q] at hc2;subst hc2 hd;rw[kR (B.getD i 0) c];exact ZN h (by omega)
def QB(hw:bD W)(hl:W.length=(dg a).length)(hb:b<=a)(h:dv (W.take (dg a).length)+dv ((dg b).take (dg a).length)=dv ((dg a).take (dg a).length)+4294967296^(dg a).length*c):dv W=a-b:=by
 have hlb:(dg b).length<=(dg a).length:=by
  rcases jK (dg a).length (dg b).length with q|q
  .have:=yg (gi a) (fI b).2.2 q
   rw[c8,c8] at this;omega
  .exact q
 rw[km,km hlb,km (bW _),c8,c8] at h;have h2:=l7 hw;rw[hl] at h2;rcases fT c with q|q
 .subst q;omega
 .have:4294967296^(dg a).length*1<=4294967296^(dg a).length*c:=fR _ q
  omega
def FI[ha:BN a ia](hb:b<=a)(hi:ia<=1000000000:=by decide):PF GB prog 227 [dN a,dN b] (dN (a-b)):=by
 have hla:=bO (dg a);have hlb:=bO (dg b);have hba:=ud ha.h hi;refine fn (fu:=⟨9⟩) func227 J J ntmps227 J J (fun C=>?_);refine aj 10 (.d (vI ((dg a).length:Nat))) J (by rw[hla];rfl)<|gx J<|mk (fu:=⟨13⟩) ((List.replicate (dg a).length 0).map dU) J J (by rw[<-m6];rfl) J<|aj 13 (.d (vI ((dg a).length:Nat))) J (by rw[hla];rfl)<|gx J<|lp (X:=List Nat×Nat×Nat) (fun⟨W,c,i⟩=>[(0, .d (dN a)),(1, .d (dN b)),(5, .rw 11),(6, .d (.v (.int .u32 (c:Nat)))),(13, .d (vI ((dg a).length:Nat))),(14, .d (vI (i:Nat)))]) (fun⟨W,c,i⟩=>[(11,some (.b 208 1 (W.map dU) true))]) (fun⟨W,c,i⟩=>W.length=(dg a).length/\bD W/\c<=1/\i<=(dg a).length/\dv (W.take i)+dv ((dg b).take i)=dv ((dg a).take i)+4294967296^i*c) (fun⟨W,c,i⟩=>(dg a).length-i) ⟨List.replicate (dg a).length 0,0,0⟩ J ⟨by simp, .replicate _,by omega,by omega,by simp[dv]⟩ (fun _=>J) (fun⟨W,c,i⟩ hk=>?_);dsimp only at hk⊢;obtain⟨h1,h2,h3,h4,h5⟩:=hk;have hlw:=bO W;have hda:=dG a i;have hdb:=dG b i;refine br (fu1:=⟨16⟩) J J J (fun hc15=>?_) (fun hc15=>?_)
 .
  refine mg (X:=Unit) (fun _=>[(0, .d (dN a)),(1, .d (dN b)),(5, .rw 11),(6, .d (.v (.int .u32 (c:Nat)))),(13, .d (vI ((dg a).length:Nat))),(14, .d (vI (i:Nat))),(7, .d (vI (i:Nat))),(8, .d (dU ((dg b).getD i 0)))]) (fun _=>[(11,some (.b 208 1 (W.map dU) true))]) (fun _=>True) [0,1,5,6,13,14,7,8] [11] rfl ?_ (fun _=>J) (fun _ hm=>?_)
  .
   refine gx J<|br J J J (fun hc20=>?_) (fun hc20=>?_)
   .
    refine ix _ J (ek) J<|at_ () trivial
   .
    refine aj 8 (.d (dU ((dg b).getD i 0))) J (by rw[pp];rfl)<|at_ () trivial
  .
   refine ix _ J (ek) J<|cl J (YB (by omega) (by omega) (by omega)) J<|sb _ ((W.set i (if(dg a).getD i 0<(dg b).getD i 0+c then(dg a).getD i 0+4294967296-((dg b).getD i 0+c) else(dg a).getD i 0-((dg b).getD i 0+c))).map dU) J (ek) J (by rw[<-jt];rfl) J<|at_ ⟨W.set i (if(dg a).getD i 0<(dg b).getD i 0+c then(dg a).getD i 0+4294967296-((dg b).getD i 0+c) else(dg a).getD i 0-((dg b).getD i 0+c)),(if(dg a).getD i 0<(dg b).getD i 0+c then 1 else 0),i+1⟩ (by dsimp only;exact⟨⟨by simpa using h1,h2.set _ (by split<;>omega),by split<;>omega,by omega,Ou (gi a) (gi b) (by omega) h3 h5 J J⟩,(by omega)⟩)
 .
  obtain rfl:i=(dg a).length:=by omega
  refine fz 11 J J<|cl J (qI (ds:=W)) J<|rz J (kC h2 (QB h2 h1 hb h5))
def pE(n:Nat)(a b k:Nat)(ha:a<2^k)(h:a+b*2^k<2^n):(BitVec.ofInt n (a:Int) ||| BitVec.ofInt n ((b*2^k:Nat):Int)).toNat=a+b*2^k:=by
 rw[BitVec.toNat_or,BitVec.ofInt_natCast,BitVec.ofInt_natCast,BitVec.toNat_ofNat,BitVec.toNat_ofNat,kZ (by omega),kZ (by omega)];rw[<-Nat.shiftLeft_eq,Nat.or_comm,<-Nat.shiftLeft_add_eq_or_of_lt ha,Nat.shiftLeft_eq];omega
def CQ(hx:x<4294967296)(hy:y<4294967296):x*y<=18446744065119617025:=by
 have:=gL (by omega:x<=4294967295) (by omega:y<=4294967295);exact this
def Bv(x y:Nat):(0:Int)<=(x:Int)*(y:Int):=by rw[<-iL];omega
def z8(hx:x<4294967296)(hy:y<4294967296):(x:Int)*(y:Int)<=18446744073709551615:=by
 have:=CQ hx hy;rw[<-iL];omega
def aGs(h:ds.length=1):dv ds=ds.getD 0 0:=by
 match ds,h with
 |[d],_=>simp[dv]
def vt(h:(dg a).length=1:=by omega):(dg a).getD 0 0=a:=by rw[<-aGs h,c8]
def Ue(h:j<m):(ds.take m).getD j 0=ds.getD j 0:=by
 rw[aV,aV,oM,if_pos h]
def P2(hj:j<m)(hm:m<=W.length):dv ((W.set j d).take m)+4294967296^j*W.getD j 0=dv (W.take m)+4294967296^j*d:=by
 rw[List.take_set,<-Ue (ds:=W) hj];exact vS _ _ _ (by rw[bT];omega)
def QJ{W:List Nat}{P X Y m i k c y t S:Nat}(hk:i+k<m)(hm:m<=W.length)(h:dv (W.take m)+4294967296^(i+k)*c=P+X*(4294967296^i*S))(ht:t=Y+W.getD (i+k) 0+c)(hY:Y=X*y):
  dv ((W.set (i+k) (t%4294967296)).take m)+4294967296^(i+(k+1))*(t/4294967296)=P+X*(4294967296^i*(S+4294967296^k*y)):=by
 have h1:=P2 (W:=W) (d:=t%4294967296) hk hm;rw[ht,show Y+W.getD (i+k) 0+c=c+Y+W.getD (i+k) 0 by omega] at h1⊢;have h2:=XB h1 h;rw[<-lX,gT,h2,hY,fZ];simp only[fQ,cW,mT,cK,lX]
def OZ{a b:Nat}{W:List Nat}{i c lb:Nat}(hlb:lb=(dg b).length)(hl:i+lb<W.length)(h:dv (W.take (i+lb))+4294967296^(i+lb)*c=dv ((dg a).take i)*b+(dg a).getD i 0*(4294967296^i*dv ((dg b).take lb))):
  dv ((W.set (i+lb) c).take (i+1+lb))=dv ((dg a).take (i+1))*b:=by
 rw[show i+1+lb=i+lb+1 by omega,vV hl,h,n4,km (ds:=dg b),c8 b,dY];simp only[cW,mT,cK]
def Dt(n j:Nat):(List.replicate n 0).getD j 0=0:=by
 rw[aV,List.getElem?_replicate];split<;>rfl
def Bd(h:k<=1000000000):IntKind.i64.wrap ((k:Int).tdiv 32)=((k/32:Nat):Int):=by
 rw[show(k:Int).tdiv 32=((k/32:Nat):Int) from J,FQ];omega
def R7(k:Nat):(k:Int).tmod 32=((k%32:Nat):Int):=rfl
def pc[ha:BN a ia][hb:BN b ib](hi:ia<=1000000000:=by decide)(hj:ib<=1000000000:=by decide):PF GB prog 144 [dN a,dN b] (dN (a*b)):=by
 have hla:=bO (dg a);have hlb:=bO (dg b);have hba:=ud ha.h hi;have hbb:=ud hb.h hj;refine fn (fu:=⟨6⟩) func144 J J ntmps144 J J (fun C=>?_);refine mg (fu:=⟨4⟩) (X:=Unit) (fun _=>[(0, .d (dN a)),(1, .d (dN b))]) (fun _=>[]) (fun _=>True) [0,1] [] rfl ?_ (fun _=>J) (fun _ hm=>?_)
 .
  refine gx J<|cs 15 J J J (fun hg15=>?_) (fun hg15=>?_)
  .
   refine br J J J (fun hc19=>?_) (fun hc19=>?_)
   .
    have hd0:=dG a 0;have hd1:=dG b 0;refine ix _ J (cD (k:=0) J (by omega)) J<|ix (hv:=by simp only[ak];exact⟨by omega,⟨(Bv _ _),(z8 (dG _ _) (dG _ _))⟩⟩) _ J (cD (k:=0) J (by omega)) J<|cl J (sO (u:=(dg a).getD 0 0*(dg b).getD 0 0) (by have:=CQ (dG a 0) (dG b 0);omega)) J<|rz J (by rw[vt,vt];rfl)
   .
    exact at_ () trivial
  .
   exact at_ () trivial
 .
  refine aj 31 (.d (vI ((dg a).length:Nat))) J (by rw[hla];rfl)<|gx (fu:=⟨2⟩) J<|aj 33 (.d (vI ((dg b).length:Nat))) J (by rw[hlb];rfl)<|gx J<|mk (fu:=⟨8⟩) ((List.replicate ((dg a).length+(dg b).length) 0).map dU) J J (by rw[<-m6];rfl) J<|aj 37 (.d (vI ((dg a).length:Nat))) J (by rw[hla];rfl)<|gx J<|lp (X:=List Nat×Nat) (fun⟨W,i⟩=>[(0, .d (dN a)),(1, .d (dN b)),(5, .rw 35),(36, .d (dN a)),(37, .d (vI ((dg a).length:Nat))),(38, .d (vI (i:Nat)))]) (fun⟨W,i⟩=>[(35,some (.b 208 1 (W.map dU) true))]) (fun⟨W,i⟩=>W.length=(dg a).length+(dg b).length/\bD W/\i<=(dg a).length/\dv (W.take (i+(dg b).length))=dv ((dg a).take i)*b) (fun⟨W,i⟩=>(dg a).length-i) ⟨List.replicate ((dg a).length+(dg b).length) 0,0⟩ J ⟨by simp, .replicate _,by omega,by rw[qV,wM];simp[dv]⟩ (fun _=>J) (fun⟨W,i⟩ hk=>?_);dsimp only at hk⊢;obtain⟨h1,h2,h3,h4⟩:=hk;refine br J J J (fun hc39=>?_) (fun hc39=>?_)
  .
   refine ix (fu:=⟨15⟩) _ J (ek) J<|aj 44 (.d (vI ((dg b).length:Nat))) J (by rw[hlb];rfl)<|gx J<|lp (X:=List Nat×Nat×Nat) (fun⟨W2,c,k⟩=>[(0, .d (dN a)),(1, .d (dN b)),(5, .rw 35),(6, .d (vI (i:Nat))),(7, .d (dU ((dg a).getD i 0))),(8, .d (.v (.int .u64 (c:Nat)))),(36, .d (dN a)),(37, .d (vI ((dg a).length:Nat))),(38, .d (vI (i:Nat))),(43, .d (dN b)),(44, .d (vI ((dg b).length:Nat))),(45, .d (vI (k:Nat)))]) (fun⟨W2,c,k⟩=>[(35,some (.b 208 1 (W2.map dU) true))]) (fun⟨W2,c,k⟩=>W2.length=(dg a).length+(dg b).length/\bD W2/\c<4294967296/\k<=(dg b).length/\dv (W2.take (i+(dg b).length))+4294967296^(i+k)*c=dv ((dg a).take i)*b+(dg a).getD i 0*(4294967296^i*dv ((dg b).take k))) (fun⟨W2,c,k⟩=>(dg b).length-k) ⟨W,0,0⟩ J ⟨h1,h2,by omega,by omega,by rw[h4];simp[dv]⟩ (fun _=>J) (fun⟨W2,c,k⟩ hk=>?_);dsimp only at hk⊢;obtain⟨g1,g2,g3,g4,g5⟩:=hk;have hlw:=bO W2;have hw:=g2.get (i+k);have hda:=dG a i;have hdb:=dG b k;refine br (fu2:=⟨10⟩) J J J (fun hc46=>?_) (fun hc46=>?_)
   .
    refine ix (fu:=⟨12⟩) (hv:=by simp only[ak];exact⟨⟨by omega,by omega⟩,⟨(Bv _ _),(z8 (dG _ _) (dG _ _))⟩⟩) _ J (ek) J<|?_;obtain⟨p,hp⟩: ∃p,p=(dg a).getD i 0*(dg b).getD k 0:=⟨_,rfl⟩;have hp1:p<=18446744065119617025:=hp▸CQ hda hdb;refine aj 54 (.d (.v (.int .u64 (p:Nat)))) J (by rw[hp,iL])<|gx J<|lb (fu:=⟨4⟩) _ J (cD (k:=i+k)) J<|?_;obtain⟨t,ht⟩: ∃t,t=p+W2.getD (i+k) 0+c:=⟨_,rfl⟩;refine aj 64 (.d (.v (.int .u64 (t:Nat)))) J (by congr 3;omega)<|gx (fu:=⟨11⟩) J<|aj 70 (.d (dU (t%4294967296))) J (by show FX.d (.v (.int _ _))= .d (.v (.int _ _));congr 3)<|gx J<|sb (fu:=⟨5⟩) (hv:=by simp only[ak];exact(by decide)) _ ((W2.set (i+k) (t%4294967296)).map dU) J (cD (k:=i+k)) J (by(rw[show((i:Int)+k).toNat=i+k by omega,<-jt])<;>rfl) J<|aj 73 (.d (.v (.int .u64 (t/4294967296:Nat)))) J (by rw[oB])<|gx J<|at_ ⟨W2.set (i+k) (t%4294967296),t/4294967296,k+1⟩ (by dsimp only;exact⟨⟨by simpa using g1,g2.set _ (by omega),by omega,by omega,by rw[n4];exact QJ (by omega) (by omega) g5 ht hp⟩,(by omega)⟩)
   .
    obtain rfl:k=(dg b).length:=by omega
    refine aj 78 (.d (vI ((dg b).length:Nat))) J (by rw[hlb];rfl)<|gx (fu:=⟨3⟩) J<|aj 81 (.d (dU c)) J (by show FX.d (.v (.int _ _))= .d (.v (.int _ _));congr 3;omega)<|gx J<|sb _ ((W2.set (i+(dg b).length) c).map dU) J (cD (k:=i+(dg b).length)) J (by(rw[show((i:Int)+((dg b).length:Nat)).toNat=i+(dg b).length by omega,<-jt])<;>rfl) J<|at_ ⟨W2.set (i+(dg b).length) c,i+1⟩ (by dsimp only;exact⟨⟨by simpa using g1,g2.set _ g3,by omega,OZ J (by omega) g5⟩,(by omega)⟩)
  .
   obtain rfl:i=(dg a).length:=by omega
   refine fz 35 J J<|cl J (qI (ds:=W)) J<|rz J (kC h2 (by have:=h4;rw[km,km,c8] at this;exact this))
def FF(x s:Nat):x*2^s=x*2^s%4294967296+4294967296*(x*2^s/4294967296):=by omega
def Ph(hx:x<4294967296)(hs:s<32):x*2^s/4294967296<2^s:=by
 rw[kJ (by decide),cK (2^s)];exact nU hx (bW _) (gQ (by decide))
def Ip(hs:s<32):2^s*2^(32-s)=4294967296:=by rw[<-fZ,show s+(32-s)=32 by omega]
def Wl(x s:Nat)(hs:s<32):x*2^s%4294967296=x%2^(32-s)*2^s:=by
 rw[<-Ip hs,cK (2^s),Nat.mul_mod_mul_right]
def Kn(hx:x<4294967296)(hs:s<32):x*2^s<18446744073709551616:=by
 have h1:2^s<=2^31:=bY (by decide) (by omega);have:=nU hx h1 (by decide);omega
def Mb(hw:w<2^s)(hs:s<32):(BitVec.ofInt 32 (w:Int) ||| BitVec.ofInt 32 ((x*2^s%4294967296:Nat):Int)).toNat=w+x*2^s%4294967296:=by
 rw[Wl x s hs];refine pE 32 _ _ _ hw ?_;have h1:x%2^(32-s)+1<=2^(32-s):=dK _ (gQ (by decide));have h2:=bS (2^s) h1;rw[cK (2^(32-s)),Ip hs,dY,nJ] at h2;show _<4294967296;omega
def Zn(hh:h<4294967296):(BitVec.ofInt 32 ((0:Nat):Int) ||| BitVec.ofInt 32 (h:Int)).toNat=h:=by
 have:=pE 32 0 h 0 (by decide) (by simpa using hh);simpa using this
def Hj(k:Nat):2^k=4294967296^(k/32)*2^(k%32):=by
 rw[show(4294967296:Nat)=2^32 from J,<-tN,<-fZ,qN]
def getD_set_ne(h:i≠j:=by omega):(W.set i d).getD j 0=W.getD j 0:=by
 rw[aV,aV,List.getElem?_set_ne h]
def AC(h:i<W.length):(W.set i d).getD i 0=d:=by
 rw[aV,sX h];rfl
def Le{A W:List Nat}{k q s i x:Nat}(hq:q=k/32)(hs:s=k%32)(hl:q+i+1<W.length)(hx:x=A.getD i 0)
  (h:dv (W.take (q+i+1))=dv (A.take i)*2^k):
  dv (((W.set (q+i) (W.getD (q+i) 0+x*2^s%4294967296)).set (q+i+1) (x*2^s/4294967296)).take (q+(i+1)+1))=dv (A.take (i+1))*2^k:=by
 have e1:=P2 (W:=W) (j:=q+i) (m:=q+i+1) (d:=W.getD (q+i) 0+x*2^s%4294967296) (by omega) (by omega);rw[show q+(i+1)+1=q+i+1+1 by omega,vV (by rw[bQ];omega),n4 A,<-hx];have e2:dv ((W.set (q+i) (W.getD (q+i) 0+x*2^s%4294967296)).take (q+i+1))=dv (A.take i)*2^k+4294967296^(q+i)*(x*2^s%4294967296):=by
  rw[fQ,h] at e1;omega
 rw[e2,gT,cW,lX,<-fQ,<-FF,dY,Hj k,<-hq,<-hs,fZ];simp only[cW,mT,cK]
def EY[ha:BN a ia](hk:k<=1000000000)(hi:ia<=1000000000:=by decide):PF GB prog 244 [dN a,vI (k:Nat)] (dN (a*2^k)):=by
 have hla:=bO (dg a);have hba:=ud ha.h hi;refine fn (fu:=⟨9⟩) func244 J J ntmps244 J J (fun C=>?_);refine aj 11 (.d (vI (k/32:Nat))) J (by show FX.d (.v (.int _ _))= .d (.v (.int _ _));rw[Bd hk])<|gx (fu:=⟨2⟩) J<|aj 13 (.d (vI ((dg a).length:Nat))) J (by rw[hla];rfl)<|gx (fu:=⟨2⟩) J<|aj 15 (.d (vI (k/32+(dg a).length+1:Nat))) J (by show FX.d (.v (.int _ _))= .d (.v (.int _ _));congr 3)<|gx J<|mk (fu:=⟨7⟩) (hv:=by simp only[ak];exact(by decide)) ((List.replicate (k/32+(dg a).length+1) 0).map dU) J J (by rw[<-m6];rfl) J<|aj 18 (.d (vI (k%32:Nat))) J (by show FX.d (.v (.int _ _))= .d (.v (.int _ _));rw[R7])<|gx (fu:=⟨9⟩) J<|aj 21 (.d (vI ((dg a).length:Nat))) J (by rw[hla];rfl)<|gx J<|lp (X:=List Nat×Nat) (fun⟨W,i⟩=>[(0, .d (dN a)),(1, .d (vI (k:Nat))),(5, .rw 16),(6, .d (.v (.int .u64 (k%32:Nat)))),(20, .d (dN a)),(21, .d (vI ((dg a).length:Nat))),(22, .d (vI (i:Nat)))]) (fun⟨W,i⟩=>[(16,some (.b 208 1 (W.map dU) true))]) (fun⟨W,i⟩=>W.length=k/32+(dg a).length+1/\bD W/\i<=(dg a).length/\dv (W.take (k/32+i+1))=dv ((dg a).take i)*2^k/\W.getD (k/32+i) 0<2^(k%32)/\ ∀j,k/32+i<j->W.getD j 0=0) (fun⟨W,i⟩=>(dg a).length-i) ⟨List.replicate (k/32+(dg a).length+1) 0,0⟩ J ⟨by simp, .replicate _,by omega,by rw[qV,wM];simp[dv],by rw[Dt];exact gQ (by decide),fun j _=>Dt _ _⟩ (fun _=>J) (fun⟨W,i⟩ hk=>?_);dsimp only at hk⊢;obtain⟨h1,h2,h3,h4,h5,h6⟩:=hk;have hlw:=bO W;have hda:=dG a i;have hsk:k%32<32:=dK _ (by decide);have hpp:2^(k%32)<=2^31:=bY (by decide) (by omega);refine br J J J (fun hc23=>?_) (fun hc23=>?_)
 .
  refine ix (fu:=⟨11⟩) (hv:=by simp only[ak];exact⟨by omega,(by omega)⟩) _ J (ek) J<|?_;have hhi:=Ph hda hsk;have hfit0:=Kn hda hsk;have hor:=Mb (x:=(dg a).getD i 0) h5 hsk;have hfit:W.getD (k/32+i) 0+(dg a).getD i 0*2^(k%32)%4294967296<4294967296:=by rw[<-hor];exact BitVec.isLt _
  have hlp:=FF ((dg a).getD i 0) (k%32);refine aj 30 (.d (.v (.int .u64 ((dg a).getD i 0*2^(k%32):Nat)))) J (by show FX.d (.v (.int _ _))= .d (.v (.int _ _));rw[po _ (k%32) (by omega) hfit0]) ?_;obtain⟨t,ht⟩: ∃t,t=(dg a).getD i 0*2^(k%32):=⟨_,rfl⟩;simp only[<-ht] at hhi hfit0 hor hfit hlp;rw[<-ht];refine gx (fu:=⟨8⟩) J<|aj 33 (.d (vI (k/32:Nat))) J (by show FX.d (.v (.int _ _))= .d (.v (.int _ _));rw[Bd hk])<|gx J<|lb (fu:=⟨2⟩) _ J (cD (k:=k/32+i)) J<|aj 39 (.d (dU (t%4294967296))) J (by show FX.d (.v (.int _ _))= .d (.v (.int _ _));congr 3)<|gx (fu:=⟨1⟩) J<|aj 40 _ J (congrArg (fun z:Nat=>FX.d (.v (.int .u32 (z:Int)))) hor)<|gx J<|sb (fu:=⟨6⟩) _ ((W.set (k/32+i) (W.getD (k/32+i) 0+t%4294967296)).map dU) J (cD (k:=k/32+i)) J (by(rw[show(((k/32:Nat):Int)+i).toNat=k/32+i by omega];simp only[jW];rfl)<;>rfl) J<|aj 44 (.d (vI (k/32:Nat))) J (by show FX.d (.v (.int _ _))= .d (.v (.int _ _));rw[Bd hk])<|gx J<|lb (fu:=⟨0⟩) _ J (cD (k:=k/32+i+1) (by omega) (by rw[bQ];omega)) J<|aj 49 (.d (dU 0)) J (by rw[getD_set_ne,h6 _ (by omega)])<|gx (fu:=⟨2⟩) (hv:=by simp only[ak];exact(by decide)) J<|aj 51 (.d (.v (.int .u64 (t/4294967296:Nat)))) J (by rw[oB])<|gx (fu:=⟨1⟩) J<|aj 52 (.d (dU (t/4294967296))) J (by show FX.d (.v (.int _ _))= .d (.v (.int _ _));congr 3;omega)<|gx (fu:=⟨1⟩) J<|aj 53 _ J (congrArg (fun z:Nat=>FX.d (.v (.int .u32 (z:Int)))) (Zn (by omega)))<|gx J<|sb _ (((W.set (k/32+i) (W.getD (k/32+i) 0+t%4294967296)).set (k/32+i+1) (t/4294967296)).map dU) J (cD (k:=k/32+i+1) (by omega) (by rw[bQ];omega)) J (by(rw[show(((k/32:Nat):Int)+i+1).toNat=k/32+i+1 by omega];simp only[jW];rfl)<;>rfl) J<|at_ ⟨(W.set (k/32+i) (W.getD (k/32+i) 0+t%4294967296)).set (k/32+i+1) (t/4294967296),i+1⟩ (by dsimp only;exact⟨⟨by simpa using h1,(h2.set _ hfit).set _ (by omega),by omega,by have q:=Le (x:=(dg a).getD i 0) J J (by omega) J h4;rw[<-ht] at q;exact q,by rw[show k/32+(i+1)=k/32+i+1 by omega,AC (by simp;omega)];exact hhi,fun j hj=>by rw[getD_set_ne,getD_set_ne];exact h6 j (by omega)⟩,(by omega)⟩)
 .
  obtain rfl:i=(dg a).length:=by omega
  refine fz 16 J J<|cl J (qI (ds:=W)) J<|rz J (kC h2 (by have:=h4;rw[km,km,c8] at this;exact this))
def Tm(h:(dg a).length<=k/32):a/2^k=0:=by
 refine mW ?_;have h1:=l7 (gi a);rw[c8] at h1;have h2:4294967296^(dg a).length<=4294967296^(k/32):=bY (by decide) h;have h3:4294967296^(k/32)*1<=4294967296^(k/32)*2^(k%32):=fR _ (gQ (by decide));rw[Hj k];omega
def JL(h:bD ds)(q:Nat):dv (ds.drop q)=dv ds/4294967296^q:=by
 rcases jK ds.length q with hq|hq
 .rw[jZ (by omega)]
  have h1:=l7 h;have h2:4294967296^ds.length<=4294967296^q:=bY (by decide) (by omega);rw[mW (by omega)];rfl
 .have e:=A9 ds q hq
  have h1:=l7 (h.take q);rw[bT,jN hq] at h1;rw[e,pU _ _ (gQ (by decide)),mW h1,eJ]
def C0(h:bD ds)(i:Nat):dv ds/4294967296^i=ds.getD i 0+4294967296*ds.getD (i+1) 0+18446744073709551616*(dv ds/4294967296^(i+2)):=by
 have e0:=JL h i;have e2:=JL h (i+2);rw[<-e0,<-e2];have g0:ds.getD i 0=(ds.drop i).getD 0 0:=by rw[aV,aV,mK];rfl
 have g1:ds.getD (i+1) 0=(ds.drop i).getD 1 0:=by rw[aV,aV,mK]
 have g2:ds.drop (i+2)=(ds.drop i).drop 2:=by rw[List.drop_drop]
 rw[g0,g1,g2]
 match ds.drop i with
 |[]=>rfl
 |[u]=>simp[dv]
 |u::v::t=>simp only[dv,qW,oW,tV,iX];omega
def Nj{D v Z:Nat}(hs:s<32)(hZ:D/4294967296^i=u+4294967296*v+18446744073709551616*Z)(hw:w=(u+v*4294967296)/2^s%4294967296):(D/2^s)%4294967296^(i+1)=(D/2^s)%4294967296^i+4294967296^i*w:=by
 rw[gT,Nat.mod_mul];congr 2;rw[sJ,cK (2^s),<-sJ,hZ,hw];have h1:18446744073709551616=2^s*(2^(32-s)*4294967296):=by rw[<-cW,Ip hs]
 rw[h1,cW (2^s),pU _ _ (gQ (by decide)),cK v];rw[cK (2^(32-s)),cW,qZ]
def avq(hq:q=k/32)(hs:s=k%32)(hl:W.length=(dg a).length-q)(h:dv (W.take ((dg a).length-q))=(dv ((dg a).drop q)/2^s)%4294967296^((dg a).length-q)):dv W=a/2^k:=by
 rw[km] at h;have h1:=l7 ((gi a).drop q);rw[gV] at h1;have h2:=mM (dv ((dg a).drop q)) (2^s);rw[h,kZ (by omega),JL (gi a),c8,Hj k,<-hq,<-hs,sJ]
def V3[ha:BN a ia](hk:k<=1000000000)(hi:ia<=1000000000:=by decide):PF GB prog 245 [dN a,vI (k:Nat)] (dN (a/2^k)):=by
 have hla:=bO (dg a);have hba:=ud ha.h hi;refine fn (fu:=⟨10⟩) func245 J J ntmps245 J J (fun C=>?_);refine aj 12 (.d (vI (k/32:Nat))) J (by show FX.d (.v (.int _ _))= .d (.v (.int _ _));rw[Bd hk])<|gx (fu:=⟨2⟩) J<|aj 14 (.d (vI ((dg a).length:Nat))) J (by rw[hla];rfl)<|gx J<|br (fu2:=⟨6⟩) (v2:=fun _=>by simp only[ak];exact(by decide)) J J J (fun hc15=>?_) (fun hc15=>?_)
 .
  exact rz J (by rw[Tm (by omega),l9];rfl)
 .
  refine aj 17 (.d (vI (k%32:Nat))) J (by show FX.d (.v (.int _ _))= .d (.v (.int _ _));rw[R7])<|gx (fu:=⟨9⟩) J<|aj 21 (.d (vI (k/32:Nat))) J (by show FX.d (.v (.int _ _))= .d (.v (.int _ _));rw[Bd hk])<|gx J<|kn (fu:=⟨0⟩) (k/32) (dg a).length _ J J (by rw[hla]) J (rE _) (by omega) (by omega) J<|?_;obtain⟨I,hI⟩: ∃I,I=(dg a).drop (k/32):=⟨_,rfl⟩;have hIl:I.length=(dg a).length-k/32:=by rw[hI,gV]
  have hIm:=bO I;have hIo:bD I:=hI▸(gi a).drop _;refine aj 22 (.d (dk I)) J (by show FX.d (.sl _)= .d (.sl _);rw[hI,<-hla,cS,iN])<|gx (fu:=⟨7⟩) J<|aj 24 (.d (vI (I.length:Nat))) J (by rw[hIm];rfl)<|gx J<|mk (fu:=⟨8⟩) ((List.replicate I.length 0).map dU) J J (by rw[<-m6];rfl) J<|aj 27 (.d (vI (I.length:Nat))) J (by rw[hIm];rfl)<|gx J<|lp (X:=List Nat×Nat) (fun⟨W,i⟩=>[(0, .d (dN a)),(5, .d (.v (.int .u64 (k%32:Nat)))),(6, .d (dk I)),(7, .rw 25),(26, .d (dk I)),(27, .d (vI (I.length:Nat))),(28, .d (vI (i:Nat)))]) (fun⟨W,i⟩=>[(25,some (.b 208 1 (W.map dU) true))]) (fun⟨W,i⟩=>W.length=I.length/\bD W/\i<=I.length/\dv (W.take i)=(dv I/2^(k%32))%4294967296^i) (fun⟨W,i⟩=>I.length-i) ⟨List.replicate I.length 0,0⟩ J ⟨by simp, .replicate _,by omega,by simp[dv,Nat.mod_one]⟩ (fun _=>J) (fun⟨W,i⟩ hk=>?_);dsimp only at hk⊢;obtain⟨h1,h2,h3,h4⟩:=hk;have hlw:=bO W;have hda:=hIo.get i;have hdb:=hIo.get (i+1);have hsk:k%32<32:=dK _ (by decide);refine br J J J (fun hc29=>?_) (fun hc29=>?_)
  .
   refine ix (fu:=⟨13⟩) _ J (ek) J<|mg (fu:=⟨6⟩) (hv:=fun _ _=>by simp only[ak];exact(by omega)) (X:=Unit) (fun _=>[(0, .d (dN a)),(5, .d (.v (.int .u64 (k%32:Nat)))),(6, .d (dk I)),(7, .rw 25),(26, .d (dk I)),(27, .d (vI (I.length:Nat))),(28, .d (vI (i:Nat))),(8, .d (vI (i:Nat))),(10, .d (.v (.int .u64 (I.getD i 0+I.getD (i+1) 0*4294967296:Nat))))]) (fun _=>[(25,some (.b 208 1 (W.map dU) true))]) (fun _=>True) [0,5,6,7,26,27,28,8,10] [25] rfl ?_ (fun _=>J) (fun _ hm=>?_)
   .
    refine gx (fu:=⟨6⟩) J<|aj 38 (.d (vI (I.length:Nat))) J (by rw[hIm];rfl)<|gx J<|br J J J (fun hc39=>?_) (fun hc39=>?_)
    .
     refine ix (fu:=⟨3⟩) (hv:=by simp only[ak];exact⟨by omega,(by decide)⟩) _ J (cD (k:=i+1)) J<|aj 47 (.d (.v (.int .u64 (I.getD (i+1) 0*4294967296:Nat)))) J (by show FX.d (.v (.int _ _))= .d (.v (.int _ _));rw[po _ 32 (by decide) (by show _*4294967296<_;omega) J])<|gx (fu:=⟨1⟩) J<|aj 48 _ J (congrArg (fun z:Nat=>FX.d (.v (.int .u64 (z:Int)))) (pE 64 (I.getD i 0) (I.getD (i+1) 0) 32 hda (by show _+_*4294967296<18446744073709551616;omega)))<|gx J<|at_ () trivial
    .
     refine aj 10 (.d (.v (.int .u64 (I.getD i 0+I.getD (i+1) 0*4294967296:Nat)))) J (by rw[pp (by omega:I.length<=i+1),kK,gJ])<|at_ () trivial
   .
    refine aj 53 (.d (.v (.int .u64 ((I.getD i 0+I.getD (i+1) 0*4294967296)/2^(k%32):Nat)))) J (by show FX.d (.v (.int _ _))= .d (.v (.int _ _));rw[Qu _ (k%32)])<|gx (fu:=⟨1⟩) J<|?_;obtain⟨w,hw⟩: ∃w,w=(I.getD i 0+I.getD (i+1) 0*4294967296)/2^(k%32)%4294967296:=⟨_,rfl⟩;have hw1:w<4294967296:=hw▸dK _ (by decide);refine aj 54 (.d (dU w)) J (by show FX.d (.v (.int _ _))= .d (.v (.int _ _));rw[hw];congr 3)<|gx J<|sb _ ((W.set i w).map dU) J (ek) J (by(rw[<-jt];rfl)<;>rfl) J<|at_ ⟨W.set i w,i+1⟩ (by dsimp only;exact⟨⟨by simpa using h1,h2.set _ (by omega),by omega,by rw[vV,h4];exact(Nj hsk (C0 hIo i) hw).symm⟩,(by omega)⟩)
  .
   refine fz 25 rfl rfl<|cl rfl (qI (ds:=W)) rfl<|rz rfl (kC h2 (by obtain rfl:i=I.length:=(by omega);rw[hIl] at h1 h4;rw[hI] at h4;exact avq rfl rfl h1 h4))
def AT(h:a<4294967296^k):(dg a).length<=k:=by
 rcases jK k (dg a).length with q|q
 .have h1:=wJ (fI a).2.2 (by intro e;rw[e] at q;simp at q)
  rw[c8] at h1;have h2:4294967296^k<=4294967296^((dg a).length-1):=bY (by decide) (by omega);omega
 .exact q
def ayi(h:(dg a).length=2):(dg a).getD 0 0+(dg a).getD 1 0*4294967296=a:=by
 have e:=c8 a;revert e
 match dg a,h with
 |[x,y],_=>intro e;simp[dv] at e⊢;omega
def Bp(a:Nat):DV:= .tp [.v (.int .u64 ((if a<18446744073709551616 then a else 0:Nat):Int)),vB (decide (a<18446744073709551616))]
def SK(h:a<18446744073709551616:=by omega):Bp a= .tp [.v (.int .u64 (a:Int)),vB true]:=by unfold Bp;rw[if_pos h,decide_eq_true h]
def ayP(h: ¬a<18446744073709551616):Bp a= .tp [.v (.int .u64 0),vB false]:=by unfold Bp;rw[if_neg h,decide_eq_false h];rfl
def r4(a:Nat):a<4294967296^(dg a).length:=by have:=l7 (gi a);rwa [c8] at this
def CX{a ia:Nat}[ha:BN a ia](hi:ia<=1000000000:=by decide):PF GB prog 176 [dN a] (Bp a):=by
 have hla:=bO (dg a);have hba:=ud ha.h hi;have hlt:=r4 a;have hd00:=dG a 0;refine fn (fu:=⟨11⟩) func176 J J ntmps176 J J (fun C=>?_);refine aj 5 (.d (vI ((dg a).length:Nat))) J (by rw[hla];rfl)<|gx J<|br J J J (fun hc6=>?_) (fun hc6=>?_)
 .
  exact rz rfl (by rw[show(dg a).length=0 by omega] at hlt;obtain rfl:a=0:=(by omega);rfl)
 .
  refine br J J J (fun hc8=>?_) (fun hc8=>?_)
  .
   refine ix (fu:=⟨2⟩) _ J (cD (k:=0) J (by omega)) J<|aj 13 (.d (.v (.int .u64 (a:Nat)))) J (by rw[vt])<|gx J<|rz J (by rw[show(dg a).length=1 by omega] at hlt;rw[SK,<-vt (a:=a),vt (a:=a)];rfl)
  .
   refine br J J J (fun hc14=>?_) (fun hc14=>?_)
   .
    have hd0:=dG a 0;have hd1:=dG a 1;refine ix (hv:=by simp only[ak];exact⟨by omega,(by decide)⟩) _ J (cD (k:=1) J (by omega)) J<|ix (fu:=⟨3⟩) _ J (cD (k:=0) J (by omega)) J<|aj 25 (.d (.v (.int .u64 (a:Nat)))) J (congrArg (fun z:Nat=>FX.d (.v (.int .u64 (z:Int)))) (by rw[po _ 32 (by decide) (by show _*4294967296<_;omega) J,BitVec.or_comm];exact(pE 64 ((dg a).getD 0 0) ((dg a).getD 1 0) 32 hd0 (by show _+_*4294967296<18446744073709551616;omega)).trans (ayi (by omega))))<|gx J<|rz J (by rw[show(dg a).length=2 by omega] at hlt;rw[SK];rfl)
   .
    exact rz rfl (by rw[ayP];rfl;intro h;have:=AT (a:=a) (k:=2) (by omega);omega)
section
variable {C:aF}{Q0:Exit->Act->World->Prop}{fr fr':aC}{own own':aI}{cf cf':Cf}{vc:List Prop}
def PR(GB:Gh)(P:Program)(f:FuncId)(ds:List DV)(s:Nat)(ty:TypeId)(rows:List DV):Prop:=
 ∀G vs,bI GB G->IsLs G ds vs->gt P f vs [] G (fun v own' G'=> ∃w:SV,v= .slice w.a w.n w.c/\dw G' ⟨w,s,ty,rows,true⟩ own')
def Na: ∀(l:List aA),(∀o∈l,o.lo=true)->l.map (relo (fC []))=l
 |[],_=>rfl
 |a::t,h=>by
  have h1:=h a aQ;rw[bU,Na t fun o ho=>h o (aJ _ ho)];congr 1
  cases a
  simp[relo,fC] at*;exact h1
def azj{lk:LK}{bk:BM}{fo:Operand}{args:Array Operand}{tys:Array TypeId}{ds:List DV}{pos:String}{af:Array Edge}{gd:Option (Nat×Bool)}
  (ha:uA lk fo args=some (f,ds))(hF:PR GB prog f ds s ty2 rows):b7 prog GB C n lk bk ⟨some d, .call ⟨.value fo,args,tys⟩,ty,pos,af,gd⟩ (.rw d) [(d,some (.b ty2 s rows true))] [d]:=by
 intro hd tl tb K' s1 s2 hf hk;refine⟨fun ρ G ov a w r Q=>?_⟩;have r1:=r.mono s1 s2;obtain⟨h1,h2⟩:=D1 ha;obtain⟨y,hy,hy'⟩:=r1.ev h1;rw[(aH (G:=G)).1 hy'] at hy;obtain⟨vs,h3,h4⟩:=r1.evDs h2;refine uu (M:=[]) (rest:=ov) hy h3 (List.Perm.refl _) (hF G vs r.gb h4) hd (fun v own1 G' hG hK a' w' rl=>?_) a w Q ⟨r.h,r.sz,cB a,r.df⟩;obtain⟨z,rfl,vs',k1,k2,k3,k4⟩:=hK;rw[Na _ (k4 J)] at rl;have rl':gq C n (Sx.put (co a) (some d) (.slice z.a z.n z.c)) (own1++ov) G' a' w':=rl;have hdis:=(fS.1 rl'.h.nd).2.2;have r3:=r.new' (x:=z) (B':= .b ty2 s rows true) (os:=own1) (ov':=own1++ov) (f:= .rw d) (y:= .slice z.a z.n z.c) hf hG.le rl'.h ⟨vs',by simpa using k1,k2,k3,k4⟩ (fun o ho=>bR _ ho)
  (fun q B0 hq e o ho hbq=>⟨bV _ ho,fun hc=>by
   have hx: ∃o1∈own1,o1.b=o.b:=by
    rcases k1 with⟨_,h,_⟩|⟨b0,rest0,lo0,h,hB,_⟩
    .rw[show z=_ from h] at hc;cases hc
    .rw[show z=_ from h] at hc;cases hc;exact⟨⟨_,aE vs'++rest0,_,lo0⟩,by rw[hB];exact aQ,J⟩
   obtain⟨o1,ho1,he1⟩:=hx;exact hdis o1 ho1 o ho he1⟩) (by simp[bP]) (jb rl')
 exact hk.run _ G' _ a' w' r3
def Ll(fr:aC)(cf:Cf):Option (FuncId×List DV×Nat):=match cI fr cf with
 |some ⟨some d, .call ⟨.value fo,args,_⟩,_,_,_,_⟩=>match uA (b9 fr cf) fo args with
  |some (f,ds)=>some (f,ds,d)
  |none=>none
 |_=>none
def cr[fu:Fu]{ds:List DV}(ha:Ll fr cf=some (f,ds,d))(hF:PR GB prog f ds s ty rows)
  (hgo:cH tt n fu.n fr own cf (.rw d) [(d,some (.b ty s rows true))] [d]=⟨vc,fr',own',cf'⟩)(k:av prog GB C n Q0 fr' own' cf')
  (hv:autoParam (ak vc) fn._auto_1):av prog GB C n Q0 fr own cf:=by
 unfold Ll at ha;split at ha<;>try (cases ha;done)
 rename_i hh;split at ha<;>cases ha;rename_i h1;exact us hh (azj h1 hF) hgo hv k
def Cj(C:aF)(s:Nat)(ty:TypeId)(rows:List DV):Ending->World->Prop:=qj C (fun v own' G'=> ∃w:SV,v= .slice w.a w.n w.c/\dw G' ⟨w,s,ty,rows,true⟩ own')
def JB[fu:Fu]{c:Code}{ds:List DV}(hf:prog.funcs[f]? =some fb)(hb:fb.body=some c)(hn:(fb.name== "runtime.NumGoroutine")=false)(hm:fb.ntmps=m)(hlen:Nat.ble ds.length m=true)
  (hgo:go tt m fu.n [] (rx 0 ds) [] (.code c [])=⟨vc,fr,own,cf⟩)(k: ∀C:aF,C.mb=[]->av prog GB C m (eg C prog fb (Cj C s ty rows)) fr own cf)
  (hv:autoParam (ak vc) fn._auto_1):PR GB prog f ds s ty rows:=by
 intro G vs hg hvs;refine gt.introR hf hb hn hm (by rw[hvs.len];exact hlen) fun C _ hmb hrd hfx=>?_;intro a w rl;refine si hrd ?_;have h:=fB (GB:=GB) (C:=C) (Q0:=eg C prog fb (Cj C s ty rows)) hgo hv (k C (by simpa using hmb));exact h.run (fun _=>⟨none,0,0⟩) G [] a w ⟨hg,rl.h,rl.sz,rl.df,(fun k f e=>ze hvs rl.fr k f e),(fun nm B e=>by cases e),(fun nm nm' B B' e=>by cases e),fun nm p _ _ e=>by rw[hfx] at e;cases e⟩
def RP(hr:fb.results.toList=[.tmp t])(hl:aO fr t=some (.rw d))(hw:bt own d=some (.b ty s rws true))(er:rws=rows):
  av prog GB C n (eg C prog fb (Cj C s ty rows)) fr own (.ex .ret []):=by
 subst er;refine⟨fun ρ G ov a w r=>?_⟩;obtain⟨B,g1,g2⟩:=r.bx _ _ hw;have hB:dw G ⟨ρ d,s,ty,rws,true⟩ B:=g1;obtain⟨rest,hp⟩:=HJ hB g2;obtain⟨y,hy,hy'⟩:=r.ev (x:= .tmp t) (f:= .rw d) hl
 cases (show y=_ from hy')
 exact vQ (C:=C) (n:=n) (fr:=co a) (own:=ov) (G:=G) (vs:=[.slice (ρ d).a (ρ d).n (ρ d).c]) (by rw[hr];exact .tmp hy .nil) (B++rest) B hp (oK _ _) ⟨ρ d,J,hB⟩ a w ⟨r.h,r.sz,cB a,r.df⟩
def aJ8(hr:fb.results.toList=[.tmp t])(hl:aO fr t=some .nl)(er:rows=[]):
  av prog GB C n (eg C prog fb (Cj C s ty rows)) fr own (.ex .ret []):=by
 subst er;refine⟨fun ρ G ov a w r=>?_⟩;obtain⟨y,hy,hy'⟩:=r.ev (x:= .tmp t) (f:= .nl) hl
 cases (show y=_ from hy')
 exact vQ (C:=C) (n:=n) (fr:=co a) (own:=ov) (G:=G) (vs:=[.slice none 0 0]) (by rw[hr];exact .tmp hy .nil) ([]++ov) [] (List.Perm.refl _) (jQ _) ⟨⟨none,0,0⟩,J,[], .inl ⟨J,J,J⟩,ef.2 J,fun v h=>(by cases h),fun _ o h=>(by cases h)⟩ a w ⟨r.h,r.sz,cB a,r.df⟩
end
end Go.Sx
end
