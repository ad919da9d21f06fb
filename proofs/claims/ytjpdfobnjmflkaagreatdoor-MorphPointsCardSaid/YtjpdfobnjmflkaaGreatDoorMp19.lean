import Derived.Test.YtjpdfobnjmflkaaGreatDoorMp18
set_option linter.all false
set_option maxRecDepth 100000
section
namespace Go.Sx
open Go Go.Proofs Tryz
variable {GB:Gh}{C:aG}{n v z p p1 p2 p3 p4 q:aa}{Q0:Exit->Act->World->Prop}{fr fr':aC}{own':aH}{cf cf':Cf}{vc:List Prop}{lk:LK}{bk:BM}{dst:Option Nat}{ty t:TypeId}{pos m:String}{af:Array Edge}{x fo:Operand}{d rv e:DV}{u:Value}{args:Array Operand}{tys:Array TypeId}{f:FuncId}{vs c1 c2:List Value}{a b y w1 w2 w3 w4 low k a' b' c':Rat}{ds ds1 ds2:List DV}{l:ah}{c:ar}{es:List Int}{rs:List (List ZP)}{fill:Int}{D:Nat}{V:List aa}{s:bu}{L:List ah}
section
variable {n:Nat}{own:aH}{gd:Option (Nat×Bool)}
def Ij(t:TypeId):Prop:= ∀(x:Value) w,(Instr.makeInterface t x).run prog w= .ok (.iface t x) w
def DQ(t:TypeId)(u:Value)(m:String)(f:FuncId):Prop:= ∀w,(method (prog.types.size+Made.depth) t u m).run prog w= .ok (f,u) w
def XS(ht:Ij t)(hx:evD lk x=some d)(hd: ∀G y,Is G d y->y=u):bO prog GB C n lk bk ⟨dst, .makeInterface t x,ty,pos,af,gd⟩ (.d (.v (.iface t u))) [] []:=
 bO.yd fun ρ G ov a w r=>by
  obtain⟨y,hy,hy'⟩:=r.evD hx;obtain rfl:=hd G y hy';refine⟨_,(aI (G:=G)).2 J,fun a' w' hf _=>?_⟩;refine c7 (f:=Next.value) ?_;rw[bw hf hy];exact ht _ _
def Xz{fr:Fr}{a:Act}{w:World}(hf:lB fr a)(hx:aD fr x=some (.iface t u))(hv:fC fr args.toList=some vs)(hm:DQ t u m f)(hc:qm prog f):
  (execOp a.eval ⟨dst, .call ⟨.invoke x m,args,tys⟩,ty,pos,af,gd⟩).run prog w= .ok (.enter f ⟨u::vs⟩) w:=by
 have e:args.map a.eval=⟨vs⟩:=by apply Array.ext';simpa using A7 hf hv
 simp only[execOp,resolve,bw hf hx,e];show(invoke (.fn (.method m) #[]) (#[.iface t u]++⟨vs⟩)).run prog w=_;simp only[invoke];have h0:(#[Value.iface t u]++(⟨vs⟩:Array Value))[0]? =some (.iface t u):=by simp
 have h1:(#[Value.iface t u]++(⟨vs⟩:Array Value)).extract 1 (#[Value.iface t u]++(⟨vs⟩:Array Value)).size=⟨vs⟩:=by
  apply Array.ext';simp
 rw[h0,h1];show(callMethod (.iface t u) m ⟨vs⟩).run prog w=_;unfold callMethod;show((do
  let p<-program
  let(g,receiver)<-method (p.types.size+Made.depth) t u m
  callFunc g (#[receiver]++⟨vs⟩)):Sem Next).run prog w=_
 rw[bh (a:=prog) (w':=w) J,bh (hm w)];show(callFunc f (#[u]++⟨vs⟩)).run prog w=_;rw[Dn hc];simp
def aIy(hx:aP lk x=some (.d (.v (.iface t u))))(ha:evDs lk args.toList=some ds)(hm:DQ t u m f)(hF:PF GB prog f (.v u::ds) rv):
  bO prog GB C n lk bk ⟨dst, .call ⟨.invoke x m,args,tys⟩,ty,pos,af,gd⟩ (.d rv) [] []:=by
 intro hd tl tb K' s1 s2 hf hk;refine⟨fun ρ G ov a w r Q=>?_⟩;obtain⟨y,hy,hy'⟩:=(r.mono s1 s2).ev hx;rw[(aI (G:=G)).1 hy'] at hy;obtain⟨vs,h3,h4⟩:=(r.mono s1 s2).evDs ha;have hFn:=hF G (u::vs) r.gb (.cons (aI.2 J) h4);have h2:=Xz (dst:=dst) (ty:=ty) (pos:=pos) (af:=af) (gd:=gd) (tys:=tys) (w:=w) (cI a) hy h3 hm hFn.able;simp only[Oper.wp,h2,Oper.upon];refine(hFn.run w r.h.sub).mono ?_;rintro e w' ⟨v,G',rfl,hh,hK⟩;have rl:ij C n (cC a) ov G a w:=⟨r.h,r.sz,cI a,r.df⟩;have rl2:=(rl.heap (rl.h.called hh)).put v hd;exact hk.run ρ G' ov _ w' ⟨r.gb.trans hh.gle,rl2.h,rl2.sz,rl2.df,(jr rl2).fx (fun k g _ e=>by obtain⟨z,h5,h6⟩:=r.fx k g e;exact⟨z,h5,h6.up hh.gle⟩) hK,
  fun nm B e=>by obtain⟨os,h5,h6⟩:=r.bx nm B e;exact⟨os,h5.up hh.gle,h6⟩,r.dj,r.fxd⟩
def SY(fr:aC)(cf:Cf):Option (TypeId×DV):=match cG fr cf with
 |some ⟨_, .makeInterface t x,_,_,_,_⟩=>match evD (b7 fr cf) x with
  |some d=>some (t,d)
  |none=>none
 |_=>none
def mki[fu:Fu](u:Value)(ha:SY fr cf=some (t,d))(ht:Ij t)(hd: ∀G y,Is G d y->y=u)(hgo:cB tt n fu.n fr own cf (.d (.v (.iface t u))) [] []=⟨vc,fr',own',cf'⟩)(k:av prog GB C n Q0 fr' own' cf')
  (hv:autoParam (ak vc) cL._auto_1):av prog GB C n Q0 fr own cf:=by
 unfold SY at ha;split at ha<;>try (cases ha;done)
 rename_i hh;split at ha<;>cases ha;rename_i hx;exact us hh (XS ht hx hd) hgo hv k
def Qi(fr:aC)(cf:Cf):Option (String×TypeId×Value×List DV):=match cG fr cf with
 |some ⟨_, .call ⟨.invoke x m,args,_⟩,_,_,_,_⟩=>match aP (b7 fr cf) x with
  |some (.d (.v (.iface t u)))=>match evDs (b7 fr cf) args.toList with
   |some ds=>some (m,t,u,ds)
   |none=>none
  |_=>none
 |_=>none
def ivk[fu:Fu](ha:Qi fr cf=some (m,t,u,ds))(hm:DQ t u m f)(hF:PF GB prog f (.v u::ds) rv)(hgo:cB tt n fu.n fr own cf (.d rv) [] []=⟨vc,fr',own',cf'⟩)(k:av prog GB C n Q0 fr' own' cf')
  (hv:autoParam (ak vc) cL._auto_1):av prog GB C n Q0 fr own cf:=by
 unfold Qi at ha;split at ha<;>try (cases ha;done)
 rename_i hh;split at ha<;>try (cases ha;done)
 rename_i hx;split at ha<;>cases ha;rename_i hds;exact us hh (aIy hx hds hm hF) hgo hv k
def PF.arg0(h:PF GB prog f (d::ds) rv)(he: ∀G y,Is G e y->Is G d y):PF GB prog f (e::ds) rv:=fun G vs hg hvs=>by
 obtain⟨y,m,rfl,h1,h2⟩:=bj.1 hvs;exact h G _ hg (.cons (he G y h1) h2)
end
section
variable {n:Nat}{own:aH}{gd:Option (Nat×Bool)}
def aA6(h1:aP lk fo=some (.d (.v (.func (.func f) ⟨c1⟩ ⟨c2⟩))))(h2:evDs lk args.toList=some ds)(hc:IsLs GB ds1 c1)(hc2:IsLs GB ds2 c2)(hF:PF GB prog f (ds1++ds++ds2) rv):
  bO prog GB C n lk bk ⟨dst, .call ⟨.value fo,args,tys⟩,ty,pos,af,gd⟩ (.d rv) [] []:=by
 intro hd tl tb K' s1 s2 hf hk;refine⟨fun ρ G ov a w r Q=>?_⟩;obtain⟨y,hy,hy'⟩:=(r.mono s1 s2).ev h1;rw[(aI (G:=G)).1 hy'] at hy;obtain⟨vs,h3,h4⟩:=(r.mono s1 s2).evDs h2;refine Lj (c1:=c1) (c2:=c2) hy h3 (hF G (c1++vs++c2) r.gb (((hc.up r.gb).app h4).app (hc2.up r.gb))) hd (fun v G' hG hK a' w' rl=>?_) a w Q ⟨r.h,r.sz,cI a,r.df⟩;exact hk.run ρ G' ov a' w' ⟨r.gb.trans hG.le,rl.h,rl.sz,rl.df,(jr rl).fx (fun k g _ e=>by obtain⟨u,h5,h6⟩:=r.fx k g e;exact⟨u,h5,h6.up hG.le⟩) hK,
  fun nm B e=>by obtain⟨os,h5,h6⟩:=r.bx nm B e;exact⟨os,h5.up hG.le,h6⟩,r.dj,r.fxd⟩
def Oy(fr:aC)(cf:Cf):Option (FuncId×List Value×List Value×List DV):=match cG fr cf with
 |some ⟨_, .call ⟨.value fo,args,_⟩,_,_,_,_⟩=>match aP (b7 fr cf) fo,evDs (b7 fr cf) args.toList with
  |some (.d (.v (.func (.func f) ⟨c1⟩ ⟨c2⟩))),some ds=>some (f,c1,c2,ds)
  |_,_=>none
 |_=>none
def cfw[fu:Fu](ha:Oy fr cf=some (f,c1,c2,ds))(hc:IsLs GB ds1 c1)(hc2:IsLs GB ds2 c2)(hF:PF GB prog f (ds1++ds++ds2) rv)(hgo:cB tt n fu.n fr own cf (.d rv) [] []=⟨vc,fr',own',cf'⟩)(k:av prog GB C n Q0 fr' own' cf')
  (hv:autoParam (ak vc) cL._auto_1):av prog GB C n Q0 fr own cf:=by
 unfold Oy at ha;split at ha<;>try (cases ha;done)
 rename_i hh;split at ha<;>cases ha;rename_i h1 h2;exact us hh (aA6 h1 h2 hc hc2 hF) hgo hv k
end
def J8(p q:aa):DV:= .ag [vI (dC p.x),vI (dx p.x),di p.x,vI (dC p.y),vI (dx p.y),di p.y,vI (dC q.x),vI (dx q.x),di q.x,vI (dC q.y),vI (dx q.y),di q.y]
def ptE{n:Nat}{own:aH}{ops:Array Oper}{r:List Oper}{K:List Kt}(k:Nat){l:List DV}(hl:bi fr k=some (.d (.pt l)))(h:av prog GB C n Q0 ((k, .ep l)::fr) own (.ops ops r K)):av prog GB C n Q0 fr own (.ops ops r K):=
 qb hl (fun ρ G y hy=>by
  obtain⟨b,m,rfl,h1,h2⟩:=mo.1 hy;have e:=h2.len;exact⟨b,0,m,m,J,h1,by rw[lD m 0 l.length (by omega),iV,<-e,dQ],h2⟩) h
def cH(v:List aa):List (aa×aa):=(List.range v.length).map fun i=>(v.getD i ⟨0,0⟩,v.getD ((i+1)%v.length) ⟨0,0⟩)



def aLr{α:Type}{f:α->DV}{l:List α}{s:α}(h:l[0]? =some s):(l.map f)[(0:Int).toNat]? =some (f s):=by simp[h]
def LM(c:List ah):(jH c).length<=c.length:=KC c _
theorem V7{c:List ah}(hb: ∀l∈c,LB l): ∀p∈jH c,aE p 1200:=fun p hp=>by
 obtain⟨l,hl,m,hm,rfl⟩:=Zj hp;have:= @aE.imeet l m (hb l hl) (hb m hm);exact⟨this.x.mono (by decide),this.y.mono (by decide)⟩



theorem aE.mono{p:aa}{i j:Nat}(h:aE p i)(hj:i<=j:=by decide):aE p j:=⟨h.x.mono hj,h.y.mono hj⟩

def Lu{n:Int}{d:Nat}(hn:n.natAbs<=1000)(hd:0<d:=by decide)(hd1:d<=1000:=by decide):PF GB prog 18 [vI n, .v (.int .i64 (d:Nat))] (eQ (mkRat n d)):=by
 haveI:BI n 10:=A';haveI:BN d 10:=⟨by omega⟩;refine fn func18 J J ntmps18 J J (fun C=>?_);refine cl J (TS (n:=n)) J<|cl J (uc (u:=d)) J<|cl J (wM (x:=n) (d:=d) hd) J<|rz J J
def qF(es:List Int)(a:Nat):Rat×Nat:=
 (if((au es 6 (au es 9 a).2).1:Int)=0 then mkRat (2*(((au es 9 a).1:Int)-4)+1) 2 else if((au es 6 (au es 9 a).2).1:Int)=1 then mkRat (3*(((au es 9 a).1:Int)-4)+1) 3 else(((au es 9 a).1:Rat)-4:Rat),(au es 6 (au es 9 a).2).2)
theorem Hf{a:Nat}(ha:a<=es.length):BQ (qF es a).1 12/\(qF es a).2<=es.length:=by
 have h1:=dH (es:=es) (n:=9) (a:=a);refine⟨?_,gD (gD ha)⟩;unfold qF;dsimp only;split
 .exact wX (by decide) (by omega)
 .split
  .exact wX (by decide) (by omega)
  .haveI:BI (((au es 9 a).1:Int)-4:Int) 11:=A'
   have e:((((au es 9 a).1:Rat)-4):Rat)=((((au es 9 a).1:Int)-4:Int):Rat):=by rw[gL];rfl
   rw[e];exact inferInstance
def xk(es:List Int)(a:Nat):aa×Nat:=(⟨(qF es a).1,(qF es (qF es a).2).1⟩,(qF es (qF es a).2).2)
theorem aD3{a:Nat}(ha:a<=es.length):aE (xk es a).1 1200/\(xk es a).2<=es.length:=by
 obtain⟨h1,h2⟩:=Hf ha;obtain⟨h3,h4⟩:=Hf h2;exact⟨⟨h1.mono (by decide),h3.mono (by decide)⟩,h4⟩
def q9(z:Nat):(z:Rat)-4=(((z:Int)-4:Int):Rat):=by rw[gL];rfl
def S7{b:Nat}(hes:es.length<=400){a:Nat}(ha:a<=es.length):PM GB prog 76 (jv [none] b) b 84 [.sl (es.map vI), .v (.int .i64 (a:Nat))] (eQ (qF es a).1) [.sl (es.map vI), .v (.int .i64 ((qF es a).2:Nat))]:=by
 have h1:=dH (es:=es) (n:=9) (a:=a);refine vu func76 J J ntmps76 J J (fun C b m lo hmb=>?_);refine cm J (fun b=>(mz (n:=9) hes ha)) J<|cm J (fun b=>(mz (n:=6) hes (gD ha))) J<|br J J J (fun hc9=>?_) (fun hc9=>?_)
 .
  refine cl J (Lu (n:=2*(((au es 9 a).1:Int)-4)+1) (d:=2) (by omega)) J<|?_;exact kH hmb J J (by unfold qF;dsimp only;rw[if_pos hc9];rfl) J
 .
  refine br J J J (fun hc15=>?_) (fun hc15=>?_)
  .
   refine cl J (Lu (n:=3*(((au es 9 a).1:Int)-4)+1) (d:=3) (by omega)) J<|?_;exact kH hmb J J (by unfold qF;dsimp only;rw[if_neg hc9,if_pos hc15];rfl) J
  .
   refine cl J (jl (n:=(((au es 9 a).1:Int)-4)) (by omega) (by omega)) J<|?_;exact kH hmb J J (by unfold qF;dsimp only;rw[if_neg hc9,if_neg hc15,q9];rfl) J
def aza{b:Nat}(hes:es.length<=400){a:Nat}(ha:a<=es.length):PM GB prog 28 (jv [none] b) b 84 [.sl (es.map vI), .v (.int .i64 (a:Nat))] (eP (xk es a).1) [.sl (es.map vI), .v (.int .i64 ((xk es a).2:Nat))]:=by
 refine vu func28 J J ntmps28 J J (fun C b m lo hmb=>?_);refine cm J (fun b=>(S7 hes ha)) J<|cm J (fun b=>(S7 hes (Hf ha).2)) J<|?_;exact kH hmb J J J J



def xV{P:ah->Prop}(hr: ∀l,P l->P l.rev): ∀{t:Tr} {c:ar} {x:Bool×ar},t.all P->(∀s∈c,P s.l)->x∈t.parts c-> ∀s∈x.2,P s.l
 | .leaf b,c,x,_,hc,h=>by
  rw[Tr.parts,aT] at h;subst h;exact hc
 | .node l u v,c,x,ht,hc,h=>by
  have cl: ∀k,P k-> ∀s∈bB c k,P s.l:=fun k hk s hs=>by
   unfold bB at hs;split at hs
   .rcases qr.1 hs with rfl|hs
    .exact hk
    .obtain⟨s0,g,_,rfl⟩:=sr.1 hs
     exact hc s0 g
   .exact hc s hs
  rw[Tr.parts] at h;rcases aL.1 h with h|h
  .split at h
   .exact xV hr ht.2.1 (cl l ht.1) h
   .cases h
  .split at h
   .exact xV hr ht.2.2 (cl l.rev (hr l ht.1)) h
   .cases h





def aAI{u:aa}(hu:u.half≠0)(hv:v.half≠0)(h0:u.cross v=0)(h1:0<u.cross z)(h2:0<v.cross z):u.half=v.half:=by
 have ex:v.x*(u.cross z)=u.x*(v.cross z):=by unfold aa.cross at*;grind
 have ey:v.y*(u.cross z)=u.y*(v.cross z):=by unfold aa.cross at*;grind
 have key: ∀{a b:Rat},a*(u.cross z)=b*(v.cross z)->(0<a↔0<b)/\(a=0↔b=0):=fun{a b} e=>by
  have k1:0<a*(u.cross z)↔0<a:=eD h1;have k2:0<b*(v.cross z)↔0<b:=eD h2;refine⟨by rw[<-k1,<-k2,e],fun h=>?_,fun h=>?_⟩
  .rw[h,Rat.zero_mul] at e
   rcases fV.1 e.symm with q|q
   .exact q
   .grind
  .rw[h,Rat.zero_mul] at e
   rcases fV.1 e with q|q
   .exact q
   .grind
 obtain⟨x1,x2⟩:=key ex;obtain⟨y1,y2⟩:=key ey;have:u.half=1↔v.half=1:=by rw[mj,mj,x1,y1,y2]
 rcases gE hu with a|a<;>rcases gE hv with b|b<;>omega
def aDm{t:Tr}(ht:t.all ah.ok)(h:d8 t p≠0): ∃c∈eH t,gv c p:=by
 have hd:i6 t p true:=Classical.byContradiction fun k=>h ((w7 ht).2 k);obtain⟨w,k1,k2⟩:=AJ hd (gF ht);obtain⟨e,e0,he⟩:=mP k1;obtain⟨o,hv⟩:=he e e0 gS;rw[hv] at k2;obtain⟨b,c,hc,hi⟩:=GO (c:=[]) ht bC.nil (fun s hs=>by cases hs) o;have hb:=((Fd ht bC.nil hc).2 _ hi).2;have:b=true:=by rw[<-hb];exact k2
 subst this;refine⟨c,tc.2 hc,fun s hs=>?_⟩;have hl:s.l∈t.lns\/s.l.rev∈t.lns:=xV (P:=fun l=>l∈t.lns\/l.rev∈t.lns) (fun l h=>h.elim (fun h=> .inr (by rw[KY];exact h)) .inl) (nf.2 fun l hl=> .inl hl) (fun s hs=>by cases hs) hc s hs;have h1:=hi s hs;rw[gi] at h1;apply Classical.byContradiction;intro hn;have hn':s.l.value p<0:=by grind
 -- somewhere on the way it is 0
 have kp:0<s.l.nor.dot w:=(eD (s:=s.l.nor.dot w) (k:=e) e0).1 (by grind);obtain⟨d,hd⟩: ∃d,d= -s.l.value p/s.l.nor.dot w:=⟨_,rfl⟩;have ed:d*s.l.nor.dot w= -s.l.value p:=by rw[hd];generalize s.l.nor.dot w=z at*;grind
 have d0:0<d:=(eD kp).1 (by rw[ed];grind);have d1:d<=e:=by
  have:0<=(e-d)*s.l.nor.dot w:=by grind
  have:=(ip kp).1 this;grind
 have ho:=(he d d0 d1).1;have hz:s.l.value (b8 p w d)=0:=by rw[gi];grind
 rcases hl with hl|hl
 .exact ho _ hl hz
 .exact ho _ hl (by rw[dE,hz];rfl)
def IF(n q p:aa)(e:Rat):n.dot (kg q p e)=n.dot q+e*(n.dot p-n.dot q):=by
 unfold aa.dot kg;grind
def zf(n q u:aa)(e:Rat):n.dot (b8 q u e)=n.dot q+e*n.dot u:=by
 unfold aa.dot b8;grind
structure Li where
 ax:Rat
 ay:Rat
 ac:Rat
def Li.ev(g:Li)(p:aa):Rat:=g.ax*p.x+g.ay*p.y+g.ac
def IC{x:Rat}(h: ¬(x=0/\y=0)):0<x*x+y*y:=by
 have h1:=si x;have h2:=si y;rcases fg (x*x+y*y) with k|k|k
 .exfalso
  refine h ⟨?_,?_⟩
  .have:x*x=0:=by grind
   exact(fV.1 this).elim id id
  .have:y*y=0:=by grind
   exact(fV.1 this).elim id id
 .exact k
 .grind
def V3{a b:aa}(h:a≠b): ¬(b.x-a.x=0/\b.y-a.y=0):=fun k=>h (by
 cases a;cases b
 simp only[aa.mk.injEq] at*;constructor<;>grind)
def div_pos(ha:0<a)(hb:0<b):0<a/b:=by
 have e:a/b*b=a:=by grind
 exact(eD hb).1 (by rw[e];exact ha)
def CW{a b:ZP}(h:a.q=b.q):a=b:=by
 have hx:(a.1:Rat)=(b.1:Rat):=congrArg aa.x h;have hy:(a.2:Rat)=(b.2:Rat):=congrArg aa.y h;exact Prod.ext (by exact_mod_cast hx) (by exact_mod_cast hy)
section
variable {w:aa}{b c:Bool}
end
section
variable {ds:List aa}
end
def ul{c x z:Rat}(ha:0<=a)(hb:0<=b)(hc:0<=c)(hs:0<a+b+c)(hx:0<x)(hy:0<y)(hz:0<z):0<a*x+b*y+c*z:=by
 have h1:=cA ha (cM hx);have h2:=cA hb (cM hy);have h3:=cA hc (cM hz);by_cases k1:0<a
 .have:=bD k1 hx;grind
 .by_cases k2:0<b
  .have:=bD k2 hy;grind
  .have:=bD (show 0<c by grind) hz;grind
def jD(x:Rat):Rat:=if 0<x then x else 0
def wh(x:Rat):0<=jD x:=by unfold jD;split<;>grind
def Ff(x:Rat):jD x-jD (-x)=x:=by unfold jD;split<;>split<;>grind
def Fx(x:Rat):jD x=0\/jD (-x)=0:=by unfold jD;split<;>split<;>grind
def N7{x:Rat}(h:0<x):0<jD x:=by unfold jD;rw[if_pos h];exact h
def wI(w1 w2 w3 w4:Rat)(p1 p2 p3 p4:aa):aa:=⟨(w1*p1.x+w2*p2.x+w3*p3.x+w4*p4.x)*(w1+w2+w3+w4)⁻¹,(w1*p1.y+w2*p2.y+w3*p3.y+w4*p4.y)*(w1+w2+w3+w4)⁻¹⟩
def L'(l:ah)(hs:0<w1+w2+w3+w4)(p1 p2 p3 p4:aa):(w1+w2+w3+w4)*l.value (wI w1 w2 w3 w4 p1 p2 p3 p4)=w1*l.value p1+w2*l.value p2+w3*l.value p3+w4*l.value p4:=by
 have e:(w1+w2+w3+w4)*(w1+w2+w3+w4)⁻¹=1:=Rat.mul_inv_cancel _ (by grind);unfold wI ah.value ah.nor aa.dot;dsimp only;generalize (w1+w2+w3+w4)⁻¹=i at*;grind
def Yi(h:bG p1 p2 p3≠0): ∃r:aa,∀l:ah,((0<l.value p2/\0<l.value p3/\0<l.value p4)\/(0<l.value p1/\0<l.value p3/\0<l.value p4)\/(0<l.value p1/\0<l.value p2/\0<l.value p4)\/(0<l.value p1/\0<l.value p2/\0<l.value p3))->0<l.value r:=by
 obtain⟨u1,e1⟩: ∃u,u=bG p2 p3 p4:=⟨_,rfl⟩;obtain⟨u2,e2⟩: ∃u,u= -bG p1 p3 p4:=⟨_,rfl⟩;obtain⟨u3,e3⟩: ∃u,u=bG p1 p2 p4:=⟨_,rfl⟩;obtain⟨u4,e4⟩: ∃u,u= -bG p1 p2 p3:=⟨_,rfl⟩;have hz:u1+u2+u3+u4=0:=by rw[e1,e2,e3,e4];unfold bG;grind
 have hx:u1*p1.x+u2*p2.x+u3*p3.x+u4*p4.x=0:=by rw[e1,e2,e3,e4];unfold bG;grind
 have hy:u1*p1.y+u2*p2.y+u3*p3.y+u4*p4.y=0:=by rw[e1,e2,e3,e4];unfold bG;grind
 have h4:u4≠0:=by rw[e4];grind
 clear e1 e2 e3 e4 h;have s1:=Ff u1;have s2:=Ff u2;have s3:=Ff u3;have s4:=Ff u4;have a1:=wh u1;have a2:=wh u2;have a3:=wh u3;have a4:=wh u4;have b1:=wh (-u1);have b2:=wh (-u2);have b3:=wh (-u3);have b4:=wh (-u4);have z1:=Fx u1;have z2:=Fx u2;have z3:=Fx u3;have z4:=Fx u4;have c4:0<jD u4+jD (-u4):=by
  rcases fg u4 with k|k|k
  .exact absurd k h4
  .have:=N7 k;grind
  .have:=N7 (show 0< -u4 by grind);grind
 generalize jD u1=v1 at*;generalize jD u2=v2 at*;generalize jD u3=v3 at*;generalize jD u4=v4 at*;generalize jD (-u1)=w1 at*;generalize jD (-u2)=w2 at*;generalize jD (-u3)=w3 at*;generalize jD (-u4)=w4 at*;have hS:v1+v2+v3+v4=w1+w2+w3+w4:=by grind
 have hp:0<v1+v2+v3+v4:=by grind
 have hX:v1*p1.x+v2*p2.x+v3*p3.x+v4*p4.x=w1*p1.x+w2*p2.x+w3*p3.x+w4*p4.x:=by
  rw[<-s1,<-s2,<-s3,<-s4] at hx;grind
 have hY:v1*p1.y+v2*p2.y+v3*p3.y+v4*p4.y=w1*p1.y+w2*p2.y+w3*p3.y+w4*p4.y:=by
  rw[<-s1,<-s2,<-s3,<-s4] at hy;grind
 refine⟨wI v1 v2 v3 v4 p1 p2 p3 p4,fun l hl=>?_⟩;have eq:wI v1 v2 v3 v4 p1 p2 p3 p4=wI w1 w2 w3 w4 p1 p2 p3 p4:=by unfold wI;rw[hX,hY,hS]
 have f1:=L' l hp p1 p2 p3 p4;have f2:=L' l (show 0<w1+w2+w3+w4 by grind) p1 p2 p3 p4;rw[<-eq] at f2;have fin:(0<v1*l.value p1+v2*l.value p2+v3*l.value p3+v4*l.value p4\/0<w1*l.value p1+w2*l.value p2+w3*l.value p3+w4*l.value p4)->0<l.value (wI v1 v2 v3 v4 p1 p2 p3 p4):=fun k=>by
  rcases k with k|k
  .exact(eD hp).1 (by rw[Rat.mul_comm,f1];exact k)
  .exact(eD (show 0<w1+w2+w3+w4 by grind)).1 (by rw[Rat.mul_comm,f2];exact k)
 apply fin;clear f1 f2 fin eq hX hY hx hy;generalize l.value p1=x1 at*;generalize l.value p2=x2 at*;generalize l.value p3=x3 at*;generalize l.value p4=x4 at*;rcases hl with⟨k1,k2,k3⟩|⟨k1,k2,k3⟩|⟨k1,k2,k3⟩|⟨k1,k2,k3⟩
 .rcases z1 with z|z
  .left;have:=ul a2 a3 a4 (by grind) k1 k2 k3;rw[z];grind
  .right;have:=ul b2 b3 b4 (by grind) k1 k2 k3;rw[z];grind
 .rcases z2 with z|z
  .left;have:=ul a1 a3 a4 (by grind) k1 k2 k3;rw[z];grind
  .right;have:=ul b1 b3 b4 (by grind) k1 k2 k3;rw[z];grind
 .rcases z3 with z|z
  .left;have:=ul a1 a2 a4 (by grind) k1 k2 k3;rw[z];grind
  .right;have:=ul b1 b2 b4 (by grind) k1 k2 k3;rw[z];grind
 .rcases z4 with z|z
  .left;have:=ul a1 a2 a3 (by grind) k1 k2 k3;rw[z];grind
  .right;have:=ul b1 b2 b3 (by grind) k1 k2 k3;rw[z];grind
def MN: ∀(n:Nat) (L:List ah),L.length=n->(∀a∈L,∀b∈L,∀d∈L,∃q:aa,0<a.value q/\0<b.value q/\0<d.value q)-> ∃q,f9 L q
 |0,L,hn,_=>⟨⟨0,0⟩,fun m hm=>by rw[cW hn] at hm;cases hm⟩
 |n+1,[],hn,_=>by cases hn
 |n+1,[a],_,h=>by
  obtain⟨q,h1,_⟩:=h a (by simp) a (by simp) a (by simp);exact⟨q,fun m hm=>by rw[aT.1 hm];exact h1⟩
 |n+1,[a,b],_,h=>by
  obtain⟨q,h1,h2,_⟩:=h a (by simp) b (by simp) b (by simp);exact⟨q,fun m hm=>by simp only[aK,eY,or_false] at hm;rcases hm with rfl|rfl<;>assumption⟩
 |n+1,[a,b,d],_,h=>by
  obtain⟨q,h1,h2,h3⟩:=h a (by simp) b (by simp) d (by simp);exact⟨q,fun m hm=>by simp only[aK,eY,or_false] at hm;rcases hm with rfl|rfl|rfl<;>assumption⟩
 |n+1,a::b::d::e::L,hn,h=>by
  have sub: ∀M:List ah,M.length=n->(∀m∈M,m∈a::b::d::e::L)-> ∃q,f9 M q:=fun M hM hs=>MN n M hM fun x hx y hy z hz=>h x (hs x hx) y (hs y hy) z (hs z hz);simp only[aN] at hn;obtain⟨p1,q1⟩:=sub (b::d::e::L) (by simp only[aN];omega) (fun m hm=>by simp only[aK] at hm⊢;grind);obtain⟨p2,q2⟩:=sub (a::d::e::L) (by simp only[aN];omega) (fun m hm=>by simp only[aK] at hm⊢;grind);obtain⟨p3,q3⟩:=sub (a::b::e::L) (by simp only[aN];omega) (fun m hm=>by simp only[aK] at hm⊢;grind);obtain⟨p4,q4⟩:=sub (a::b::d::L) (by simp only[aN];omega) (fun m hm=>by simp only[aK] at hm⊢;grind);by_cases e12:p1=p2
  .refine⟨p1,fun m hm=>?_⟩
   rcases aK.1 hm with rfl|hm
   .rw[e12];exact q2 m (by simp)
   .exact q1 m hm
  .have hN:=IC (V3 e12)
   obtain⟨p3',q3',ho⟩: ∃p3',f9 (a::b::e::L) p3'/\bG p1 p2 p3'≠0:=by
    by_cases k:bG p1 p2 p3=0
    .obtain⟨ep,he,hm⟩:=q3.open ⟨-(p2.y-p1.y),p2.x-p1.x⟩
     refine⟨_,hm ep (cM he) gS,?_⟩;have e:bG p1 p2 (b8 p3 ⟨-(p2.y-p1.y),p2.x-p1.x⟩ ep)=bG p1 p2 p3+ep*((p2.x-p1.x)*(p2.x-p1.x)+(p2.y-p1.y)*(p2.y-p1.y)):=by unfold bG b8;dsimp only;grind
     rw[e,k];have:=bD he hN;grind
    .exact⟨p3,q3,k⟩
   obtain⟨r,hr⟩:=Yi (p4:=p4) ho;refine⟨r,fun m hm=>hr m ?_⟩;simp only[aK] at hm;have i1:=q1 m;have i2:=q2 m;have i3:=q3' m;have i4:=q4 m;simp only[aK] at i1 i2 i3 i4;rcases hm with rfl|rfl|rfl|rfl|hm
   .exact .inl ⟨i2 (by simp),i3 (by simp),i4 (by simp)⟩
   .exact .inr (.inl ⟨i1 (by simp),i3 (by simp),i4 (by simp)⟩)
   .exact .inr (.inr (.inl ⟨i1 (by simp),i2 (by simp),i4 (by simp)⟩))
   .exact .inr (.inr (.inr ⟨i1 (by simp),i2 (by simp),i3 (by simp)⟩))
   .exact .inl ⟨i2 (by simp[hm]),i3 (by simp[hm]),i4 (by simp[hm])⟩
def Ro(a:Rat):a*(a.den:Rat)=(a.num:Rat):=by
 have h:(a.num:Rat)/((a.den:Nat):Rat)=a:=by rw[<-mY];exact sZ a
 have h0:((a.den:Nat):Rat)≠0:=by
  intro k;have:a.den=0:=by exact_mod_cast k
  exact a.den_nz this
 generalize (a.num:Rat)=n at*;generalize ((a.den:Nat):Rat)=d at*;rw[<-h];grind
def J3{x:Int}(hD:0<D)(h:a*((D:Int):Rat)=(x:Rat)):a.num*(D:Int)=x*(a.den:Int):=by
 have e:((a.den:Int):Rat)*a=(a.num:Rat):=by
  have:=Ro a;rw[Rat.mul_comm];exact this
 have k:(a.num:Rat)*((D:Int):Rat)=(x:Rat)*((a.den:Int):Rat):=by rw[<-e,<-h];grind
 exact_mod_cast k
def L4{x y:Int}(hD:0<D)(ha:a*((D:Int):Rat)=(x:Rat))(hb:b*((D:Int):Rat)=(y:Rat)):rgcd a b*((D:Int):Rat)=(((Nat.gcd x.natAbs y.natAbs:Nat):Int):Rat):=by
 have h1:=J3 hD ha;have h2:=J3 hD hb;have n1:a.num.natAbs*D=x.natAbs*a.den:=by
  have:=congrArg Int.natAbs h1;rwa [fR,fR,fL,fL] at this
 have n2:b.num.natAbs*D=y.natAbs*b.den:=by
  have:=congrArg Int.natAbs h2;rwa [fR,fR,fL,fL] at this
 have hg:Nat.gcd (a.num.natAbs*b.den) (b.num.natAbs*a.den)*D=Nat.gcd x.natAbs y.natAbs*(a.den*b.den):=by
  rw[<-Nat.gcd_mul_right,<-Nat.gcd_mul_right];congr 1
  .rw[nR,n1,cY]
  .rw[nR,n2,cY,cJ b.den a.den]
 unfold rgcd;generalize Nat.gcd (a.num.natAbs*b.den) (b.num.natAbs*a.den)=G at*;generalize Nat.gcd x.natAbs y.natAbs=g at*;have hpos:0<a.den*b.den:=iN a.den_pos b.den_pos;have hq:((G:Int):Rat)*((D:Int):Rat)=((g:Int):Rat)*(((a.den*b.den:Nat):Int):Rat):=by exact_mod_cast hg
 generalize a.den*b.den=E at*;have h0:((E:Int):Rat)≠0:=fun k=>by
  have:(E:Int)=0:=by exact_mod_cast k
  omega
 have hm:mkRat ((G:Nat):Int) E*((E:Int):Rat)=((G:Int):Rat):=by
  have hz:((E:Nat):Rat)≠0:=h0;show mkRat ((G:Nat):Int) E*((E:Nat):Rat)=_;rw[mY];generalize ((E:Nat):Rat)=z at*;generalize ((G:Int):Rat)=y at*;grind
 generalize mkRat ((G:Nat):Int) E=r at*;rw[<-hm] at hq;generalize ((E:Int):Rat)=e at*;generalize ((D:Int):Rat)=d at*;have:e*(r*d-((g:Int):Rat))=0:=by grind
 have:=(fV.1 this).resolve_left h0;grind
def nn(a b c:Rat):Nat:=a.den*(b.den*c.den)
def eo(a b c:Rat):ah:=oG (a.num*(b.den*c.den:Nat)) (b.num*(a.den*c.den:Nat)) (c.num*(a.den*b.den:Nat))
def Qk(a b c:Rat):0<nn a b c:=iN a.den_pos (iN b.den_pos c.den_pos)
def IU(a:Rat)(k:Nat):a*(((a.den*k:Nat):Int):Rat)=((a.num*(k:Nat):Int):Rat):=by
 have e:=Ro a;have:(((a.den*k:Nat):Int):Rat)=(a.den:Rat)*((k:Int):Rat):=by push_cast;rfl
 rw[this,cX,<-Rat.mul_assoc,e]
def P'(a b c:Rat):a*((nn a b c:Int):Rat)=((a.num*(b.den*c.den:Nat):Int):Rat)/\b*((nn a b c:Int):Rat)=((b.num*(a.den*c.den:Nat):Int):Rat)/\c*((nn a b c:Int):Rat)=((c.num*(a.den*b.den:Nat):Int):Rat):=by
 refine⟨IU a _,?_,?_⟩
 .rw[show nn a b c=b.den*(a.den*c.den) by unfold nn;rw[nQ]];exact IU b _
 .rw[show nn a b c=c.den*(a.den*b.den) by unfold nn;rw[<-cY,cJ]];exact IU c _
def JJ{c:Rat}(h: ¬(a=0/\b=0)): ¬(a.num*(b.den*c.den:Nat)=0/\b.num*(a.den*c.den:Nat)=0):=fun⟨h1,h2⟩=>by
 refine h ⟨?_,?_⟩
 .rcases pM.1 h1 with k|k
  .exact lQ.1 k
  .have:=iN b.den_pos c.den_pos;omega
 .rcases pM.1 h2 with k|k
  .exact lQ.1 k
  .have:=iN a.den_pos c.den_pos;omega
def Ao{c:Rat}(h: ¬(a=0/\b=0)): ∃g:Rat,0<g/\(∀p:aa,(eo a b c).value p=g*(a*p.x+b*p.y+c)):=by
 obtain⟨g,g0,e1,e2,e3⟩:=aC4 (c:=c.num*(a.den*b.den:Nat)) (JJ (c:=c) h);obtain⟨k1,k2,k3⟩:=P' a b c;have hD:(0:Rat)<((nn a b c:Int):Rat):=by
  have:=Qk a b c;exact_mod_cast (show(0:Int)<(nn a b c:Int) by omega)
 have hg:(0:Rat)<(g:Rat):=by exact_mod_cast g0
 have f1:(g:Rat)*((eo a b c).a:Rat)=a*((nn a b c:Int):Rat):=by rw[k1,<-e1];unfold eo;push_cast;rfl
 have f2:(g:Rat)*((eo a b c).b:Rat)=b*((nn a b c:Int):Rat):=by rw[k2,<-e2];unfold eo;push_cast;rfl
 have f3:(g:Rat)*((eo a b c).c:Rat)=c*((nn a b c:Int):Rat):=by rw[k3,<-e3];unfold eo;push_cast;rfl
 refine⟨((nn a b c:Int):Rat)/(g:Rat),div_pos hD hg,fun p=>?_⟩;unfold ah.value ah.nor aa.dot;dsimp only;generalize ((eo a b c).a:Rat)=A at*;generalize ((eo a b c).b:Rat)=B at*;generalize ((eo a b c).c:Rat)=C at*;generalize ((nn a b c:Int):Rat)=D at*;generalize (g:Rat)=g at*;have hq:D/g*g=D:=by grind
 generalize D/g=q at*;subst hq;have:g*(A*p.x+B*p.y+C-q*(a*p.x+b*p.y+c))=0:=by grind
 have:=(fV.1 this).resolve_left (by grind);grind
def Fp{c:Rat}(h: ¬(a=0/\b=0)):(eo a b c).ok:=Jl (JJ h)
def aa.subQ(p q:aa):aa:=⟨p.x-q.x,p.y-q.y⟩
def bE(f:aa×aa):aa:=⟨-(f.2.y-f.1.y),f.2.x-f.1.x⟩
def E5(f:aa×aa)(u:aa):bG f.1 f.2 u=(bE f).dot u-(bE f).dot f.1:=by unfold bG bE aa.dot;dsimp only;grind
structure gp (V:List aa) (E:List (aa×aa)):Prop where
 ends: ∀f∈E,f.1∈V/\f.2∈V
 cvx: ∀f∈E,∀v∈V,0<=bG f.1 f.2 v
 cen: ∃u,∀f∈E,0<bG f.1 f.2 u
 hull: ∀n u:aa,(∀f∈E,0<=bG f.1 f.2 u)-> ∃v∈V,n.dot v<=n.dot u
def Bv(n p q:aa):n.dot (p.subQ q)=n.dot p-n.dot q:=by unfold aa.dot aa.subQ;dsimp only;grind
def yk(l:ah)(p:aa):l.value p=l.nor.dot p+l.c:=rfl
def aAJ{E:List (aa×aa)}(hB:gp V E){m:Rat}(h: ∀u,(∀f∈E,0<bG f.1 f.2 u)->m<=n.dot u): ∀v∈V,m<=n.dot v:=fun v hv=>by
 obtain⟨u,hu⟩:=hB.cen;apply Classical.byContradiction;intro k
 -- a point near to v
 have hk:n.dot v<m:=by grind
 have h0:=h u hu;have key: ∀t:Rat,0<t->t<=1->m<=n.dot v+t*(n.dot u-n.dot v):=fun t t0 t1=>by
  rw[<-IF];refine h _ fun f hf=>?_;rw[aHT];have a:=hB.cvx f hf v hv;have b:=bD t0 (hu f hf);have c:=cA (show 0<=1-t by grind) a;grind
 generalize n.dot v=a at*;generalize n.dot u=b at*;have hd:0<b-a:=by grind
 have e:(m-a)/(2*(b-a))*(2*(b-a))=m-a:=by grind
 have q:=key ((m-a)/(2*(b-a))) (div_pos (by grind) (by grind)) ?_
 .generalize (m-a)/(2*(b-a))=t at*
  grind
 .generalize (m-a)/(2*(b-a))=t at*
  apply Classical.byContradiction;intro q;have:=bD (show 0<t-1 by grind) (show 0<2*(b-a) by grind);grind
def YI(hc:bC c){m:Rat}(h: ∀q,bm c q->m<=n.dot q): ∀q,gv c q->m<=n.dot q:=fun v hv=>by
 obtain⟨u,hu⟩:=hc.ne;apply Classical.byContradiction;intro k;have hk:n.dot v<m:=by grind
 have h0:=h u hu;have key: ∀t:Rat,0<t->t<=1->m<=n.dot v+t*(n.dot u-n.dot v):=fun t t0 t1=>by
  rw[<-IF];refine h _ fun s hs=>?_;rw[lO];have a:=hv s hs;have b:=bD t0 (hu s hs);have c:=cA (show 0<=1-t by grind) a;grind
 generalize n.dot v=a at*;generalize n.dot u=b at*;have hd:0<b-a:=by grind
 have e:(m-a)/(2*(b-a))*(2*(b-a))=m-a:=by grind
 have q:=key ((m-a)/(2*(b-a))) (div_pos (by grind) (by grind)) ?_
 .generalize (m-a)/(2*(b-a))=t at*
  grind
 .generalize (m-a)/(2*(b-a))=t at*
  apply Classical.byContradiction;intro q;have:=bD (show 0<t-1 by grind) (show 0<2*(b-a) by grind);grind
def xo(f:aa×aa)(p:aa):ah:=eo (-(bE f).x) (-(bE f).y) ((bE f).dot p-(bE f).dot f.1)
def QS{f:aa×aa}{u:aa}(h:0<bG f.1 f.2 u): ¬((bE f).x=0/\(bE f).y=0):=fun⟨h1,h2⟩=>by
 have e:bG f.1 f.2 u=(bE f).y*(u.y-f.1.y)+(bE f).x*(u.x-f.1.x):=by unfold bG bE;dsimp only;grind
 rw[e,h1,h2] at h;grind
def Do{f:aa×aa}{u:aa}(h:0<bG f.1 f.2 u)(p q:aa):0<(xo f p).value q↔0<bG f.1 f.2 (p.subQ q):=by
 have hz:=QS h;obtain⟨g,g0,hg⟩:=Ao (a:= -(bE f).x) (b:= -(bE f).y) (c:=(bE f).dot p-(bE f).dot f.1) (fun⟨h1,h2⟩=>hz ⟨by grind,by grind⟩);unfold xo;rw[hg,wv g0,E5,Bv];have e: -(bE f).x*q.x+ -(bE f).y*q.y+((bE f).dot p-(bE f).dot f.1)=(bE f).dot p-(bE f).dot q-(bE f).dot f.1:=by unfold aa.dot;grind
 rw[e]
def Uq{E:List (aa×aa)}(hB:gp V E)(hc:bC c)(h1: ∀s∈c,∃v∈V,(∀w∈V,s.l.nor.dot v<=s.l.nor.dot w)/\0<s.l.value p-s.l.nor.dot v)
  (h2: ∀f∈E,(∃M,∀q,gv c q->M<=(bE f).dot q)-> ∃q,gv c q/\0<(bE f).dot p-(bE f).dot q-(bE f).dot f.1): ∃q,bm c q/\ ∀f∈E,0<bG f.1 f.2 (p.subQ q):=by
 obtain⟨u0,hu0⟩:=hB.cen;obtain⟨q0,hq0⟩:=hc.ne;obtain⟨q,hq⟩:=MN _ ((c.map fun s=>s.l)++E.map fun f=>xo f p) rfl (by
  have cc: ∀l∈c.map (fun s:bu=>s.l),0<l.value q0:=fun l hl=>by obtain⟨s,hs,rfl⟩:=aU.1 hl;exact hq0 s hs
  have ee: ∀l∈E.map (fun f=>xo f p),0<l.value (p.subQ u0):=fun l hl=>by
   obtain⟨f,hf,rfl⟩:=aU.1 hl;rw[Do (hu0 f hf),show p.subQ (p.subQ u0)=u0 by unfold aa.subQ;cases u0;simp only[aa.mk.injEq];constructor<;>grind];exact hu0 f hf
  -- one edge: some point of the cell is on its left
  have one: ∀l∈E.map (fun f=>xo f p),∃q,bm c q/\0<l.value q:=fun l hl=>by
   obtain⟨f,hf,rfl⟩:=aU.1 hl;apply Classical.byContradiction;intro k;have k2: ∀q,bm c q->(bE f).dot p-(bE f).dot f.1<=(bE f).dot q:=fun q hq=>by
    have: ¬0<(xo f p).value q:=fun h=>k ⟨q,hq,h⟩;rw[Do (hu0 f hf),E5,Bv] at this;grind
   have k3:=YI hc k2;obtain⟨q,hq,hv⟩:=h2 f hf ⟨_,k3⟩;have:=k3 q hq;grind
  -- one side: some point of the moved polygon is on its left
  have two: ∀l∈c.map (fun s:bu=>s.l),∃u,(∀f∈E,0<bG f.1 f.2 u)/\0<l.value (p.subQ u):=fun l hl=>by
   obtain⟨s,hs,rfl⟩:=aU.1 hl;apply Classical.byContradiction;intro k;have k2: ∀u,(∀f∈E,0<bG f.1 f.2 u)->s.l.value p<=s.l.nor.dot u:=fun u hu=>by
    have: ¬0<s.l.value (p.subQ u):=fun h=>k ⟨u,hu,h⟩;rw[yk,Bv] at this;rw[yk];grind
   have k3:=aAJ hB k2;obtain⟨v,hv,_,hp⟩:=h1 s hs;have:=k3 v hv;grind
  have emov: ∀l∈E.map (fun f=>xo f p),∀u,(∀f∈E,0<bG f.1 f.2 u)->0<l.value (p.subQ u):=fun l hl u hu=>by
   obtain⟨f,hf,rfl⟩:=aU.1 hl;rw[Do (hu0 f hf),show p.subQ (p.subQ u)=u by unfold aa.subQ;cases u;simp only[aa.mk.injEq];constructor<;>grind];exact hu f hf
  have cin: ∀l∈c.map (fun s:bu=>s.l),∀q,bm c q->0<l.value q:=fun l hl q hq=>by obtain⟨s,hs,rfl⟩:=aU.1 hl;exact hq s hs
  intro a ha b hb d hd;rcases aL.1 ha with ha|ha<;>rcases aL.1 hb with hb|hb<;>rcases aL.1 hd with hd|hd
  .exact⟨q0,cc a ha,cc b hb,cc d hd⟩
  .obtain⟨q,h,k⟩:=one d hd;exact⟨q,cin a ha q h,cin b hb q h,k⟩
  .obtain⟨q,h,k⟩:=one b hb;exact⟨q,cin a ha q h,k,cin d hd q h⟩
  .obtain⟨u,h,k⟩:=two a ha;exact⟨_,k,emov b hb u h,emov d hd u h⟩
  .obtain⟨q,h,k⟩:=one a ha;exact⟨q,k,cin b hb q h,cin d hd q h⟩
  .obtain⟨u,h,k⟩:=two b hb;exact⟨_,emov a ha u h,k,emov d hd u h⟩
  .obtain⟨u,h,k⟩:=two d hd;exact⟨_,emov a ha u h,emov b hb u h,k⟩
  .exact⟨_,ee a ha,ee b hb,ee d hd⟩)
 refine⟨q,fun s hs=>hq s.l (bK _ (dZ hs)),fun f hf=>?_⟩;exact(Do (hu0 f hf) p q).1 (hq _ (bQ _ (dZ hf)))
def XG{E:List (aa×aa)}(hB:gp V E){c:ar}{q u:aa}(hu: ∀f∈E,0<=bG f.1 f.2 u)(hl: ∀v∈V,low<=n.dot v):low<=n.dot u:=by
 obtain⟨v,hv,h⟩:=hB.hull n u hu;have:=hl v hv;grind
def jO(n:aa):List aa->Rat
 |[]=>0
 |p::t=>t.foldl (fun b q=>if n.dot q<b then n.dot q else b) (n.dot p)
def Rp{n:aa}: ∀(t:List aa) (b:Rat),(t.foldl (fun b q=>if n.dot q<b then n.dot q else b) b<=b/\ ∀q∈t,t.foldl (fun b q=>if n.dot q<b then n.dot q else b) b<=n.dot q)/\(t.foldl (fun b q=>if n.dot q<b then n.dot q else b) b=b\/ ∃q∈t,t.foldl (fun b q=>if n.dot q<b then n.dot q else b) b=n.dot q)
 |[],b=>⟨⟨gS,fun q hq=>by cases hq⟩, .inl J⟩
 |p::t,b=>by
  obtain⟨⟨h1,h2⟩,h3⟩:=Rp t (if n.dot p<b then n.dot p else b);rw[kN];generalize t.foldl (fun b q=>if n.dot q<b then n.dot q else b) (if n.dot p<b then n.dot p else b)=z at*;refine⟨⟨by split at h1<;>grind,fun q hq=>?_⟩,?_⟩
  .rcases aK.1 hq with rfl|hq
   .split at h1<;>grind
   .exact h2 q hq
  .rcases h3 with h3|⟨q,hq,h3⟩
   .split at h3
    .exact .inr ⟨p,aQ,h3⟩
    .exact .inl h3
   .exact .inr ⟨q,aJ _ hq,h3⟩
def qd{l:List aa}(h:l≠[]):(∀q∈l,jO n l<=n.dot q)/\ ∃q∈l,jO n l=n.dot q:=by
 cases l with
 |nil=>exact absurd J h
 |cons p t=>
  obtain⟨⟨h1,h2⟩,h3⟩:=Rp (n:=n) t (n.dot p);refine⟨fun q hq=>?_,?_⟩
  .rcases aK.1 hq with rfl|hq
   .exact h1
   .exact h2 q hq
  .rcases h3 with h3|⟨q,hq,h3⟩
   .exact⟨p,aQ,h3⟩
   .exact⟨q,aJ _ hq,h3⟩
def ja(n:aa)(s:bu):Bool:=(s.v.nh&&decide (s.l.dir.dot n<0))||(s.v.nl&&decide (0<s.l.dir.dot n))
def tB(n:aa):ar->Bool
 |[s]=>decide (s.l.nor.dot n<0)
 |_=>false
def jt(c:ar):List aa:=(c.map fun s=>s.l.at s.v.sample)++jH (c.map (·.l))
def iq(c:ar)(n:aa):Option Rat:=if c.isEmpty||tB n c then none else if c.any (ja n) then none else some (jO n (jt c))
def AR(hc:bC c)(ha:gq c)(hs:s∈c)(nh:s.v.nh=false):s.l.at s.v.hi∈jH (c.map (·.l)):=by
 obtain⟨i,hi,ei⟩:=nJ hs;have h1:c[i]? =some s:=by rw[aZ hi,ei]
 obtain⟨w,hw⟩: ∃w,c[(i+1)%c.length]? =some w:=⟨_,aZ (dK _ (by omega))⟩;have mw:=aV hw;have hn:lj (c.map fun s=>s.l.dir) s.l.dir w.l.dir:=Sp ha (by rw[cV,h1];rfl) (by rw[aX,cV,hw];rfl);obtain⟨k1,k2⟩:=Lf hc hs mw hn nh;have hx:crossI s.l w.l≠0:=Kw ((kC _).2 k1);unfold jH;rw[iJ,aX];refine⟨i,jR.2 hi,?_⟩;rw[xy (l:=s.l) (m:=w.l) (by rw[cV,h1];rfl) (by rw[aX,cV,hw];rfl),if_pos ((kC _).2 k1),aT];exact TZ hx (mv (hc.ok s hs).ne _) k2
def YW(s u:ah):s.nor.dot u.dir= -(u.nor.dot s.dir):=by unfold ah.nor ah.dir aa.dot;dsimp only;grind
def DB(hc:bC c)(ha:gq c)(hs:s∈c)(nl:s.v.nl=false):s.l.at s.v.lo∈jH (c.map (·.l)):=by
 obtain⟨u,hu,z1,z2⟩:=Wr hc hs nl;have hin:=((hc.edge s hs).2 _).1 (OA (hc.edge s hs).1 nl);obtain⟨t,ht⟩:=Au (hc.ok u hu).ne z1;rw[ht] at hin;have hh:=((hc.edge u hu).2 t).2 hin;have no: ∀e:Rat,0<e-> ¬u.v.has (t+e):=fun e he k=>by
  have k:=((hc.edge u hu).2 _).1 k s hs;rw[Kn,<-ht,mv (hc.ok s hs).ne,YW] at k;have:=bD he z2;grind
 have nh:u.v.nh=false:=by
  cases q:u.v.nh with
  |false=>rfl
  |true=>exact absurd ⟨hh.1.elim .inl fun k=> .inr (by grind), .inl q⟩ (no 1 (by decide))
 have e:t=u.v.hi:=by
  have h2:=hh.2.resolve_left (by rw[nh];simp);apply Classical.byContradiction;intro k;refine no (u.v.hi-t) (by grind) ⟨hh.1.elim .inl fun k=> .inr (by grind), .inr (by grind)⟩
 rw[ht,e];exact AR hc ha hu nh
def aGY(hc:bC c)(ha:gq c): ∀q∈jt c,gv c q:=fun q hq=>by
 unfold jt at hq;rcases aL.1 hq with hq|hq
 .obtain⟨s,hs,rfl⟩:=aU.1 hq
  exact(x6 hc hs).1
 .unfold jH at hq
  rw[iJ,aX] at hq;obtain⟨i,hi,hq⟩:=hq;have hi:=jR.1 hi;obtain⟨s,hs⟩: ∃s,c[i]? =some s:=⟨_,aZ hi⟩;obtain⟨w,hw⟩: ∃w,c[(i+1)%c.length]? =some w:=⟨_,aZ (dK _ (by omega))⟩;have ms:=aV hs;have mw:=aV hw;rw[xy (l:=s.l) (m:=w.l) (by rw[cV,hs];rfl) (by rw[aX,cV,hw];rfl)] at hq;split at hq
  .rename_i k
   have k1:=(kC _).1 k;rw[aT] at hq;subst hq;have hn:lj (c.map fun s=>s.l.dir) s.l.dir w.l.dir:=Sp ha (by rw[cV,hs];rfl) (by rw[aX,cV,hw];rfl)
   -- the side ends, as the next one stops it
   have nh:s.v.nh=false:=by
    cases q:s.v.nh with
    |false=>rfl
    |true=>
     have:=TF hc ms q w mw;rw[<-ru,fE] at this;grind
   obtain⟨_,k2⟩:=Lf hc ms mw hn nh;have hx:crossI s.l w.l≠0:=Kw k;rw[<-TZ hx (mv (hc.ok s ms).ne _) k2];exact((hc.edge s ms).2 _).1 (Hz (hc.edge s ms).1 nh)
  .cases hq
def Dp{u:aa}(h: ∀t:Rat,0<=t->gv c (b8 p u t))(hn:n.dot u<0)(M:Rat): ∃q,gv c q/\n.dot q<M:=by
 by_cases k:n.dot p<M
 .refine⟨_,h 0 gS,?_⟩
  rw[zf];grind
 .have e:(n.dot p-M)/ -(n.dot u)* -(n.dot u)=n.dot p-M:=by grind
  have e0:0<=(n.dot p-M)/ -(n.dot u):=(ip (s:=(n.dot p-M)/ -(n.dot u)) (k:= -(n.dot u)) (by grind)).1 (by rw[e];grind);refine⟨_,h ((n.dot p-M)/ -(n.dot u)+1) (by grind),?_⟩;rw[zf];generalize (n.dot p-M)/ -(n.dot u)=t at*;grind
def UN(hc:bC c)(hn: ¬(n.x=0/\n.y=0))(h:iq c n=none)(M:Rat): ∃q,gv c q/\n.dot q<M:=by
 have hN:=IC hn;have hneg:n.dot (aO n)<0:=by unfold aa.dot aO;dsimp only;grind
 unfold iq at h;split at h
 .rename_i k
  rw[iK] at k
  cases c with
  |nil=>exact Dp (p:=⟨0,0⟩) (u:=aO n) (fun t _ s hs=>by cases hs) hneg M
  |cons s t=>
   rcases k with k|k
   .cases k
   .cases t with
    |cons _ _=>cases k
    |nil=>
     have k:=of_decide_eq_true (show decide (s.l.nor.dot n<0)=true from k);obtain⟨q,hq⟩:=hc.ne;refine Dp (p:=q) (u:=aO n) (fun t ht w hw=>?_) hneg M;have e:=aT.1 hw;subst e;rw[gi];have a:=hq w hw;have e2:w.l.nor.dot (aO n)= -(w.l.nor.dot n):=by unfold aa.dot aO;dsimp only;grind
     have b:=cA ht (show 0<=w.l.nor.dot (aO n) by rw[e2];grind);grind
 .split at h
  .rename_i k
   obtain⟨s,hs,k⟩:=gQ.1 k;unfold ja at k;rw[iK,bT,bT,decide_eq_true_eq,decide_eq_true_eq] at k;have hh:=((hc.edge s hs).2 _).2 (x6 hc hs).1;have e1:n.dot s.l.dir=s.l.dir.dot n:=by unfold aa.dot;grind
   have e2:n.dot (aO s.l.dir)= -(s.l.dir.dot n):=by unfold aa.dot aO;dsimp only;grind
   rcases k with⟨k1,k2⟩|⟨k1,k2⟩
   .refine Dp (p:=s.l.at s.v.sample) (u:=s.l.dir) (fun t ht=>?_) (by rw[e1];exact k2) M
    rw[<-FC];exact((hc.edge s hs).2 _).1 ⟨hh.1.elim .inl fun k=> .inr (by grind), .inl k1⟩
   .refine Dp (p:=s.l.at s.v.sample) (u:=aO s.l.dir) (fun t ht=>?_) (by rw[e2];grind) M
    have e3:b8 (s.l.at s.v.sample) (aO s.l.dir) t=s.l.at (s.v.sample+ -t):=by rw[FC];unfold b8 aO;simp only[aa.mk.injEq];constructor<;>grind
    rw[e3];exact((hc.edge s hs).2 _).1 ⟨.inl k1,hh.2.elim .inl fun k=> .inr (by grind)⟩
  .cases h
def Ei(hc:bC c)(ha:gq c)(hn: ¬(n.x=0/\n.y=0)){m:Rat}(h:iq c n=some m):(∀q,gv c q->m<=n.dot q)/\ ∃q,gv c q/\n.dot q=m:=by
 have hN:=IC hn;unfold iq at h;split at h
 .cases h
 rename_i k1;split at h
 .cases h
 rename_i k2
 cases h
 have k1:c.isEmpty=false/\tB n c=false:=by simpa using k1
 have k2: ∀s∈c,ja n s=false:=fun s hs=>by
  cases q:ja n s with
  |false=>rfl
  |true=>exact absurd (gQ.2 ⟨s,hs,q⟩) k2
 have hne:jt c≠[]:=by
  unfold jt
  cases c with
  |nil=>cases k1.1
  |cons s t=>simp
 obtain⟨l1,q0,hq0,l2⟩:=qd (n:=n) hne;refine⟨?_,q0,aGY hc ha q0 hq0,l2.symm⟩;have side: ∀s∈c,∀q,s.l.value q=0->gv c q->jO n (jt c)<=n.dot q:=fun s hs q hz hq=>by
  obtain⟨t,rfl⟩:=Au (hc.ok s hs).ne hz;have hh:=((hc.edge s hs).2 t).2 hq;have ho:=k2 s hs;unfold ja at ho;have e1:s.l.dir.dot n=n.dot s.l.dir:=by unfold aa.dot;grind
  rw[lL,e1] at ho;have f: ∀u,n.dot (s.l.at u)=n.dot (s.l.at 0)+u*n.dot s.l.dir:=fun u=>by rw[RM s.l u,zf]
  rcases fg (n.dot s.l.dir) with k|k|k
  .have:=l1 (s.l.at s.v.sample) (bK _ (dZ (f:=fun s:bu=>s.l.at s.v.sample) hs))
   rw[f,k] at this⊢;grind
  .have nl:s.v.nl=false:=by
    cases q:s.v.nl with
    |false=>rfl
    |true=>rw[q,decide_eq_true k] at ho;exact absurd ho.2 (by simp)
   have:=l1 _ (bQ _ (DB hc ha hs nl));have h1:=hh.1.resolve_left (by rw[nl];simp);have h2:=cA (show 0<=t-s.v.lo by grind) (cM k);rw[f] at this⊢;grind
  .have nh:s.v.nh=false:=by
    cases q:s.v.nh with
    |false=>rfl
    |true=>rw[q,decide_eq_true k] at ho;exact absurd ho.1 (by simp)
   have:=l1 _ (bQ _ (AR hc ha hs nh));have h1:=hh.2.resolve_left (by rw[nh];simp);have h2:=cA (show 0<=s.v.hi-t by grind) (show 0<= -n.dot s.l.dir by grind);rw[f] at this⊢;grind
 -- a point that moves until a side stops it
 have go: ∀p,gv c p-> ∀d:aa,n.dot d<=0->(∃u∈c,u.l.nor.dot d<0)->jO n (jt c)<=n.dot p:=fun p hp d hd0 hex=>by
  by_cases hd:bm c p
  .obtain⟨u,hu,hk⟩:=hex
   have v0:=hd u hu;obtain⟨T,hT⟩: ∃T,T=u.l.value p/ -(u.l.nor.dot d):=⟨_,rfl⟩;have e:T* -(u.l.nor.dot d)=u.l.value p:=by rw[hT];generalize u.l.nor.dot d=z at*;grind
   have T0:0<T:=(eD (k:= -(u.l.nor.dot d)) (by grind)).1 (by rw[e];exact v0);obtain⟨r,r0,r1,⟨s,ms,_,zs⟩,hC⟩:=H5 (p:=b8 p d T) hd ⟨u,hu,by rw[gi];grind⟩;have:=side s ms _ zs hC;rw[IF,zf] at this;have:=cA r0 (cA (cM T0) (show 0<= -(n.dot d) by grind));grind
  .have: ∃s∈c,¬0<s.l.value p:=by
    apply Classical.byContradiction;intro k;exact hd fun s hs=>Classical.byContradiction fun k2=>k ⟨s,hs,k2⟩
   obtain⟨s,hs,k⟩:=this;have:=hp s hs;exact side s hs p (by grind) hp
 intro p hp;by_cases q1: ∃u∈c,u.l.nor.dot (fG n)≠0
 .obtain⟨u,hu,k⟩:=q1
  have z:n.dot (fG n)=0:=by unfold aa.dot fG;grind
  rcases fg (u.l.nor.dot (fG n)) with k|h|h
  .contradiction
  .refine go p hp (aO (fG n)) ?_ ⟨u,hu,?_⟩
   .unfold aa.dot fG aO;dsimp only;grind
   .have:u.l.nor.dot (aO (fG n))= -(u.l.nor.dot (fG n)):=by unfold aa.dot aO;dsimp only;grind
    rw[this];grind
  .exact go p hp (fG n) (by rw[z];exact gS) ⟨u,hu,h⟩
 .have q1: ∀u∈c,u.l.nor.dot (fG n)=0:=fun u hu=>Classical.byContradiction fun k=>q1 ⟨u,hu,k⟩
  by_cases q2: ∃u∈c,0<u.l.nor.dot n
  .obtain⟨u,hu,k⟩:=q2
   have e: ∀z:aa,z.dot (aO n)= -(z.dot n):=fun z=>by unfold aa.dot aO;dsimp only;grind
   refine go p hp (aO n) ?_ ⟨u,hu,by rw[e];grind⟩;rw[e];unfold aa.dot;grind
  .exfalso
   have q3: ∀u∈c,u.l.nor.dot n<0:=fun u hu=>by
    have h1:=q1 u hu;have h2: ¬0<u.l.nor.dot n:=fun k=>q2 ⟨u,hu,k⟩;have h3:=ni (hc.ok u hu).ne;by_cases h4:u.l.nor.dot n=0
    .exfalso
     have e:(n.x*n.x+n.y*n.y)*(u.l.nor.dot u.l.nor)=(u.l.nor.dot n)*(u.l.nor.dot n)+(u.l.nor.dot (fG n))*(u.l.nor.dot (fG n)):=by unfold aa.dot fG;dsimp only;grind
     rw[h1,h4] at e;have:=bD hN h3;grind
    .grind
   cases c with
   |nil=>cases k1.1
   |cons s t=>
    cases t with
    |nil=>
     have:=k1.2;unfold tB at this;have:=of_decide_eq_false this;exact this (q3 s aQ)
    |cons w t=>
     have hB:ce s.l.dir w.l.dir:=by
      unfold gq at ha;rw[bU,bU] at ha;exact(bY.1 ha).1 _ aQ
     have a1:=q3 s aQ;have a2:=q3 w (aJ _ aQ);have b1:=q1 s aQ;have b2:=q1 w (aJ _ aQ);have hz:s.l.dir.cross w.l.dir=0:=by
      have e:(n.x*n.x+n.y*n.y)*s.l.dir.cross w.l.dir=(s.l.nor.dot n)*(w.l.nor.dot (fG n))-(s.l.nor.dot (fG n))*(w.l.nor.dot n):=by unfold aa.dot fG aa.cross ah.dir ah.nor;dsimp only;grind
      rw[b1,b2] at e;have:(n.x*n.x+n.y*n.y)*s.l.dir.cross w.l.dir=0:=by grind
      exact(fV.1 this).resolve_left (by grind)
     have e: ∀l:ah,l.dir.cross (aO n)= -(l.nor.dot n):=fun l=>by rw[ru];unfold aa.dot aO;dsimp only;grind
     have hh:=aAI (tA (hc.ok s aQ)) (tA (hc.ok w (aJ _ aQ))) hz (z:=aO n) (by rw[e];grind) (by rw[e];grind);rcases hB with k|⟨_,k⟩
     .omega
     .rw[hz] at k;exact absurd k (by decide)
def aBc{m:ah}(hl:l.ok)(hm:m.ok)(hk:0<k)(h: ∀p,l.value p=k*m.value p):l=m:=by
 have hz: ∀s,l.value (m.at s)=0:=fun s=>by rw[h,mv hm.ne];grind
 rcases w5 hl hm hz with e|e
 .exact e
 .exfalso
  have hn:=ni hm.ne;have h1:=h (b8 (m.at 0) m.nor 1);rw[e,dE,gi,mv hm.ne] at h1;have:=bD hk hn;grind
def UG{c:Rat}(h: ¬(a=0/\b=0))(h': ¬(a'=0/\b'=0))(hk:0<k)(e: ∀p:aa,a*p.x+b*p.y+c=k*(a'*p.x+b'*p.y+c')):eo a b c=eo a' b' c':=by
 obtain⟨g,g0,hg⟩:=Ao (c:=c) h;obtain⟨g',g0',hg'⟩:=Ao (c:=c') h';refine aBc (Fp h) (Fp h') (k:=g*k/g') (div_pos (bD g0 hk) g0') fun p=>?_;rw[hg,hg',e];have:g*k/g'*g'=g*k:=by grind
 generalize g*k/g'=z at*;grind
def km(l:ah)(V:List aa):ah:=eo l.a l.b (l.c-jO l.nor V)
def Ey(h:l.ok): ¬((l.a:Rat)=0/\(l.b:Rat)=0):=fun⟨h1,h2⟩=>by
 have:=ni h.ne;unfold ah.nor aa.dot at this;dsimp only at this;rw[h1,h2] at this;grind
def xZ(c:List ah):List aa:=if(jH c).isEmpty then c.map ah.base else jH c
def l7(c:ar)(f:aa×aa):Option ah:=(iq c (bE f)).map fun m=>eo (bE f).x (bE f).y (-(m+(bE f).dot f.1))
def jp(c:ar)(V:List aa)(E:List (aa×aa)):List ah:=(c.map fun s=>km s.l V)++E.filterMap (l7 c)
def azs(hc:bC c)(hs:s∈c)(nl:s.v.nl=true)(nh:s.v.nh=true): ∀u∈c,u.l.nor.dot s.l.dir=0:=fun u hu=>by
 have h1:=TF hc hs nh u hu;have h2:=XP hc hs nl u hu;grind
def ZY(hc:bC c)(hs:s∈c)(nl:s.v.nl=true)(nh:s.v.nh=true):jH (c.map (·.l))=[]:=by
 have hp:=azs hc hs nl nh;unfold jH;rw[aX,List.flatMap_eq_nil_iff];intro i hi;have hi:=jR.1 hi;obtain⟨a,ha⟩: ∃s,c[i]? =some s:=⟨_,aZ hi⟩;obtain⟨b,hb⟩: ∃w,c[(i+1)%c.length]? =some w:=⟨_,aZ (dK _ (by omega))⟩;have h1:=hp a (aV ha);have h2:=hp b (aV hb);rw[xy (l:=a.l) (m:=b.l) (by rw[cV,ha];rfl) (by rw[aX,cV,hb];rfl),if_neg];rw[kC];have hz:=ni (hc.ok s hs).ne;have e:(s.l.nor.dot s.l.nor)*a.l.dir.cross b.l.dir=(a.l.nor.dot s.l.dir)*(b.l.nor.dot s.l.nor)-(a.l.nor.dot s.l.nor)*(b.l.nor.dot s.l.dir):=by unfold aa.dot aa.cross ah.dir ah.nor;dsimp only;grind
 rw[h1,h2] at e;intro k;have:=bD hz k;grind
def RY(hc:bC c)(ha:gq c)(hn: ¬(n.x=0/\n.y=0)){m:Rat}(hf:iq c n=some m):jO n (xZ (c.map fun s=>s.l))=m/\xZ (c.map fun s=>s.l)≠[]:=by
 obtain⟨f1,f2⟩:=Ei hc ha hn hf;have hf':=hf;unfold iq at hf';split at hf'
 .cases hf'
 rename_i k1;split at hf'
 .cases hf'
 rename_i k2
 cases hf'
 have k1:c.isEmpty=false/\tB n c=false:=by simpa using k1
 have k2: ∀s∈c,ja n s=false:=fun s hs=>by
  cases q:ja n s with
  |false=>rfl
  |true=>exact absurd (gQ.2 ⟨s,hs,q⟩) k2
 have hne:jt c≠[]:=by
  unfold jt
  cases c with
  |nil=>cases k1.1
  |cons s t=>simp
 obtain⟨l1,q0,hq0,l2⟩:=qd (n:=n) hne;have e1: ∀s:bu,s.l.dir.dot n=n.dot s.l.dir:=fun s=>by unfold aa.dot;grind
 have f: ∀(s:bu) u,n.dot (s.l.at u)=n.dot (s.l.at 0)+u*n.dot s.l.dir:=fun s u=>by rw[RM s.l u,zf]
 unfold xZ;by_cases hv:(jH (c.map fun s=>s.l)).isEmpty=true
 .rw[if_pos hv]
  have hv':jH (c.map fun s=>s.l)=[]:=List.isEmpty_iff.1 hv;have flat: ∀s∈c,n.dot s.l.dir=0/\n.dot s.l.base=n.dot (s.l.at s.v.sample):=fun s hs=>by
   have nl:s.v.nl=true:=by
    cases q:s.v.nl with
    |true=>rfl
    |false=>have:=DB hc ha hs q;rw[hv'] at this;cases this
   have nh:s.v.nh=true:=by
    cases q:s.v.nh with
    |true=>rfl
    |false=>have:=AR hc ha hs q;rw[hv'] at this;cases this
   have ho:=k2 s hs;unfold ja at ho;rw[nl,nh,lL,sL,sL,decide_eq_false_iff_not,decide_eq_false_iff_not,e1] at ho;have z:n.dot s.l.dir=0:=by rcases fg (n.dot s.l.dir) with k|k|k;exact k;exact absurd k ho.2;exact absurd k ho.1
   refine⟨z,?_⟩;rw[<-An,zf,z];grind
  have hne2:(c.map fun s=>s.l).map ah.base≠[]:=by
   cases c with
   |nil=>cases k1.1
   |cons s t=>simp
  obtain⟨g1,p1,hp1,g2⟩:=qd (n:=n) hne2;refine⟨?_,hne2⟩;obtain⟨l,hl,rfl⟩:=aU.1 hp1;obtain⟨s,hs,rfl⟩:=aU.1 hl;have a1:=l1 (s.l.at s.v.sample) (bK _ (dZ (f:=fun s:bu=>s.l.at s.v.sample) hs));rw[<-(flat s hs).2,<-g2] at a1;have a2:jO n ((c.map fun s=>s.l).map ah.base)<=jO n (jt c):=by
   unfold jt at hq0;rw[hv',fK] at hq0;obtain⟨w,hw,rfl⟩:=aU.1 hq0;rw[l2,<-(flat w hw).2];exact g1 _ (dZ (dZ (f:=fun s:bu=>s.l) hw))
  grind
 .rw[if_neg hv]
  have hne2:jH (c.map fun s=>s.l)≠[]:=fun e=>hv (by rw[e];rfl);obtain⟨g1,p1,hp1,g2⟩:=qd (n:=n) hne2;refine⟨?_,hne2⟩;have a1:=l1 p1 (bQ _ hp1);rw[<-g2] at a1
  -- the least value is one of a corner
  have a2: ∃v∈jH (c.map fun s=>s.l),n.dot v=jO n (jt c):=by
   unfold jt at hq0;rcases aL.1 hq0 with h|h
   .obtain⟨s,hs,rfl⟩:=aU.1 h
    have hi:=(hc.edge s hs).1;have hsm:=oy hi;have z:n.dot s.l.dir=0:=by
     rcases fg (n.dot s.l.dir) with k|k|k
     .exact k
     .exfalso
      have ho:=k2 s hs;unfold ja at ho;rw[lL,e1] at ho;have nl:s.v.nl=false:=by
       cases q:s.v.nl with
       |false=>rfl
       |true=>rw[q,decide_eq_true k] at ho;exact absurd ho.2 (by simp)
      have:=l1 _ (bQ _ (DB hc ha hs nl));have h1:=hsm.1.resolve_left (by rw[nl];simp);rw[l2,f s s.v.sample,f s s.v.lo] at this;have:=bD (show 0<s.v.sample-s.v.lo by grind) k;grind
     .exfalso
      have ho:=k2 s hs;unfold ja at ho;rw[lL,e1] at ho;have nh:s.v.nh=false:=by
       cases q:s.v.nh with
       |false=>rfl
       |true=>rw[q,decide_eq_true k] at ho;exact absurd ho.1 (by simp)
      have:=l1 _ (bQ _ (AR hc ha hs nh));have h1:=hsm.2.resolve_left (by rw[nh];simp);rw[l2,f s s.v.sample,f s s.v.hi] at this;have:=bD (show 0<s.v.hi-s.v.sample by grind) (show 0< -(n.dot s.l.dir) by grind);grind
    cases nl:s.v.nl with
    |false=>exact⟨_,DB hc ha hs nl,by rw[l2,f s s.v.lo,f s s.v.sample,z];grind⟩
    |true=>
     cases nh:s.v.nh with
     |false=>exact⟨_,AR hc ha hs nh,by rw[l2,f s s.v.hi,f s s.v.sample,z];grind⟩
     |true=>exact absurd (ZY hc hs nl nh) hne2
   .exact⟨q0,h,l2.symm⟩
  obtain⟨v,hv2,e⟩:=a2;have:=g1 v hv2;grind
def Fa(m:ah)(a p:aa):m.nor.dot ⟨a.x-p.x,a.y-p.y⟩=m.value a-m.value p:=by
 rw[jb,jb];unfold ah.nor aa.dot;dsimp only;grind
section
end
def ig:List ah->Tr
 |[]=> .leaf true
 |l::t=> .node l (ig t) (.leaf false)
def AD: ∀{L:List ah},(ig L).lns=L
 |[]=>rfl
 |l::t=>by rw[ig,Tr.lns,AD,Tr.lns,fK]
def Be: ∀{L:List ah} {p:aa},(ig L).val p=true↔f9 L p
 |[],p=>⟨fun _ l hl=>(by cases hl),fun _=>J⟩
 |l::t,p=>by
  rw[ig];by_cases h:0<l.value p
  .rw[Tr.val_pos h,Be (L:=t)]
   constructor
   .intro k m hm
    rcases aK.1 hm with rfl|hm
    .exact h
    .exact k m hm
   .exact fun k m hm=>k m (aJ _ hm)
  .rw[Tr.val_neg h]
   constructor
   .intro k;cases k
   .intro k;exact absurd (k l aQ) h
def Gu{P:ah->Prop}(h: ∀l∈L,P l):(ig L).all P:=nf.2 (by rw[AD];exact h)
def Tv: ∀(L:List ah),(ig L).depth=L.length
 |[]=>rfl
 |l::t=>by rw[ig,Tr.depth,Tv t,aN];show 1+max _ 0=_;omega
def PG: ∀(L:List ah),(ig L).size=L.length
 |[]=>rfl
 |l::t=>by rw[ig,Tr.size,PG t,aN];show 1+_+0=_;omega
def IR(L:List ah)(p:aa):Int:=if L.any (fun l=>decide (l.value p<0)) then 0 else if L.any (fun l=>decide (l.value p=0)) then 1 else 2
def auQ(hL: ∀l∈L,l.ok)(hq:f9 L q)(p:aa):d8 (ig L) p=IR L p:=by
 have hok:(ig L).all ah.ok:=Gu hL;unfold IR;by_cases h1:L.any (fun l=>decide (l.value p<0))=true
 .rw[if_pos h1,w7 hok]
  obtain⟨l,hl,hv⟩:=gQ.1 h1;have hv:=of_decide_eq_true hv;intro hd;obtain⟨x,hx,_,_,k⟩:=DH hok hd (M:=[]) (fun m hm=>by cases hm) (c:=[⟨l.rev,ao.all⟩]) (p:=p) (fun s hs=>by
   rw[aT.1 hs,dE];grind)
  have a:=Be.1 k l hl;have b:=hx ⟨l.rev,ao.all⟩ (aT.2 J);rw[dE] at b;grind
 .rw[if_neg h1]
  have h1: ∀l∈L,0<=l.value p:=fun l hl=>by
   by_cases k:l.value p<0
   .exact absurd (gQ.2 ⟨l,hl,decide_eq_true k⟩) h1
   .grind
  by_cases h2:L.any (fun l=>decide (l.value p=0))=true
  .rw[if_pos h2]
   obtain⟨l,hl,hv⟩:=gQ.1 h2;have hv:=of_decide_eq_true hv;have nz:d8 (ig L) p≠0:=fun k=>by
    refine(w7 hok).1 k ?_;have hg:Gn (ig L).lns p ⟨q.x-p.x,q.y-p.y⟩:=fun m hm hz=>by
     rw[AD] at hm;rw[Fa,hz];have:=hq m hm;grind
    have ho:=vz hg;obtain⟨e,he,hs⟩:=mP hg;obtain⟨d,hd,d1,d2⟩:=min2 he (show(0:Rat)<1 by decide);have:=(hs d hd d1).2;rw[this] at ho;have hv:(ig L).val (b8 p ⟨q.x-p.x,q.y-p.y⟩ d)=true:=Be.2 fun m hm=>by
     rw[gi,show d*m.nor.dot ⟨q.x-p.x,q.y-p.y⟩=d*(m.value q-m.value p) by rw[Fa]];have a:=h1 m hm;have b:=bD hd (hq m hm);have c:=cA (show 0<=1-d by grind) a;grind
    rw[hv] at ho;exact ho
   have nt:d8 (ig L) p≠2:=fun k=>by
    refine(u9 hok).1 k ?_;have hn:=ni (hL l hl).ne;have hn2:l.nor.dot (aO l.nor)= -(l.nor.dot l.nor):=by unfold aO aa.dot;dsimp only;grind
    obtain⟨w,hg,hs⟩:=HG (L:=[l]) (M:=(ig L).lns) (p:=p) (v:=aO l.nor) (nf.1 hok) (fun m hm _=>by rw[aT.1 hm,hn2];grind);have hw:l.nor.dot w<0:=by
     have:=hs l (aT.2 J) hv;rw[hn2,vV (by grind)] at this;exact(u' _).1 (by omega)
    have ho:=vz hg;obtain⟨e,he,ht⟩:=mP hg;rw[(ht e he (by grind)).2] at ho;have hv2:(ig L).val (b8 p w e)=false:=by
     rw[<-jY,Be];intro k2;have:=k2 l hl;rw[gi,hv] at this;have:=bD he (show 0< -(l.nor.dot w) by grind);grind
    rw[hv2] at ho;exact ho
   rcases aqQ (ig L) p with k|k|k
   .exact absurd k nz
   .exact k
   .exact absurd k nt
  .rw[if_neg h2,u9 hok]
   have h3: ∀l∈L,0<l.value p:=fun l hl=>by
    have a:=h1 l hl;by_cases k:l.value p=0
    .exact absurd (gQ.2 ⟨l,hl,decide_eq_true k⟩) h2
    .grind
   intro hd;obtain⟨x,hx,_,_,k⟩:=DH hok hd (M:=[]) (fun m hm=>by cases hm) (c:=L.map fun l=>⟨l,ao.all⟩) (p:=p) (fun s hs=>by
    obtain⟨l,hl,rfl⟩:=aU.1 hs;exact h3 l hl)
   have:=Be.2 (fun l hl=>hx ⟨l,ao.all⟩ (aU.2 ⟨l,hl,J⟩):f9 L x);rw[k] at this;cases this
def L5: ∀{ls:List ah} {c e:ar},bC c->gq c->(∀l∈ls,l.ok)->jm ls c=some e->gq e
 |[],c,e,_,ha,_,h=>by
  obtain rfl:c=e:=by simpa[jm] using h
  exact ha
 |l::t,c,e,hc,ha,hl,h=>by
  have hl':=eJ.1 hl;rw[jm] at h;split at h
  .rename_i hb
   exact L5 (gH hc hl'.1 hb).1 (Ki hc hl'.1 ha hb) hl'.2 h
  .exact absurd h (by simp)
def gp.nz{E:List (aa×aa)}(hB:gp V E){f:aa×aa}(hf:f∈E): ¬((bE f).x=0/\(bE f).y=0):=by
 obtain⟨u,hu⟩:=hB.cen;exact QS (hu f hf)
def gp.vne{E:List (aa×aa)}(hB:gp V E):V≠[]:=by
 obtain⟨u,hu⟩:=hB.cen;obtain⟨v,hv,_⟩:=hB.hull ⟨0,0⟩ u fun f hf=>cM (hu f hf);exact List.ne_nil_of_mem hv
def zo(hl:l.ok)(V:List aa):(km l V).ok/\ ∃g:Rat,0<g/\ ∀p,(km l V).value p=g*(l.value p-jO l.nor V):=by
 refine⟨Fp (Ey hl),?_⟩;obtain⟨g,g0,hg⟩:=Ao (c:=l.c-jO l.nor V) (Ey hl);refine⟨g,g0,fun p=>?_⟩;unfold km;rw[hg,yk];unfold ah.nor aa.dot;dsimp only;grind
def Br{f:aa×aa}(hn: ¬((bE f).x=0/\(bE f).y=0))(h:l7 c f=some l): ∃m,iq c (bE f)=some m/\l.ok/\ ∃g:Rat,0<g/\ ∀p,l.value p=g*((bE f).dot p-m-(bE f).dot f.1):=by
 unfold l7 at h
 cases hf:iq c (bE f) with
 |none=>rw[hf] at h;cases h
 |some m=>
  rw[hf] at h
  cases h
  refine⟨m,J,Fp hn,?_⟩;obtain⟨g,g0,hg⟩:=Ao (c:= -(m+(bE f).dot f.1)) hn;refine⟨g,g0,fun p=>?_⟩;rw[hg];unfold aa.dot;grind
def Gq{E:List (aa×aa)}(hB:gp V E)(hc:bC c): ∀l∈jp c V E,l.ok:=fun l hl=>by
 rcases aL.1 hl with hl|hl
 .obtain⟨s,hs,rfl⟩:=aU.1 hl
  exact(zo (hc.ok s hs) V).1
 .obtain⟨f,hf,e⟩:=jS.1 hl
  obtain⟨_,_,h,_⟩:=Br (hB.nz hf) e;exact h
def auY{E:List (aa×aa)}(hB:gp V E)(hc:bC c)(ha:gq c)(p:aa):f9 (jp c V E) p↔ ∃q,bm c q/\ ∀f∈E,0<bG f.1 f.2 (p.subQ q):=by
 constructor
 .intro h
  refine Uq hB hc (fun s hs=>?_) fun f hf ⟨M,hM⟩=>?_
  .obtain⟨h1,v,hv,h2⟩:=qd (n:=s.l.nor) hB.vne
   refine⟨v,hv,fun w hw=>by rw[<-h2];exact h1 w hw,?_⟩;obtain⟨_,g,g0,hg⟩:=zo (hc.ok s hs) V;have:=h _ (bK _ (dZ (f:=fun s:bu=>km s.l V) hs));rw[hg] at this;rw[<-h2];exact(wv g0).1 this
  .cases hfl:iq c (bE f) with
   |none=>
    obtain⟨q,hq,hlt⟩:=UN hc (hB.nz hf) hfl M;have:=hM q hq;grind
   |some m=>
    obtain⟨_,q,hq,e⟩:=Ei hc ha (hB.nz hf) hfl;refine⟨q,hq,?_⟩;have he:l7 c f=some (eo (bE f).x (bE f).y (-(m+(bE f).dot f.1))):=by unfold l7;rw[hfl];rfl
    obtain⟨m',k1,_,g,g0,hg⟩:=Br (hB.nz hf) he;rw[hfl] at k1;cases k1;have:=h _ (bQ _ (jS.2 ⟨f,hf,he⟩));rw[hg] at this;rw[e];exact(wv g0).1 this
 .rintro ⟨q,hq,hu⟩ l hl
  have hdp: ∀n:aa,n.dot p=n.dot q+n.dot (p.subQ q):=fun n=>by rw[Bv];grind
  rcases aL.1 hl with hl|hl
  .obtain⟨s,hs,rfl⟩:=aU.1 hl
   obtain⟨_,g,g0,hg⟩:=zo (hc.ok s hs) V;rw[hg,wv g0];have h1:=XG hB (c:=c) (q:=q) (u:=p.subQ q) (fun f hf=>cM (hu f hf)) (qd (n:=s.l.nor) hB.vne).1;have h2:=hq s hs;rw[yk] at h2⊢;rw[hdp];grind
  .obtain⟨f,hf,e⟩:=jS.1 hl
   obtain⟨m,k1,_,g,g0,hg⟩:=Br (hB.nz hf) e;rw[hg,wv g0,hdp];have h1:=hu f hf;rw[E5] at h1;have h2:=(Ei hc ha (hB.nz hf) k1).1 q hq.c;grind
def Vb{E:List (aa×aa)}(hB:gp V E)(hc:bC c)(ha:gq c)(hq:gv c q)(hv:v∈V): ∀l∈jp c V E,0<=l.value (q.add v):=fun l hl=>by
 have hdp: ∀n:aa,n.dot (q.add v)=n.dot q+n.dot v:=fun n=>by unfold aa.dot aa.add;dsimp only;grind
 rcases aL.1 hl with hl|hl
 .obtain⟨s,hs,rfl⟩:=aU.1 hl
  obtain⟨_,g,g0,hg⟩:=zo (hc.ok s hs) V;rw[hg];have h1:=(qd (n:=s.l.nor) hB.vne).1 v hv;have h2:=hq s hs;rw[yk] at h2⊢;rw[hdp];exact cA (cM g0) (by grind)
 .obtain⟨f,hf,e⟩:=jS.1 hl
  obtain⟨m,k1,_,g,g0,hg⟩:=Br (hB.nz hf) e;rw[hg,hdp];have h1:=hB.cvx f hf v hv;rw[E5] at h1;have h2:=(Ei hc ha (hB.nz hf) k1).1 q hq;exact cA (cM g0) (by grind)
def PY{E:List (aa×aa)}(hB:gp V E)(hc:bC c)(ha:gq c): ∃p,f9 (jp c V E) p:=by
 obtain⟨q,hq⟩:=hc.ne;obtain⟨u,hu⟩:=hB.cen;refine⟨q.add u,(auY hB hc ha _).2 ⟨q,hq,fun f hf=>?_⟩⟩;have e:(q.add u).subQ q=u:=by unfold aa.subQ aa.add;cases u;simp only[aa.mk.injEq];constructor<;>grind
 rw[e];exact hu f hf
def JR{E:List (aa×aa)}(hB:gp V E)(hc:bC c)(ha:gq c): ∃d,jm (jp c V E) []=some d/\bC d/\gq d/\(∀p,bm d p↔f9 (jp c V E) p)/\iH (jp c V E)=d.map (·.l):=by
 have hok:=Gq hB hc;obtain⟨p,hp⟩:=PY hB hc ha;obtain⟨d,hd⟩:=GA bC.nil hok ⟨p,fun s hs=>absurd hs (by simp),hp⟩;obtain⟨g1,g2⟩:=Ko bC.nil hok hd;have g2: ∀p,bm d p↔f9 (jp c V E) p:=fun p=>by
  rw[g2];exact⟨fun h=>h.2,fun h=>⟨fun s hs=>absurd hs (by simp),h⟩⟩
 have g3:=L5 bC.nil .nil hok hd;exact⟨d,hd,g1,g3,g2,V0 hok g1 g3 g2⟩
def fk(V:List aa)(E:List (aa×aa))(c:ar):Tr:=ig (iH (jp c V E))
def AX{E:List (aa×aa)}(hB:gp V E)(hc:bC c)(ha:gq c):(fk V E c).all ah.ok:=by
 obtain⟨d,_,g1,_,_,e⟩:=JR hB hc ha;unfold fk;rw[e];exact Gu fun l hl=>by obtain⟨s,hs,rfl⟩:=aU.1 hl;exact g1.ok s hs
def Wm{E:List (aa×aa)}(hB:gp V E)(hc:bC c)(ha:gq c)(hq:gv c q)(hv:v∈V):d8 (fk V E c) (q.add v)≠0:=by
 obtain⟨d,hd,g1,_,g2,e⟩:=JR hB hc ha;obtain⟨w,hw⟩:=g1.ne;have hin:gv d (q.add v):=by
  have hcl:=Vb hB hc ha hq hv;intro s hs;obtain⟨e2,h2,_,_,h4⟩:=Cx (Gq hB hc) (PY hB hc ha);rw[hd] at h2
  cases h2
  exact hcl _ (h4 s hs).1
 unfold fk;rw[e,auQ (fun l hl=>by obtain⟨s,hs,rfl⟩:=aU.1 hl;exact g1.ok s hs) (q:=w) (fun l hl=>by obtain⟨s,hs,rfl⟩:=aU.1 hl;exact hw s hs)];unfold IR;rw[if_neg]
 .split<;>decide
 .intro k
  obtain⟨l,hl,h⟩:=gQ.1 k;obtain⟨s,hs,rfl⟩:=aU.1 hl;have:=hin s hs;have:=of_decide_eq_true h;grind
def wR(f:aa×aa):aa×aa:=(aO f.1,aO f.2)
def ID(a b p:aa):bG (aO a) (aO b) p=bG a b (aO p):=by unfold bG aO;dsimp only;grind
def H4(p:aa):aO (aO p)=p:=by unfold aO;cases p;simp only[aa.mk.injEq];constructor<;>grind
def I0{E:List (aa×aa)}(h:gp V E):gp (V.map aO) (E.map wR) where
 ends:=fun f hf=>by
  obtain⟨g,hg,rfl⟩:=aU.1 hf;exact⟨dZ (h.ends g hg).1,dZ (h.ends g hg).2⟩
 cvx:=fun f hf v hv=>by
  obtain⟨g,hg,rfl⟩:=aU.1 hf;obtain⟨w,hw,rfl⟩:=aU.1 hv;show 0<=bG (aO g.1) (aO g.2) (aO w);rw[ID,H4];exact h.cvx g hg w hw
 cen:=by
  obtain⟨u,hu⟩:=h.cen;refine⟨aO u,fun f hf=>?_⟩;obtain⟨g,hg,rfl⟩:=aU.1 hf;show 0<bG (aO g.1) (aO g.2) (aO u);rw[ID,H4];exact hu g hg
 hull:=fun n u hu=>by
  obtain⟨v,hv,hle⟩:=h.hull (aO n) (aO u) fun f hf=>by
   have:=hu _ (dZ (f:=wR) hf);unfold wR at this;rwa [ID] at this
  refine⟨aO v,dZ hv,?_⟩;have e: ∀z,(aO n).dot z=n.dot (aO z):=fun z=>by unfold aa.dot aO;dsimp only;grind
  rw[e,e,H4] at hle;exact hle
def HB{P:aa×aa->Prop}{f:aa×aa}{x y z:aa×aa}(hf:f∈[x,y,z])(h1:P x)(h2:P y)(h3:P z):P f:=by
 simp only[aK,eY,or_false] at hf;rcases hf with rfl|rfl|rfl<;>assumption
def YD{a b c:aa}(h:0<bG a b c):gp [a,b,c] [(a,b),(b,c),(c,a)] where
 ends:=fun f hf=>HB (P:=fun f=>f.1∈[a,b,c]/\f.2∈[a,b,c]) hf (by simp) (by simp) (by simp)
 cvx:=fun f hf v hv=>by
  simp only[aK,eY,or_false] at hv;refine HB (P:=fun f=>0<=bG f.1 f.2 v) hf ?_ ?_ ?_<;>dsimp only<;>rcases hv with rfl|rfl|rfl<;>unfold bG at* <;>grind
 cen:=⟨⟨(a.x+b.x+c.x)/3,(a.y+b.y+c.y)/3⟩,fun f hf=>by
  refine HB (P:=fun f=>0<bG f.1 f.2 ⟨(a.x+b.x+c.x)/3,(a.y+b.y+c.y)/3⟩) hf ?_ ?_ ?_<;>dsimp only<;>unfold bG at* <;>grind⟩
 hull:=fun n u hu=>by
  have h1:=hu (a,b) (by simp);have h2:=hu (b,c) (by simp);have h3:=hu (c,a) (by simp);dsimp only at h1 h2 h3;have e:bG a b c*n.dot u=bG b c u*n.dot a+bG c a u*n.dot b+bG a b u*n.dot c:=by unfold bG aa.dot;grind
  have e2:bG a b c=bG b c u+bG c a u+bG a b u:=by unfold bG;grind
  apply Classical.byContradiction;intro k;have ka:n.dot u<n.dot a:=by have: ¬n.dot a<=n.dot u:=fun q=>k ⟨a,by simp,q⟩;grind
  have kb:n.dot u<n.dot b:=by have: ¬n.dot b<=n.dot u:=fun q=>k ⟨b,by simp,q⟩;grind
  have kc:n.dot u<n.dot c:=by have: ¬n.dot c<=n.dot u:=fun q=>k ⟨c,by simp,q⟩;grind
  have:=ul h2 h3 h1 (by grind) (show 0<n.dot a-n.dot u by grind) (show 0<n.dot b-n.dot u by grind) (show 0<n.dot c-n.dot u by grind);rw[e2] at e;clear hu k h e2;generalize bG b c u=x at*;generalize bG c a u=y at*;generalize bG a b u=z at*;generalize n.dot u=m at*;generalize n.dot a=p at*;generalize n.dot b=q at*;generalize n.dot c=r at*;grind
def KZ{P:aa×aa->Prop}{f:aa×aa}{x y z w:aa×aa}(hf:f∈[x,y,z,w])(h1:P x)(h2:P y)(h3:P z)(h4:P w):P f:=by
 simp only[aK,eY,or_false] at hf;rcases hf with rfl|rfl|rfl|rfl<;>assumption
def aJC{c d:Rat}(h1:a<c)(h2:b<d):gp [⟨a,b⟩,⟨c,b⟩,⟨c,d⟩,⟨a,d⟩] [(⟨a,b⟩,⟨c,b⟩),(⟨c,b⟩,⟨c,d⟩),(⟨c,d⟩,⟨a,d⟩),(⟨a,d⟩,⟨a,b⟩)] where
 ends:=fun f hf=>KZ (P:=fun f=>f.1∈[(⟨a,b⟩:aa),⟨c,b⟩,⟨c,d⟩,⟨a,d⟩]/\f.2∈[(⟨a,b⟩:aa),⟨c,b⟩,⟨c,d⟩,⟨a,d⟩]) hf (by simp) (by simp) (by simp) (by simp)
 cvx:=fun f hf v hv=>by
  have k:=bD (show 0<c-a by grind) (show 0<d-b by grind);simp only[aK,eY,or_false] at hv;refine KZ (P:=fun f=>0<=bG f.1 f.2 v) hf ?_ ?_ ?_ ?_<;>dsimp only<;>rcases hv with rfl|rfl|rfl|rfl<;>unfold bG<;>dsimp only<;>grind
 cen:=⟨⟨(a+c)/2,(b+d)/2⟩,fun f hf=>by
  have k:=bD (show 0<c-a by grind) (show 0<d-b by grind);refine KZ (P:=fun f=>0<bG f.1 f.2 ⟨(a+c)/2,(b+d)/2⟩) hf ?_ ?_ ?_ ?_<;>dsimp only<;>unfold bG<;>dsimp only<;>grind⟩
 hull:=fun n u hu=>by
  have k1:=hu (⟨a,b⟩,⟨c,b⟩) (by simp);have k2:=hu (⟨c,b⟩,⟨c,d⟩) (by simp);have k3:=hu (⟨c,d⟩,⟨a,d⟩) (by simp);have k4:=hu (⟨a,d⟩,⟨a,b⟩) (by simp);unfold bG at k1 k2 k3 k4;dsimp only at k1 k2 k3 k4;have y1:0<=u.y-b:=(ip (k:=c-a) (by grind)).1 (by grind);have y2:0<=d-u.y:=(ip (k:=c-a) (by grind)).1 (by grind);have x1:0<=u.x-a:=(ip (k:=d-b) (by grind)).1 (by grind);have x2:0<=c-u.x:=(ip (k:=d-b) (by grind)).1 (by grind);by_cases hx:0<=n.x<;>by_cases hy:0<=n.y
  .refine⟨⟨a,b⟩,by simp,?_⟩
   have:=cA hx x1;have:=cA hy y1;unfold aa.dot;dsimp only;grind
  .refine⟨⟨a,d⟩,by simp,?_⟩
   have:=cA hx x1;have:=cA (show 0<= -n.y by grind) y2;unfold aa.dot;dsimp only;grind
  .refine⟨⟨c,b⟩,by simp,?_⟩
   have:=cA (show 0<= -n.x by grind) x2;have:=cA hy y1;unfold aa.dot;dsimp only;grind
  .refine⟨⟨c,d⟩,by simp,?_⟩
   have:=cA (show 0<= -n.x by grind) x2;have:=cA (show 0<= -n.y by grind) y2;unfold aa.dot;dsimp only;grind
def vo(V:List aa)(E:List (aa×aa))(cs:List ar)(t:Tr):Tr:=cs.foldl (fun t c=>t.mergeQ 1 (fk V E c) []) t
def lv(V:List aa)(E:List (aa×aa))(t:Tr):Tr:=vo V E (eH (t.restrict [])) (.leaf false)
def OY{V:List aa}{E:List (aa×aa)}(hB:gp V E){M:List ah}: ∀{cs:List ar} {t:Tr},(∀c∈cs,bC c/\gq c)->t.all ah.ok->(∀l∈t.lns,l∈M)->(∀c∈cs,∀l∈(fk V E c).lns,l∈M)->(vo V E cs t).all ah.ok/\(∀l∈(vo V E cs t).lns,l∈M)/\ ∀p,cj M p->((vo V E cs t).val p=true↔t.val p=true\/ ∃c∈cs,(fk V E c).val p=true)
 |[],t,_,ht,hl,_=>⟨ht,hl,fun p _=>⟨.inl,fun h=>h.elim id fun⟨c,hc,_⟩=>by cases hc⟩⟩
 |c::cs,t,hcs,ht,hl,hM=>by
  obtain⟨g,a⟩:=hcs c aQ;have hok:=AX hB g a;have h1:=Tr.mergeQ_all ah.ok 1 hok t [] ht;have h2:=Tr.mergeQ_all (fun l=>l∈M) 1 (nf.2 (hM c aQ)) t [] (nf.2 hl);obtain⟨i1,i2,i3⟩:=OY hB (cs:=cs) (t:=t.mergeQ 1 (fk V E c) []) (fun d hd=>hcs d (aJ _ hd)) h1 (nf.1 h2) (fun d hd=>hM d (aJ _ hd));refine⟨i1,i2,fun p hp=>?_⟩;show(vo V E cs (t.mergeQ 1 (fk V E c) [])).val p=true↔_;rw[i3 p hp,Tr.val_merge 1 _ hok t [] p ht bC.nil (fun s hs=>by cases hs) (hp.sub hl) (hp.sub (hM c aQ))];have e: ∀x y:Bool,tj 1 x y=true↔x=true\/y=true:=fun x y=>by cases x<;>cases y<;>decide
  rw[e];constructor
  .rintro ((h|h)|⟨d,hd,h⟩)
   .exact .inl h
   .exact .inr ⟨c,aQ,h⟩
   .exact .inr ⟨d,aJ _ hd,h⟩
  .rintro (h|⟨d,hd,h⟩)
   .exact .inl (.inl h)
   .rcases aK.1 hd with rfl|hd
    .exact .inl (.inr h)
    .exact .inr ⟨d,hd,h⟩
def xf{t:Tr}(ht:t.all ah.ok): ∀c∈eH (t.restrict []),bC c/\gq c:=fun c hc=>⟨aqq (t.restrict_all _ [] ht) c hc,HN (t.restrict_all _ [] ht) bC.nil (show gq [] from .nil) _ (tc.1 hc)⟩
def DJ(V:List aa)(E:List (aa×aa))(t:Tr):List ah:=(eH (t.restrict [])).flatMap fun c=>(fk V E c).lns
def Gk{E:List (aa×aa)}(hB:gp V E){t:Tr}(ht:t.all ah.ok):(lv V E t).all ah.ok/\(∀l∈(lv V E t).lns,l∈DJ V E t)/\ ∀p,cj (DJ V E t) p->((lv V E t).val p=true↔ ∃c∈eH (t.restrict []),(fk V E c).val p=true):=by
 obtain⟨h1,h2,h3⟩:=OY hB (M:=DJ V E t) (t:= .leaf false) (xf ht) trivial (fun l hl=>by cases hl) fun c hc l hl=>iJ.2 ⟨c,hc,hl⟩;refine⟨h1,h2,fun p hp=>?_⟩;show(vo V E _ _).val p=true↔_;rw[h3 p hp];exact⟨fun h=>h.elim (fun h=>by cases h) id, .inr⟩
end Go.Sx
end
