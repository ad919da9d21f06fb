import Derived.Test.YtmbbejdimfkkcaaGreatDoorMo17
set_option linter.all false
set_option maxHeartbeats 4000000
set_option maxRecDepth 100000
section
namespace Go.Sx
open Go Go.Proofs Tryz
variable {GB:Gh}
section
variable {GB:Gh} {C:aH} {n:Nat} {Q0:Exit->Act->World->Prop} {fr fr':aF} {own own':bh} {cf cf':Cf} {vc:List Prop} {lk:LK} {bk:BM} {dst:Option Nat} {ty:TypeId} {pos:String} {af:Array Edge} {gd:Option (Nat×Bool)}
def JF(t:TypeId):Prop:= ∀(x:Value) w,(Instr.makeInterface t x).run prog w= .ok (.iface t x) w
def GU(t:TypeId)(u:Value)(m:String)(f:FuncId):Prop:= ∀w,(method (prog.types.size+Made.depth) t u m).run prog w= .ok (f,u) w
def aJi{t:TypeId}{x:Operand}{d:DV}{u:Value}(ht:JF t)(hx:evD lk x=some d)(hd: ∀G y,Is G d y->y=u):b9 prog GB C n lk bk ⟨dst, .makeInterface t x,ty,pos,af,gd⟩ (.d (.v (.iface t u))) [] []:=
 b9.yd fun ρ G ov a w r=>by
  obtain⟨y,hy,hy'⟩:=r.evD hx;obtain rfl:=hd G y hy';refine⟨_,(aP (G:=G)).2 J,fun a' w' hf _=>?_⟩;refine dh (f:=Next.value) ?_;rw[bF hf hy];exact ht _ _
def ZR{x:Operand}{m:String}{args:Array Operand}{tys:Array TypeId}{t:TypeId}{u:Value}{f:FuncId}{vs:List Value}{fr:Fr}{a:Act}{w:World}(hf:ma fr a)(hx:aE fr x=some (.iface t u))(hv:fI fr args.toList=some vs)(hm:GU t u m f)(hc:ua prog f):
  (execOp a.eval ⟨dst, .call ⟨.invoke x m,args,tys⟩,ty,pos,af,gd⟩).run prog w= .ok (.enter f ⟨u::vs⟩) w:=by
 have e:args.map a.eval=⟨vs⟩:=by apply Array.ext';simpa using Dp hf hv
 simp only[execOp,resolve,bF hf hx,e];show(invoke (.fn (.method m) #[]) (#[.iface t u]++⟨vs⟩)).run prog w=_;simp only[invoke];have h0:(#[Value.iface t u]++(⟨vs⟩:Array Value))[0]? =some (.iface t u):=by simp
 have h1:(#[Value.iface t u]++(⟨vs⟩:Array Value)).extract 1 (#[Value.iface t u]++(⟨vs⟩:Array Value)).size=⟨vs⟩:=by
  apply Array.ext';simp
 rw[h0,h1];show(callMethod (.iface t u) m ⟨vs⟩).run prog w=_;unfold callMethod;show((do
  let p<-program
  let(g,receiver)<-method (p.types.size+Made.depth) t u m
  callFunc g (#[receiver]++⟨vs⟩)):Sem Next).run prog w=_
 rw[bj (a:=prog) (w':=w) J,bj (hm w)];show(callFunc f (#[u]++⟨vs⟩)).run prog w=_;rw[Ku hc];simp
def aIT{x:Operand}{m:String}{args:Array Operand}{tys:Array TypeId}{t:TypeId}{u:Value}{f:FuncId}{ds:List DV}{rv:DV}(hx:bt lk x=some (.d (.v (.iface t u))))(ha:evDs lk args.toList=some ds)(hm:GU t u m f)(hF:PF GB prog f (.v u::ds) rv):
  b9 prog GB C n lk bk ⟨dst, .call ⟨.invoke x m,args,tys⟩,ty,pos,af,gd⟩ (.d rv) [] []:=by
 intro hd tl tb K' s1 s2 hf hk;refine⟨fun ρ G ov a w r Q=>?_⟩;obtain⟨y,hy,hy'⟩:=(r.mono s1 s2).ev hx;rw[(aP (G:=G)).1 hy'] at hy;obtain⟨vs,h3,h4⟩:=(r.mono s1 s2).evDs ha;have hFn:=hF G (u::vs) r.gb (.cons (aP.2 J) h4);have h2:=ZR (dst:=dst) (ty:=ty) (pos:=pos) (af:=af) (gd:=gd) (tys:=tys) (w:=w) (c7 a) hy h3 hm hFn.able;simp only[Oper.wp,h2,Oper.upon];refine(hFn.run w r.h.sub).mono ?_;rintro e w' ⟨v,G',rfl,hh,hK⟩;have rl:io C n (cG a) ov G a w:=⟨r.h,r.sz,c7 a,r.df⟩;have rl2:=(rl.heap (rl.h.called hh)).put v hd;exact hk.run ρ G' ov _ w' ⟨r.gb.trans hh.gle,rl2.h,rl2.sz,rl2.df,(kj rl2).fx (fun k g _ e=>by obtain⟨z,h5,h6⟩:=r.fx k g e;exact⟨z,h5,h6.up hh.gle⟩) hK,
  fun nm B e=>by obtain⟨os,h5,h6⟩:=r.bx nm B e;exact⟨os,h5.up hh.gle,h6⟩,r.dj,r.fxd⟩
def Nb(fr:aF)(cf:Cf):Option (TypeId×DV):=match di fr cf with
 |some ⟨_, .makeInterface t x,_,_,_,_⟩=>match evD (ck fr cf) x with
  |some d=>some (t,d)
  |none=>none
 |_=>none
def mki[fu:Fu]{t:TypeId}{d:DV}(u:Value)(ha:Nb fr cf=some (t,d))(ht:JF t)(hd: ∀G y,Is G d y->y=u)(hgo:c6 tt n fu.n fr own cf (.d (.v (.iface t u))) [] []=⟨vc,fr',own',cf'⟩)(k:av prog GB C n Q0 fr' own' cf')
  (hv:autoParam (ak vc) cL._auto_1):av prog GB C n Q0 fr own cf:=by
 unfold Nb at ha;split at ha<;>try (cases ha;done)
 rename_i hh;split at ha<;>cases ha;rename_i hx;exact us hh (aJi ht hx hd) hgo hv k
def Tl(fr:aF)(cf:Cf):Option (String×TypeId×Value×List DV):=match di fr cf with
 |some ⟨_, .call ⟨.invoke x m,args,_⟩,_,_,_,_⟩=>match bt (ck fr cf) x with
  |some (.d (.v (.iface t u)))=>match evDs (ck fr cf) args.toList with
   |some ds=>some (m,t,u,ds)
   |none=>none
  |_=>none
 |_=>none
def XX[fu:Fu]{m:String}{t:TypeId}{u:Value}{f:FuncId}{ds:List DV}{rv:DV}(ha:Tl fr cf=some (m,t,u,ds))(hm:GU t u m f)(hF:PF GB prog f (.v u::ds) rv)(hgo:c6 tt n fu.n fr own cf (.d rv) [] []=⟨vc,fr',own',cf'⟩)(k:av prog GB C n Q0 fr' own' cf')
  (hv:autoParam (ak vc) cL._auto_1):av prog GB C n Q0 fr own cf:=by
 unfold Tl at ha;split at ha<;>try (cases ha;done)
 rename_i hh;split at ha<;>try (cases ha;done)
 rename_i hx;split at ha<;>cases ha;rename_i hds;exact us hh (aIT hx hds hm hF) hgo hv k
def PF.arg0{f:FuncId}{d e:DV}{ds:List DV}{rv:DV}(h:PF GB prog f (d::ds) rv)(he: ∀G y,Is G e y->Is G d y):PF GB prog f (e::ds) rv:=fun G vs hg hvs=>by
 obtain⟨y,m,rfl,h1,h2⟩:=bA.1 hvs;exact h G _ hg (.cons (he G y h1) h2)
end
section
variable {GB:Gh} {C:aH} {n:Nat} {Q0:Exit->Act->World->Prop} {fr fr':aF} {own own':bh} {cf cf':Cf} {vc:List Prop} {lk:LK} {bk:BM} {dst:Option Nat} {ty:TypeId} {pos:String} {af:Array Edge} {gd:Option (Nat×Bool)}
def aBI{fo:Operand}{args:Array Operand}{tys:Array TypeId}{f:FuncId}{c1 c2:List Value}{ds1 ds ds2:List DV}{rv:DV}(h1:bt lk fo=some (.d (.v (.func (.func f) ⟨c1⟩ ⟨c2⟩))))(h2:evDs lk args.toList=some ds)(hc:IsLs GB ds1 c1)(hc2:IsLs GB ds2 c2)(hF:PF GB prog f (ds1++ds++ds2) rv):
  b9 prog GB C n lk bk ⟨dst, .call ⟨.value fo,args,tys⟩,ty,pos,af,gd⟩ (.d rv) [] []:=by
 intro hd tl tb K' s1 s2 hf hk;refine⟨fun ρ G ov a w r Q=>?_⟩;obtain⟨y,hy,hy'⟩:=(r.mono s1 s2).ev h1;rw[(aP (G:=G)).1 hy'] at hy;obtain⟨vs,h3,h4⟩:=(r.mono s1 s2).evDs h2;refine Q6 (c1:=c1) (c2:=c2) hy h3 (hF G (c1++vs++c2) r.gb (((hc.up r.gb).app h4).app (hc2.up r.gb))) hd (fun v G' hG hK a' w' rl=>?_) a w Q ⟨r.h,r.sz,c7 a,r.df⟩;exact hk.run ρ G' ov a' w' ⟨r.gb.trans hG.le,rl.h,rl.sz,rl.df,(kj rl).fx (fun k g _ e=>by obtain⟨u,h5,h6⟩:=r.fx k g e;exact⟨u,h5,h6.up hG.le⟩) hK,
  fun nm B e=>by obtain⟨os,h5,h6⟩:=r.bx nm B e;exact⟨os,h5.up hG.le,h6⟩,r.dj,r.fxd⟩
def N4(fr:aF)(cf:Cf):Option (FuncId×List Value×List Value×List DV):=match di fr cf with
 |some ⟨_, .call ⟨.value fo,args,_⟩,_,_,_,_⟩=>match bt (ck fr cf) fo,evDs (ck fr cf) args.toList with
  |some (.d (.v (.func (.func f) ⟨c1⟩ ⟨c2⟩))),some ds=>some (f,c1,c2,ds)
  |_,_=>none
 |_=>none
def Xu[fu:Fu]{f:FuncId}{c1 c2:List Value}{ds ds1 ds2:List DV}{rv:DV}(ha:N4 fr cf=some (f,c1,c2,ds))(hc:IsLs GB ds1 c1)(hc2:IsLs GB ds2 c2)(hF:PF GB prog f (ds1++ds++ds2) rv)(hgo:c6 tt n fu.n fr own cf (.d rv) [] []=⟨vc,fr',own',cf'⟩)(k:av prog GB C n Q0 fr' own' cf')
  (hv:autoParam (ak vc) cL._auto_1):av prog GB C n Q0 fr own cf:=by
 unfold N4 at ha;split at ha<;>try (cases ha;done)
 rename_i hh;split at ha<;>cases ha;rename_i h1 h2;exact us hh (aBI h1 h2 hc hc2 hF) hgo hv k
end
def K2(p q:ah):DV:= .ag [vI (dP p.x),vI (dO p.x),dC p.x,vI (dP p.y),vI (dO p.y),dC p.y,vI (dP q.x),vI (dO q.x),dC q.x,vI (dP q.y),vI (dO q.y),dC q.y]
def ptE{C:aH}{n:Nat}{Q0:Exit->Act->World->Prop}{fr:aF}{own:bh}{ops:Array Oper}{r:List Oper}{K:List Kt}(k:Nat){l:List DV}(hl:bi fr k=some (.d (.pt l)))(h:av prog GB C n Q0 ((k, .ep l)::fr) own (.ops ops r K)):av prog GB C n Q0 fr own (.ops ops r K):=
 oq hl (fun ρ G y hy=>by
  obtain⟨b,m,rfl,h1,h2⟩:=mF.1 hy;have e:=h2.len;exact⟨b,0,m,m,J,h1,by rw[mi m 0 l.length we,iS,<-e,cN],h2⟩) h
def aC(v:List ah):List (ah×ah):=(List.range v.length).map fun i=>(v.getD i ⟨0,0⟩,v.getD ((i+1)%v.length) ⟨0,0⟩)
def arn{ls:List aa}(hb: ∀p∈ls,LB p)(hn:ls.length<=100000):PR GB prog 71 [.sl (ls.map eL)] 6 54 ((mE ls).map eL):=by
 have hm':=ez eL ls;refine BP (fu:=⟨15⟩) func71 J J ntmps71 J J (fun C hmb=>?_);refine aj 8 (.d (vI (ls.length:Nat))) J (by rw[hm']<;>rfl)<|gx J<|nr 3 3 54 6 J J J<|lp (X:=List aa×Nat) (fun⟨xs,k⟩=>[(9, .d (vI (k:Nat))),(3, .rw 3)]) (fun⟨xs,k⟩=>[(3,some (.b 54 6 (xs.map eL) true))]) (fun⟨xs,k⟩=>xs=rD et aa.canon ls k/\k<=ls.length) (fun⟨xs,k⟩=>ls.length-k) ⟨[],0⟩ J ⟨J,aN _⟩ (fun _=>J) (fun⟨xs,k⟩ hk=>?_)
 try dsimp only at hk⊢
 obtain⟨hS,hkl⟩:=hk;refine br J J J (fun hc10=>?_) (fun hc10=>?_)
 .
  have hk:k<ls.length:=by omega
  obtain⟨z,hm⟩: ∃m,m=ls[k]:=⟨_,rfl⟩;have hz:ls[k]? =some z:=by rw[hm];exact aZ hk
  haveI hzb:LB z:=hm▸hb _ (dQ hk);obtain⟨m,hmc⟩: ∃m,m=z.canon:=⟨_,rfl⟩;haveI hmb:LB m:=by rw[hmc];infer_instance
  have hxl:=ez eL xs;have hxn:xs.length<=k:=by rw[hS];exact KR
  have hxb: ∀q∈xs,LB q:=fun q hq=>by rw[hS] at hq;obtain⟨z,hz,rfl⟩:=Ib hq;haveI:=hb z hz;infer_instance
  refine ix (fu:=⟨1⟩) _ J (pE hk) J<|aj 12 (.d (eL z)) J okY<|gx J<|cl (fu:=⟨2⟩) J (U3 (l:=z)) J<|aj 16 (.d (eL m)) J (by rw[hmc])<|gx (fu:=⟨10⟩) J<|mg (fu:=⟨0⟩) (X:=Nat) (fun n=>[(6, .d (vI (n:Nat)))]) (fun n=>[]) (fun n=>me et m xs=n) [6] [] rfl ?_ (fun _=>J) (fun n hnx=>?_)
  .
   refine gx J<|lp (fu:=⟨6⟩) (X:=Nat) (fun n=>[(6, .d (vI (n:Nat)))]) (fun n=>[]) (fun n=>n<=xs.length/\ ∀j (h:j<xs.length),j<n->et xs[j] m<0) (fun n=>xs.length-n) 0 J ⟨aN _,fun j _ hj=>absurd hj we⟩ (fun _=>J) (fun n hk=>?_);obtain⟨n1,n2⟩:=hk;refine jP (v2:=fun hg21=>by simp only[ak];kernel_rfl) J J J J (fun hg21=>?_) (fun hg21=>?_)
   .
    refine lb _ J (pE) J<|cl J (Ag (l:=xs[n]' we) (m:=m) (hl:=hxb _ (dQ we)) (hm:=hmb)) J<|br J J J (fun hc30=>?_) (fun hc30=>?_)
    .
     exact at_ (n+1) ⟨⟨we,fun j h hj=>by by_cases q:j=n;(subst q;exact hc30);exact n2 j h we⟩,we⟩
    .
     exact at_ n (tc et n1 n2 (fun h=>hc30))
   .
    exact at_ n (tc et n1 n2 (fun h=>absurd h we))
  .
   have hnl:n<=xs.length:=by rw[<-hnx];exact Ct _ _ _
   rcases(show n=xs.length\/(∃h:n<xs.length,et xs[n] m≠0)\/ ∃h:n<xs.length,et xs[n] m=0 by by_cases q:n<xs.length;(by_cases q2:et xs[n] m=0;exact .inr (.inr ⟨q,q2⟩);exact .inr (.inl ⟨q,q2⟩));exact .inl we) with hq|⟨hq,hq2⟩|⟨hq,hq2⟩
   .
    have hnew: ∀h:n<xs.length,et xs[n] m≠0:=fun h=>absurd h we;obtain⟨ys,hys⟩: ∃ys,ys=xs.take n++m::xs.drop n:=⟨_,rfl⟩;have hin:fe et m xs=ys:=by rw[hys];exact qD et hnx hnew
    have hyl:ys.length<=xs.length+1:=by rw[hys];simp;omega
    refine nj 3 J<|gx (fu:=⟨5⟩) J<|d7 J (omg (by rw[hxl];omega)) J<|s3 n _ J J J J (du _) omD J<|ro J J<|kp n xs.length _ J J okl J (du _) hnl we J<|ap _ J J (q8 du _ _ _) J<|ap (hv:=by simp only[ak];exact⟨omd,we⟩) (ho:=fun _=>⟨sE du _ _,omc⟩) (ys.map eL) J omy (sB du _ _ _ _) J<|ek 56 3 J<|at_ ⟨ys,k+1⟩ omx
   .
    have hnew: ∀h:n<xs.length,et xs[n] m≠0:=fun h=>hq2;obtain⟨ys,hys⟩: ∃ys,ys=xs.take n++m::xs.drop n:=⟨_,rfl⟩;have hin:fe et m xs=ys:=by rw[hys];exact qD et hnx hnew
    have hyl:ys.length<=xs.length+1:=by rw[hys];simp;omega
    refine nj 3 J<|gx (fu:=⟨5⟩) J<|cv J (omh (by rw[hxl];omega)) J<|ix _ J (pE hq) J<|cl (fu:=⟨0⟩) J (Ag (l:=xs[n]' we) (m:=m) (hl:=hxb _ (dQ we)) (hm:=hmb)) J<|d7 J (omg ome) J<|s3 n _ J J J J (du _) omD J<|ro J J<|kp n xs.length _ J J okl J (du _) hnl we J<|ap _ J J (q8 du _ _ _) J<|ap (hv:=by simp only[ak];exact⟨omd,we⟩) (ho:=fun _=>⟨sE du _ _,omc⟩) (ys.map eL) J omy (sB du _ _ _ _) J<|ek 56 3 J<|at_ ⟨ys,k+1⟩ omx
   .
    have hin:fe et m xs=xs:=BE et hnx hq hq2;refine gx (fu:=⟨5⟩) J<|cv J (omh (by rw[hxl];omega)) J<|lb _ J (pE hq) J<|cl (fu:=⟨0⟩) J (Ag (l:=xs[n]' we) (m:=m) (hl:=hxb _ (dQ we)) (hm:=hmb)) J<|cv (hv:=by simp only[ak];exact⟨omd,we⟩) J (omh (fun h=>h hq2)) J<|at_ ⟨xs,k+1⟩ omx
 .
  have hfin:mE ls=xs:=by rw[hS,Kb];rfl
  exact Ca J J J (by rw[hfin])
def tP(x:List aa×Bool):DV:= .ag [.sl (x.1.map eL),vB x.2]
def aJf(l:List (List aa×Bool)):cO 2 (l.map tP):=fun d hd=>by
 obtain⟨x,_,rfl⟩:=aU.1 hd;exact⟨J,J⟩
def ze(c:List aa):DV:= .sl (c.map eL)
def aH4(l:List (List aa)):cO 1 (l.map ze):=fun d hd=>by
 obtain⟨x,_,rfl⟩:=aU.1 hd;exact⟨J,J⟩
def aoQ{b:Bool}{c:List aa}(hc: ∀m∈c,LB m)(hok: ∀m∈c,m.ok)(hn:c.length<=1000):PR GB prog 75 [eT (.leaf b), .sl (c.map eL)] 2 152 ((gG (.leaf b) c).map tP):=by
 refine BP func75 J J ntmps75 J J (fun C hmb=>?_);refine cl J (DL hc hok) J<|bb (fu2:=⟨8⟩) J J J (fun hc13=>?_) (fun hc13=>?_)
 .
  exact M2 J J (by rw[gG,if_neg okr];rfl)
 .
  refine d7 J J J<|ro J J<|?_;exact Ca J J J (by rw[gG,if_pos okr]<;>rfl)
theorem ozm{p:Prop}(h:p:=by rw[aY,eY];omega):p:=h
def YG{l:aa}{x y:Tr}{c:List aa}(hc: ∀m∈c,LB m)(hok: ∀m∈c,m.ok)(hl:LB l)(hlo:l.ok)(hn:c.length+(Tr.node l x y).depth<=1000)(hs:(Tr.node l x y).size<=100000)(ihx: ∀{c:List aa},(∀m∈c,LB m)->(∀m∈c,m.ok)->c.length+x.depth<=1000->PR GB prog 75 [eT x, .sl (c.map eL)] 2 152 ((gG x c).map tP))(ihy: ∀{c:List aa},(∀m∈c,LB m)->(∀m∈c,m.ok)->c.length+y.depth<=1000->PR GB prog 75 [eT y, .sl (c.map eL)] 2 152 ((gG y c).map tP)):PR GB prog 75 [eT (.node l x y), .sl (c.map eL)] 2 152 ((gG (.node l x y) c).map tP):=by
 haveI:=hl;have hd:(Tr.node l x y).depth=1+max x.depth y.depth:=J;have hz:(Tr.node l x y).size=1+x.size+y.size:=J;have hcl:=pI c;have go: ∀{P:aa->Prop} {k:aa},(∀m∈c,P m)->P k-> ∀m∈cj c++[k],P m:=fun{P k} h1 h2 m hm=>by
  rcases bZ.1 hm with h|h
  .exact h1 m (ke.1 h).1
  .rw[aT.1 h];exact h2
 have h1:=CC x (cj c++[l]);have h2:=CC y (cj c++[l.rev]);refine BP func75 J J ntmps75 J J (fun C hmb=>?_);refine cl J (DL hc hok) J<|bb (fu2:=⟨8⟩) J J J (fun hc13=>?_) (fun hc13=>?_)
 .
  exact M2 J J (by rw[gG,if_neg okr];rfl)
 .
  refine cv J J J<|oG J J<|ap ((cj c).map eL) J J (du _) J<|rf J J<|kz ((cj c++[l]).map eL) J okb (du [l]) J<|cr J (ihx (c:=cj c++[l]) (go hc hl) (go hok hlo) ozm) J<|oG J J<|ap ((cj c).map eL) J J (du _) J<|cl J (ym (l:=l)) J<|rf J J<|kz ((cj c++[l.rev]).map eL) J okb (du [l.rev]) J<|cr J (ihy (c:=cj c++[l.rev]) (go hc inferInstance) (go hok hlo.rev) ozm) J<|ap ((gG x (cj c++[l])++gG y (cj c++[l.rev])).map tP) J (by rw[aL]) (aJf _) J<|?_;exact Ca J J J (by rw[gG,if_pos okr]<;>rfl)
def Mn: ∀{t:Tr} {c:List aa},t.all LB->t.all aa.ok->t.size<=100000->(∀m∈c,LB m)->(∀m∈c,m.ok)->c.length+t.depth<=1000->PR GB prog 75 [eT t, .sl (c.map eL)] 2 152 ((gG t c).map tP)
 | .leaf _,_,_,_,_,hc,hk,hn=>aoQ hc hk we
 | .node l x y,c,hb,ho,hs,hc,hk,hn=>YG hc hk hb.1 ho.1 hn hs (fun a b d=>Mn hb.2.1 ho.2.1 omM a b d) (fun a b d=>Mn hb.2.2 ho.2.2 omM a b d)
def qz(ps:List (List aa×Bool)):List (List aa):=(ps.filter (·.2)).map (·.1)
def Oi{ps:List (List aa×Bool)}{k:Nat}{b:Bool}{e:List aa}(h:ps[k]? =some (e,b)):qz (ps.drop k)=(if b then [e] else [])++qz (ps.drop (k+1)):=by
 obtain⟨h1,h2⟩:=aR.1 h;rw[bK h1,h2];unfold qz
 cases b<;>simp
def aAf{t:Tr}{ps:List (List aa×Bool)}(h:ps=gG t [])(hb:t.all LB)(ho:t.all aa.ok)(hd:t.depth<=1000)(hs:t.size<=100000):PR GB prog 75 [eT t, .sl []] 2 152 (ps.map tP):=h▸Mn (c:=[]) hb ho hs (fun m h=>by cases h) (fun m h=>by cases h) (by rw[eX];omega)
def Zu{t:Tr}(hb:t.all LB)(ho:t.all aa.ok)(hd:t.depth<=1000)(hs:t.size<=100000):PF GB prog 38 [eT t] (.sl ((qz (gG t [])).map ze)):=by
 obtain⟨ps,hps⟩: ∃ps,ps=gG t []:=⟨_,rfl⟩;have hpl:=CC t [];rw[<-hps] at hpl;have hml:(ps.map tP).length=ps.length:=aX ..;refine fn func38 J J ntmps38 J J (fun C=>?_);refine cr (fu:=⟨1⟩) J (aAf hps hb ho hd hs) J<|aj 8 (.d (vI (ps.length:Nat))) J omo<|gx J<|nr 3 3 98 1 J J J<|lp (X:=List (List aa)×Nat) (fun⟨acc,k⟩=>[(9, .d (vI (k:Nat))),(3, .rw 3)]) (fun⟨acc,k⟩=>[(3,some (.b 98 1 (acc.map ze) true))]) (fun⟨acc,k⟩=>acc++qz (ps.drop k)=qz ps/\k<=ps.length) (fun⟨acc,k⟩=>ps.length-k) ⟨[],0⟩ J ⟨J,aN _⟩ (fun _=>J) (fun⟨acc,k⟩ hk=>?_)
 try dsimp only at hk⊢
 obtain⟨h1,h2⟩:=hk;have hal:acc.length<=ps.length:=by
  have q1:=congrArg List.length h1;have q2:(qz ps).length<=ps.length:=by unfold qz;rw[aX];exact jV ..
  rw[aY] at q1;omega
 have ham:(acc.map ze).length=acc.length:=aX ..;refine br J J J (fun hc10=>?_) (fun hc10=>?_)
 .
  obtain⟨⟨e,b⟩,hx⟩: ∃x,ps[k]? =some x:=⟨_,aZ we⟩;refine lb _ J (cp hx) J<|bb J J J (fun hc14=>?_) (fun hc14=>?_)
  .
   refine rf J J<|ap ((acc++[e]).map ze) J okb (aH4 [e]) J<|ek 19 3 J<|at_ ⟨acc++[e],k+1⟩ (by dsimp only;exact⟨⟨by rw[<-h1,Oi hx,if_pos hc14];simp,we⟩,we⟩)
  .
   exact at_ ⟨acc,k+1⟩ (by dsimp only;exact⟨⟨by rw[<-h1,Oi hx,if_neg (by simp at hc14;rw[hc14];decide)];rfl,we⟩,we⟩)
 .
  obtain rfl:k=ps.length:=by omega
  obtain rfl:acc=qz ps:=by rw[fL] at h1;simpa[qz] using h1
  subst hps;refine gw 3 J<|rz J J
def Dv(l:List ah):cO 6 (l.map eP):=fun d hd=>by
 obtain⟨x,_,rfl⟩:=aU.1 hd;exact⟨J,J⟩
def H6: ∀L:List aa,(L.flatMap fun l=>[l.dir,aG l.dir]).length=2*L.length
 |[]=>rfl
 |l::L=>by
  have:=H6 L;rw[gJ,aY,this];simp only[aS,eX];omega
theorem aFE{L:List aa}(hb: ∀l∈L,LB l): ∀d∈L.flatMap (fun l=>[l.dir,aG l.dir]),aD d 97:=fun d hd=>by
 obtain⟨l,h1,h2⟩:=fJ.1 hd;haveI:=hb l h1;simp only[aW,dK,or_false] at h2;rcases h2 with rfl|rfl
 .infer_instance
 .have:aD l.dir 97:=inferInstance
  exact⟨inferInstanceAs (BQ (-l.dir.x) 97),inferInstanceAs (BQ (-l.dir.y) 97)⟩
def aEm{L:List aa}(hb: ∀l∈L,LB l)(hn:L.length<=100000):PF GB prog 82 [.sl (L.map eL)] (.sl ((gj L).map eP)):=by
 have hml:(L.map eL).length=L.length:=aX ..;refine fn (fu:=⟨15⟩) func82 J J ntmps82 J J (fun C=>?_);refine aj 10 (.d (vI (L.length:Nat))) J omo<|gx J<|nr 3 3 63 6 J J J<|lp (X:=List ah×Nat) (fun⟨acc,k⟩=>[(11, .d (vI (k:Nat))),(3, .rw 3)]) (fun⟨acc,k⟩=>[(3,some (.b 63 6 (acc.map eP) true))]) (fun⟨acc,k⟩=>acc=(List.range k).flatMap (rk L)/\k<=L.length) (fun⟨acc,k⟩=>L.length-k) ⟨[],0⟩ J ⟨J,aN _⟩ (fun _=>J) (fun⟨acc,k⟩ hk=>?_)
 try dsimp only at hk⊢
 obtain⟨h1,h2⟩:=hk;have hal:=Gz L k;rw[<-h1] at hal;have ham:(acc.map eP).length=acc.length:=aX ..;refine br J J J (fun hc12=>?_) (fun hc12=>?_)
 .
  obtain⟨l,hx⟩: ∃u,L[k]? =some u:=⟨_,aZ we⟩;obtain⟨m,hw⟩: ∃w,L[(k+1)%L.length]? =some w:=⟨_,aZ (dW _ we)⟩;haveI:=hb l (aK hx);haveI:=hb m (aK hw);refine ix (fu:=⟨13⟩) _ J (cp hx) J<|aj 20 (.d (vI (L.length:Nat))) J omo<|gx (fu:=⟨1⟩) J<|aj 21 (.d (vI (((k+1)%L.length:Nat):Int))) J J<|gx J<|ix _ J (cp hw) J<|cl J (i8 (l:=l)) J<|cl J (i8 (l:=m)) J<|cl J (rE (p:=l.dir) (q:=m.dir) (i:=97) (j:=97)) J<|cl J (n5 (q:=l.dir.cross m.dir)) J<|br J J J (fun hc30=>?_) (fun hc30=>?_)
  .
   refine cl J (Em (l:=l) (m:=m)) J<|rf J J<|ap ((acc++[cx l m]).map eP) J okb (Dv [cx l m]) J<|ek 40 3 J<|at_ ⟨acc++[cx l m],k+1⟩ (by dsimp only;exact⟨⟨by rw[DZ,tz hx hw,if_pos hc30,<-h1],we⟩,we⟩)
  .
   exact at_ ⟨acc,k+1⟩ (by dsimp only;exact⟨⟨by rw[DZ,tz hx hw,if_neg hc30,<-h1,fR],we⟩,we⟩)
 .
  have hS:gj L=acc:=by unfold gj;rw[h1,show k=L.length by omega]
  refine gw 3 J<|rz J (by rw[hS];rfl)
def TZ{p:ah}:PF GB prog 42 [eP p] (eP (aG p)):=by
 refine fn func42 J J ntmps42 J J (fun C=>?_);refine cl J pz J<|cl J pz J<|rz J J
def Ju{α:Type}{f:α->DV}{l:List α}{s:α}(h:l[0]? =some s):(l.map f)[(0:Int).toNat]? =some (f s):=by simp[h]
def Ll(c:List aa):(gj c).length<=c.length:=Gz c _
theorem Sz{c:List aa}(hb: ∀l∈c,LB l): ∀p∈gj c,aD p 1200:=fun p hp=>by
 obtain⟨l,hl,m,hm,rfl⟩:=Xj hp;have:= @aD.imeet l m (hb l hl) (hb m hm);exact⟨this.x.mono oma,this.y.mono oma⟩

def axW{t:Tr}(h:t.all aa.ok):qz (gG t [])=(bO t).map fun c=>c.map (·.l):=aIf h

theorem aD.mono{p:ah}{i j:Nat}(h:aD p i)(hj:i<=j:=by omega):aD p j:=⟨h.x.mono hj,h.y.mono hj⟩





def tG{P:aa->Prop}(hr: ∀l,P l->P l.rev): ∀{t:Tr} {c:ao} {x:Bool×ao},t.all P->(∀s∈c,P s.l)->x∈t.parts c-> ∀s∈x.2,P s.l
 | .leaf b,c,x,_,hc,h=>by
  rw[Tr.parts,aT] at h;subst h;exact hc
 | .node l u v,c,x,ht,hc,h=>by
  have cl: ∀k,P k-> ∀s∈bG c k,P s.l:=fun k hk s hs=>by
   unfold bG at hs;split at hs
   .rcases rA.1 hs with rfl|hs
    .exact hk
    .obtain⟨s0,g,_,rfl⟩:=r4.1 hs
     exact hc s0 g
   .exact hc s hs
  rw[Tr.parts] at h;rcases bZ.1 h with h|h
  .split at h
   .exact tG hr ht.2.1 (cl l ht.1) h
   .cases h
  .split at h
   .exact tG hr ht.2.2 (cl l.rev (hr l ht.1)) h
   .cases h
def EB{x y a b:Nat}(hx:x<=2^a)(hy:y<=2^b):x*y<=2^(a+b):=by
 rw[fY];exact fZ hx hy


def PJ{C:aH}{n:Nat}{Q0:Exit->Act->World->Prop}{fr fr':aF}{own own':bh}{cf cf':Cf}{vc:List Prop}[fu:Fu]{f:FuncId}{ds:List DV}(ha:Bz fr cf=some (f,ds))(hF:PF GB prog f ds (.v (.bool true)))(hgo:c6 tt n fu.n fr own cf .tt [] []=⟨vc,fr',own',cf'⟩)(k:av prog GB C n Q0 fr' own' cf')
  (hv:autoParam (ak vc) cL._auto_1):av prog GB C n Q0 fr own cf:=by
 unfold Bz at ha;split at ha<;>try (cases ha;done)
 rename_i hh;exact us hh (b9.to (g:= .tt) (Pr ha hF) fun ρ G y hy=>(aP (G:=G)).1 hy) hgo hv k

def aBy{u v z:ah}(hu:u.half≠0)(hv:v.half≠0)(h0:u.cross v=0)(h1:0<u.cross z)(h2:0<v.cross z):u.half=v.half:=by
 have ex:v.x*(u.cross z)=u.x*(v.cross z):=by unfold ah.cross at*;grind
 have ey:v.y*(u.cross z)=u.y*(v.cross z):=by unfold ah.cross at*;grind
 have key: ∀{a b:Rat},a*(u.cross z)=b*(v.cross z)->(0<a↔0<b)/\(a=0↔b=0):=fun{a b} e=>by
  have k1:0<a*(u.cross z)↔0<a:=gk h1;have k2:0<b*(v.cross z)↔0<b:=gk h2;refine⟨by rw[<-k1,<-k2,e],fun h=>?_,fun h=>?_⟩
  .rw[h,Rat.zero_mul] at e
   rcases dY.1 e.symm with q|q
   .exact q
   .grind
  .rw[h,Rat.zero_mul] at e
   rcases dY.1 e with q|q
   .exact q
   .grind
 obtain⟨x1,x2⟩:=key ex;obtain⟨y1,y2⟩:=key ey;have:u.half=1↔v.half=1:=by rw[qf,qf,x1,y1,y2]
 rcases oE hu with a|a<;>rcases oE hv with b|b<;>omega
def I9(n q p:ah)(e:Rat):n.dot (kC q p e)=n.dot q+e*(n.dot p-n.dot q):=by
 unfold ah.dot kC;grind
def xt(n q u:ah)(e:Rat):n.dot (cD q u e)=n.dot q+e*n.dot u:=by
 unfold ah.dot cD;grind
structure UV where
 ax:Rat
 ay:Rat
 ac:Rat
def UV.ev(g:UV)(p:ah):Rat:=g.ax*p.x+g.ay*p.y+g.ac
def z8{x y:Rat}(h: ¬(x=0/\y=0)):0<x*x+y*y:=by
 have h1:=Hg x;have h2:=Hg y;rcases jI (x*x+y*y) with k|k|k
 .exfalso
  refine h ⟨?_,?_⟩
  .have:x*x=0:=by grind
   exact(dY.1 this).elim id id
  .have:y*y=0:=by grind
   exact(dY.1 this).elim id id
 .exact k
 .grind
def aFA{a b:ah}(h:a≠b): ¬(b.x-a.x=0/\b.y-a.y=0):=fun k=>h (by
 cases a;cases b
 simp only[ah.mk.injEq] at*;constructor<;>grind)
def div_pos{a b:Rat}(ha:0<a)(hb:0<b):0<a/b:=by
 have e:a/b*b=a:=by grind
 exact(gk hb).1 (by rw[e];exact ha)
def EE{a b:ZP}(h:a.q=b.q):a=b:=by
 have hx:(a.1:Rat)=(b.1:Rat):=congrArg ah.x h;have hy:(a.2:Rat)=(b.2:Rat):=congrArg ah.y h;exact Prod.ext (by exact_mod_cast hx) (by exact_mod_cast hy)
section
variable {rs:List (List ZP)} {fill:Int} {p v w:ah} {b c:Bool}
end
section
variable {ds:List ah}
end
def uj{a b c x y z:Rat}(ha:0<=a)(hb:0<=b)(hc:0<=c)(hs:0<a+b+c)(hx:0<x)(hy:0<y)(hz:0<z):0<a*x+b*y+c*z:=by
 have h1:=cI ha (dZ hx);have h2:=cI hb (dZ hy);have h3:=cI hc (dZ hz);by_cases k1:0<a
 .have:=c9 k1 hx;grind
 .by_cases k2:0<b
  .have:=c9 k2 hy;grind
  .have:=c9 (show 0<c by grind) hz;grind
def j'(x:Rat):Rat:=if 0<x then x else 0
def vR(x:Rat):0<=j' x:=by unfold j';split<;>grind
def HN(x:Rat):j' x-j' (-x)=x:=by unfold j';split<;>split<;>grind
def HR(x:Rat):j' x=0\/j' (-x)=0:=by unfold j';split<;>split<;>grind
def Vv{x:Rat}(h:0<x):0<j' x:=by unfold j';rw[if_pos h];exact h
def y8(w1 w2 w3 w4:Rat)(p1 p2 p3 p4:ah):ah:=⟨(w1*p1.x+w2*p2.x+w3*p3.x+w4*p4.x)*(w1+w2+w3+w4)⁻¹,(w1*p1.y+w2*p2.y+w3*p3.y+w4*p4.y)*(w1+w2+w3+w4)⁻¹⟩
def Ot(l:aa){w1 w2 w3 w4:Rat}(hs:0<w1+w2+w3+w4)(p1 p2 p3 p4:ah):(w1+w2+w3+w4)*l.value (y8 w1 w2 w3 w4 p1 p2 p3 p4)=w1*l.value p1+w2*l.value p2+w3*l.value p3+w4*l.value p4:=by
 have e:(w1+w2+w3+w4)*(w1+w2+w3+w4)⁻¹=1:=Rat.mul_inv_cancel _ omb;unfold y8 aa.value aa.nor ah.dot;dsimp only;generalize (w1+w2+w3+w4)⁻¹=i at*;grind
def W4{p1 p2 p3 p4:ah}(h:bB p1 p2 p3≠0): ∃r:ah,∀l:aa,((0<l.value p2/\0<l.value p3/\0<l.value p4)\/(0<l.value p1/\0<l.value p3/\0<l.value p4)\/(0<l.value p1/\0<l.value p2/\0<l.value p4)\/(0<l.value p1/\0<l.value p2/\0<l.value p3))->0<l.value r:=by
 obtain⟨u1,e1⟩: ∃u,u=bB p2 p3 p4:=⟨_,rfl⟩;obtain⟨u2,e2⟩: ∃u,u= -bB p1 p3 p4:=⟨_,rfl⟩;obtain⟨u3,e3⟩: ∃u,u=bB p1 p2 p4:=⟨_,rfl⟩;obtain⟨u4,e4⟩: ∃u,u= -bB p1 p2 p3:=⟨_,rfl⟩;have hz:u1+u2+u3+u4=0:=by rw[e1,e2,e3,e4];unfold bB;grind
 have hx:u1*p1.x+u2*p2.x+u3*p3.x+u4*p4.x=0:=by rw[e1,e2,e3,e4];unfold bB;grind
 have hy:u1*p1.y+u2*p2.y+u3*p3.y+u4*p4.y=0:=by rw[e1,e2,e3,e4];unfold bB;grind
 have h4:u4≠0:=by rw[e4];grind
 clear e1 e2 e3 e4 h;have s1:=HN u1;have s2:=HN u2;have s3:=HN u3;have s4:=HN u4;have a1:=vR u1;have a2:=vR u2;have a3:=vR u3;have a4:=vR u4;have b1:=vR (-u1);have b2:=vR (-u2);have b3:=vR (-u3);have b4:=vR (-u4);have z1:=HR u1;have z2:=HR u2;have z3:=HR u3;have z4:=HR u4;have c4:0<j' u4+j' (-u4):=by
  rcases jI u4 with k|k|k
  .exact absurd k h4
  .have:=Vv k;grind
  .have:=Vv (show 0< -u4 by grind);grind
 generalize j' u1=v1 at*;generalize j' u2=v2 at*;generalize j' u3=v3 at*;generalize j' u4=v4 at*;generalize j' (-u1)=w1 at*;generalize j' (-u2)=w2 at*;generalize j' (-u3)=w3 at*;generalize j' (-u4)=w4 at*;have hS:v1+v2+v3+v4=w1+w2+w3+w4:=by grind
 have hp:0<v1+v2+v3+v4:=by grind
 have hX:v1*p1.x+v2*p2.x+v3*p3.x+v4*p4.x=w1*p1.x+w2*p2.x+w3*p3.x+w4*p4.x:=by
  rw[<-s1,<-s2,<-s3,<-s4] at hx;grind
 have hY:v1*p1.y+v2*p2.y+v3*p3.y+v4*p4.y=w1*p1.y+w2*p2.y+w3*p3.y+w4*p4.y:=by
  rw[<-s1,<-s2,<-s3,<-s4] at hy;grind
 refine⟨y8 v1 v2 v3 v4 p1 p2 p3 p4,fun l hl=>?_⟩;have eq:y8 v1 v2 v3 v4 p1 p2 p3 p4=y8 w1 w2 w3 w4 p1 p2 p3 p4:=by unfold y8;rw[hX,hY,hS]
 have f1:=Ot l hp p1 p2 p3 p4;have f2:=Ot l (show 0<w1+w2+w3+w4 by grind) p1 p2 p3 p4;rw[<-eq] at f2;have fin:(0<v1*l.value p1+v2*l.value p2+v3*l.value p3+v4*l.value p4\/0<w1*l.value p1+w2*l.value p2+w3*l.value p3+w4*l.value p4)->0<l.value (y8 v1 v2 v3 v4 p1 p2 p3 p4):=fun k=>by
  rcases k with k|k
  .exact(gk hp).1 (by rw[uY,f1];exact k)
  .exact(gk (show 0<w1+w2+w3+w4 by grind)).1 (by rw[uY,f2];exact k)
 apply fin;clear f1 f2 fin eq hX hY hx hy;generalize l.value p1=x1 at*;generalize l.value p2=x2 at*;generalize l.value p3=x3 at*;generalize l.value p4=x4 at*;rcases hl with⟨k1,k2,k3⟩|⟨k1,k2,k3⟩|⟨k1,k2,k3⟩|⟨k1,k2,k3⟩
 .rcases z1 with z|z
  .left;have:=uj a2 a3 a4 omb k1 k2 k3;rw[z];grind
  .right;have:=uj b2 b3 b4 omb k1 k2 k3;rw[z];grind
 .rcases z2 with z|z
  .left;have:=uj a1 a3 a4 omb k1 k2 k3;rw[z];grind
  .right;have:=uj b1 b3 b4 omb k1 k2 k3;rw[z];grind
 .rcases z3 with z|z
  .left;have:=uj a1 a2 a4 omb k1 k2 k3;rw[z];grind
  .right;have:=uj b1 b2 b4 omb k1 k2 k3;rw[z];grind
 .rcases z4 with z|z
  .left;have:=uj a1 a2 a3 omb k1 k2 k3;rw[z];grind
  .right;have:=uj b1 b2 b3 omb k1 k2 k3;rw[z];grind
def Nv: ∀(n:Nat) (L:List aa),L.length=n->(∀a∈L,∀b∈L,∀d∈L,∃q:ah,0<a.value q/\0<b.value q/\0<d.value q)-> ∃q,d8 L q
 |0,L,hn,_=>⟨⟨0,0⟩,fun m hm=>by rw[cY hn] at hm;cases hm⟩
 |n+1,[],hn,_=>by cases hn
 |n+1,[a],_,h=>by
  obtain⟨q,h1,_⟩:=h a omc a omc a omc;exact⟨q,fun m hm=>by rw[aT.1 hm];exact h1⟩
 |n+1,[a,b],_,h=>by
  obtain⟨q,h1,h2,_⟩:=h a omc b omc b omc;exact⟨q,fun m hm=>by simp only[aW,dK,or_false] at hm;rcases hm with rfl|rfl<;>assumption⟩
 |n+1,[a,b,d],_,h=>by
  obtain⟨q,h1,h2,h3⟩:=h a omc b omc d omc;exact⟨q,fun m hm=>by simp only[aW,dK,or_false] at hm;rcases hm with rfl|rfl|rfl<;>assumption⟩
 |n+1,a::b::d::e::L,hn,h=>by
  have sub: ∀M:List aa,M.length=n->(∀m∈M,m∈a::b::d::e::L)-> ∃q,d8 M q:=fun M hM hs=>Nv n M hM fun x hx y hy z hz=>h x (hs x hx) y (hs y hy) z (hs z hz);simp only[aS] at hn;obtain⟨p1,q1⟩:=sub (b::d::e::L) okx (fun m hm=>by simp only[aW] at hm⊢;grind);obtain⟨p2,q2⟩:=sub (a::d::e::L) okx (fun m hm=>by simp only[aW] at hm⊢;grind);obtain⟨p3,q3⟩:=sub (a::b::e::L) okx (fun m hm=>by simp only[aW] at hm⊢;grind);obtain⟨p4,q4⟩:=sub (a::b::d::L) okx (fun m hm=>by simp only[aW] at hm⊢;grind);by_cases e12:p1=p2
  .refine⟨p1,fun m hm=>?_⟩
   rcases aW.1 hm with rfl|hm
   .rw[e12];exact q2 m omc
   .exact q1 m hm
  .have hN:=z8 (aFA e12)
   obtain⟨p3',q3',ho⟩: ∃p3',d8 (a::b::e::L) p3'/\bB p1 p2 p3'≠0:=by
    by_cases k:bB p1 p2 p3=0
    .obtain⟨ep,he,hm⟩:=q3.open ⟨-(p2.y-p1.y),p2.x-p1.x⟩
     refine⟨_,hm ep (dZ he) iR,?_⟩;have e:bB p1 p2 (cD p3 ⟨-(p2.y-p1.y),p2.x-p1.x⟩ ep)=bB p1 p2 p3+ep*((p2.x-p1.x)*(p2.x-p1.x)+(p2.y-p1.y)*(p2.y-p1.y)):=by unfold bB cD;dsimp only;grind
     rw[e,k];have:=c9 he hN;grind
    .exact⟨p3,q3,k⟩
   obtain⟨r,hr⟩:=W4 (p4:=p4) ho;refine⟨r,fun m hm=>hr m ?_⟩;simp only[aW] at hm;have i1:=q1 m;have i2:=q2 m;have i3:=q3' m;have i4:=q4 m;simp only[aW] at i1 i2 i3 i4;rcases hm with rfl|rfl|rfl|rfl|hm
   .exact .inl ⟨i2 omc,i3 omc,i4 omc⟩
   .exact .inr (.inl ⟨i1 omc,i3 omc,i4 omc⟩)
   .exact .inr (.inr (.inl ⟨i1 omc,i2 omc,i4 omc⟩))
   .exact .inr (.inr (.inr ⟨i1 omc,i2 omc,i3 omc⟩))
   .exact .inl ⟨i2 (by simp[hm]),i3 (by simp[hm]),i4 (by simp[hm])⟩
def Q8(a:Rat):a*(a.den:Rat)=(a.num:Rat):=by
 have h:(a.num:Rat)/((a.den:Nat):Rat)=a:=by rw[<-nR];exact sW a
 have h0:((a.den:Nat):Rat)≠0:=by
  intro k;have:a.den=0:=by exact_mod_cast k
  exact a.den_nz this
 generalize (a.num:Rat)=n at*;generalize ((a.den:Nat):Rat)=d at*;rw[<-h];grind
def Jt{a:Rat}{x:Int}{D:Nat}(hD:0<D)(h:a*((D:Int):Rat)=(x:Rat)):a.num*(D:Int)=x*(a.den:Int):=by
 have e:((a.den:Int):Rat)*a=(a.num:Rat):=by
  have:=Q8 a;rw[uY];exact this
 have k:(a.num:Rat)*((D:Int):Rat)=(x:Rat)*((a.den:Int):Rat):=by rw[<-e,<-h];grind
 exact_mod_cast k
def Qk{a b:Rat}{x y:Int}{D:Nat}(hD:0<D)(ha:a*((D:Int):Rat)=(x:Rat))(hb:b*((D:Int):Rat)=(y:Rat)):rgcd a b*((D:Int):Rat)=(((Nat.gcd x.natAbs y.natAbs:Nat):Int):Rat):=by
 have h1:=Jt hD ha;have h2:=Jt hD hb;have n1:a.num.natAbs*D=x.natAbs*a.den:=by
  have:=congrArg Int.natAbs h1;rwa [fU,fU,fT,fT] at this
 have n2:b.num.natAbs*D=y.natAbs*b.den:=by
  have:=congrArg Int.natAbs h2;rwa [fU,fU,fT,fT] at this
 have hg:Nat.gcd (a.num.natAbs*b.den) (b.num.natAbs*a.den)*D=Nat.gcd x.natAbs y.natAbs*(a.den*b.den):=by
  rw[<-Nat.gcd_mul_right,<-Nat.gcd_mul_right];congr 1
  .rw[nS,n1,cR]
  .rw[nS,n2,cR,cW b.den a.den]
 unfold rgcd;generalize Nat.gcd (a.num.natAbs*b.den) (b.num.natAbs*a.den)=G at*;generalize Nat.gcd x.natAbs y.natAbs=g at*;have hpos:0<a.den*b.den:=jR a.den_pos b.den_pos;have hq:((G:Int):Rat)*((D:Int):Rat)=((g:Int):Rat)*(((a.den*b.den:Nat):Int):Rat):=by exact_mod_cast hg
 generalize a.den*b.den=E at*;have h0:((E:Int):Rat)≠0:=fun k=>by
  have:(E:Int)=0:=by exact_mod_cast k
  omega
 have hm:mkRat ((G:Nat):Int) E*((E:Int):Rat)=((G:Int):Rat):=by
  have hz:((E:Nat):Rat)≠0:=h0;show mkRat ((G:Nat):Int) E*((E:Nat):Rat)=_;rw[nR];generalize ((E:Nat):Rat)=z at*;generalize ((G:Int):Rat)=y at*;grind
 generalize mkRat ((G:Nat):Int) E=r at*;rw[<-hm] at hq;generalize ((E:Int):Rat)=e at*;generalize ((D:Int):Rat)=d at*;have:e*(r*d-((g:Int):Rat))=0:=by grind
 have:=(dY.1 this).resolve_left h0;grind
def lC(a b c:Rat):Nat:=a.den*(b.den*c.den)
def dE(a b c:Rat):aa:=m7 (a.num*(b.den*c.den:Nat)) (b.num*(a.den*c.den:Nat)) (c.num*(a.den*b.den:Nat))
def TN(a b c:Rat):0<lC a b c:=jR a.den_pos (jR b.den_pos c.den_pos)
def LN(a:Rat)(k:Nat):a*(((a.den*k:Nat):Int):Rat)=((a.num*(k:Nat):Int):Rat):=by
 have e:=Q8 a;have:(((a.den*k:Nat):Int):Rat)=(a.den:Rat)*((k:Int):Rat):=by push_cast;rfl
 rw[this,bS,<-Rat.mul_assoc,e]
def Lc(a b c:Rat):a*((lC a b c:Int):Rat)=((a.num*(b.den*c.den:Nat):Int):Rat)/\b*((lC a b c:Int):Rat)=((b.num*(a.den*c.den:Nat):Int):Rat)/\c*((lC a b c:Int):Rat)=((c.num*(a.den*b.den:Nat):Int):Rat):=by
 refine⟨LN a _,?_,?_⟩
 .rw[show lC a b c=b.den*(a.den*c.den) by unfold lC;rw[nX]];exact LN b _
 .rw[show lC a b c=c.den*(a.den*b.den) by unfold lC;rw[<-cR,cW]];exact LN c _
def Eq{a b c:Rat}(h: ¬(a=0/\b=0)): ¬(a.num*(b.den*c.den:Nat)=0/\b.num*(a.den*c.den:Nat)=0):=fun⟨h1,h2⟩=>by
 refine h ⟨?_,?_⟩
 .rcases pU.1 h1 with k|k
  .exact mT.1 k
  .have:=jR b.den_pos c.den_pos;omega
 .rcases pU.1 h2 with k|k
  .exact mT.1 k
  .have:=jR a.den_pos c.den_pos;omega
def Ax{a b c:Rat}(h: ¬(a=0/\b=0)): ∃g:Rat,0<g/\(∀p:ah,(dE a b c).value p=g*(a*p.x+b*p.y+c)):=by
 obtain⟨g,g0,e1,e2,e3⟩:=Py (c:=c.num*(a.den*b.den:Nat)) (Eq (c:=c) h);obtain⟨k1,k2,k3⟩:=Lc a b c;have hD:(0:Rat)<((lC a b c:Int):Rat):=by
  have:=TN a b c;exact_mod_cast (show(0:Int)<(lC a b c:Int) by omega)
 have hg:(0:Rat)<(g:Rat):=by exact_mod_cast g0
 have f1:(g:Rat)*((dE a b c).a:Rat)=a*((lC a b c:Int):Rat):=by rw[k1,<-e1];unfold dE;push_cast;rfl
 have f2:(g:Rat)*((dE a b c).b:Rat)=b*((lC a b c:Int):Rat):=by rw[k2,<-e2];unfold dE;push_cast;rfl
 have f3:(g:Rat)*((dE a b c).c:Rat)=c*((lC a b c:Int):Rat):=by rw[k3,<-e3];unfold dE;push_cast;rfl
 refine⟨((lC a b c:Int):Rat)/(g:Rat),div_pos hD hg,fun p=>?_⟩;unfold aa.value aa.nor ah.dot;dsimp only;generalize ((dE a b c).a:Rat)=A at*;generalize ((dE a b c).b:Rat)=B at*;generalize ((dE a b c).c:Rat)=C at*;generalize ((lC a b c:Int):Rat)=D at*;generalize (g:Rat)=g at*;have hq:D/g*g=D:=by grind
 generalize D/g=q at*;subst hq;have:g*(A*p.x+B*p.y+C-q*(a*p.x+b*p.y+c))=0:=by grind
 have:=(dY.1 this).resolve_left omb;grind
def xp{a b c:Rat}(h: ¬(a=0/\b=0)):(dE a b c).ok:=LT (Eq h)
def ah.subQ(p q:ah):ah:=⟨p.x-q.x,p.y-q.y⟩
def aB(f:ah×ah):ah:=⟨-(f.2.y-f.1.y),f.2.x-f.1.x⟩
def FK(f:ah×ah)(u:ah):bB f.1 f.2 u=(aB f).dot u-(aB f).dot f.1:=by unfold bB aB ah.dot;dsimp only;grind
structure gu (V:List ah) (E:List (ah×ah)):Prop where
 ends: ∀f∈E,f.1∈V/\f.2∈V
 cvx: ∀f∈E,∀v∈V,0<=bB f.1 f.2 v
 cen: ∃u,∀f∈E,0<bB f.1 f.2 u
 hull: ∀n u:ah,(∀f∈E,0<=bB f.1 f.2 u)-> ∃v∈V,n.dot v<=n.dot u
def GC(n p q:ah):n.dot (p.subQ q)=n.dot p-n.dot q:=by unfold ah.dot ah.subQ;dsimp only;grind
def A'(l:aa)(p:ah):l.value p=l.nor.dot p+l.c:=rfl
def azF{V:List ah}{E:List (ah×ah)}(hB:gu V E){n:ah}{m:Rat}(h: ∀u,(∀f∈E,0<bB f.1 f.2 u)->m<=n.dot u): ∀v∈V,m<=n.dot v:=fun v hv=>by
 obtain⟨u,hu⟩:=hB.cen;apply Classical.byContradiction;intro k
 -- a point near to v
 have hk:n.dot v<m:=by grind
 have h0:=h u hu;have key: ∀t:Rat,0<t->t<=1->m<=n.dot v+t*(n.dot u-n.dot v):=fun t t0 t1=>by
  rw[<-I9];refine h _ fun f hf=>?_;rw[aJs];have a:=hB.cvx f hf v hv;have b:=c9 t0 (hu f hf);have c:=cI (show 0<=1-t by grind) a;grind
 generalize n.dot v=a at*;generalize n.dot u=b at*;have hd:0<b-a:=by grind
 have e:(m-a)/(2*(b-a))*(2*(b-a))=m-a:=by grind
 have q:=key ((m-a)/(2*(b-a))) (div_pos omb omb) ?_
 .generalize (m-a)/(2*(b-a))=t at*
  grind
 .generalize (m-a)/(2*(b-a))=t at*
  apply Classical.byContradiction;intro q;have:=c9 (show 0<t-1 by grind) (show 0<2*(b-a) by grind);grind
def aum{c:ao}(hc:bw c){n:ah}{m:Rat}(h: ∀q,bu c q->m<=n.dot q): ∀q,iu c q->m<=n.dot q:=fun v hv=>by
 obtain⟨u,hu⟩:=hc.ne;apply Classical.byContradiction;intro k;have hk:n.dot v<m:=by grind
 have h0:=h u hu;have key: ∀t:Rat,0<t->t<=1->m<=n.dot v+t*(n.dot u-n.dot v):=fun t t0 t1=>by
  rw[<-I9];refine h _ fun s hs=>?_;rw[lP];have a:=hv s hs;have b:=c9 t0 (hu s hs);have c:=cI (show 0<=1-t by grind) a;grind
 generalize n.dot v=a at*;generalize n.dot u=b at*;have hd:0<b-a:=by grind
 have e:(m-a)/(2*(b-a))*(2*(b-a))=m-a:=by grind
 have q:=key ((m-a)/(2*(b-a))) (div_pos omb omb) ?_
 .generalize (m-a)/(2*(b-a))=t at*
  grind
 .generalize (m-a)/(2*(b-a))=t at*
  apply Classical.byContradiction;intro q;have:=c9 (show 0<t-1 by grind) (show 0<2*(b-a) by grind);grind
def ti(f:ah×ah)(p:ah):aa:=dE (-(aB f).x) (-(aB f).y) ((aB f).dot p-(aB f).dot f.1)
def Qx{f:ah×ah}{u:ah}(h:0<bB f.1 f.2 u): ¬((aB f).x=0/\(aB f).y=0):=fun⟨h1,h2⟩=>by
 have e:bB f.1 f.2 u=(aB f).y*(u.y-f.1.y)+(aB f).x*(u.x-f.1.x):=by unfold bB aB;dsimp only;grind
 rw[e,h1,h2] at h;grind
def Az{f:ah×ah}{u:ah}(h:0<bB f.1 f.2 u)(p q:ah):0<(ti f p).value q↔0<bB f.1 f.2 (p.subQ q):=by
 have hz:=Qx h;obtain⟨g,g0,hg⟩:=Ax (a:= -(aB f).x) (b:= -(aB f).y) (c:=(aB f).dot p-(aB f).dot f.1) (fun⟨h1,h2⟩=>hz ⟨omb,omb⟩);unfold ti;rw[hg,w7 g0,FK,GC];have e: -(aB f).x*q.x+ -(aB f).y*q.y+((aB f).dot p-(aB f).dot f.1)=(aB f).dot p-(aB f).dot q-(aB f).dot f.1:=by unfold ah.dot;grind
 rw[e]
def aEj{V:List ah}{E:List (ah×ah)}(hB:gu V E){c:ao}(hc:bw c){p:ah}(h1: ∀s∈c,∃v∈V,(∀w∈V,s.l.nor.dot v<=s.l.nor.dot w)/\0<s.l.value p-s.l.nor.dot v)
  (h2: ∀f∈E,(∃M,∀q,iu c q->M<=(aB f).dot q)-> ∃q,iu c q/\0<(aB f).dot p-(aB f).dot q-(aB f).dot f.1): ∃q,bu c q/\ ∀f∈E,0<bB f.1 f.2 (p.subQ q):=by
 obtain⟨u0,hu0⟩:=hB.cen;obtain⟨q0,hq0⟩:=hc.ne;obtain⟨q,hq⟩:=Nv _ ((c.map fun s=>s.l)++E.map fun f=>ti f p) rfl (by
  have cc: ∀l∈c.map (fun s:bD=>s.l),0<l.value q0:=fun l hl=>by obtain⟨s,hs,rfl⟩:=aU.1 hl;exact hq0 s hs
  have ee: ∀l∈E.map (fun f=>ti f p),0<l.value (p.subQ u0):=fun l hl=>by
   obtain⟨f,hf,rfl⟩:=aU.1 hl;rw[Az (hu0 f hf),show p.subQ (p.subQ u0)=u0 by unfold ah.subQ;cases u0;simp only[ah.mk.injEq];constructor<;>grind];exact hu0 f hf
  -- one edge: some point of the cell is on its left
  have one: ∀l∈E.map (fun f=>ti f p),∃q,bu c q/\0<l.value q:=fun l hl=>by
   obtain⟨f,hf,rfl⟩:=aU.1 hl;apply Classical.byContradiction;intro k;have k2: ∀q,bu c q->(aB f).dot p-(aB f).dot f.1<=(aB f).dot q:=fun q hq=>by
    have: ¬0<(ti f p).value q:=fun h=>k ⟨q,hq,h⟩;rw[Az (hu0 f hf),FK,GC] at this;grind
   have k3:=aum hc k2;obtain⟨q,hq,hv⟩:=h2 f hf ⟨_,k3⟩;have:=k3 q hq;grind
  -- one side: some point of the moved polygon is on its left
  have two: ∀l∈c.map (fun s:bD=>s.l),∃u,(∀f∈E,0<bB f.1 f.2 u)/\0<l.value (p.subQ u):=fun l hl=>by
   obtain⟨s,hs,rfl⟩:=aU.1 hl;apply Classical.byContradiction;intro k;have k2: ∀u,(∀f∈E,0<bB f.1 f.2 u)->s.l.value p<=s.l.nor.dot u:=fun u hu=>by
    have: ¬0<s.l.value (p.subQ u):=fun h=>k ⟨u,hu,h⟩;rw[A',GC] at this;rw[A'];grind
   have k3:=azF hB k2;obtain⟨v,hv,_,hp⟩:=h1 s hs;have:=k3 v hv;grind
  have emov: ∀l∈E.map (fun f=>ti f p),∀u,(∀f∈E,0<bB f.1 f.2 u)->0<l.value (p.subQ u):=fun l hl u hu=>by
   obtain⟨f,hf,rfl⟩:=aU.1 hl;rw[Az (hu0 f hf),show p.subQ (p.subQ u)=u by unfold ah.subQ;cases u;simp only[ah.mk.injEq];constructor<;>grind];exact hu f hf
  have cin: ∀l∈c.map (fun s:bD=>s.l),∀q,bu c q->0<l.value q:=fun l hl q hq=>by obtain⟨s,hs,rfl⟩:=aU.1 hl;exact hq s hs
  intro a ha b hb d hd;rcases bZ.1 ha with ha|ha<;>rcases bZ.1 hb with hb|hb<;>rcases bZ.1 hd with hd|hd
  .exact⟨q0,cc a ha,cc b hb,cc d hd⟩
  .obtain⟨q,h,k⟩:=one d hd;exact⟨q,cin a ha q h,cin b hb q h,k⟩
  .obtain⟨q,h,k⟩:=one b hb;exact⟨q,cin a ha q h,k,cin d hd q h⟩
  .obtain⟨u,h,k⟩:=two a ha;exact⟨_,k,emov b hb u h,emov d hd u h⟩
  .obtain⟨q,h,k⟩:=one a ha;exact⟨q,k,cin b hb q h,cin d hd q h⟩
  .obtain⟨u,h,k⟩:=two b hb;exact⟨_,emov a ha u h,k,emov d hd u h⟩
  .obtain⟨u,h,k⟩:=two d hd;exact⟨_,emov a ha u h,emov b hb u h,k⟩
  .exact⟨_,ee a ha,ee b hb,ee d hd⟩)
 refine⟨q,fun s hs=>hq s.l (bU _ (dX hs)),fun f hf=>?_⟩;exact(Az (hu0 f hf) p q).1 (hq _ (bQ _ (dX hf)))
def aAB{V:List ah}{E:List (ah×ah)}(hB:gu V E){c:ao}{q u:ah}(hu: ∀f∈E,0<=bB f.1 f.2 u){n:ah}{low:Rat}(hl: ∀v∈V,low<=n.dot v):low<=n.dot u:=by
 obtain⟨v,hv,h⟩:=hB.hull n u hu;have:=hl v hv;grind
def jb(n:ah):List ah->Rat
 |[]=>0
 |p::t=>t.foldl (fun b q=>if n.dot q<b then n.dot q else b) (n.dot p)
def QG{n:ah}: ∀(t:List ah) (b:Rat),(t.foldl (fun b q=>if n.dot q<b then n.dot q else b) b<=b/\ ∀q∈t,t.foldl (fun b q=>if n.dot q<b then n.dot q else b) b<=n.dot q)/\(t.foldl (fun b q=>if n.dot q<b then n.dot q else b) b=b\/ ∃q∈t,t.foldl (fun b q=>if n.dot q<b then n.dot q else b) b=n.dot q)
 |[],b=>⟨⟨iR,fun q hq=>by cases hq⟩, .inl J⟩
 |p::t,b=>by
  obtain⟨⟨h1,h2⟩,h3⟩:=QG t (if n.dot p<b then n.dot p else b);rw[iQ];generalize t.foldl (fun b q=>if n.dot q<b then n.dot q else b) (if n.dot p<b then n.dot p else b)=z at*;refine⟨⟨by split at h1<;>grind,fun q hq=>?_⟩,?_⟩
  .rcases aW.1 hq with rfl|hq
   .split at h1<;>grind
   .exact h2 q hq
  .rcases h3 with h3|⟨q,hq,h3⟩
   .split at h3
    .exact .inr ⟨p,aQ,h3⟩
    .exact .inl h3
   .exact .inr ⟨q,aJ _ hq,h3⟩
def o9{n:ah}{l:List ah}(h:l≠[]):(∀q∈l,jb n l<=n.dot q)/\ ∃q∈l,jb n l=n.dot q:=by
 cases l with
 |nil=>exact absurd J h
 |cons p t=>
  obtain⟨⟨h1,h2⟩,h3⟩:=QG (n:=n) t (n.dot p);refine⟨fun q hq=>?_,?_⟩
  .rcases aW.1 hq with rfl|hq
   .exact h1
   .exact h2 q hq
  .rcases h3 with h3|⟨q,hq,h3⟩
   .exact⟨p,aQ,h3⟩
   .exact⟨q,aJ _ hq,h3⟩
def gv(n:ah)(s:bD):Bool:=(s.v.nh&&decide (s.l.dir.dot n<0))||(s.v.nl&&decide (0<s.l.dir.dot n))
def r5(n:ah):ao->Bool
 |[s]=>decide (s.l.nor.dot n<0)
 |_=>false
def i5(c:ao):List ah:=(c.map fun s=>s.l.at s.v.sample)++gj (c.map (·.l))
def fD(c:ao)(n:ah):Option Rat:=if c.isEmpty||r5 n c then none else if c.any (gv n) then none else some (jb n (i5 c))
theorem ozj{p:Prop}(h:p:=by rw[aX,cJ,hw];rfl):p:=h
def Ai{c:ao}(hc:bw c)(ha:fk c){s:bD}(hs:s∈c)(nh:s.v.nh=false):s.l.at s.v.hi∈gj (c.map (·.l)):=by
 obtain⟨i,hi,ei⟩:=List.getElem_of_mem hs;have h1:c[i]? =some s:=by rw[aZ hi,ei]
 obtain⟨w,hw⟩: ∃w,c[(i+1)%c.length]? =some w:=⟨_,aZ (dW _ we)⟩;have mw:=aK hw;have hn:BG (c.map fun s=>s.l.dir) s.l.dir w.l.dir:=SE ha (by rw[cJ,h1];rfl) ozj;obtain⟨k1,k2⟩:=UU hc hs mw hn nh;have hx:crossI s.l w.l≠0:=K7 ((nG _).2 k1);unfold gj;rw[fJ,aX];refine⟨i,kZ.2 hi,?_⟩;rw[tz (l:=s.l) (m:=w.l) (by rw[cJ,h1];rfl) ozj,if_pos ((nG _).2 k1),aT];exact IZ hx (ly (hc.ok s hs).ne _) k2
def aFY(s u:aa):s.nor.dot u.dir= -(u.nor.dot s.dir):=by unfold aa.nor aa.dir ah.dot;dsimp only;grind
def Dg{c:ao}(hc:bw c)(ha:fk c){s:bD}(hs:s∈c)(nl:s.v.nl=false):s.l.at s.v.lo∈gj (c.map (·.l)):=by
 obtain⟨u,hu,z1,z2⟩:=aDJ hc hs nl;have hin:=((hc.edge s hs).2 _).1 (S8 (hc.edge s hs).1 nl);obtain⟨t,ht⟩:=AR (hc.ok u hu).ne z1;rw[ht] at hin;have hh:=((hc.edge u hu).2 t).2 hin;have no: ∀e:Rat,0<e-> ¬u.v.has (t+e):=fun e he k=>by
  have k:=((hc.edge u hu).2 _).1 k s hs;rw[Jn,<-ht,ly (hc.ok s hs).ne,aFY] at k;have:=c9 he z2;grind
 have nh:u.v.nh=false:=by
  cases q:u.v.nh with
  |false=>rfl
  |true=>exact absurd ⟨hh.1.elim .inl fun k=> .inr omb, .inl q⟩ (no 1 oma)
 have e:t=u.v.hi:=by
  have h2:=hh.2.resolve_left (by rw[nh];simp);apply Classical.byContradiction;intro k;refine no (u.v.hi-t) omb ⟨hh.1.elim .inl fun k=> .inr omb, .inr omb⟩
 rw[ht,e];exact Ai hc ha hu nh
def aJT{c:ao}(hc:bw c)(ha:fk c): ∀q∈i5 c,iu c q:=fun q hq=>by
 unfold i5 at hq;rcases bZ.1 hq with hq|hq
 .obtain⟨s,hs,rfl⟩:=aU.1 hq
  exact(zo hc hs).1
 .unfold gj at hq
  rw[fJ,aX] at hq;obtain⟨i,hi,hq⟩:=hq;have hi:=kZ.1 hi;obtain⟨s,hs⟩: ∃s,c[i]? =some s:=⟨_,aZ hi⟩;obtain⟨w,hw⟩: ∃w,c[(i+1)%c.length]? =some w:=⟨_,aZ (dW _ we)⟩;have ms:=aK hs;have mw:=aK hw;rw[tz (l:=s.l) (m:=w.l) (by rw[cJ,hs];rfl) ozj] at hq;split at hq
  .rename_i k
   have k1:=(nG _).1 k;rw[aT] at hq;subst hq;have hn:BG (c.map fun s=>s.l.dir) s.l.dir w.l.dir:=SE ha (by rw[cJ,hs];rfl) ozj
   -- the side ends, as the next one stops it
   have nh:s.v.nh=false:=by
    cases q:s.v.nh with
    |false=>rfl
    |true=>
     have:=I3 hc ms q w mw;rw[<-CQ,x9] at this;grind
   obtain⟨_,k2⟩:=UU hc ms mw hn nh;have hx:crossI s.l w.l≠0:=K7 k;rw[<-IZ hx (ly (hc.ok s ms).ne _) k2];exact((hc.edge s ms).2 _).1 (Jk (hc.edge s ms).1 nh)
  .cases hq
def Cz{c:ao}{n p u:ah}(h: ∀t:Rat,0<=t->iu c (cD p u t))(hn:n.dot u<0)(M:Rat): ∃q,iu c q/\n.dot q<M:=by
 by_cases k:n.dot p<M
 .refine⟨_,h 0 iR,?_⟩
  rw[xt];grind
 .have e:(n.dot p-M)/ -(n.dot u)* -(n.dot u)=n.dot p-M:=by grind
  have e0:0<=(n.dot p-M)/ -(n.dot u):=(iH (s:=(n.dot p-M)/ -(n.dot u)) (k:= -(n.dot u)) omb).1 ozl;refine⟨_,h ((n.dot p-M)/ -(n.dot u)+1) omb,?_⟩;rw[xt];generalize (n.dot p-M)/ -(n.dot u)=t at*;grind
def auP{c:ao}(hc:bw c){n:ah}(hn: ¬(n.x=0/\n.y=0))(h:fD c n=none)(M:Rat): ∃q,iu c q/\n.dot q<M:=by
 have hN:=z8 hn;have hneg:n.dot (aG n)<0:=by unfold ah.dot aG;dsimp only;grind
 unfold fD at h;split at h
 .rename_i k
  rw[fN] at k
  cases c with
  |nil=>exact Cz (p:=⟨0,0⟩) (u:=aG n) (fun t _ s hs=>by cases hs) hneg M
  |cons s t=>
   rcases k with k|k
   .cases k
   .cases t with
    |cons _ _=>cases k
    |nil=>
     have k:=of_decide_eq_true (show decide (s.l.nor.dot n<0)=true from k);obtain⟨q,hq⟩:=hc.ne;refine Cz (p:=q) (u:=aG n) (fun t ht w hw=>?_) hneg M;have e:=aT.1 hw;subst e;rw[jF];have a:=hq w hw;have e2:w.l.nor.dot (aG n)= -(w.l.nor.dot n):=by unfold ah.dot aG;dsimp only;grind
     have b:=cI ht (show 0<=w.l.nor.dot (aG n) by rw[e2];grind);grind
 .split at h
  .rename_i k
   obtain⟨s,hs,k⟩:=gK.1 k;unfold gv at k;rw[fN,bT,bT,decide_eq_true_eq,decide_eq_true_eq] at k;have hh:=((hc.edge s hs).2 _).2 (zo hc hs).1;have e1:n.dot s.l.dir=s.l.dir.dot n:=by unfold ah.dot;grind
   have e2:n.dot (aG s.l.dir)= -(s.l.dir.dot n):=by unfold ah.dot aG;dsimp only;grind
   rcases k with⟨k1,k2⟩|⟨k1,k2⟩
   .refine Cz (p:=s.l.at s.v.sample) (u:=s.l.dir) (fun t ht=>?_) (by rw[e1];exact k2) M
    rw[<-Hq];exact((hc.edge s hs).2 _).1 ⟨hh.1.elim .inl fun k=> .inr omb, .inl k1⟩
   .refine Cz (p:=s.l.at s.v.sample) (u:=aG s.l.dir) (fun t ht=>?_) (by rw[e2];grind) M
    have e3:cD (s.l.at s.v.sample) (aG s.l.dir) t=s.l.at (s.v.sample+ -t):=by rw[Hq];unfold cD aG;simp only[ah.mk.injEq];constructor<;>grind
    rw[e3];exact((hc.edge s hs).2 _).1 ⟨.inl k1,hh.2.elim .inl fun k=> .inr omb⟩
  .cases h
def FP{c:ao}(hc:bw c)(ha:fk c){n:ah}(hn: ¬(n.x=0/\n.y=0)){m:Rat}(h:fD c n=some m):(∀q,iu c q->m<=n.dot q)/\ ∃q,iu c q/\n.dot q=m:=by
 have hN:=z8 hn;unfold fD at h;split at h
 .cases h
 rename_i k1;split at h
 .cases h
 rename_i k2
 cases h
 have k1:c.isEmpty=false/\r5 n c=false:=by simpa using k1
 have k2: ∀s∈c,gv n s=false:=fun s hs=>by
  cases q:gv n s with
  |false=>rfl
  |true=>exact absurd (gK.2 ⟨s,hs,q⟩) k2
 have hne:i5 c≠[]:=by
  unfold i5
  cases c with
  |nil=>cases k1.1
  |cons s t=>simp
 obtain⟨l1,q0,hq0,l2⟩:=o9 (n:=n) hne;refine⟨?_,q0,aJT hc ha q0 hq0,l2.symm⟩;have side: ∀s∈c,∀q,s.l.value q=0->iu c q->jb n (i5 c)<=n.dot q:=fun s hs q hz hq=>by
  obtain⟨t,rfl⟩:=AR (hc.ok s hs).ne hz;have hh:=((hc.edge s hs).2 t).2 hq;have ho:=k2 s hs;unfold gv at ho;have e1:s.l.dir.dot n=n.dot s.l.dir:=by unfold ah.dot;grind
  rw[kX,e1] at ho;have f: ∀u,n.dot (s.l.at u)=n.dot (s.l.at 0)+u*n.dot s.l.dir:=fun u=>by rw[JP s.l u,xt]
  rcases jI (n.dot s.l.dir) with k|k|k
  .have:=l1 (s.l.at s.v.sample) (bU _ (dX (f:=fun s:bD=>s.l.at s.v.sample) hs))
   rw[f,k] at this⊢;grind
  .have nl:s.v.nl=false:=by
    cases q:s.v.nl with
    |false=>rfl
    |true=>rw[q,decide_eq_true k] at ho;exact absurd ho.2 omc
   have:=l1 _ (bQ _ (Dg hc ha hs nl));have h1:=hh.1.resolve_left (by rw[nl];simp);have h2:=cI (show 0<=t-s.v.lo by grind) (dZ k);rw[f] at this⊢;grind
  .have nh:s.v.nh=false:=by
    cases q:s.v.nh with
    |false=>rfl
    |true=>rw[q,decide_eq_true k] at ho;exact absurd ho.1 omc
   have:=l1 _ (bQ _ (Ai hc ha hs nh));have h1:=hh.2.resolve_left (by rw[nh];simp);have h2:=cI (show 0<=s.v.hi-t by grind) (show 0<= -n.dot s.l.dir by grind);rw[f] at this⊢;grind
 -- a point that moves until a side stops it
 have go: ∀p,iu c p-> ∀d:ah,n.dot d<=0->(∃u∈c,u.l.nor.dot d<0)->jb n (i5 c)<=n.dot p:=fun p hp d hd0 hex=>by
  by_cases hd:bu c p
  .obtain⟨u,hu,hk⟩:=hex
   have v0:=hd u hu;obtain⟨T,hT⟩: ∃T,T=u.l.value p/ -(u.l.nor.dot d):=⟨_,rfl⟩;have e:T* -(u.l.nor.dot d)=u.l.value p:=by rw[hT];generalize u.l.nor.dot d=z at*;grind
   have T0:0<T:=(gk (k:= -(u.l.nor.dot d)) omb).1 (by rw[e];exact v0);obtain⟨r,r0,r1,⟨s,ms,_,zs⟩,hC⟩:=Kj (p:=cD p d T) hd ⟨u,hu,by rw[jF];grind⟩;have:=side s ms _ zs hC;rw[I9,xt] at this;have:=cI r0 (cI (dZ T0) (show 0<= -(n.dot d) by grind));grind
  .have: ∃s∈c,¬0<s.l.value p:=by
    apply Classical.byContradiction;intro k;exact hd fun s hs=>Classical.byContradiction fun k2=>k ⟨s,hs,k2⟩
   obtain⟨s,hs,k⟩:=this;have:=hp s hs;exact side s hs p omb hp
 intro p hp;by_cases q1: ∃u∈c,u.l.nor.dot (iF n)≠0
 .obtain⟨u,hu,k⟩:=q1
  have z:n.dot (iF n)=0:=by unfold ah.dot iF;grind
  rcases jI (u.l.nor.dot (iF n)) with k|h|h
  .contradiction
  .refine go p hp (aG (iF n)) ?_ ⟨u,hu,?_⟩
   .unfold ah.dot iF aG;dsimp only;grind
   .have:u.l.nor.dot (aG (iF n))= -(u.l.nor.dot (iF n)):=by unfold ah.dot aG;dsimp only;grind
    rw[this];grind
  .exact go p hp (iF n) (by rw[z];exact iR) ⟨u,hu,h⟩
 .have q1: ∀u∈c,u.l.nor.dot (iF n)=0:=fun u hu=>Classical.byContradiction fun k=>q1 ⟨u,hu,k⟩
  by_cases q2: ∃u∈c,0<u.l.nor.dot n
  .obtain⟨u,hu,k⟩:=q2
   have e: ∀z:ah,z.dot (aG n)= -(z.dot n):=fun z=>by unfold ah.dot aG;dsimp only;grind
   refine go p hp (aG n) ?_ ⟨u,hu,by rw[e];grind⟩;rw[e];unfold ah.dot;grind
  .exfalso
   have q3: ∀u∈c,u.l.nor.dot n<0:=fun u hu=>by
    have h1:=q1 u hu;have h2: ¬0<u.l.nor.dot n:=fun k=>q2 ⟨u,hu,k⟩;have h3:=mO (hc.ok u hu).ne;by_cases h4:u.l.nor.dot n=0
    .exfalso
     have e:(n.x*n.x+n.y*n.y)*(u.l.nor.dot u.l.nor)=(u.l.nor.dot n)*(u.l.nor.dot n)+(u.l.nor.dot (iF n))*(u.l.nor.dot (iF n)):=by unfold ah.dot iF;dsimp only;grind
     rw[h1,h4] at e;have:=c9 hN h3;grind
    .grind
   cases c with
   |nil=>cases k1.1
   |cons s t=>
    cases t with
    |nil=>
     have:=k1.2;unfold r5 at this;have:=of_decide_eq_false this;exact this (q3 s aQ)
    |cons w t=>
     have hB:eG s.l.dir w.l.dir:=by
      unfold fk at ha;rw[bY,bY] at ha;exact(cZ.1 ha).1 _ aQ
     have a1:=q3 s aQ;have a2:=q3 w (aJ _ aQ);have b1:=q1 s aQ;have b2:=q1 w (aJ _ aQ);have hz:s.l.dir.cross w.l.dir=0:=by
      have e:(n.x*n.x+n.y*n.y)*s.l.dir.cross w.l.dir=(s.l.nor.dot n)*(w.l.nor.dot (iF n))-(s.l.nor.dot (iF n))*(w.l.nor.dot n):=by unfold ah.dot iF ah.cross aa.dir aa.nor;dsimp only;grind
      rw[b1,b2] at e;have:(n.x*n.x+n.y*n.y)*s.l.dir.cross w.l.dir=0:=by grind
      exact(dY.1 this).resolve_left omb
     have e: ∀l:aa,l.dir.cross (aG n)= -(l.nor.dot n):=fun l=>by rw[CQ];unfold ah.dot aG;dsimp only;grind
     have hh:=aBy (FS (hc.ok s aQ)) (FS (hc.ok w (aJ _ aQ))) hz (z:=aG n) ozl ozl;rcases hB with k|⟨_,k⟩
     .omega
     .rw[hz] at k;exact absurd k oma
def aAK{l m:aa}(hl:l.ok)(hm:m.ok){k:Rat}(hk:0<k)(h: ∀p,l.value p=k*m.value p):l=m:=by
 have hz: ∀s,l.value (m.at s)=0:=fun s=>by rw[h,ly hm.ne];grind
 rcases Be hl hm hz with e|e
 .exact e
 .exfalso
  have hn:=mO hm.ne;have h1:=h (cD (m.at 0) m.nor 1);rw[e,en,jF,ly hm.ne] at h1;have:=c9 hk hn;grind
def KE{a b c a' b' c':Rat}(h: ¬(a=0/\b=0))(h': ¬(a'=0/\b'=0)){k:Rat}(hk:0<k)(e: ∀p:ah,a*p.x+b*p.y+c=k*(a'*p.x+b'*p.y+c')):dE a b c=dE a' b' c':=by
 obtain⟨g,g0,hg⟩:=Ax (c:=c) h;obtain⟨g',g0',hg'⟩:=Ax (c:=c') h';refine aAK (xp h) (xp h') (k:=g*k/g') (div_pos (c9 g0 hk) g0') fun p=>?_;rw[hg,hg',e];have:g*k/g'*g'=g*k:=by grind
 generalize g*k/g'=z at*;grind
def ew(p q:ah):aa:=dE (p.y-q.y) (q.x-p.x) (-((p.y-q.y)*p.x+(q.x-p.x)*p.y))
def lB(n:ah):List ah->ah
 |[]=>⟨0,0⟩
 |p::t=>t.foldl (fun b q=>if n.dot q<n.dot b then q else b) p
def UM(n:ah){l:List ah}(h:l≠[]):n.dot (lB n l)=jb n l:=by
 cases l with
 |nil=>exact absurd J h
 |cons p t=>
  unfold lB jb;have key: ∀(t:List ah) (b:ah),n.dot (t.foldl (fun b q=>if n.dot q<n.dot b then q else b) b)=t.foldl (fun b q=>if n.dot q<b then n.dot q else b) (n.dot b):=fun t=>by
   induction t with
   |nil=>intro b;rfl
   |cons a t ih=>
    intro b;rw[iQ,iQ,ih];congr 1;split<;>rfl
  exact key t p
def oI(l:aa)(V:List ah):aa:=ew (l.base.add (lB l.nor V)) ((l.base.add (lB l.nor V)).add l.dir)
def f9(l:aa)(V:List ah):aa:=dE l.a l.b (l.c-jb l.nor V)
def BB{l:aa}(h:l.ok): ¬((l.a:Rat)=0/\(l.b:Rat)=0):=fun⟨h1,h2⟩=>by
 have:=mO h.ne;unfold aa.nor ah.dot at this;dsimp only at this;rw[h1,h2] at this;grind
def aB7{l:aa}(h:l.ok):l.nor.dot l.base= -(l.c:Rat):=by
 have:=Ud h.ne;rw[A'] at this;grind
def Z0{l:aa}(hl:l.ok){V:List ah}(hV:V≠[]):oI l V=f9 l V:=by
 have hz:=BB hl;have hb:=UM l.nor hV;have hbase:=aB7 hl;unfold oI f9 ew;refine KE (k:=1) (fun⟨h1,h2⟩=>hz ⟨?_,?_⟩) hz oma fun p=>?_
 .unfold ah.add aa.dir at h1;dsimp only at h1;grind
 .unfold ah.add aa.dir at h2;dsimp only at h2;grind
 .rw[<-hb]
  generalize lB l.nor V=q at*;unfold ah.add aa.dir aa.nor ah.dot at*;dsimp only at*;grind
def tu(l:aa)(c:List aa):List ah:=(c.flatMap fun s=>[s.dir,aG s.dir])++[⟨l.dir.y, -l.dir.x⟩]
def l5(l:aa)(c:List aa):Bool:=!c.isEmpty&&(tu l c).all fun v=>!(ul c v&&decide (Int.sign (l.dir.cross v).num<0))
def lx(c:List aa):List ah:=if(gj c).isEmpty then c.map aa.base else gj c
def zq(l:aa)(p:ah)(c:List aa):aa:=ew (p.add (lB l.nor (lx c))) ((p.add (lB l.nor (lx c))).add l.dir)
def gp(c:ao)(f:ah×ah):Option aa:=(fD c (aB f)).map fun m=>dE (aB f).x (aB f).y (-(m+(aB f).dot f.1))
def ui(c:List aa)(f:ah×ah):Option aa:=if l5 (ew f.1 f.2) c then some (zq (ew f.1 f.2) f.1 c) else none
def fH(c:ao)(V:List ah)(E:List (ah×ah)):List aa:=(c.map fun s=>f9 s.l V)++E.filterMap (gp c)
def HF(c:List aa)(V:List ah)(E:List (ah×ah)):List aa:=(c.map fun l=>oI l V)++E.filterMap (ui c)
def NS{f:ah×ah}(h: ¬((aB f).x=0/\(aB f).y=0)):(ew f.1 f.2).ok/\ ∃g:Rat,0<g/\(ew f.1 f.2).nor=⟨g*(aB f).x,g*(aB f).y⟩:=by
 have h': ¬(f.1.y-f.2.y=0/\f.2.x-f.1.x=0):=fun⟨h1,h2⟩=>h ⟨by unfold aB;dsimp only;grind,by unfold aB;dsimp only;grind⟩;refine⟨xp h',?_⟩;obtain⟨g,g0,hg⟩:=Ax (c:= -((f.1.y-f.2.y)*f.1.x+(f.2.x-f.1.x)*f.1.y)) h';refine⟨g,g0,?_⟩;have e0:=hg ⟨0,0⟩;have e1:=hg ⟨1,0⟩;have e2:=hg ⟨0,1⟩;unfold ew;generalize dE (f.1.y-f.2.y) (f.2.x-f.1.x) (-((f.1.y-f.2.y)*f.1.x+(f.2.x-f.1.x)*f.1.y))=L at*;unfold aa.value ah.dot at e0 e1 e2;unfold aa.nor aB at*;dsimp only at*;simp only[ah.mk.injEq];constructor<;>grind
def aAG{c:ao}(hc:bw c){v n:ah}(hv: ∀u∈c,0<=u.l.nor.dot v)(hn:n.dot v<0)(M:Rat): ∃q,iu c q/\n.dot q<M:=by
 obtain⟨q,hq⟩:=hc.ne;refine Cz (p:=q) (u:=v) (fun t ht s hs=>?_) hn M;rw[jF];have:=hq s hs;have:=cI ht (hv s hs);grind
def UY(g:Rat)(n v:ah):(⟨g*n.x,g*n.y⟩:ah).dot v=g*n.dot v:=by unfold ah.dot;dsimp only;grind
def Wo(a b:ah):a.dot b=b.dot a:=by unfold ah.dot;grind
def Wt{c:ao}(hc:bw c)(ha:fk c){n:ah}(hn: ¬(n.x=0/\n.y=0)){l:aa}{g:Rat}(hg:0<g)(hl:l.nor=⟨g*n.x,g*n.y⟩):l5 l (c.map fun s=>s.l)=(fD c n).isSome:=by
 have hcr: ∀v,Int.sign (l.dir.cross v).num<0↔n.dot v<0:=fun v=>by
  rw[Hi,CQ,hl,UY];constructor
  .intro h
   have:=(w7 hg (b:= -(n.dot v))).1 omb;grind
  .intro h
   have:=c9 hg (show 0< -(n.dot v) by grind);grind
 have hN:=z8 hn
 cases hf:fD c n with
 |some m=>
  obtain⟨h1,h2⟩:=FP hc ha hn hf;show l5 l (c.map fun s=>s.l)=true;unfold l5;rw[bT];refine⟨?_,?_⟩
  .cases c with
   |nil=>unfold fD at hf;simp at hf
   |cons s t=>rfl
  .rw[dV]
   intro v _;rw[iW,Bool.and_eq_false_iff];by_cases k:ul (c.map fun s=>s.l) v=true
   .right
    rw[decide_eq_false_iff_not,hcr];intro k2;obtain⟨q,hq,hlt⟩:=aAG hc (RA.1 k) k2 m;have:=h1 q hq;grind
   .left;exact Bool.eq_false_iff.2 k
 |none=>
  show l5 l (c.map fun s=>s.l)=false;unfold fD at hf;unfold l5;have use: ∀v∈tu l (c.map fun s=>s.l),(∀u∈c,0<=u.l.nor.dot v)->n.dot v<0->((!(c.map fun s=>s.l).isEmpty&&(tu l (c.map fun s=>s.l)).all fun v=>!(ul (c.map fun s=>s.l) v&&decide (Int.sign (l.dir.cross v).num<0)))=false):=fun v hv h1 h2=>by
   rw[Bool.and_eq_false_iff];right;rw[sT];refine⟨v,hv,?_⟩;rw[RA.2 h1,decide_eq_true ((hcr v).2 h2)];decide
  split at hf
  .rename_i k
   rw[fN] at k
   cases c with
   |nil=>rfl
   |cons s t=>
    rcases k with k|k
    .cases k
    .cases t with
     |cons _ _=>cases k
     |nil=>
      have k:=of_decide_eq_true (show decide (s.l.nor.dot n<0)=true from k);have e:(⟨l.dir.y, -l.dir.x⟩:ah)=⟨-(g*n.x), -(g*n.y)⟩:=by
       unfold aa.dir;have h1:(l.a:Rat)=g*n.x:=congrArg ah.x hl;have h2:(l.b:Rat)=g*n.y:=congrArg ah.y hl;dsimp only;simp only[ah.mk.injEq];constructor<;>grind
      refine use ⟨l.dir.y, -l.dir.x⟩ (bQ _ (aT.2 J)) (fun u hu=>?_) ?_
      .rw[aT.1 hu,e]
       have e2:s.l.nor.dot ⟨-(g*n.x), -(g*n.y)⟩=g* -(s.l.nor.dot n):=by unfold ah.dot;dsimp only;grind
       rw[e2];exact cI (dZ hg) omb
      .rw[e]
       have e2:n.dot ⟨-(g*n.x), -(g*n.y)⟩= -(g*(n.x*n.x+n.y*n.y)):=by unfold ah.dot;dsimp only;grind
       rw[e2];have:=c9 hg hN;grind
  .split at hf
   .rename_i k
    obtain⟨s,hs,k⟩:=gK.1 k;unfold gv at k;rw[fN,bT,bT,decide_eq_true_eq,decide_eq_true_eq] at k;have mem: ∀v,(v=s.l.dir\/v=aG s.l.dir)->v∈tu l (c.map fun s=>s.l):=fun v hv=>by
     refine bU _ (fJ.2 ⟨s.l,dX (f:=fun s:bD=>s.l) hs,?_⟩);rcases hv with rfl|rfl<;>simp
    rcases k with⟨k1,k2⟩|⟨k1,k2⟩
    .exact use s.l.dir (mem _ (.inl J)) (I3 hc hs k1) (by rw[Wo];exact k2)
    .refine use (aG s.l.dir) (mem _ (.inr J)) (fun u hu=>?_) ?_
     .have:=U6 hc hs k1 u hu
      have e:u.l.nor.dot (aG s.l.dir)= -(u.l.nor.dot s.l.dir):=by unfold ah.dot aG;dsimp only;grind
      rw[e];grind
     .have e:n.dot (aG s.l.dir)= -(s.l.dir.dot n):=by unfold ah.dot aG;dsimp only;grind
      rw[e];grind
   .cases hf
def aBX{c:ao}(hc:bw c){s:bD}(hs:s∈c)(nl:s.v.nl=true)(nh:s.v.nh=true): ∀u∈c,u.l.nor.dot s.l.dir=0:=fun u hu=>by
 have h1:=I3 hc hs nh u hu;have h2:=U6 hc hs nl u hu;grind
def az0{c:ao}(hc:bw c){s:bD}(hs:s∈c)(nl:s.v.nl=true)(nh:s.v.nh=true):gj (c.map (·.l))=[]:=by
 have hp:=aBX hc hs nl nh;unfold gj;rw[aX,List.flatMap_eq_nil_iff];intro i hi;have hi:=kZ.1 hi;obtain⟨a,ha⟩: ∃s,c[i]? =some s:=⟨_,aZ hi⟩;obtain⟨b,hb⟩: ∃w,c[(i+1)%c.length]? =some w:=⟨_,aZ (dW _ we)⟩;have h1:=hp a (aK ha);have h2:=hp b (aK hb);rw[tz (l:=a.l) (m:=b.l) (by rw[cJ,ha];rfl) (by rw[aX,cJ,hb];rfl),if_neg];rw[nG];have hz:=mO (hc.ok s hs).ne;have e:(s.l.nor.dot s.l.nor)*a.l.dir.cross b.l.dir=(a.l.nor.dot s.l.dir)*(b.l.nor.dot s.l.nor)-(a.l.nor.dot s.l.nor)*(b.l.nor.dot s.l.dir):=by unfold ah.dot ah.cross aa.dir aa.nor;dsimp only;grind
 rw[h1,h2] at e;intro k;have:=c9 hz k;grind
def LQ{c:ao}(hc:bw c)(ha:fk c){n:ah}(hn: ¬(n.x=0/\n.y=0)){m:Rat}(hf:fD c n=some m):jb n (lx (c.map fun s=>s.l))=m/\lx (c.map fun s=>s.l)≠[]:=by
 obtain⟨f1,f2⟩:=FP hc ha hn hf;have hf':=hf;unfold fD at hf';split at hf'
 .cases hf'
 rename_i k1;split at hf'
 .cases hf'
 rename_i k2
 cases hf'
 have k1:c.isEmpty=false/\r5 n c=false:=by simpa using k1
 have k2: ∀s∈c,gv n s=false:=fun s hs=>by
  cases q:gv n s with
  |false=>rfl
  |true=>exact absurd (gK.2 ⟨s,hs,q⟩) k2
 have hne:i5 c≠[]:=by
  unfold i5
  cases c with
  |nil=>cases k1.1
  |cons s t=>simp
 obtain⟨l1,q0,hq0,l2⟩:=o9 (n:=n) hne;have e1: ∀s:bD,s.l.dir.dot n=n.dot s.l.dir:=fun s=>by unfold ah.dot;grind
 have f: ∀(s:bD) u,n.dot (s.l.at u)=n.dot (s.l.at 0)+u*n.dot s.l.dir:=fun s u=>by rw[JP s.l u,xt]
 unfold lx;by_cases hv:(gj (c.map fun s=>s.l)).isEmpty=true
 .rw[if_pos hv]
  have hv':gj (c.map fun s=>s.l)=[]:=qY.1 hv;have flat: ∀s∈c,n.dot s.l.dir=0/\n.dot s.l.base=n.dot (s.l.at s.v.sample):=fun s hs=>by
   have nl:s.v.nl=true:=by
    cases q:s.v.nl with
    |true=>rfl
    |false=>have:=Dg hc ha hs q;rw[hv'] at this;cases this
   have nh:s.v.nh=true:=by
    cases q:s.v.nh with
    |true=>rfl
    |false=>have:=Ai hc ha hs q;rw[hv'] at this;cases this
   have ho:=k2 s hs;unfold gv at ho;rw[nl,nh,kX,pS,pS,decide_eq_false_iff_not,decide_eq_false_iff_not,e1] at ho;have z:n.dot s.l.dir=0:=by rcases jI (n.dot s.l.dir) with k|k|k;exact k;exact absurd k ho.2;exact absurd k ho.1
   refine⟨z,?_⟩;rw[<-AQ,xt,z];grind
  have hne2:(c.map fun s=>s.l).map aa.base≠[]:=by
   cases c with
   |nil=>cases k1.1
   |cons s t=>simp
  obtain⟨g1,p1,hp1,g2⟩:=o9 (n:=n) hne2;refine⟨?_,hne2⟩;obtain⟨l,hl,rfl⟩:=aU.1 hp1;obtain⟨s,hs,rfl⟩:=aU.1 hl;have a1:=l1 (s.l.at s.v.sample) (bU _ (dX (f:=fun s:bD=>s.l.at s.v.sample) hs));rw[<-(flat s hs).2,<-g2] at a1;have a2:jb n ((c.map fun s=>s.l).map aa.base)<=jb n (i5 c):=by
   unfold i5 at hq0;rw[hv',fR] at hq0;obtain⟨w,hw,rfl⟩:=aU.1 hq0;rw[l2,<-(flat w hw).2];exact g1 _ (dX (dX (f:=fun s:bD=>s.l) hw))
  grind
 .rw[if_neg hv]
  have hne2:gj (c.map fun s=>s.l)≠[]:=fun e=>hv (by rw[e];rfl);obtain⟨g1,p1,hp1,g2⟩:=o9 (n:=n) hne2;refine⟨?_,hne2⟩;have a1:=l1 p1 (bQ _ hp1);rw[<-g2] at a1
  -- the least value is one of a corner
  have a2: ∃v∈gj (c.map fun s=>s.l),n.dot v=jb n (i5 c):=by
   unfold i5 at hq0;rcases bZ.1 hq0 with h|h
   .obtain⟨s,hs,rfl⟩:=aU.1 h
    have hi:=(hc.edge s hs).1;have hsm:=oP hi;have z:n.dot s.l.dir=0:=by
     rcases jI (n.dot s.l.dir) with k|k|k
     .exact k
     .exfalso
      have ho:=k2 s hs;unfold gv at ho;rw[kX,e1] at ho;have nl:s.v.nl=false:=by
       cases q:s.v.nl with
       |false=>rfl
       |true=>rw[q,decide_eq_true k] at ho;exact absurd ho.2 omc
      have:=l1 _ (bQ _ (Dg hc ha hs nl));have h1:=hsm.1.resolve_left (by rw[nl];simp);rw[l2,f s s.v.sample,f s s.v.lo] at this;have:=c9 (show 0<s.v.sample-s.v.lo by grind) k;grind
     .exfalso
      have ho:=k2 s hs;unfold gv at ho;rw[kX,e1] at ho;have nh:s.v.nh=false:=by
       cases q:s.v.nh with
       |false=>rfl
       |true=>rw[q,decide_eq_true k] at ho;exact absurd ho.1 omc
      have:=l1 _ (bQ _ (Ai hc ha hs nh));have h1:=hsm.2.resolve_left (by rw[nh];simp);rw[l2,f s s.v.sample,f s s.v.hi] at this;have:=c9 (show 0<s.v.hi-s.v.sample by grind) (show 0< -(n.dot s.l.dir) by grind);grind
    cases nl:s.v.nl with
    |false=>exact⟨_,Dg hc ha hs nl,by rw[l2,f s s.v.lo,f s s.v.sample,z];grind⟩
    |true=>
     cases nh:s.v.nh with
     |false=>exact⟨_,Ai hc ha hs nh,by rw[l2,f s s.v.hi,f s s.v.sample,z];grind⟩
     |true=>exact absurd (az0 hc hs nl nh) hne2
   .exact⟨q0,h,l2.symm⟩
  obtain⟨v,hv2,e⟩:=a2;have:=g1 v hv2;grind
def aIz{c:ao}(hc:bw c)(ha:fk c){f:ah×ah}(hn: ¬((aB f).x=0/\(aB f).y=0)):ui (c.map fun s=>s.l) f=gp c f:=by
 obtain⟨hok,g,g0,hg⟩:=NS hn;unfold ui gp;rw[Wt hc ha hn g0 hg]
 cases hf:fD c (aB f) with
 |none=>rfl
 |some m=>
  obtain⟨h1,h2⟩:=LQ hc ha hn hf;show some (zq (ew f.1 f.2) f.1 (c.map fun s=>s.l))=some _;congr 1;have hs: ∀v,(ew f.1 f.2).nor.dot v=g*(aB f).dot v:=fun v=>by rw[hg,UY]
  have hb:g*(aB f).dot (lB (ew f.1 f.2).nor (lx (c.map fun s=>s.l)))=g*m:=by
   rw[<-hs,UM _ h2];obtain⟨a1,q1,b1,c1⟩:=o9 (n:=(ew f.1 f.2).nor) h2;obtain⟨a2,q2,b2,c2⟩:=o9 (n:=aB f) h2;have d1:=a1 q2 b2;have d2:=a2 q1 b1;rw[h1] at c2 d2;rw[hs] at c1 d1;rw[<-c2] at d1;have:=cI (dZ g0) (show 0<=(aB f).dot q1-m by grind);grind
  have hz:=BB hok;have e1:((ew f.1 f.2).a:Rat)=g*(aB f).x:=congrArg ah.x hg;have e2:((ew f.1 f.2).b:Rat)=g*(aB f).y:=congrArg ah.y hg;generalize ew f.1 f.2=T at*;unfold zq;generalize lB T.nor (lx (c.map fun s=>s.l))=q at*;generalize hd:T.dir=d at*;have d1:d.x=(T.b:Rat):=by rw[<-hd];rfl
  have d2:d.y= -(T.a:Rat):=by rw[<-hd];rfl
  unfold ew;refine KE (k:=g) (fun⟨k1,k2⟩=>hz ⟨?_,?_⟩) hn g0 fun p=>?_
  .unfold ah.add at k1;dsimp only at k1;grind
  .unfold ah.add at k2;dsimp only at k2;grind
  .unfold ah.add
   unfold ah.dot at*;dsimp only at*;rw[d1,d2,e1,e2];grind
def auX{c:ao}(hc:bw c)(ha:fk c){V:List ah}(hV:V≠[]){E:List (ah×ah)}(hE: ∀f∈E,¬((aB f).x=0/\(aB f).y=0)):HF (c.map fun s=>s.l) V E=fH c V E:=by
 unfold HF fH;congr 1
 .rw[oU]
  refine uX fun s hs=>?_;exact Z0 (hc.ok s hs) hV
 .induction E with
  |nil=>rfl
  |cons f E ih=>
   rw[lY,lY,aIz hc ha (hE f aQ),ih fun g hg=>hE g (aJ _ hg)]
section
variable {rs:List (List ZP)} {fill:Int} {p:ah}
end
def jB:List aa->Tr
 |[]=> .leaf true
 |l::t=> .node l (jB t) (.leaf false)
def SC: ∀{L:List aa},(jB L).lns=L
 |[]=>rfl
 |l::t=>by rw[jB,Tr.lns,SC,Tr.lns,fR]
def Rm: ∀{L:List aa} {p:ah},(jB L).val p=true↔d8 L p
 |[],p=>⟨fun _ l hl=>(by cases hl),fun _=>J⟩
 |l::t,p=>by
  rw[jB];by_cases h:0<l.value p
  .rw[Tr.val_pos h,Rm (L:=t)]
   constructor
   .intro k m hm
    rcases aW.1 hm with rfl|hm
    .exact h
    .exact k m hm
   .exact fun k m hm=>k m (aJ _ hm)
  .rw[Tr.val_neg h]
   constructor
   .intro k;cases k
   .intro k;exact absurd (k l aQ) h
def Ef{P:aa->Prop}{L:List aa}(h: ∀l∈L,P l):(jB L).all P:=l9.2 (by rw[SC];exact h)
def Md: ∀(L:List aa),(jB L).depth=L.length
 |[]=>rfl
 |l::t=>by rw[jB,Tr.depth,Md t,aS];show 1+max _ 0=_;omega
def Pg: ∀(L:List aa),(jB L).size=L.length
 |[]=>rfl
 |l::t=>by rw[jB,Tr.size,Pg t,aS];show 1+_+0=_;omega
end Go.Sx
end
