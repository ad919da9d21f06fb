import Derived.Test.YtefoocgiaegobaaGreatDoorPi13
import Derived.RecoverIn
set_option linter.all false
set_option maxHeartbeats 4000000
set_option maxRecDepth 100000
section
namespace Go.Sx
open Go Go.Proofs Tryz
variable {GB:Gh}
section
variable {GB:Gh} {C:aD} {n:Nat} {Q0:Exit->Act->World->Prop} {fr fr':aA} {own own':aG} {cf cf':Cf} {vc:List Prop} {ops:Array Oper} {r:List Oper} {K:List Kt}
def aD.mkD(C:aD)(f:FuncId)(c2:List Value):aD:={C with mks:=[{target:= .fn (.func f) ⟨c2⟩,args:= #[]}]}
def axT{f:FuncId}{c2:List Value}{ov:List ao}{G:Gh}{w:World}(h:bp C ov G w):bp (C.mkD f c2) ov G w:=
 ⟨h.os,h.tape,h.output,h.size,h.keep,h.sub,h.gle,h.gold,h.hown,h.nd,h.dr,h.ext⟩
def asi{f:FuncId}{c2:List Value}{ov:List ao}{G:Gh}{w:World}(h:bp (C.mkD f c2) ov G w):bp C ov G w:=
 ⟨h.os,h.tape,h.output,h.size,h.keep,h.sub,h.gle,h.gold,h.hown,h.nd,h.dr,h.ext⟩
def Et(P:Program)(fb:Func)(R:Ending->World->Prop):Exit->Act->World->Prop:=bodyPostDIn (FW none) 0 P fb R
def Wx[fu:Fu]{f:FuncId}{fb:Func}{c:Code}{m:Nat}{ds:List DV}{rv:DV}(hf:prog.funcs[f]? =some fb)(hb:fb.body=some c)(hn:(fb.name== "runtime.NumGoroutine")=false)(hm:fb.ntmps=m)(hlen:Nat.ble ds.length m=true)
  (hgo:go tt m fu.n [] (qv 0 ds) [] (.code c [])=⟨vc,fr,own,cf⟩)(k: ∀C:aD,A7 C->ak prog GB C m (Et prog fb (jp C (fun v G'=>Is G' rv v))) fr own cf)
  (hv:ah vc:=by first|exact trivial|(simp only[ah];kernel_rfl)|(simp only[ah];omega)):PF GB prog f ds rv:=by
 intro G vs hg hvs;refine⟨⟨fb,hf,hn,by simp[hb]⟩,fun w hw=>?_⟩;have hlen':vs.length<=m:=by rw[hvs.len];simpa using hlen
 have h:=fB (GB:=GB) (C:=kC w G) (Q0:=Et prog fb (jp (kC w G) (fun v G'=>Is G' rv v))) hgo hv (k (kC w G) ⟨J,J,J⟩);refine(callsIn_wide (n:=0)).1 (callsIn_of_wp_defers (F:=FW none) (n:=0) hf hb trivial ?_);refine h.run (fun _=>⟨none,0,0⟩) G [] _ w ⟨hg,Bb hw,by simp;omega,J,fun k f e=>wL hvs (fun k v hk=>?_) k f e,(fun nm B e=>by cases e),(fun nm nm' B B' e=>by cases e),fun nm p _ _ e=>by cases e⟩;obtain⟨j,rfl,hj⟩:=uN vs 0 k v hk;have hj':=(aR.1 hj).1;rw[jY (by simpa using hj')];simpa using hj
def WG{P:Program}{f:FuncId}{d x y:Nat}{gx gy:FX}{t1 t2:TypeId}{p1 p2:String}{a1 a2:Array Edge}{tys:Array TypeId}(h0:A7 C)(hx:bc fr x=some gx)(hy:bc fr y=some gy)(hd:bc fr d=none)(hdn:d<n)
  (k: ∀p q,ak P GB (C.mkD f [p,q]) n Q0 fr own (.ops ops r K)):
  ak P GB C n Q0 fr own (.ops ops (⟨some d, .makeFunc (.func f) ⟨[]⟩ ⟨[.tmp x, .tmp y]⟩,t1,p1,a1,none⟩::⟨none, .defer ⟨.value (.tmp d),⟨[]⟩,tys⟩,t2,p2,a2,none⟩::r) K):=by
 refine⟨fun ρ G ov a w r0=>?_⟩;obtain⟨v1,hv1,_⟩:=r0.fx x gx hx;obtain⟨v2,hv2,_⟩:=r0.fx y gy hy;have e1:(execOp a.eval ⟨some d, .makeFunc (.func f) ⟨[]⟩ ⟨[.tmp x, .tmp y]⟩,t1,p1,a1,none⟩).run P w= .ok (.value (.func (.func f) ⟨[]⟩ ⟨[v1,v2]⟩)) w:=by
  have q1:a.eval (.tmp x)=v1:=by simp[Act.eval,hv1]
  have q2:a.eval (.tmp y)=v2:=by simp[Act.eval,hv2]
  have:=yB (P:=P) (C:=C) (own:=ov) (G:=G) (fr:=co a) (dst:=some d) (ty':=t1) (pos:=p1) (af:=a1) (gd:=none) (fn:= .func f) (c1:=⟨[]⟩) (c2:=⟨[.tmp x, .tmp y]⟩) (l1:=[]) (l2:=[a.eval (.tmp x),a.eval (.tmp y)]) J (by
   have w1:aw (co a) (.tmp x)=some v1:=by
    simp only[aw];exact yb hv1
   have w2:aw (co a) (.tmp y)=some v2:=by
    simp only[aw];exact yb hv2
   simp[oJ,w1,w2,q1,q2])
  rw[q1,q2] at this;exact this a w (cC a) r0.h
 have hkk:=(k v1 v2).run ρ G ov {tmps:=a.tmps.setIfInBounds d (.func (.func f) ⟨[]⟩ ⟨[v1,v2]⟩),defers:=[{target:= .fn (.func f) ⟨[v1,v2]⟩,args:= #[]}]} w ⟨r0.gb,axT r0.h,by simpa using r0.sz,J,fun j g e=>by
   obtain⟨u,h1,h2⟩:=r0.fx j g e;refine⟨u,?_,h2⟩;have hne:d≠j:=fun he=>by rw[<-he,hd] at e;cases e
   rw[Array.getElem?_setIfInBounds_ne hne];exact h1,r0.bx,r0.dj,r0.fxd⟩
 have hrd:C.rd=none:=h0.rd;show wpListIn (FW C.rd) 0 P ops (cQ C.rd P Q0 K) _ a w;have hkk':wpListIn (FW C.rd) 0 P ops (cQ C.rd P Q0 K) r _ w:=hkk;rw[hrd] at hkk'⊢;simp only[wpListIn,Region.wanted,if_true];refine⟨fun _ _=>trivial,?_⟩;rw[show(FW none).round=none from J,Oper.semAt_none,e1];show Oper.wpIn (FW none) 0 P _ _ w _ _;refine⟨fun _ _=>trivial,?_⟩;have hsz:d<a.tmps.size:=by rw[r0.sz];exact hdn
 have e2:(execOp (Act.put a (some d) (.func (.func f) ⟨[]⟩ ⟨[v1,v2]⟩)).eval ⟨none, .defer ⟨.value (.tmp d),⟨[]⟩,tys⟩,t2,p2,a2,none⟩).run P w= .ok (.defer {target:= .fn (.func f) ⟨[v1,v2]⟩,args:= #[]}) w:=by
  have q3:(Act.put a (some d) (.func (.func f) ⟨[]⟩ ⟨[v1,v2]⟩)).eval (.tmp d)= .func (.func f) ⟨[]⟩ ⟨[v1,v2]⟩:=by simp[Act.eval,Act.put,hsz]
  simp[execOp,resolve,q3,Deferred.ofValue,go_sem,hsz]
 rw[show(FW none).round=none from J,Oper.semAt_none,e2];show wpListIn (FW none) 0 P ops (cQ none P Q0 K) r _ w;have hda:a.defers=[]:=by rw[r0.df,h0.mks]
 have:(Act.put ({(Act.put a (some d) (.func (.func f) ⟨[]⟩ ⟨[v1,v2]⟩)) with defers:={target:= .fn (.func f) ⟨[v1,v2]⟩,args:= #[]}::(Act.put a (some d) (.func (.func f) ⟨[]⟩ ⟨[v1,v2]⟩)).defers}) none undef)={tmps:=a.tmps.setIfInBounds d (.func (.func f) ⟨[]⟩ ⟨[v1,v2]⟩),defers:=[{target:= .fn (.func f) ⟨[v1,v2]⟩,args:= #[]}]}:=by
  simp[Act.put,hda]
 rw[this];exact hkk'
def Rv(P:Program)(f:FuncId):Prop:= ∀p q w,CallsDIn (FW none) 0 P f #[p,q] .returning w fun e u' w'=>e= .returned (.tuple #[])/\u'= .returning/\w'=w
def VN{fb:Func}{e:Exit}{ds:List DV}{rv:DV}{f:FuncId}{p q:Value}(hI:Rv prog f)(hfb:o8 prog f)(hr:qe tt fr own fb.results.toList=some ds)(hd:i9 ds=rv)(he:zZ e=true:=by rfl):ak prog GB (C.mkD f [p,q]) n (Et prog fb (jp C (fun v G'=>Is G' rv v))) fr own (.ex e []):=by
 refine⟨fun ρ G ov a w r=>?_⟩;obtain⟨vs,h1,h2⟩:=yL r hr;have hk:Is G rv (gH vs):=hd▸zk h2;have hres:=te (C:=C.mkD f [p,q]) (G:=G) (own:=ov) (w:=w) h1 (cC a) r.h;have key:LeavesIn (FW none) 0 prog fb a.tmps (jp C (fun v G'=>Is G' rv v)) a.defers .returning w:=by
  rw[r.df];refine leavesIn_cons (f:=f) (args:= #[p,q]) (by simp) (by simp[FW,Fence.wide]) ?_ (fun _ _=>trivial) ?_
  ·show(callFunc f (#[]++⟨[p,q]⟩)).run prog w=_
   rw[zH hfb];simp
  refine(hI p q w).mono ?_;rintro e u' w' ⟨rfl,rfl,rfl⟩;exact⟨_,hres,_,G,J,(asi r.h).drop (jL _),hk⟩
 cases e with
 |ret=>exact key
 |normal=>exact key
 |_=>cases he
def KF(fr:aA)(own:aG)(cf:Cf):Option (TypeId×FX):=match cd fr cf with
 |some ⟨_, .load t x,_,_,_,_⟩=>match aH (bD fr cf) x with
  |some (.ov nm off)=>match gu fr own cf nm with
   |some (.o _ cs _)=>match cs[off]? with
    |some f=>some (t,f)
    |none=>none
   |_=>none
  |_=>none
 |_=>none
def ldO[fu:Fu]{t:TypeId}{f:FX}{D:TypeDesc}{j:TypeInfo}(h:KF fr own cf=some (t,f))(hu:prog.underlying t=some D)(hD:Zy D=true)(hj:prog.info? t=some j)(hs:j.size=1)
  (hgo:cD tt n fu.n fr own cf f [] []=⟨vc,fr',own',cf'⟩)(k':ak prog GB C n Q0 fr' own' cf')
  (hv:ah vc:=by first|exact trivial|(simp only[ah];kernel_rfl)|(simp only[ah];omega)):ak prog GB C n Q0 fr own cf:=by
 unfold KF at h;split at h<;>try (cases h;done)
 rename_i hh;split at h<;>try (cases h;done)
 rename_i hx;split at h<;>try (cases h;done)
 rename_i hb;split at h<;>cases h;rename_i hc;have:ig prog t:=⟨fun w=>by(rw[zt hu w];cases D<;>first|rfl|(cases hD;done)),fun w=>by rw[uO hj w,hs]⟩;refine us hh ?_ hgo hv k';refine .yd fun ρ G ov a w r=>?_;obtain⟨y,h1,h2⟩:=r.ev hx;obtain⟨b,m,rfl,h3,h4,h5⟩:=r.own h2 hb;obtain⟨l',h6,h7⟩:=h4.get hc;have:io ov b m _ _:=⟨h5⟩;exact⟨l',h7,lg h1 h6⟩
end
instance BQ.i1':BQ (1:Rat) 2:=⟨by decide,by decide⟩
instance BQ.i2':BQ (2:Rat) 2:=⟨by decide,by decide⟩
theorem Tp{v:aj}{i:Nat}[BQ v.lo i][BQ v.hi i]:BQ (lE v) (i+i+5):=by
 unfold lE;split
 ·exact BQ.mono (k:=1) ⟨by decide,by decide⟩ (by omega)
 ·split
  ·exact BQ.mono (inferInstance:BQ (v.hi-1) _) (by omega)
  ·split
   ·exact BQ.mono (inferInstance:BQ (v.lo+1) _) (by omega)
   ·exact BQ.mono (inferInstance:BQ ((v.lo+v.hi)/2) _) (by omega)
instance aI.at (l:aa) (t:Rat) (k:Nat) [LB l] [BQ t k]:aI (l.at t) (900+(k+97)+1):=by
 rw[<-sr];infer_instance
def Ub{q:Rat}(h: ¬q.num.sign=0):q≠0:=fun e=>h ((jj q).2 e)
def jC(d:ab):ab:=⟨-d.y,d.x⟩
instance aI.turn (d:ab) (k:Nat) [aI d k]:aI (jC d) k:=⟨inferInstanceAs (BQ (-d.y) k),inferInstanceAs (BQ d.x k)⟩
def t8(p v:ab)(m:aa):Rat:= -(m.value p/(m.value (ce p v ((1:Int):Rat))-m.value p))
def qa(p v:ab)(m:aa)(s:Rat):Rat:=if(m.value (ce p v ((1:Int):Rat))-m.value p).num.sign=0 then s else if(m.value p).num.sign=0 then s else if 0<(t8 p v m).num.sign then(if cg (t8 p v m/2) s<0 then t8 p v m/2 else s) else s
def pe(p v:ab):List aa->Rat->Rat
 |[],s=>s
 |m::t,s=>pe p v t (qa p v m s)
def tO(c:List aa)(p v:ab):ab:=ce p v (pe p v c ((1:Int):Rat))
def y7{c:List aa}{p v:ab}{k:Nat}{s s' r:Rat}{m:aa}(h:pe p v (c.drop k) s=r)(hk:k<c.length)(hm:m=c[k])(e:qa p v m s=s'):pe p v (c.drop (k+1)) s'=r:=by
 rw[aM hk] at h;rw[<-h,pe,<-hm,e]
def aEi{c:List aa}{p v:ab}(hc: ∀m∈c,LB m)(hn:c.length<=1000)(hp:aI p 4500)(hv:aI v 97):PF GB prog 251 [.sl (c.map eL),eP p,eP v] (eP (tO c p v)):=by
 have hcl:=ui c;refine fn func251 J J ntmps251 J J (fun C=>?_);refine cl (fu:=⟨9⟩) J (o7 (n:=1) (by decide) (by decide)) J<|?_;refine av 14 (.d (vI (c.length:Nat))) J (by rw[hcl];rfl) ?_;refine gx J<|?_;refine lp (X:=Rat×Nat) (fun⟨s,k⟩=>[(15, .d (vI (k:Nat))),(14, .d (vI (c.length:Nat))),(13, .d (.sl (c.map eL))),(4, .ov 4 0),(5, .ov 5 0),(7, .ov 7 0),(6, .ov 6 0)]) (fun⟨s,k⟩=>[(7,some (.o 79 [.d ((.v (.bool (decide (s.num<0))))), .d (dN s.num.natAbs), .d (dD s.den)] true)),(6,some (.o 81 [.ff, .nl, .nl, .ff, .nl, .nl] true)),(5,some (.o 81 [.d ((.v (.bool (decide (v.x.num<0))))), .d (dN v.x.num.natAbs), .d (dD v.x.den), .d ((.v (.bool (decide (v.y.num<0))))), .d (dN v.y.num.natAbs), .d (dD v.y.den)] true)),(4,some (.o 81 [.d ((.v (.bool (decide (p.x.num<0))))), .d (dN p.x.num.natAbs), .d (dD p.x.den), .d ((.v (.bool (decide (p.y.num<0))))), .d (dN p.y.num.natAbs), .d (dD p.y.den)] true))]) (fun⟨s,k⟩=>k<=c.length/\BQ s 60000/\pe p v (c.drop k) s=pe p v c ((1:Int):Rat)) (fun⟨s,k⟩=>c.length-k) ⟨((1:Int):Rat),0⟩ J ⟨bU _,BQ.i1.mono (by decide),J⟩ (fun _=>J) (fun⟨s,k⟩ hk=>?_)
 try dsimp only at hk⊢
 obtain⟨hle,hsb,hns⟩:=hk;refine br J J J (fun hc16=>?_) (fun hc16=>?_)
 .
  have hk:k<c.length:=by omega
  obtain⟨m,hm⟩: ∃m,m=c[k]:=⟨_,rfl⟩;haveI hmb:LB m:=hm▸hc _ (cY hk);have hinv:=hsb;refine ix (fu:=⟨1⟩) _ J (uu hk) J<|?_;refine av 18 (.d (eL m)) J (by rw[hm];rfl) ?_;refine gx J<|cl J (o7 (n:=1) (by decide) (by decide)) J<|cl J (Cb (p:=p) (q:=v) (c:=((1:Int):Rat))) J<|cl J (BZ (l:=m) (p:=ce p v ((1:Int):Rat))) J<|?_;refine cl J (BZ (l:=m) (p:=p)) J<|cl J (uQ (a:=m.value (ce p v ((1:Int):Rat))) (b:=m.value p)) J<|cl J (tk (q:=m.value (ce p v ((1:Int):Rat))-m.value p)) J<|?_;refine cs 32 J J J (fun hg32=>?_) (fun hg32=>?_)
  .
   exact at_ ⟨s,k+1⟩ (by dsimp only;exact⟨⟨by omega,hinv,(y7 hns hk hm (by unfold qa;rw[if_pos hg32]))⟩,(by omega)⟩)
  .
   refine cl J (BW (l:=m) (p:=p)) J<|?_;refine br J J J (fun hc37=>?_) (fun hc37=>?_)
   .
    exact at_ ⟨s,k+1⟩ (by dsimp only;exact⟨⟨by omega,hinv,(y7 hns hk hm (by unfold qa;rw[if_neg hg32,if_pos hc37]))⟩,(by omega)⟩)
   .
    refine cl J (BZ (l:=m) (p:=p)) J<|cl J (xQ (a:=m.value p) (b:=m.value (ce p v ((1:Int):Rat))-m.value p) (Ub hg32)) J<|?_;refine cl J (vp (q:=m.value p/(m.value (ce p v ((1:Int):Rat))-m.value p))) J<|cl (fu:=⟨0⟩) J (tk (q:= -(m.value p/(m.value (ce p v ((1:Int):Rat))-m.value p)))) J<|?_;refine xZ (v2:=fun hg46=>by simp only[ah];exact⟨by kernel_rfl,by omega⟩) J J J J (fun hg46=>?_) (fun hg46=>?_)
    .
     refine cl J (GV (a:= -(m.value p/(m.value (ce p v ((1:Int):Rat))-m.value p)))) J<|cl J (xd (a:= -(m.value p/(m.value (ce p v ((1:Int):Rat))-m.value p))/2) (b:=s)) J<|?_;refine br J J J (fun hc53=>?_) (fun hc53=>?_)
     .
      obtain⟨t,ht⟩: ∃t,t= -(m.value p/(m.value (ce p v ((1:Int):Rat))-m.value p)):=⟨_,rfl⟩;haveI htb:BQ t 45000:=ht▸BQ.mono inferInstance (by decide);have hinv:BQ (t/2) 60000:=BQ.mono inferInstance (by decide);rw[<-ht];refine cl J (GV (a:=t)) J<|?_;exact at_ ⟨t/2,k+1⟩ (by dsimp only;exact⟨⟨by omega,hinv,(y7 hns hk hm (by unfold qa;rw[if_neg hg32,if_neg hc37,show t8 p v m=t from ht.symm,if_pos (by rw[ht];exact hg46),if_pos (by rw[ht];exact hc53)]))⟩,(by omega)⟩)
     .
      exact at_ ⟨s,k+1⟩ (by dsimp only;exact⟨⟨by omega,hinv,(y7 hns hk hm (by unfold qa;rw[if_neg hg32,if_neg hc37,if_pos (show 0<(t8 p v m).num.sign from hg46),if_neg (show¬cg (t8 p v m/2) s<0 from hc53)]))⟩,(by omega)⟩)
    .
     exact at_ ⟨s,k+1⟩ (by dsimp only;exact⟨⟨by omega,hinv,(y7 hns hk hm (by unfold qa;rw[if_neg hg32,if_neg hc37,if_neg (show¬0<(t8 p v m).num.sign from hg46)]))⟩,(by omega)⟩)
 .
  refine cl J (Cb (p:=p) (q:=v) (c:=s)) J<|?_;exact rz J (by unfold tO;rw[<-hns,iW (by omega)];rfl)
def kr(c:List aa):List aa->ab
 |[]=>⟨0,0⟩
 |m::t=>if(gt m c aj.all).2=true then tO c (m.at (lE (gt m c aj.all).1)) (jC m.dir) else kr c t
def Wv{c:List aa}{k:Nat}{m:aa}(h:kr c (c.drop k)=kr c c)(hk:k<c.length)(hm:m=c[k])(e:(gt m c aj.all).2=true):kr c c=tO c (m.at (lE (gt m c aj.all).1)) (jC m.dir):=by
 rw[<-h,aM hk,kr,<-hm,if_pos e]
def Xt{c:List aa}{k:Nat}{m:aa}(h:kr c (c.drop k)=kr c c)(hk:k<c.length)(hm:m=c[k])(e: ¬(gt m c aj.all).2=true):kr c (c.drop (k+1))=kr c c:=by
 rw[<-h,aM hk,kr,<-hm,if_neg e]
def auV{c:List aa}{m:aa}(h:m∈c)(h2:(fk m c aj.all).isSome=true):ll c=true:=by
 unfold ll;rw[iU,gK];exact .inr ⟨m,h,h2⟩
def avJ{c:List aa}(h:c=[]):ll c=true:=by subst h;rfl
def Xb{c:List aa}(h:c≠[])(h2: ∀m∈c,(fk m c aj.all).isSome=false):ll c=false:=by
 rw[<-kK];unfold ll;rw[iU,gK,List.isEmpty_iff];rintro (e|⟨m,h3,h4⟩)
 ·exact h e
 ·rw[h2 m h3] at h4;exact absurd h4 (by decide)
def K9:eP ⟨0,0⟩= .ag [.v (.bool false), .sl [], .sl [], .v (.bool false), .sl [], .sl []]:=by
 unfold eP dD;simp only[show(0:Rat).num=0 from J,show(0:Rat).den=1 from J,qM,vh];rfl
def aBW{c:List aa}(hc: ∀m∈c,LB m)(hok: ∀m∈c,m.ok)(hn:c.length<=1000):PF GB prog 162 [.sl (c.map eL)] (.tp [eP (kr c c),vB (ll c)]):=by
 have hcl:=ui c;refine fn func162 J J ntmps162 J J (fun C=>?_);refine br (fu2:=⟨7⟩) J J J (fun hc11=>?_) (fun hc11=>?_)
 .
  exact rz J (by rw[bL (l:=c) (by omega),avJ J];show _=DV.tp [eP ⟨0,0⟩,_];rw[K9];rfl)
 .
  refine av 14 (.d (vI (c.length:Nat))) J (by rw[hcl];rfl) ?_;refine gx J<|?_;refine lp (X:=Nat) (fun k=>[(15, .d (vI (k:Nat))),(14, .d (vI (c.length:Nat))),(13, .d (.sl (c.map eL))),(0, .d (.sl (c.map eL))),(2, .ov 2 0)]) (fun k=>[(2,some (.o 81 [.ff, .nl, .nl, .ff, .nl, .nl] true))]) (fun k=>k<=c.length/\(∀m∈c.take k,(fk m c aj.all).isSome=false)/\kr c (c.drop k)=kr c c) (fun k=>c.length-k) 0 J ⟨bU _,fun m hm=>absurd hm (by simp),J⟩ (fun _=>J) (fun k hk=>?_);obtain⟨hle,hno,hip⟩:=hk;refine br J J J (fun hc16=>?_) (fun hc16=>?_)
  .
   have hk:k<c.length:=by omega
   obtain⟨m,hm⟩: ∃m,m=c[k]:=⟨_,rfl⟩;haveI hmb:LB m:=hm▸hc _ (cY hk);have hmo:m.ok:=hm▸hok _ (cY hk);refine ix (fu:=⟨1⟩) _ J (uu hk) J<|?_;refine av 19 (.d (eL m)) J (by rw[hm];rfl) ?_;refine gx J<|cl (fu:=⟨0⟩) J (JS hc hok hn hk) J<|?_;refine av 23 (.d (.tp [eV (gt m c aj.all).1,vB (gt m c aj.all).2])) J (by rw[hm]) ?_;refine gx J<|?_;refine bb J J J (fun hc26=>?_) (fun hc26=>?_)
   .
    have hbd:=D8 (v:=aj.all) hmo.ne hc ik.all (BQ.mono (k:=1) ⟨by decide,by decide⟩ (by decide)) (BQ.mono (k:=1) ⟨by decide,by decide⟩ (by decide));obtain⟨s,hs⟩: ∃s,s=(gt m c aj.all).1:=⟨_,rfl⟩;rw[<-hs] at hbd;haveI:=hbd.1;haveI:=hbd.2;haveI hsb:=Tp (v:=s) (i:=1200);have hpt:aI (m.at (lE s)) 4500:=by have:=aI.at m (lE s) (1200+1200+5);exact⟨this.x.mono (by decide),this.y.mono (by decide)⟩
    have hin:ll c=true:=auV (hm▸cY hk) (by rw[<-vR];exact hc26);have hpn:=Wv hip hk hm hc26;rw[<-hs] at hpn⊢;refine cl J (ug (l:=m)) J<|cl J (XE (v:=s)) J<|cl J (aJf (l:=m) (t:=lE s) hmo.ne) J<|cl J (vp (q:=m.dir.y)) J<|?_;refine cl J (aEi (p:=m.at (lE s)) (v:=jC m.dir) hc hn (hpt) inferInstance) J<|?_;exact rz J (by rw[hin,hpn];rfl)
   .
    exact at_ (k+1) ⟨⟨by omega,Zn hno hk (by rw[<-hm,<-vR];exact hc26),Xt hip hk hm (by rw[hc26];decide)⟩,(by omega)⟩
  .
   exact rz J (by rw[Xb (fun e=>hc11 (by rw[e];rfl)) (fun m hm=>hno m (by rw[bZ (by omega)];exact hm)),<-hip,iW (by omega)];show _=DV.tp [eP ⟨0,0⟩,_];rw[K9];rfl)
def UT{es:List Int}{i:Nat}(h:i<es.length):(es.map vI)[(i:Int).toNat]? =some (vI (es.getD i 0)):=by simp[h]
def Kj{es:List Int}{i:Nat}(h:i<es.length):oF (es.drop i)=if es.getD i 0≠0 then es.getD i 0 else oF (es.drop (i+1)):=by
 rw[aM h,oF,aK,aX h];rfl
def W7{es:List Int}(hn:es.length<=1000000):PF GB prog 227 [.sl (es.map vI)] (vI (oF es)):=by
 have hel:(es.map vI).length=es.length:=by simp
 refine fn (fu:=⟨15⟩) func227 J J ntmps227 J J (fun C=>?_);refine av 7 (.d (vI (es.length:Nat))) J (by rw[hel]<;>rfl) ?_;refine gx J<|?_;refine lp (X:=Nat) (fun i=>[(8, .d (vI (i:Nat)))]) (fun i=>[]) (fun i=>i<=es.length/\oF es=oF (es.drop i)) (fun i=>es.length-i) 0 J ⟨bU _,J⟩ (fun _=>J) (fun i hk=>?_);obtain⟨h1,h2⟩:=hk;refine br J J J (fun hc9=>?_) (fun hc9=>?_)
 .
  refine ix _ J (UT (by omega)) J<|?_;refine br J J J (fun hc14=>?_) (fun hc14=>?_)
  .
   exact rz J (by rw[h2,Kj (by omega),if_pos hc14];rfl)
  .
   exact at_ (i+1) ⟨⟨by omega,by rw[h2,Kj (by omega),if_neg hc14]⟩,(by omega)⟩
 .
  exact rz J (by rw[h2,gN (by omega)];rfl)
def F1(l m:aa):Int:=oF [cg l.a m.a,cg l.b m.b,cg l.c m.c]
def awq(l m:aa):F1 l m=0↔l=m:=by
 unfold F1 oF oF oF oF;have ha:=vJ (l.a:Rat) m.a;have hb:=vJ (l.b:Rat) m.b;have hc:=vJ (l.c:Rat) m.c;rw[oM] at ha hb hc;constructor
 ·intro h
  repeat' (split at h<;>try contradiction)
  all_goals exact aa.ext' (by omega) (by omega) (by omega)
 ·rintro rfl
  rw[if_neg (by simp[ha.2 J]),if_neg (by simp[hb.2 J]),if_neg (by simp[hc.2 J])]
def aEj{l m:aa}[hl:LB l][hm:LB m]:PF GB prog 134 [dq l,dq m] (vI (F1 l m)):=by
 refine fn func134 J J ntmps134 J J (fun C=>?_);refine cl J (qm (p:=(l.a:Rat)) (q:=(m.a:Rat))) J<|cl J (qm (p:=(l.b:Rat)) (q:=(m.b:Rat))) J<|cl J (qm (p:=(l.c:Rat)) (q:=(m.c:Rat))) J<|?_;refine rf J J<|cl J (W7 (es:=[cg l.a m.a,cg l.b m.b,cg l.c m.c]) (nb J)) J<|?_;exact rz J J
def Ui{l m:aa}[hl:LB l][hm:LB m]:PF GB prog 136 [dq l,dq m] (vB (decide (l=m))):=by
 refine fn func136 J J ntmps136 J J (fun C=>?_);refine cl J (aEj (l:=l) (m:=m)) J<|?_;exact rz J (by show DV.v (.bool (decide _))= .v (.bool _);congr 2;exact decide_eq_decide.2 (awq l m))
def FB{l:aa}[hl:LB l]:PF GB prog 229 [dq l] (dq l.rev):=by
 refine fn func229 J J ntmps229 J J (fun C=>?_);refine cl J (ot (q:=(l.a:Rat))) J<|cl J (ot (q:=(l.b:Rat))) J<|cl J (ot (q:=(l.c:Rat))) J<|?_;exact rz J (by unfold dq aa.rev;simp only[pQ];rfl)
def Ty{l:aa}[hl:LB l]:PF GB prog 137 [dq l] (eL l):=by
 refine fn func137 J J ntmps137 J J (fun C=>?_);refine cl J (td (q:=(l.a:Rat))) J<|cl J (td (q:=(l.b:Rat))) J<|cl J (td (q:=(l.c:Rat))) J<|?_;exact rz J J
def LD{p:ab}{i:Nat}[hp:aI p i](hi:i<=10000000:=by decide):PF GB prog 354 [eZ p] (vI p.half):=by
 refine fn func354 J J ntmps354 J J (fun C=>?_);refine cl J (my (q:=p.y) (by omega)) J<|?_;refine cs 10 J J J (fun hg10=>?_) (fun hg10=>?_)
 .
  exact rz J (by unfold ab.half;(repeat' split)<;>first|rfl|(exfalso;omega))
 .
  refine cs 13 J J J (fun hg13=>?_) (fun hg13=>?_)
  .
   refine cl J (my (q:=p.x) (by omega)) J<|?_;refine br J J J (fun hc7=>?_) (fun hc7=>?_)
   .
    exact rz J (by unfold ab.half;(repeat' split)<;>first|rfl|(exfalso;omega))
   .
    refine cs 23 J J J (fun hg23=>?_) (fun hg23=>?_)
    .
     exact rz J (by unfold ab.half;(repeat' split)<;>first|rfl|(exfalso;omega))
    .
     refine cl J (my (q:=p.x) (by omega)) J<|?_;refine br J J J (fun hc20=>?_) (fun hc20=>?_)
     .
      exact rz J (by unfold ab.half;(repeat' split)<;>first|rfl|(exfalso;omega))
     .
      exact rz J (by unfold ab.half;(repeat' split)<;>first|rfl|(exfalso;omega))
  .
   refine cs 23 J J J (fun hg23=>?_) (fun hg23=>?_)
   .
    exact rz J (by unfold ab.half;(repeat' split)<;>first|rfl|(exfalso;omega))
   .
    refine cl J (my (q:=p.x) (by omega)) J<|?_;refine br J J J (fun hc20=>?_) (fun hc20=>?_)
    .
     exact rz J (by unfold ab.half;(repeat' split)<;>first|rfl|(exfalso;omega))
    .
     exact rz J (by unfold ab.half;(repeat' split)<;>first|rfl|(exfalso;omega))
def HI{u v:ab}{i j:Nat}[hp:aI u i][hq:aI v j](hi:i<=10000000:=by decide)(hj:j<=10000000:=by decide):PF GB prog 279 [eZ u,eZ v] (vI (ck u v)):=by
 refine fn func279 J J ntmps279 J J (fun C=>?_);refine cl J (LD (p:=u) hi) J<|cl J (LD (p:=v) hj) J<|?_;refine br J J J (fun hc11=>?_) (fun hc11=>?_)
 .
  exact rz J (by unfold ck;rw[if_pos hc11];rfl)
 .
  refine br J J J (fun hc15=>?_) (fun hc15=>?_)
  .
   exact rz J (by unfold ck;rw[if_neg hc11,if_pos hc15];rfl)
  .
   refine cl J (RD (p:=u) (q:=v) (by omega) (by omega)) J<|cl (fu:=⟨0⟩) J (my (q:=u.cross v) (by omega)) J<|?_;have hs:=qJ (u.cross v).num;refine gx J<|?_;exact rz J (by unfold ck;rw[if_neg hc11,if_neg hc15];rfl)
def aFp{m:Int}:eh (dg m.natAbs)/\(decide (m<0)=true->0<(dg m.natAbs).length):=⟨(eo _).2.2,fun h=>by
 have:0<m.natAbs:=by have:=of_decide_eq_true h;omega
 exact xt.2 this⟩
def rG{m:Int}{i:Nat}[h:BI m i](hi:i<=1000000000:=by decide):PF GB prog 269 [eI m] (.v (.bool true)):=(Rr (neg:=decide (m<0)) (ds:=dg m.natAbs) (eo _).2.1 (by have:=mi (a:=m.natAbs) hi;omega)).to (by unfold vB;rw[decide_eq_true aFp])
def Mu{l:aa}(h:l.ok):rgcd (rgcd (l.a:Rat) (l.b:Rat)) (l.c:Rat)=((1:Int):Rat):=by
 rw[wn,wn];have:=h.2;simp only[kQ];rw[this];rfl
instance BQ.rgcd (p q:Rat) (i j:Nat) [h:BQ p i] [k:BQ q j]:BQ (rgcd p q) (i+j+(i+j)):=by
 unfold Sx.rgcd;refine vU (jT (mz p) (mz q)) ?_ ?_
 ·rw[kQ]
  have h1:=pf h.hn k.hd;have h2:=pf k.hn h.hd;rw[kX j i] at h2;exact Gk h1 h2
 ·have h1:=pf h.hd k.hd
  have:2^(i+j)<=2^(i+j+(i+j)):=bR (by decide) (by omega);omega
def JV{l:aa}[hl:LB l](ho:l.ok):PF GB prog 182 [eL l] (.tp [dq l,vB true]):=by
 refine fn func182 J J ntmps182 J J (fun C=>?_);refine cl (fu:=⟨0⟩) J (rG (m:=l.a)) J<|eE J J J<|cl (fu:=⟨0⟩) J (rG (m:=l.b)) J<|eE J J J<|cl (fu:=⟨0⟩) J (rG (m:=l.c)) J<|?_;refine eE J J J<|cl J (s6 (m:=l.a)) J<|cl J (s6 (m:=l.b)) J<|cl J (s6 (m:=l.c)) J<|cl (fu:=⟨0⟩) J (tB (q:=(l.a:Rat))) J<|?_;refine xZ (fu2:=⟨4⟩) J J J J (fun hg35=>?_) (fun hg35=>?_)
 .
  have ha:l.a=0:=dQ.1 hg35;refine cl (fu:=⟨1⟩) J (tB (q:=(l.b:Rat))) J<|eE J (by first|rfl|(show some (decide _)=some false;rw[decide_eq_false (fun e=>ho.1 ⟨ha,dQ.1 e⟩)])) J<|?_;refine cl J (n8 (p:=(l.a:Rat)) (q:=(l.b:Rat))) J<|cl J (n8 (p:=rgcd l.a l.b) (q:=(l.c:Rat))) J<|cl J (pP (m:=1) (by decide)) J<|?_;refine cl (fu:=⟨0⟩) J (xo (p:=rgcd (rgcd l.a l.b) l.c) (q:=((1:Int):Rat))) J<|eE J (by show some (!decide _)=some false;rw[Mu ho,decide_eq_true J];rfl) J<|?_;exact rz J J
 .
  refine eE J (by first|rfl|(show some (decide _)=some false;rw[decide_eq_false (fun e=>ho.1 ⟨ha,dQ.1 e⟩)])) J<|cl J (n8 (p:=(l.a:Rat)) (q:=(l.b:Rat))) J<|?_;refine cl J (n8 (p:=rgcd l.a l.b) (q:=(l.c:Rat))) J<|cl J (pP (m:=1) (by decide)) J<|cl (fu:=⟨0⟩) J (xo (p:=rgcd (rgcd l.a l.b) l.c) (q:=((1:Int):Rat))) J<|?_;refine eE J (by show some (!decide _)=some false;rw[Mu ho,decide_eq_true J];rfl) J<|?_;exact rz J J
def bj(f:aO):DV:= .ag [vI (dC (f.l.a:Rat)),vI (dB (f.l.a:Rat)),du (f.l.a:Rat),vI (dC (f.l.b:Rat)),vI (dB (f.l.b:Rat)),du (f.l.b:Rat),vI (dC (f.l.c:Rat)),vI (dB (f.l.c:Rat)),du (f.l.c:Rat),vI (dC f.v.lo),vI (dB f.v.lo),du f.v.lo,vI (dC f.v.hi),vI (dB f.v.hi),du f.v.hi, .v (.bool f.v.nl), .v (.bool f.v.nh)]
structure rO (v:aj):Prop where
 z:ik v
 lo:BQ v.lo 1200
 hi:BQ v.hi 1200
structure AV (s:aO):Prop where
 lb:LB s.l
 ok:s.l.ok
 v:rO s.v
abbrev iu (c:aC):Prop:= ∀s∈c,AV s
def rH{α:Type}(f:α->DV)(l:List α):(l.map f).length=l.length:=by simp
def rO.all:rO aj.all:=⟨⟨fun _=>J,fun _=>J⟩,BQ.z1.mono (by decide),BQ.z1.mono (by decide)⟩
def rO.cut{l m:aa}{v:aj}[LB l][LB m](hn:l.Ne)(h:rO v):rO (l.cutV v m):=by
 by_cases h0:crossI l m=0
 ·rw[(AC (v:=v) h0).1];exact h
 ·obtain⟨u1,_,u3,u4,u5⟩:=Iq (v:=v) hn h.z h.lo h.hi h0
  rw[u1];exact⟨u3,u4,u5⟩
def FP(o:Option aj):aj:=o.getD ⟨0,0,false,false⟩
def aE9(G:Gh)(y:Value)(k:Is G (.tp [.ag [vI 0,vI 0, .v (.pointer none),vI 0,vI 0, .v (.pointer none), .v (.bool false), .v (.bool false)], .v (.bool false)]) y):Is G (.tp [eW (FP none),vB false]) y:=by
 obtain⟨m,rfl,g⟩:=iF.1 k;exact iF.2 ⟨m,J,LL (fun y hy=>by
  obtain⟨l,rfl,g⟩:=c8.1 hy;exact c8.2 ⟨l,J,Dp (HD [vI 0,vI 0, .v (.pointer none)] g)⟩) g⟩
def fh{α:Type}{f:α->DV}{l:List α}{i:Nat}{s:α}(h:l[i]? =some s):(l.map f)[(i:Int).toNat]? =some (f s):=by simp[h]
def HR{α:Type}{l:List α}{k:Nat}{s:α}(h:l[k]? =some s):l.drop k=s::l.drop (k+1):=by
 obtain⟨h1,h2⟩:=aR.1 h;rw[aM h1,h2]
def LE{l:aa}{c:aC}{v:aj}{k:Nat}{s:aO}(h:c[k]? =some s):nD l (c.drop k) v=if l.cutB v s.l then nD l (c.drop (k+1)) (l.cutV v s.l) else none:=by
 rw[HR h];rfl
def ES{l:aa}{c:aC}{k:Nat}{s:aO}(h:c[k]? =some s):nE l (c.drop k)=if oq l s≠0 then oq l s else if s.l=l then 1 else nE l (c.drop (k+1)):=by
 rw[HR h];rfl
instance BQ.sample (v:aj) [h1:BQ v.lo 1200] [h2:BQ v.hi 1200]:BQ v.sample 2500:=by
 unfold aj.sample;split
 ·exact BQ.mono (k:=1) ⟨by decide,by decide⟩ (by decide)
 ·split
  ·exact BQ.mono (inferInstance:BQ (v.hi-((1:Int):Rat)) _) (by decide)
  ·split
   ·exact BQ.mono (inferInstance:BQ (v.lo+((1:Int):Rat)) _) (by decide)
   ·exact BQ.mono (inferInstance:BQ ((v.lo+v.hi)*mkRat 1 2) _) (by decide)
def OA{c:aC}{l:aa}[hl:LB l](hlo:l.ok)(hc:iu c)(hn:c.length<=1000000):PF GB prog 274 [.sl (c.map bj),dq l] (.tp [eW (FP (kG c l)),vB (kG c l).isSome]):=by
 have hm:=rH bj c;refine fn func274 J J ntmps274 J J (fun C=>?_);refine cl (fu:=⟨10⟩) J aGT J<|?_;refine av 12 (.d (vI (c.length:Nat))) J (by rw[rH]<;>rfl) ?_;refine gx J<|?_;refine lp (X:=aj×Nat) (fun⟨v,k⟩=>[(13, .d (vI (k:Nat))),(6, .ov 6 0)]) (fun⟨v,k⟩=>[(6,some (.o 220 [.d (vI (dC v.lo)), .d (vI (dB v.lo)), .d (du v.lo), .d (vI (dC v.hi)), .d (vI (dB v.hi)), .d (du v.hi), .d (.v (.bool v.nl)), .d (.v (.bool v.nh))] true))]) (fun⟨v,k⟩=>k<=c.length/\rO v/\nD l (c.drop k) v=kG c l) (fun⟨v,k⟩=>c.length-k) (aj.all,0) J ⟨bU _, .all,J⟩ (fun _=>J) (fun⟨v,k⟩ hk=>?_);dsimp only at hk⊢;obtain⟨h1,h2,h3⟩:=hk;haveI:=h2.lo;haveI:=h2.hi;refine br J J J (fun hc14=>?_) (fun hc14=>?_)
 .
  obtain⟨s,hs0⟩: ∃s,c[k]? =some s:=⟨_,aX (by omega)⟩;have hs:=hc s (bX hs0);haveI:=hs.lb;refine ix _ J (fh hs0) J<|cl (fu:=⟨0⟩) J (Ag (l:=l) (m:=s.l) (v:=v)) J<|?_;generalize hw:l.cutV v s.l=w;generalize hb:l.cutB v s.l=b;refine gx J<|?_;refine bb J J J (fun hc26=>?_) (fun hc26=>?_)
  .
   exact ja J (by rw[<-h3,LE hs0,hb,if_neg (by simpa using hc26)];exact aE9)
  .
   exact at_ (w,k+1) (by dsimp only;exact⟨⟨by omega,hw▸h2.cut hlo.1,by rw[<-h3,LE hs0,hb,hw,if_pos (by simpa using hc26)]⟩,(by omega)⟩)
 .
  exact rz J (by rw[<-h3,gN (by omega)];rfl)
def Tf{c:aC}{l:aa}[hl:LB l](hlo:l.ok)(hc:iu c)(hn:c.length<=1000000):PF GB prog 275 [.sl (c.map bj),dq l] (vI (wD c l)):=by
 have hm:=rH bj c;refine fn func275 J J ntmps275 J J (fun C=>?_);refine cl J (OA (c:=c) (l:=l) hlo hc hn) J<|?_;refine bb (fu2:=⟨7⟩) J J J (fun hc16=>?_) (fun hc16=>?_)
 .
  exact rz J (by unfold wD;rw[if_pos hc16];rfl)
 .
  have hp:wD c l=nE l c:=by unfold wD;rw[if_neg (by simp[hc16])]
  refine av 18 (.d (vI (c.length:Nat))) J (by rw[rH]<;>rfl) ?_;refine gx J<|?_;refine lp (X:=Nat) (fun k=>[(19, .d (vI (k:Nat)))]) (fun k=>[]) (fun k=>k<=c.length/\nE l (c.drop k)=nE l c) (fun k=>c.length-k) 0 J ⟨bU _,J⟩ (fun _=>J) (fun k hk=>?_);obtain⟨h1,h2⟩:=hk;refine br J J J (fun hc20=>?_) (fun hc20=>?_)
  .
   obtain⟨s,hs0⟩: ∃s,c[k]? =some s:=⟨_,aX (by omega)⟩;have hs:=hc s (bX hs0);haveI:=hs.lb;haveI:=hs.v.lo;haveI:=hs.v.hi;haveI:=BQ.sample s.v;refine ix _ J (fh hs0) J<|cl (fu:=⟨0⟩) J (LY (v:=s.v)) J<|?_;generalize ht:s.v.sample=t at*;refine gx J<|cl J (Do (l:=s.l) (t:=t)) J<|cl J (wh (l:=l) (p:=s.l.at t)) J<|?_;refine br J J J (fun hc32=>?_) (fun hc32=>?_)
   .
    have hsd:oq l s=(l.value (s.l.at t)).num.sign:=by unfold oq;rw[ht]
    exact rz J (by rw[hp,<-h2,ES hs0,hsd,if_pos hc32];rfl)
   .
    refine cl J (Ui (l:=s.l) (m:=l)) J<|?_;refine bd J J J (fun hc37=>?_) (fun hc37=>?_)
    .
     have hsd:oq l s=(l.value (s.l.at t)).num.sign:=by unfold oq;rw[ht]
     exact rz J (by rw[hp,<-h2,ES hs0,hsd,if_neg hc32,if_pos hc37];rfl)
    .
     have hsd:oq l s=(l.value (s.l.at t)).num.sign:=by unfold oq;rw[ht]
     exact at_ (k+1) ⟨⟨by omega,by rw[<-h2,ES hs0,hsd,if_neg hc32,if_neg hc37]⟩,(by omega)⟩
  .
   exact rz J (by rw[hp,<-h2,gN (by omega)];rfl)
def Sp{vs rest:List Value}(h: ∀v∈vs,(aE v).length=17){i:Nat}(hi:i<=vs.length):cF (aB vs++rest) (i*17) ((vs.length-i)*17)=some (aB (vs.drop i)):=by
 have hl:=d7 vs h;have hd:(aB (vs.drop i)).length=(vs.length-i)*17:=by
  rw[d7 (s:=17) _ (fun v hv=>h v (iY hv)),gL]
 rw[lC _ _ _ (by simp only[aS];omega)];congr 1;rw[jU (by omega),BG vs i h hi,eK (by omega),bZ (by omega)]
def Sa{vs rest vcs:List Value}(h: ∀v∈vs,(aE v).length=17)(hv:vcs.length=17){i:Nat}(hi:i<vs.length)(hr:17<=rest.length):
  cB (cB (aB vs++rest) ((i+1)*17) (aB (vs.drop i))) (i*17) vcs=aB (vs.take i)++vcs++aB (vs.drop i)++rest.drop 17:=by
 have hl:=d7 vs h;have hd:(aB (vs.drop i)).length=(vs.length-i)*17:=by
  rw[d7 (s:=17) _ (fun v hv=>h v (iY hv)),gL]
 have ht:(aB (vs.take i)).length=i*17:=by
  rw[d7 (s:=17) _ (fun v hv=>h v (fK hv)),cK,gV (by omega)]
 rw[o5 (aB (vs.drop i)) (aB vs++rest) _ (by rw[aS];omega)];rw[o5 vcs _ _ (by simp only[aS,cK,gL];omega)];have e1:(aB vs++rest).drop ((i+1)*17+(aB (vs.drop i)).length)=rest.drop 17:=by
  rw[hd,show(i+1)*17+(vs.length-i)*17=(aB vs).length+17 by omega,mM,iW (by omega),cV];congr 1;omega
 have e2:((aB vs++rest).take ((i+1)*17)++aB (vs.drop i)++rest.drop 17).take (i*17)=aB (vs.take i):=by
  rw[dK,eK (by simp only[cK,aS];omega),List.take_take,gV (by omega),eK (by omega),DN vs i h (by omega)]
 have e3:((aB vs++rest).take ((i+1)*17)++aB (vs.drop i)++rest.drop 17).drop (i*17+vcs.length)=aB (vs.drop i)++rest.drop 17:=by
  rw[hv,dK,show i*17+17=((aB vs++rest).take ((i+1)*17)).length by simp only[cK,aS];omega,List.drop_left]
 rw[e1,e2,e3];simp[dK]
def TX{vs rest vcs:List Value}(h: ∀v∈vs,(aE v).length=17)(hv:vcs.length=17)(hr:17<=rest.length):cB (aB vs++rest) (vs.length*17) vcs=aB vs++vcs++rest.drop 17:=by
 have hl:=d7 vs h;rw[o5 _ _ _ (by simp only[aS];omega),hv,<-hl,List.take_left,mM];simp
def RZ{G:Gh}{b bv cap i c2:Nat}{vs rest vcs r2:List Value}{lo lo2:Bool}(hvs: ∀v∈vs,(aE v).length=17)(hfl: ∀v∈vs,∀c∈aE v,flat c=true)(hv:vcs.length=17)(hvf: ∀c∈vcs,flat c=true)
  (hcap:vs.length*17+rest.length=cap*17)(hroom:vs.length+1<=cap)(hi:i<=vs.length)(hb:vs.length<=1125899906842624):
  j0 prog 280 [.slice (some ⟨b,0,none⟩) vs.length cap, .int .i64 i, .slice (some ⟨bv,0,none⟩) 1 c2] [⟨b,aB vs++rest,222,lo⟩,⟨bv,vcs++r2,222,lo2⟩] G
   (fun u css _=>u= .slice (some ⟨b,0,none⟩) (vs.length+1) cap/\css=[aB (vs.take i)++vcs++aB (vs.drop i)++rest.drop 17,vcs++r2]):=by
 have hL:(aB vs++rest).length=cap*17:=by rw[aS,d7 vs hvs];exact hcap
 have hr:17<=rest.length:=by omega
 have hD:(aB (vs.drop i)).length=(vs.length-i)*17:=by
  rw[d7 (s:=17) _ (fun v hv=>hvs v (iY hv)),gL]
 have hDf: ∀c∈aB (vs.drop i),flat c=true:=fun c hc=>by
  obtain⟨l,hl,hcl⟩:=List.mem_flatten.1 hc;obtain⟨v,hv,rfl⟩:=bJ.1 hl;exact hfl v (iY hv) c hcl
 have hvt:cF (vcs++r2) 0 (1*17)=some vcs:=by rw[lC _ _ _ (by rw[aS];omega),jJ,eK (by omega),bZ (by omega)]
 refine j0.intro func280 J J ntmps280 J ?_;intro C _ _;show St C _ _ [⟨b,aB vs++rest,222,false⟩,⟨bv,vcs++r2,222,false⟩] _ _;refine Xh (fun hne=>?_);simp only[] at hne;refine sR<|sa J J<|zE<|sR<|sm J J<|sm J J<|sy (Ds J J (by omega) (by omega)) J<|zE<|sR<|?_;refine sm J J<|c7 J J<|sa J J<|zE<|bu<|sR<|sm J J<|sy (iD J J) J<|zE<|vi J<|?_;refine zK<|sR<|sm J J<|c7 J J<|sa J J<|zE<|bu<|sR<|sm J J<|sm J J<|sy (iD J J) J<|zE<|?_;refine gg J (fun hc=>?_) (fun hc=>?_) -- slot 22
 ·have hin:i=vs.length:=by omega
  subst hin;refine sR<|sm J J<|sm J J<|?_;refine sc (KI (s:=17) (m:=1) (ys:=vcs) J J (.hd ..) hL (xI inferInstance hvt) (by omega) hvf hroom J ?_);refine sa J J<|zE<|di<|?_;refine rh (css:=[cB (aB vs++rest) (vs.length*17) vcs,vcs++r2]) (.tmp J .nil) J _ (List.Perm.refl _) (List.Sublist.refl _) ⟨J,?_⟩;rw[TX hvs hv hr,fY,jZ];simp[aB]
 have hin:i<vs.length:=by omega
 have hn1:((vs.length:Int)+((1:Nat):Int)).toNat=vs.length+1:=by omega
 have ht1:((i:Int)+((1:Nat):Int)).toNat=i+1:=by omega
 refine zK<|bu<|sR<|sm J J<|sm J J<|sy (d5 J J) J<|sm J J<|?_;refine sy (aEY J) J<|sy (sE J J) J<|zE<|?_;refine gg J (fun hc2=>?_) (fun hc2=>?_) -- slot 31
 ·exact absurd hc2 (by omega)
 refine zK<|sR<|sm J J<|sm J J<|sm J J<|sy (d5 J J) J<|sy (x4 J J (by omega) (by omega)) J<|?_;rw[hn1];refine sa J J<|zE<|bu<|sR<|sm J J<|sm J J<|sm J J<|sm J J<|sy (d5 J J) J<|sy (CH J J (by omega) (by omega) (by omega)) J<|?_;refine sy (aow (tS:=130) (tR:=4) func355 (by kernel_rfl) (by kernel_rfl) (by kernel_rfl) (by kernel_rfl) J J (Ne.symm hne) (fun h=>by rw[h] at hL;simp at hL;omega)) J<|?_;refine sy (BJ J) J<|zE<|oA J<|?_;refine bu<|ZS (b:=b) (fun _=>false) [(0,true),(1,true),(2,true),(3,true),(4,true),(5,true),(6,true),(7,true),(8,false)] follows (.hd ..) (by kernel_rfl)<|dM J J J<|?_;refine dM J J J<|dM J J J<|dy J (fun _=>d5 J J (by omega) (by omega)) J J<|dy J (fun _=>CH J J (by omega) (by omega) (by omega)) J J<|?_;refine dM J J J<|dM J J J<|dy J (fun _=>CH J J (by omega) (by omega) (by omega)) J J<|?_;rw[ht1,bQ,dT,dT];refine dc J J (LH (s:=17) (m:=vs.length-i) (ys:=aB (vs.drop i)) J J (by show min _ _=_;omega) (xI inferInstance (Sp hvs hi)) hDf (by rw[hD,hL];omega) (.hd ..) J ?_);refine mG<|dn<|sR<|sm J J<|sm J J<|sy (CH J J (by omega) (by omega) (by omega)) J<|sm J J<|?_;rw[bQ,dT];refine sc (LH (s:=17) (m:=1) (ys:=vcs) J J (by show min _ _=_;omega) (xI inferInstance hvt) hvf (by rw[Au,hL,hv];omega) (.hd ..) J ?_);refine zE<|sR<|sm J J<|sa J J<|zE<|di<|?_;refine rh (css:=[cB (cB (aB vs++rest) ((i+1)*17) (aB (vs.drop i))) (i*17) vcs,vcs++r2]) (.tmp J .nil) J _ (List.Perm.refl _) (List.Sublist.refl _) ⟨J,?_⟩;rw[Sa hvs hv hin hr]
def j0.toO{P:Program}{f:FuncId}{vs:List Value}{M:List ao}{G:Gh}{K:Value->List (List Value)->Gh->Prop}{K':Value->List ao->Gh->Prop}(h:j0 P f vs M G K)(hk: ∀v css G',bz G G'->css.length=M.length->K v css G'-> ∃o,o.Sublist (kl (asB M) css)/\K' v o G'):iA P f vs M G K':=
 ⟨h.able,fun w hw=>(h.run w hw).mono fun _ _ ⟨v,css,G',he,hl,hh,hK⟩=>let⟨o,h1,h2⟩:=hk v css G' hh.gle hl hK;⟨v,o,G',he,hh.drop h1,h2⟩⟩
def K1(c:aC):ew 17 (c.map bj):=fun d hd=>by
 obtain⟨f,_,rfl⟩:=bJ.1 hd;exact⟨rfl,rfl⟩
def J2{G:Gh}{s:Nat}{ds:List DV}{vs:List Value}(hk:ew s ds)(h:IsLs G ds vs): ∀v∈vs,∀c∈aE v,flat c=true:=fun v hv=>by
 obtain⟨d,hd,h3⟩:=h.all v hv;exact(h3.cells (hk d hd).1).2
def SS{c:aC}{x:aO}{i cap:Nat}(hi:i<=c.length)(hc:c.length+1<=cap)(hn:c.length<=1000000):PI GB prog 280 (i:Nat) 17 222 222 (c.map bj) (bj x) cap ((c.take i++x::c.drop i).map bj):=by
 intro G w w2 B B2 _ hB hcap hB2;obtain⟨vs,q1,q2,q3,_⟩:=hB;obtain⟨us,u1,u2,u3,_⟩:=hB2;dsimp only at q1 q2 q3 u1 u2 u3;have hl:=q2.len;rw[aJ] at hl;obtain⟨v,m,rfl,hv,hm⟩:=aP.1 u2
 cases cG.1 hm
 rcases q1 with⟨_,e,_⟩|⟨b,rest,lo,e,rfl,h5,h6,h7⟩
 ·rw[e] at hcap;simp at hcap;omega
 rcases u1 with⟨h,_⟩|⟨bv,r2,lo2,e2,rfl,h8,h9,h10⟩
 ·cases h
 have hx:(aE v).length=17:=u3 v aQ;have hxf:=J2 (s:=17) (ds:=[bj x]) (fun d hd=>by rw[aW.1 hd];exact⟨J,J⟩) u2 v aQ;have key:=RZ (G:=G) (b:=b) (bv:=bv) (cap:=w.c) (i:=i) (c2:=w2.c) (vs:=vs) (rest:=rest) (vcs:=aE v) (r2:=r2) (lo:=lo) (lo2:=lo2) q3 (J2 (K1 c) q2) hx hxf (by rw[<-h5];exact h6) (by omega) (by omega) (by omega);rw[e,e2];rw[wm];refine key.toO fun u css G' hg hl2 ⟨k1,k2⟩=>?_;subst k1 k2;have hall: ∀u∈vs.take i++v::vs.drop i,(aE u).length=17:=fun u hu=>by
  rcases bV.1 hu with hu|hu
  ·exact q3 u (fK hu)
  ·rcases aY.1 hu with rfl|hu
   ·exact hx
   ·exact q3 u (iY hu)
 have hlen:(vs.take i++v::vs.drop i).length=vs.length+1:=by
  rw[aS,bW,cK,gL];omega
 refine⟨[⟨b,aB (vs.take i)++aE v++aB (vs.drop i)++rest.drop 17,222,false⟩], .cons_cons _ (jL _),⟨some ⟨b,0,none⟩,vs.length+1,w.c⟩,J,vs.take i++v::vs.drop i, .inr ⟨b,rest.drop 17,false,by rw[hlen],?_,d7 _ hall,?_,?_⟩,?_,hall,fun h=>by cases h⟩
 ·rw[mC];simp[aB]
 ·rw[d7 _ hall,hlen,gL]
  rw[h5] at h6;have:=bT 17 (show vs.length+1<=w.c by omega);simp only[cR] at this⊢;omega
 ·rw[hlen];show vs.length+1<=w.c;omega
 ·rw[eX,bS,lX,oQ]
  exact((q2.take i).up hg).app (.cons (hv.up hg) ((q2.drop i).up hg))
def Ke{s:aO}{l:aa}[hs:LB s.l][hl:LB l]:PF GB prog 278 [bj s,dq l] (vI (ck s.l.dir l.dir)):=by
 refine fn func278 J J ntmps278 J J (fun C=>?_);refine cl J (vE (l:=s.l)) J<|cl J (vE (l:=l)) J<|cl J (HI (u:=s.l.dir) (v:=l.dir)) J<|?_;exact rz J J
def yV(c:aC)(l:aa)(i:Nat):Bool:=match c[i]? with
 |some s=>decide (ck s.l.dir l.dir=0)
 |none=>false
def VG(i j:Nat):((i:Int)+(j:Int)).fdiv (2^min (1:Int).toNat IntKind.u64.bits)=((i+j)/2:Nat):=by
 rw[show(2:Int)^min (1:Int).toNat IntKind.u64.bits=((2:Nat):Int) from J,iX _ (by decide)];omega
def W6{c:aC}{l:aa}{k:Nat}{s:aO}(h:c[k]? =some s):jo c l k=decide (ck s.l.dir l.dir<0):=by unfold jo;rw[h]
def aHI{c:aC}{l:aa}{k:Nat}{s:aO}(h:c[k]? =some s):yV c l k=decide (ck s.l.dir l.dir=0):=by unfold yV;rw[h]
def Wo{c:aC}{l:aa}{k:Nat}(h: ¬k<c.length):yV c l k=false:=by unfold yV;rw[dW (by omega)]
def VD{p:Nat->Bool}{i j:Nat}(h:i<j)(hp:p ((i+j)/2)=true):gm p i j=gm p ((i+j)/2+1) j:=by rw[gm,dif_pos h,if_pos hp]
def VX{p:Nat->Bool}{i j:Nat}(h:i<j)(hp: ¬p ((i+j)/2)=true):gm p i j=gm p i ((i+j)/2):=by rw[gm,dif_pos h,if_neg hp]
def Nu{p:Nat->Bool}{i j:Nat}(h: ¬i<j):gm p i j=i:=by rw[gm,dif_neg h]
def aHK{c:aC}{l:aa}[hl:LB l](hc:iu c)(hn:c.length<=1000000):PF GB prog 277 [.sl (c.map bj),dq l, .v (.func (.func 278) #[] #[])] (.tp [vI (gm (jo c l) 0 c.length:Nat),vB (yV c l (gm (jo c l) 0 c.length))]):=by
 have hm:=rH bj c;refine fn (fu:=⟨11⟩) func277 J J ntmps277 J J (fun C=>?_);refine av 13 (.d (vI (c.length:Nat))) J (by rw[hm]<;>rfl) ?_;refine gx J<|?_;refine lp (X:=Nat×Nat) (fun⟨i,j⟩=>[(9, .d (vI (i:Nat))),(10, .d (vI (j:Nat)))]) (fun⟨i,j⟩=>[]) (fun⟨i,j⟩=>i<=j/\j<=c.length/\gm (jo c l) i j=gm (jo c l) 0 c.length) (fun⟨i,j⟩=>j-i) (0,c.length) J ⟨bU _,aN _,J⟩ (fun _=>J) (fun⟨i,j⟩ hk=>?_);dsimp only at hk⊢;obtain⟨h1,h2,h3⟩:=hk;refine br (fu1:=⟨10⟩) (fu2:=⟨11⟩) J J J (fun hc17=>?_) (fun hc17=>?_)
 .
  obtain⟨s,hs0⟩: ∃s,c[(i+j)/2]? =some s:=⟨_,aX (by omega)⟩;haveI:=(hc s (bX hs0)).lb;have hang:=W6 (l:=l) hs0;refine av 22 (.d (.v (.int .u64 ((i+j)/2:Nat)))) J (by rw[VG]) ?_;refine gx J<|ix _ J (fh hs0) J<|cl J (Ke (s:=s) (l:=l)) J<|?_;refine br J J J (fun hc31=>?_) (fun hc31=>?_)
  .
   exact at_ ((i+j)/2+1,j) (by dsimp only;exact⟨⟨by omega,h2,by rw[<-h3,VD (i:=i) (j:=j) (by omega) (by rw[hang];exact decide_eq_true hc31)]⟩,(by omega)⟩)
  .
   exact at_ (i,(i+j)/2) (by dsimp only;exact⟨⟨by omega,by omega,by rw[<-h3,VX (i:=i) (j:=j) (by omega) (by rw[hang,decide_eq_false hc31];exact Bool.false_ne_true)]⟩,(by omega)⟩)
 .
  refine xZ (v2:=fun hg39=>by simp only[ah];kernel_rfl) J J J J (fun hg39=>?_) (fun hg39=>?_)
  .
   have he:=Nu (p:=jo c l) (i:=i) (j:=j) (by omega);obtain⟨s,hs0⟩: ∃s,c[i]? =some s:=⟨_,aX (by omega)⟩;haveI:=(hc s (bX hs0)).lb;refine ix _ J (fh hs0) J<|cl J (Ke (s:=s) (l:=l)) J<|?_;exact rz J (by rw[<-h3,he,aHI hs0];rfl)
  .
   have he:=Nu (p:=jo c l) (i:=i) (j:=j) (by omega);exact rz J (by rw[<-h3,he,Wo (by omega)];rfl)
def MX{l:aa}[LB l](hlo:l.ok): ∀{c:aC} {v w:aj},iu c->rO v->nD l c v=some w->rO w
 |[],v,w,_,hv,h=>by cases h;exact hv
 |s::t,v,w,hc,hv,h=>by
  haveI:=(hc s aQ).lb;simp only[nD] at h;split at h
  ·exact MX hlo (fun x hx=>hc x (aZ _ hx)) (hv.cut hlo.1) h
  ·cases h
def Cc{l:aa}[LB l]: ∀{c:aC},iu c->iu (eH l c)
 |[],_,s,h=>by cases h
 |a::t,hc,s,h=>by
  have ha:=hc a aQ;haveI:=ha.lb;have ht:=Cc (l:=l) (fun x hx=>hc x (aZ _ hx));unfold eH at h;split at h
  ·rcases aY.1 h with rfl|h
   ·exact⟨ha.lb,ha.ok,ha.v.cut ha.ok.1⟩
   ·exact ht s h
  ·exact ht s h
def Aa{l:aa}[hl:LB l](hlo:l.ok){c:aC}(hc:iu c):iu (bE c l):=by
 unfold bE;split
 ·rename_i v hv
  intro s hs;unfold mm at hs;rcases bV.1 hs with h|h
  ·exact Cc hc s (fK h)
  ·rcases aY.1 h with rfl|h
   ·exact⟨hl,hlo,MX hlo hc .all hv⟩
   ·exact Cc hc s (iY h)
 ·exact hc
def ON{l:aa}{c:aC}{k:Nat}{s:aO}(h:c[k]? =some s):eH l (c.drop k)=if s.l.cutB s.v l then⟨s.l,s.l.cutV s.v l⟩::eH l (c.drop (k+1)) else eH l (c.drop (k+1)):=by
 rw[HR h];rfl
def Hp{c:aC}{l:aa}[hl:LB l](hlo:l.ok)(hc:iu c)(hn:c.length<=100000):PF GB prog 183 [.sl (c.map bj),dq l] (.tp [.sl ((bE c l).map bj),vB (cH c l)]):=by
 have hm:=rH bj c;refine fn func183 J J ntmps183 J J (fun C=>?_);refine cl J (OA (c:=c) (l:=l) hlo hc (by omega)) J<|?_;refine bb (fu2:=⟨6⟩) J J J (fun hc22=>?_) (fun hc22=>?_)
 .
  have hp:kG c l=none:=by simpa using hc22
  refine cl J (Tf (c:=c) (l:=l) hlo hc (by omega)) J<|?_;exact rz J (by unfold bE cH;rw[hp];rfl)
 .
  obtain⟨v,hv⟩: ∃v,kG c l=some v:=qU.1 (by simpa using hc22);have hvd:FP (kG c l)=v:=by rw[hv];rfl
  rw[hvd];refine av 29 (.d (vI (c.length:Nat))) J (by rw[hm]<;>rfl) ?_;refine gx J<|Su (fu:=⟨8⟩) (c.length+1) J J J<|?_;refine av 33 (.d (vI (c.length:Nat))) J (by rw[hm]<;>rfl) ?_;refine gx J<|?_;refine lp (X:=aC×Nat) (fun⟨o,k⟩=>[(34, .d (vI (k:Nat))),(8, .rw 31)]) (fun⟨o,k⟩=>[(31,some (.c 222 17 (o.map bj) (c.length+1)))]) (fun⟨o,k⟩=>k<=c.length/\o.length<=k/\o++eH l (c.drop k)=eH l c) (fun⟨o,k⟩=>c.length-k) ([],0) J ⟨bU _,aN _,J⟩ (fun _=>J) (fun⟨o,k⟩ hk=>?_);dsimp only at hk⊢;obtain⟨h1,h2,h3⟩:=hk;have hmo:=rH bj o;refine br J J J (fun hc35=>?_) (fun hc35=>?_)
  .
   obtain⟨s,hs0⟩: ∃s,c[k]? =some s:=⟨_,aX (by omega)⟩;have hs:=hc s (bX hs0);haveI:=hs.lb;haveI:=hs.v.lo;haveI:=hs.v.hi;refine ix _ J (fh hs0) J<|cl (fu:=⟨0⟩) J (Ag (l:=s.l) (m:=l) (v:=s.v)) J<|?_;generalize hw:s.l.cutV s.v l=w;generalize hb:s.l.cutB s.v l=b;refine gx J<|?_;refine bb J J J (fun hc47=>?_) (fun hc47=>?_)
   .
    refine rf J J<|VV ((o++[aO.mk s.l w]).map bj) J (by rw[eX];rfl) (K1 [aO.mk s.l w]) (by rw[hmo];simp;omega) J<|?_;refine ny 54 31 J ?_;exact at_ (o++[aO.mk s.l w],k+1) (by dsimp only;exact⟨⟨by omega,by simp;omega,by rw[<-h3,ON hs0,hb,if_pos hc47,hw,dK];rfl⟩,(by omega)⟩)
   .
    exact at_ (o,k+1) (by dsimp only;exact⟨⟨by omega,by omega,by rw[<-h3,ON hs0,hb,if_neg (by simp[hc47])]⟩,(by omega)⟩)
  .
   obtain rfl:k=c.length:=by omega
   have ho:o=eH l c:=by rw[<-h3,jZ];simp[eH]
   subst ho;have hbl:=(Bi (jo (eH l c) l) (eH l c).length 0 (eH l c).length (by omega) (by omega)).2;refine cL J (aHK (c:=eH l c) (l:=l) (Cc hc) (by omega)) J J<|ro J J<|ci ((mm (eH l c) l v).map bj) J (SS (c:=eH l c) (x:=⟨l,v⟩) (i:=gm (jo (eH l c) l) 0 (eH l c).length) (cap:=c.length+1) hbl (by omega) (by omega)) J J<|?_;refine mp 68 J ?_;exact rz J (by unfold bE cH;rw[hv];rfl)
def JJ{c:aC}{l:aa}[hl:LB l](hlo:l.ok)(hc:iu c)(hn:c.length<=100000):PF GB prog 257 [.sl (c.map bj),dq l] (.tp [.sl ((bE c l).map bj), .sl ((bE c l.rev).map bj),vB (cH c l),vB (cH c l.rev)]):=by
 refine fn func257 J J ntmps257 J J (fun C=>?_);refine cl J (Hp (c:=c) (l:=l) hlo hc hn) J<|cl J (FB (l:=l)) J<|cl J (Hp (c:=c) (l:=l.rev) hlo.rev hc hn) J<|?_;exact rz J J
def cU:Tr->List DV
 | .leaf b=>[vI 0,vI 0, .v (.pointer none),vI 0,vI 0, .v (.pointer none),vI 0,vI 0, .v (.pointer none), .v (.pointer none), .v (.pointer none), .v (.bool b)]
 | .node l x y=>[vI (dC (l.a:Rat)),vI (dB (l.a:Rat)),du (l.a:Rat),vI (dC (l.b:Rat)),vI (dB (l.b:Rat)),du (l.b:Rat),vI (dC (l.c:Rat)),vI (dB (l.c:Rat)),du (l.c:Rat), .pt (cU x), .pt (cU y), .v (.bool false)]
def eU(t:Tr):DV:= .pt (cU t)
def s7{b:Bool}:PF GB prog 153 [.v (.bool b)] (eU (.leaf b)):=by
 refine fn func153 J J ntmps153 J J (fun C=>?_);refine mp 5 J ?_;exact rz J J
def wM{l:aa}{x y:Tr}:PF GB prog 152 [dq l,eU x,eU y] (eU (.node l x y)):=by
 refine fn func152 J J ntmps152 J J (fun C=>?_);refine mp 11 J ?_;exact rz J J
def wA{b:Bool}:PF GB prog 171 [eU (.leaf b)] (.v (.bool true)):=by
 refine fn func171 J J ntmps171 J J (fun C=>?_);exact rz J J
def uA{l:aa}{x y:Tr}:PF GB prog 171 [eU (.node l x y)] (.v (.bool false)):=by
 refine fn func171 J J ntmps171 J J (fun C=>?_);exact rz J J
def SN{l l1:aa}{x y u:Tr}:PF GB prog 335 [dq l,eU (.node l1 x y),eU u] (eU (.node l (.node l1 x y) u)):=by
 refine fn func335 J J ntmps335 J J (fun C=>?_);refine cl (fu:=⟨0⟩) J uA J<|eE J J J<|cl J wM J<|?_;exact rz J J
def ar8{l l1:aa}{x y:Tr}{p:Bool}:PF GB prog 335 [dq l,eU (.leaf p),eU (.node l1 x y)] (eU (.node l (.leaf p) (.node l1 x y))):=by
 refine fn func335 J J ntmps335 J J (fun C=>?_);refine cl (fu:=⟨0⟩) J wA J<|f8 J J J<|cl (fu:=⟨1⟩) J uA J<|eE J J J<|cl J wM J<|?_;exact rz J J
def atp{l:aa}{p q:Bool}:PF GB prog 335 [dq l,eU (.leaf p),eU (.leaf q)] (eU (Tr.joinQ l (.leaf p) (.leaf q))):=by
 refine fn func335 J J ntmps335 J J (fun C=>?_);refine cl (fu:=⟨0⟩) J wA J<|f8 J J J<|cl (fu:=⟨1⟩) J wA J<|f8 J J J<|?_;refine bb J J J (fun hc23=>?_) (fun hc23=>?_)
 .
  exact rz J (by rw[show Tr.joinQ l (.leaf p) (.leaf q)= .leaf p by simp[Tr.joinQ,Tr.isLeaf,Tr.code,hc23]];rfl)
 .
  refine cl J wM J<|?_;exact rz J (by rw[show Tr.joinQ l (.leaf p) (.leaf q)= .node l (.leaf p) (.leaf q) by simp[Tr.joinQ,Tr.isLeaf,Tr.code,hc23]];rfl)
def aEa{l:aa}: ∀{x y:Tr},PF GB prog 335 [dq l,eU x,eU y] (eU (Tr.joinQ l x y))
 | .leaf _, .leaf _=>atp
 | .leaf _, .node .. =>ar8
 | .node ..,_=>SN
def ajB{b:Bool}{c:aC}:PF GB prog 235 [eU (.leaf b), .sl (c.map bj)] (eU (Tr.restrict (.leaf b) c)):=by
 refine fn func235 J J ntmps235 J J (fun C=>?_);refine cl (fu:=⟨0⟩) J wA J<|?_;refine kP 10 J ?_;refine gx J<|?_;exact rz J J
def ajM{l:aa}{x y:Tr}{c:aC}(hl:LB l)(hlo:l.ok)(hc:iu c)(hn:c.length+(Tr.node l x y).depth<=100000)(ihx: ∀{c:aC},iu c->c.length+x.depth<=100000->PF GB prog 235 [eU x, .sl (c.map bj)] (eU (Tr.restrict x c)))(ihy: ∀{c:aC},iu c->c.length+y.depth<=100000->PF GB prog 235 [eU y, .sl (c.map bj)] (eU (Tr.restrict y c))):PF GB prog 235 [eU (.node l x y), .sl (c.map bj)] (eU (Tr.restrict (.node l x y) c)):=by
 have hdp:(Tr.node l x y).depth=1+max x.depth y.depth:=J;have hdx:=Nat.le_max_left x.depth y.depth;have hdy:=Nat.le_max_right x.depth y.depth;have hca:=Ar c l;have hcb:=Ar c l.rev;refine fn func235 J J ntmps235 J J (fun C=>?_);refine cl (fu:=⟨0⟩) J uA J<|?_;refine oD 10 J ?_;refine gx J<|cl J (JJ (c:=c) (l:=l) hlo hc (by omega)) J<|?_;refine bb J J J (fun hc23=>?_) (fun hc23=>?_)
 .
  refine cl J (ihx hc (by omega)) J<|?_;exact rz J (by rw[Tr.restrict,if_pos hc23];rfl)
 .
  refine bb J J J (fun hc32=>?_) (fun hc32=>?_)
  .
   refine cl J (ihy hc (by omega)) J<|?_;exact rz J (by rw[Tr.restrict,if_neg (by simp[hc23]),if_pos hc32];rfl)
  .
   refine cl J (ihx (c:=bE c l) (Aa hlo hc) (by omega)) J<|cl J (ihy (c:=bE c l.rev) (Aa hlo.rev hc) (by omega)) J<|cl J aEa J<|?_;exact rz J (by rw[Tr.restrict,if_neg (by simp[hc23]),if_neg (by simp[hc32])];rfl)
def GM: ∀{t:Tr} {c:aC},t.all LB->t.all aa.ok->iu c->c.length+t.depth<=100000->PF GB prog 235 [eU t, .sl (c.map bj)] (eU (Tr.restrict t c))
 | .leaf _,_,_,_,_,_=>ajB
 | .node l x y,c,hb,ho,hc,hn=>ajM hb.1 ho.1 hc hn (fun h1 h2=>GM hb.2.1 ho.2.1 h1 h2) (fun h1 h2=>GM hb.2.2 ho.2.2 h1 h2)
def ax5{t:Tr}(hb:t.all LB)(ho:t.all aa.ok)(hd:t.depth<=100000):PF GB prog 143 [eU t] (eU (t.restrict [])):=by
 refine fn func143 J J ntmps143 J J (fun C=>?_);refine cl J (GM (t:=t) (c:=[]) hb ho (fun s h=>by cases h) (by simpa using hd)) J<|?_;exact rz J J
def Tr.compl:Tr->Tr
 | .leaf b=> .leaf !b
 | .node l x y=> .node l x.compl y.compl
def Tr.chooseQ(op:Int)(b:Bool)(t:Tr)(c:aC):Tr:=
 if op=1\/op=2 then(if b=decide (op=1) then .leaf b else t.restrict c)
 else if op=3/\b=false then .leaf false
 else if b then(t.restrict c).compl else t.restrict c
def Tr.mergeQ(op:Int):Tr->Tr->aC->Tr
 | .leaf b,u,c=>u.chooseQ op b c
 | .node l x y,u,c=>if !cH c l.rev then x.mergeQ op u c else if !cH c l then y.mergeQ op u c else joinQ l (x.mergeQ op u (bE c l)) (y.mergeQ op u (bE c l.rev))
def lnZ:DV:= .ag [vI 0,vI 0, .v (.pointer none),vI 0,vI 0, .v (.pointer none),vI 0,vI 0, .v (.pointer none)]
def vg:Option aa->DV
 |some l=> .tp [dq l,vB true]
 |none=> .tp [lnZ,vB false]
def I9{l:aa}(h: ¬l.ok)(hz: ¬(l.a=0/\l.b=0)):decide (rgcd (rgcd (l.a:Rat) (l.b:Rat)) (l.c:Rat)=((1:Int):Rat))=false:=by
 rw[wn,wn];refine decide_eq_false fun e=>h ⟨hz,?_⟩;simp only[kQ] at e;have:=oM.1 e;omega
def aw0{l:aa}[hl:LB l](ha:l.a=0)(hb:l.b=0):PF GB prog 182 [eL l] (vg none):=by
 refine fn func182 J J ntmps182 J J (fun C=>?_);refine cl (fu:=⟨0⟩) J (rG (m:=l.a)) J<|eE J J J<|cl (fu:=⟨0⟩) J (rG (m:=l.b)) J<|eE J J J<|cl (fu:=⟨0⟩) J (rG (m:=l.c)) J<|?_;refine eE J J J<|cl J (s6 (m:=l.a)) J<|cl J (s6 (m:=l.b)) J<|cl J (s6 (m:=l.c)) J<|cl (fu:=⟨0⟩) J (tB (q:=(l.a:Rat))) J<|?_;refine f8 J (by show some (decide _)=some true;rw[ha];rfl) J<|cl (fu:=⟨0⟩) J (tB (q:=(l.b:Rat))) J<|f8 J (by show some (decide _)=some true;rw[hb];rfl) J<|?_;exact rz J J
def Y7{l:aa}[hl:LB l](hz: ¬(l.a=0/\l.b=0))(ho: ¬l.ok):PF GB prog 182 [eL l] (vg none):=by
 refine fn func182 J J ntmps182 J J (fun C=>?_);refine cl (fu:=⟨0⟩) J (rG (m:=l.a)) J<|eE J J J<|cl (fu:=⟨0⟩) J (rG (m:=l.b)) J<|eE J J J<|cl (fu:=⟨0⟩) J (rG (m:=l.c)) J<|?_;refine eE J J J<|cl J (s6 (m:=l.a)) J<|cl J (s6 (m:=l.b)) J<|cl J (s6 (m:=l.c)) J<|cl (fu:=⟨0⟩) J (tB (q:=(l.a:Rat))) J<|?_;refine xZ (fu2:=⟨4⟩) J J J J (fun hg35=>?_) (fun hg35=>?_)
 .
  have ha:l.a=0:=dQ.1 hg35;refine cl (fu:=⟨1⟩) J (tB (q:=(l.b:Rat))) J<|eE J (by first|rfl|(show some (decide _)=some false;rw[decide_eq_false (fun e=>hz ⟨ha,dQ.1 e⟩)])) J<|?_;refine cl J (n8 (p:=(l.a:Rat)) (q:=(l.b:Rat))) J<|cl J (n8 (p:=rgcd l.a l.b) (q:=(l.c:Rat))) J<|cl J (pP (m:=1) (by decide)) J<|?_;refine cl (fu:=⟨0⟩) J (xo (p:=rgcd (rgcd l.a l.b) l.c) (q:=((1:Int):Rat))) J<|f8 J (by show some (!decide _)=some true;rw[I9 ho hz];rfl) J<|?_;exact rz J J
 .
  refine eE J (by first|rfl|(show some (decide _)=some false;rw[decide_eq_false (fun e=>hz ⟨ha,dQ.1 e⟩)])) J<|cl J (n8 (p:=(l.a:Rat)) (q:=(l.b:Rat))) J<|?_;refine cl J (n8 (p:=rgcd l.a l.b) (q:=(l.c:Rat))) J<|cl J (pP (m:=1) (by decide)) J<|cl (fu:=⟨0⟩) J (xo (p:=rgcd (rgcd l.a l.b) l.c) (q:=((1:Int):Rat))) J<|?_;refine f8 J (by show some (!decide _)=some true;rw[I9 ho hz];rfl) J<|?_;exact rz J J
def aCi{l:aa}[hl:LB l][Decidable l.ok]:PF GB prog 182 [eL l] (vg (if l.ok then some l else none)):=by
 split
 ·rename_i h;exact JV h
 ·rename_i h
  by_cases hz:l.a=0/\l.b=0
  ·exact aw0 hz.1 hz.2
  ·exact Y7 hz h
def lP(n:Bool)(ds:List Nat):Prop:=eh ds/\(n=true->0<ds.length)
instance (n:Bool) (ds:List Nat):Decidable (lP n ds):=inferInstanceAs (Decidable (_/\_))
def wQ{neg:Bool}{ds:List Nat}(h:bm ds/\ds.length<=3):PF GB prog 269 [.ag [.v (.bool neg),f5 ds]] (vB (decide (lP neg ds))):=Rr h.1 (by have:=h.2;omega)
structure RL where
 na:Bool
 da:List Nat
 nb:Bool
 db:List Nat
 nc:Bool
 dc:List Nat
def RL.d(r:RL):DV:= .ag [.v (.bool r.na),f5 r.da, .v (.bool r.nb),f5 r.db, .v (.bool r.nc),f5 r.dc]
def qP(n:Bool)(ds:List Nat):Int:=if n then-(dv ds:Int) else dv ds
def RL.l(r:RL):aa:=⟨qP r.na r.da,qP r.nb r.db,qP r.nc r.dc⟩
def RL.nm(r:RL):Prop:=lP r.na r.da/\lP r.nb r.db/\lP r.nc r.dc
instance (l:aa):Decidable l.ok:=inferInstanceAs (Decidable (_/\_))
instance (r:RL):Decidable r.nm:=inferInstanceAs (Decidable (_/\_/\_))
def RL.ln(r:RL):Option aa:=if r.nm/\r.l.ok then some r.l else none
structure RL.sm (r:RL):Prop where
 a:bm r.da/\r.da.length<=3
 b:bm r.db/\r.db.length<=3
 c:bm r.dc/\r.dc.length<=3
def Jl(n:Bool)(ds:List Nat):(qP n ds).natAbs=dv ds:=by unfold qP;cases n<;>simp
def IR{n:Bool}{ds:List Nat}(hd:bm ds)(h:lP n ds):decide (qP n ds<0)=n:=by
 unfold qP
 cases n with
 |false=>simp
 |true=>
  have h0:0<dv ds:=by
   refine iV fun e=>?_;have:=yc hd h.1;rw[e,wP] at this;have h2:=h.2 J;rw[<-this] at h2;exact absurd h2 (by decide)
  simp only[if_true,decide_eq_true_eq];omega
def RL.eL{r:RL}(s:r.sm)(h:r.nm):r.d=Go.Sx.eL r.l:=by
 unfold RL.d Go.Sx.eL RL.l;simp only[Jl,IR s.a.1 h.1,IR s.b.1 h.2.1,IR s.c.1 h.2.2,dN,yc s.a.1 h.1.1,yc s.b.1 h.2.1.1,yc s.c.1 h.2.2.1];rfl
theorem RL.lb{r:RL}(s:r.sm):LB r.l:=by
 have key: ∀(n:Bool) (ds:List Nat),bm ds/\ds.length<=3->(qP n ds).natAbs<2^96:=fun n ds h=>by
  rw[Jl];refine dJ (ju h.1) ?_;rw[show(2:Nat)^96=4294967296^3 by decide];exact bR (by decide) h.2
 exact⟨key _ _ s.a,key _ _ s.b,key _ _ s.c⟩
def UM{r:RL}(s:r.sm)(h: ¬lP r.na r.da):PF GB prog 182 [r.d] (vg none):=by
 refine fn func182 J J ntmps182 J J (fun C=>?_);refine cl (fu:=⟨0⟩) J (wQ (neg:=r.na) (ds:=r.da) s.a) J<|f8 J (by show some (!decide _)=some true;rw[decide_eq_false h];rfl) J<|?_;exact rz J J
def XA{r:RL}(s:r.sm)(h1:lP r.na r.da)(h: ¬lP r.nb r.db):PF GB prog 182 [r.d] (vg none):=by
 refine fn func182 J J ntmps182 J J (fun C=>?_);refine cl (fu:=⟨0⟩) J (wQ (neg:=r.na) (ds:=r.da) s.a) J<|eE J (by show some (!decide _)=some false;rw[decide_eq_true h1];rfl) J<|cl (fu:=⟨0⟩) J (wQ (neg:=r.nb) (ds:=r.db) s.b) J<|?_;refine f8 J (by show some (!decide _)=some true;rw[decide_eq_false h];rfl) J<|?_;exact rz J J
def XC{r:RL}(s:r.sm)(h1:lP r.na r.da)(h2:lP r.nb r.db)(h: ¬lP r.nc r.dc):PF GB prog 182 [r.d] (vg none):=by
 refine fn func182 J J ntmps182 J J (fun C=>?_);refine cl (fu:=⟨0⟩) J (wQ (neg:=r.na) (ds:=r.da) s.a) J<|eE J (by show some (!decide _)=some false;rw[decide_eq_true h1];rfl) J<|cl (fu:=⟨0⟩) J (wQ (neg:=r.nb) (ds:=r.db) s.b) J<|?_;refine eE J (by show some (!decide _)=some false;rw[decide_eq_true h2];rfl) J<|cl (fu:=⟨0⟩) J (wQ (neg:=r.nc) (ds:=r.dc) s.c) J<|f8 J (by show some (!decide _)=some true;rw[decide_eq_false h];rfl) J<|?_;exact rz J J
def O'{r:RL}(s:r.sm):PF GB prog 182 [r.d] (vg r.ln):=by
 by_cases h1:lP r.na r.da
 ·by_cases h2:lP r.nb r.db
  ·by_cases h3:lP r.nc r.dc
   ·haveI:=RL.lb s
    rw[RL.eL s ⟨h1,h2,h3⟩,show r.ln=if r.l.ok then some r.l else none by unfold RL.ln;simp[show r.nm from⟨h1,h2,h3⟩]];exact aCi
   ·rw[show r.ln=none from if_neg fun e=>h3 e.1.2.2]
    exact XC s h1 h2 h3
  ·rw[show r.ln=none from if_neg fun e=>h2 e.1.2.1]
   exact XA s h1 h2
 ·rw[show r.ln=none from if_neg fun e=>h1 e.1.1]
  exact UM s h1
end Go.Sx
end
