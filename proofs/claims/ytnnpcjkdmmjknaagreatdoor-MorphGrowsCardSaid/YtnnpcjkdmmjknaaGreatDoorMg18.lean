import Derived.Test.YtnnpcjkdmmjknaaGreatDoorMg17
set_option linter.all false
set_option maxHeartbeats 4000000
set_option maxRecDepth 100000
section
namespace Go.Sx
open Go Go.Proofs Tryz
variable {GB:Gh}{k i n g:Nat}{l ls out:List aa}{x:Rat}{a t y:Tr}{b:Bool}{α β:Type}{qs cuts:List Rat}{p u w:ah}{m:aa}{e c d:ar}{s:bz}{ds:List ah}{o ps:List (Bool×ar)}
def Qh(l:List Rat):fE l=ug bA l:=by
 unfold fE ug;have key: ∀(l o:List Rat),l.foldl (fun out x=>lf x out) o=l.foldl (fun out x=>fe bA x out) o:=by
  intro l
  induction l with
  |nil=>intro o;rfl
  |cons a t ih=>intro o;rw[kK,kK,xy,ih]
 exact key l []
def Dm(l:List Rat):(fE l).length<=l.length:=by
 have:=Fz bA l [];rw[Qh];simpa[ug] using this
theorem Jn{l:List Rat}(h: ∀q∈l,BQ q k): ∀g∈ck l,BQ g (2*k+100):=fun g hg=>by
 cases l with
 |nil=>
  rw[ck,aS] at hg;subst hg;exact BQ.mono (k:=1) ⟨by decide,by decide⟩ (by omega)
 |cons a t=>
  rw[ck] at hg;rcases aW.1 hg with rfl|hg
  .haveI:=h a aQ
   exact BQ.mono (inferInstance:BQ (a-1) _) (by omega)
  .rcases bW.1 hg with hg|hg
   .obtain⟨c,hc,d,hd,rfl⟩:=Kd hg
    haveI:=h c hc;haveI:=h d hd;exact BQ.mono (inferInstance:BQ ((c+d)/2) _) (by omega)
   .rw[aS] at hg
    haveI:=h _ (List.getLast_mem (l:=a::t) (by simp));subst hg;exact BQ.mono (inferInstance:BQ ((a::t).getLast (by simp)+1) _) (by omega)
def uT(a:aa)(t:List aa):List Rat:=t.filterMap fun b=>if crossI a b=0 then none else some (di a b).x
def Km(a:aa)(t:List aa):dG (a::t)=(if a.b=0 then [a.base.x] else [])++(uT a t++dG t):=rfl
def aBD(a:aa)(t:List aa):(uT a t).length<=t.length:=mV _ _
def Hl: ∀l:List aa,(dG l).length<=l.length*(l.length+1)
 |[]=>bX _
 |a::t=>by
  have h1:=Hl t;have h2:=aBD a t;have h3:(if a.b=0 then [a.base.x] else []).length<=1:=by split<;>simp
  rw[Km,aU,aU,bJ];have e:(t.length+1)*(t.length+1+1)=t.length*(t.length+1)+2*t.length+2:=by simp only[dJ,dS];omega
  rw[e];omega
theorem Cj: ∀{l:List aa},(∀a∈l,LB a)-> ∀x∈dG l,BQ x 900
 |[],_,x,h=>by cases h
 |a::t,hl,x,h=>by
  haveI:=hl a aQ;have ht: ∀b∈t,LB b:=fun b hb=>hl b (aJ _ hb);rw[Km] at h;rcases bW.1 h with h|h
  .split at h
   .rw[aS] at h;subst h;infer_instance
   .cases h
  .rcases bW.1 h with h|h
   .obtain⟨b,hb,e⟩:=jM.1 h
    haveI:=ht b hb;split at e
    .cases e
    .cases e;exact BQ.mono (inferInstance:BQ (di a b).x 772)
   .exact Cj ht x h
def Mz(l:List aa)(x:Rat):(gy l x).length<=l.length:=mV _ _
theorem Nv(hl: ∀a∈l,LB a)(hx:BQ x 1900): ∀y∈gy l x,BQ y 2400:=fun y hy=>by
 obtain⟨a,ha,hb,rfl⟩:=La hy;haveI:=hl a ha;unfold yA;exact BQ.mono (inferInstance:BQ (-(((a.a:Rat)*x+(a.c:Rat))/(a.b:Rat))) _) (by omega)
def MU{a:aa}(h:l[k]? =some a):gy (l.drop k) x=(if a.b=0 then [] else [yA a x])++gy (l.drop (k+1)) x:=by
 obtain⟨hk,rfl⟩:=aY.1 h;rw[bQ hk];unfold gy;rw[rZ];split<;>(rename_i e;split at e<;>simp_all)
def MW{t:List aa}{a b:aa}(h:t[k]? =some b):uT a (t.drop k)=(if crossI a b=0 then [] else [(di a b).x])++uT a (t.drop (k+1)):=by
 obtain⟨hk,rfl⟩:=aY.1 h;rw[bQ hk];unfold uT;rw[rZ];split<;>(rename_i e;split at e<;>simp_all)
def Rq{a:aa}(h:l[k]? =some a):dG (l.drop k)=(if a.b=0 then [a.base.x] else [])++(uT a (l.drop (k+1))++dG (l.drop (k+1))):=by
 obtain⟨hk,rfl⟩:=aY.1 h;rw[bQ hk,Km]
def Al{a b c:List α}(h:a++b=c):a.length<=c.length:=by rw[<-h,aU];omega
def wl(l:List aa)(x:Rat):List ah:=(ck (fE (gy l x))).map fun y=>⟨x,y⟩
def as7(l:List aa):qe l=(ck (fE (dG l))).flatMap (wl l):=rfl
def Sc(l:List aa)(x:Rat):(wl l x).length<=l.length+1:=by
 unfold wl;rw[aX,yt];have:=Dm (gy l x);have:=Mz l x;omega
def Lu{α β:Type}(f:α->List β)(m:Nat): ∀l:List α,(∀x,(f x).length<=m)->(l.flatMap f).length<=l.length*m
 |[],_=>by simp
 |a::t,h=>by
  have:=Lu f m t h;have:=h a;rw[lN,aU,bJ,gJ];omega
def NC(h:l.length<=6000):(ck (fE (dG l))).length<=36006001:=by
 have h1:=Hl l;have h2:=Dm (dG l);have h3:l.length*(l.length+1)<=6000*6001:=gX h (by omega);rw[yt];omega
def NG(h:l.length<=6000):(qe l).length<=216072012001:=by
 have h1:=Lu (wl l) 6001 (ck (fE (dG l))) (fun x=>by have:=Sc l x;omega);have h2:(ck (fE (dG l))).length*6001<=36006001*6001:=bL _ (NC h);rw[as7];omega
def auK{f:α->List β}{l:List α}{x:α}(h:l[k]? =some x):(l.drop k).flatMap f=f x++(l.drop (k+1)).flatMap f:=by
 obtain⟨hk,rfl⟩:=aY.1 h;rw[bQ hk,lN]
def XH{f:α->β}{l:List α}{x:α}(h:l[k]? =some x):(l.drop k).map f=f x::(l.drop (k+1)).map f:=by
 obtain⟨hk,rfl⟩:=aY.1 h;rw[bQ hk,bT]
def Bj(l:List α):l.drop l.length=[]:=by simp
def QV(hb: ∀q∈qs,BQ q k)(hk:k<=100000)(hn:qs.length<=40000000:=by omega):PF GB prog 217 [.sl (qs.map eQ)] (.sl ((fE qs).map eQ)):=by
 have hm':=et eQ qs;refine fn (fu:=⟨15⟩) func217 J J ntmps217 J J (fun C=>?_);refine ak 8 (.d (vI (qs.length:Nat))) J (by rw[hm']<;>rfl) ?_;refine gx J<|?_;refine BT 3 J ?_;refine lp (X:=List Rat×Nat) (fun⟨xs,i⟩=>[(9, .d (vI (i:Nat))),(3, .d (.sl (xs.map eQ)))]) (fun⟨xs,i⟩=>[]) (fun⟨xs,i⟩=>xs=sO bA id qs i/\i<=qs.length) (fun⟨xs,i⟩=>qs.length-i) ⟨[],0⟩ J ⟨J,bZ _⟩ (fun _=>J) (fun⟨xs,i⟩ hk=>?_)
 try dsimp only at hk⊢
 obtain⟨h1,h2⟩:=hk;refine br J J J (fun hc10=>?_) (fun hc10=>?_)
 .
  obtain⟨q,hz⟩: ∃s,qs[i]? =some s:=⟨_,aZ (by omega)⟩;haveI hqb:=hb q (aV hz);have hxl:=et eQ xs;have hxn:xs.length<=i:=by rw[h1];exact L'
  have hxb: ∀u∈xs,BQ u k:=fun u hu=>by rw[h1] at hu;obtain⟨z,hz,he⟩:=Rl hu;rw[he];exact hb z hz
  refine ix (fu:=⟨11⟩) _ J (cH hz) J<|?_;refine mg (fu:=⟨5⟩) (X:=Nat) (fun n=>[(6, .d (vI (n:Nat)))]) (fun n=>[]) (fun n=>mG bA q xs=n) [6] [] rfl ?_ (fun _=>J) (fun n hnx=>?_)
  .
   refine gx J<|?_;refine lp (fu:=⟨6⟩) (X:=Nat) (fun n=>[(6, .d (vI (n:Nat)))]) (fun n=>[]) (fun n=>n<=xs.length/\ ∀j (h:j<xs.length),j<n->bA xs[j] q<0) (fun n=>xs.length-n) 0 J ⟨bZ _,fun j _ hj=>absurd hj (by omega)⟩ (fun _=>J) (fun n hk=>?_);obtain⟨n1,n2⟩:=hk;refine jr (v2:=fun hg16=>by simp only[aj];kernel_rfl) J J J J (fun hg16=>?_) (fun hg16=>?_)
   .
    refine ix _ J (tz) J<|cl J (mD (a:=xs[n]'(by omega)) (b:=q) (ha:=hxb _ (cN (by omega))) (hb:=hqb) (by omega) (by omega)) J<|?_;refine br J J J (fun hc25=>?_) (fun hc25=>?_)
    .
     exact at_ (n+1) ⟨⟨by omega,fun j h hj=>by by_cases q:j=n;(subst q;exact hc25);exact n2 j h (by omega)⟩,(by omega)⟩
    .
     exact at_ n (vY bA n1 n2 (fun h=>hc25))
   .
    exact at_ n (vY bA n1 n2 (fun h=>absurd h (by omega)))
  .
   have hnl:n<=xs.length:=by rw[<-hnx];exact Ed _ _ _
   refine jr (v1:=fun hg31=>by simp only[aj];kernel_rfl) J J J J (fun hg31=>?_) (fun hg31=>?_)
   .
    have hnew: ∀h:n<xs.length,bA xs[n] q≠0:=fun h=>absurd h (by omega);obtain⟨ys,hys⟩: ∃ys,ys=xs.take n++q::xs.drop n:=⟨_,rfl⟩;have hin:fe bA q xs=ys:=by rw[hys];exact tP bA hnx hnew
    have hyl:ys.length<=xs.length+1:=by rw[hys];simp;omega
    refine s3 n _ J J J J (ez _) (by rw[hxl];exact hnl) J<|ro J J<|mE n xs.length _ J J (by rw[hxl]) J (ez _) hnl (by omega) J<|?_;refine ap _ J J (tG ez _ _ _) J<|mc (hv:=by simp only[aj];exact⟨by kernel_rfl,by omega⟩) (ho:=fun _=>⟨u9 ez _ _,by simp⟩) (ys.map eQ) J (by rw[hys,bV,bT,iL,jZ,aM (l:=xs.map eQ) (i:=xs.length) (by simp)];rfl) (vu ez _ _ _ _) J<|?_;exact at_ ⟨ys,i+1⟩ (by dsimp only;exact⟨⟨by rw[Ay hz,<-h1];exact hin.symm,by omega⟩,(by omega)⟩)
   .
    refine ix _ J (tz) J<|cl J (mD (a:=xs[n]'(by omega)) (b:=q) (ha:=hxb _ (cN (by omega))) (hb:=hqb) (by omega) (by omega)) J<|?_;refine br J J J (fun hc40=>?_) (fun hc40=>?_)
    .
     have hnew: ∀h:n<xs.length,bA xs[n] q≠0:=fun h=>hc40;obtain⟨ys,hys⟩: ∃ys,ys=xs.take n++q::xs.drop n:=⟨_,rfl⟩;have hin:fe bA q xs=ys:=by rw[hys];exact tP bA hnx hnew
     have hyl:ys.length<=xs.length+1:=by rw[hys];simp;omega
     refine s3 n _ J J J J (ez _) (by rw[hxl];exact hnl) J<|ro J J<|mE n xs.length _ J J (by rw[hxl]) J (ez _) hnl (by omega) J<|?_;refine ap _ J J (tG ez _ _ _) J<|mc (hv:=by simp only[aj];exact⟨by kernel_rfl,by omega⟩) (ho:=fun _=>⟨u9 ez _ _,by simp⟩) (ys.map eQ) J (by rw[hys,bV,bT,iL,jZ,aM (l:=xs.map eQ) (i:=xs.length) (by simp)];rfl) (vu ez _ _ _ _) J<|?_;exact at_ ⟨ys,i+1⟩ (by dsimp only;exact⟨⟨by rw[Ay hz,<-h1];exact hin.symm,by omega⟩,(by omega)⟩)
    .
     have hin:fe bA q xs=xs:=AH bA hnx (by omega) (Decidable.not_not.1 hc40);exact at_ ⟨xs,i+1⟩ (by dsimp only;exact⟨⟨by rw[Ay hz,<-h1];exact hin.symm,by omega⟩,(by omega)⟩)
 .
  have hfin:fE qs=xs:=by rw[Qh,h1,P3,List.map_id]
  exact rz J (by rw[hfin];rfl)
def Mq(hb: ∀q∈cuts,BQ q k)(hk':k<=100000)(hn:cuts.length<=40000000):PF GB prog 216 [.sl (cuts.map eQ)] (.sl ((ck cuts).map eQ)):=by
 have hm:=et eQ cuts;refine fn (fu:=⟨10⟩) func216 J J ntmps216 J J (fun C=>?_);refine ak 6 (.d (vI (cuts.length:Nat))) J (by rw[hm]<;>rfl) ?_;refine gx J<|?_;refine br J J J (fun hc7=>?_) (fun hc7=>?_)
 .
  obtain rfl:cuts=[]:=bM (by omega);refine rf J J<|?_;exact rz J (by rw[ck];show DV.sl [_]=DV.sl [_];rw[F'])
 .
  obtain⟨a,ct,rfl⟩: ∃a t,cuts=a::t:=by cases cuts with|nil=>exact absurd rfl hc7|cons a t=>exact⟨a,t,rfl⟩
  haveI hab:=hb a aQ;have hcl:ct.length+1<=40000000:=hn;refine ix _ J J J<|cl J (kl (n:=1)) J<|cl (fu:=⟨0⟩) J (tc (a:=a) (b:=((1:Int):Rat)) (by omega) (by omega)) J<|?_;refine ak 14 (.d (eQ (a-1))) J J ?_;refine gx J<|ro J J<|?_;refine lp (fu:=⟨6⟩) (X:=Nat) (fun i=>[(4, .d (vI ((i+1:Nat):Int))),(3, .rw 15)]) (fun i=>[(15,some (.b 34 3 (((a-1)::i8 ((a::ct).take (i+1))).map eQ) true))]) (fun i=>i<=ct.length) (fun i=>ct.length-i) 0 J (bZ _) (fun _=>J) (fun i hk=>?_);have hm2:=et eQ (a::ct);have hml:=AN (a::ct.take i);rw[bJ,cR] at hml;have hml2:=AN (a::ct);rw[bJ] at hml2;refine ak 18 (.d (vI ((ct.length+1:Nat):Int))) J (by rw[hm2]<;>rfl) ?_;refine gx J<|?_;refine br (fu2:=⟨11⟩) J J J (fun hc19=>?_) (fun hc19=>?_)
  .
   obtain⟨u,hu⟩: ∃s,(a::ct)[i]? =some s:=⟨_,aZ (by simp;omega)⟩;obtain⟨w,hw⟩: ∃s,(a::ct)[i+1]? =some s:=⟨_,aZ (by simp;omega)⟩;haveI:=hb u (aV hu);haveI:=hb w (aV hw);refine ix _ J (by rw[show((((i+1:Nat):Int))-1).toNat=i by omega,bS,hu];rfl) J<|ix _ J (by rw[aR,bS,hw];rfl) J<|?_;refine cl J (Ew (a:=u) (b:=w) (by omega) (by omega)) J<|rf J J<|ap (hv:=by simp only[aj];exact⟨by kernel_rfl,by omega⟩) (((a-1)::i8 ((a::ct).take (i+1+1))).map eQ) J (by rw[Gd hu hw,<-iJ,bV];rfl) (ez [(u+w)/2]) J<|?_;refine fH 34 15 J ?_;exact at_ (i+1) ⟨(by omega),(by omega)⟩
  .
   obtain rfl:i=ct.length:=by omega
   obtain⟨z,hz⟩: ∃s,(a::ct)[ct.length]? =some s:=⟨_,aZ (by simp)⟩;haveI:=hb z (aV hz);rw[show(a::ct).take (ct.length+1)=a::ct from dQ (l:=a::ct)];refine ak 38 (.d (vI ((ct.length+1:Nat):Int))) J (by rw[hm2]<;>rfl) ?_;refine gx J<|ix _ J (by rw[show((((ct.length+1:Nat):Int))-1).toNat=ct.length by omega,bS,hz];rfl) J<|cl J (kl (n:=1)) J<|?_;refine cl J (ol (a:=z) (b:=((1:Int):Rat)) (by omega) (by omega)) J<|rf J J<|ap ((ck (a::ct)).map eQ) J (by rw[SC hz,<-iJ,bV];rfl) (ez [z+1]) J<|?_;refine ir 45 J ?_;exact rz J J
def ZU(hb: ∀a∈l,LB a)(ho: ∀a∈l,a.Ne)(hn:l.length<=6000):PF GB prog 130 [.sl (l.map eL)] (.sl ((qe l).map eP)):=by
 have hbl:=hb;have hml:=et eL l;have htot:=NG hn;have hgl:=NC hn;have hxl:=Hl l;have hxl2:l.length*(l.length+1)<=6000*6001:=gX hn (by omega);refine fn (fu:=⟨15⟩) func130 J J ntmps130 J J (fun C=>?_);refine ak 19 (.d (vI (l.length:Nat))) J (by rw[aX]<;>rfl) ?_;refine gx J<|?_;refine nr 3 3 34 3 J J J ?_;refine lp (X:=List Rat×Nat) (fun⟨cur,i⟩=>[(20, .d (vI (i:Nat))),(3, .rw 3)]) (fun⟨cur,i⟩=>[(3,some (.b 34 3 (cur.map eQ) true))]) (fun⟨cur,i⟩=>cur++dG (l.drop i)=dG l/\i<=l.length) (fun⟨cur,i⟩=>l.length-i) ⟨[],0⟩ J ⟨by simp,bZ _⟩ (fun _=>J) (fun⟨cur,i⟩ hk=>?_)
 try dsimp only at hk⊢
 obtain⟨h1,h2⟩:=hk;have hcl:=Al h1;have hcm:=et eQ cur;refine br (fu2:=⟨0⟩) J J J (fun hc21=>?_) (fun hc21=>?_)
 .
  obtain⟨a,ha⟩: ∃s,l[i]? =some s:=⟨_,aZ (by omega)⟩;haveI hab:=hb a (aV ha);have hao:=ho a (aV ha);refine ix (fu:=⟨7⟩) _ J (cH ha) J<|?_;refine mg (X:=List Rat) (fun cur1=>[(3, .rw 3)]) (fun cur1=>[(3,some (.b 34 3 (cur1.map eQ) true))]) (fun cur1=>cur1++(uT a ((l.drop (i+1)).drop 0)++dG (l.drop (i+1)))=dG l) [3] [3] rfl ?_ (fun _=>J) (fun cur1 hc1=>?_)
  .
   refine gx J<|cl J (yv (z:=a.b)) J<|?_;refine br J J J (fun hc28=>?_) (fun hc28=>?_)
   .
    refine cl J (EL (l:=a) hao) J<|rf J J<|ap ((cur++[a.base.x]).map eQ) J (by rw[bV];rfl) (ez [_]) J<|?_;refine fH 34 3 J ?_;exact at_ (cur++[a.base.x]) (by rw[<-h1,Rq ha,if_pos (iX.1 hc28)];simp)
   .
    exact at_ cur (by rw[<-h1,Rq ha,if_neg (fun e=>hc28 (iX.2 e))];simp)
  .
   have hcl1:=Al hc1;have hdl:(l.drop (i+1)).length<=6000:=by rw[gL];omega
   have hcm1:=et eQ cur1;refine mE (fu:=⟨1⟩) (i+1) l.length ((l.drop (i+1)).map eL) J J (by rw[hml]) (by rw[aM (by rw[hml];exact bX _),jZ]) (fP l) (by omega) (by rw[hml];exact bX _) J<|?_;refine ak 39 (.d (vI ((l.drop (i+1)).length:Nat))) J (by rw[aX]<;>rfl) ?_;refine gx J<|?_;refine lp (X:=List Rat×Nat) (fun⟨cur2,j⟩=>[(40, .d (vI (j:Nat))),(3, .rw 3)]) (fun⟨cur2,j⟩=>[(3,some (.b 34 3 (cur2.map eQ) true))]) (fun⟨cur2,j⟩=>cur2++(uT a ((l.drop (i+1)).drop j)++dG (l.drop (i+1)))=dG l/\j<=(l.drop (i+1)).length) (fun⟨cur2,j⟩=>(l.drop (i+1)).length-j) ⟨cur1,0⟩ J ⟨hc1,bZ _⟩ (fun _=>J) (fun⟨cur2,j⟩ hk=>?_)
   try dsimp only at hk⊢
   obtain⟨j1,j2⟩:=hk;have hcl2:=Al j1;have hcm2:=et eQ cur2;refine br J J J (fun hc41=>?_) (fun hc41=>?_)
   .
    obtain⟨b,hb⟩: ∃s,(l.drop (i+1))[j]? =some s:=⟨_,aZ (by omega)⟩;haveI hbb:=hbl b (gN (aV hb));refine ix _ J (cH hb) J<|cl J (Gi (l:=a) (m:=b)) J<|?_;refine bd J J J (fun hc50=>?_) (fun hc50=>?_)
    .
     refine rf J J<|ap ((cur2++[(di a b).x]).map eQ) J (by rw[bV];rfl) (ez [_]) J<|?_;refine fH 55 3 J ?_;exact at_ ⟨cur2++[(di a b).x],j+1⟩ (by dsimp only;exact⟨⟨by rw[<-j1,MW hb,if_neg hc50];simp,by omega⟩,(by omega)⟩)
    .
     exact at_ ⟨cur2,j+1⟩ (by dsimp only;exact⟨⟨by rw[<-j1,MW hb,if_pos (Decidable.not_not.1 hc50)];simp,by omega⟩,(by omega)⟩)
   .
    obtain rfl:j=(l.drop (i+1)).length:=by omega
    exact at_ ⟨cur2,i+1⟩ (by dsimp only;exact⟨⟨by rw[Bj] at j1;exact j1,by omega⟩,(by omega)⟩)
 .
  obtain rfl:i=l.length:=by omega
  obtain rfl:cur=dG l:=by rw[Bj] at h1;simpa[dG] using h1
  refine tj 3 J ?_;refine gx J<|cl J (QV (qs:=dG l) (k:=900) (Cj hb) (by decide)) J<|cl (fu:=⟨1⟩) J (Mq (cuts:=fE (dG l)) (k:=900) (fun q hq=>Cj hb q (pB.1 hq)) (by decide) (by have:=Dm (dG l);omega)) J<|?_;refine ak 61 (.d (vI ((ck (fE (dG l))).length:Nat))) J (by rw[aX]<;>rfl) ?_;refine gx J<|?_;refine nr 10 10 36 6 J J J ?_;refine lp (X:=List ah×Nat) (fun⟨pts,g⟩=>[(62, .d (vI (g:Nat))),(10, .rw 10)]) (fun⟨pts,g⟩=>[(10,some (.b 36 6 (pts.map eP) true))]) (fun⟨pts,g⟩=>pts++((ck (fE (dG l))).drop g).flatMap (wl l)=qe l/\g<=(ck (fE (dG l))).length) (fun⟨pts,g⟩=>(ck (fE (dG l))).length-g) ⟨[],0⟩ J ⟨J,bZ _⟩ (fun _=>J) (fun⟨pts,g⟩ hk=>?_)
  try dsimp only at hk⊢
  obtain⟨g1,g2⟩:=hk;have hpl:=Al g1;have hpm:=et eP pts;refine br J J J (fun hc63=>?_) (fun hc63=>?_)
  .
   obtain⟨x,hx⟩: ∃s,(ck (fE (dG l)))[g]? =some s:=⟨_,aZ (by omega)⟩;haveI hxb:BQ x 1900:=Jn (k:=900) (fun q hq=>Cj hb q (pB.1 hq)) x (aV hx);refine ix (fu:=⟨15⟩) _ J (cH hx) J<|?_;refine ak 67 (.d (vI (l.length:Nat))) J (by rw[aX]<;>rfl) ?_;refine gx J<|?_;refine nr 13 13 34 3 J J J ?_;refine lp (X:=List Rat×Nat) (fun⟨ys,j⟩=>[(68, .d (vI (j:Nat))),(13, .rw 13)]) (fun⟨ys,j⟩=>[(13,some (.b 34 3 (ys.map eQ) true))]) (fun⟨ys,j⟩=>ys++gy (l.drop j) x=gy l x/\j<=l.length) (fun⟨ys,j⟩=>l.length-j) ⟨[],0⟩ J ⟨J,bZ _⟩ (fun _=>J) (fun⟨ys,j⟩ hk=>?_)
   try dsimp only at hk⊢
   obtain⟨y1,y2⟩:=hk;have hyl:=Al y1;have hym:=et eQ ys;have hyt:=Mz l x;refine br (fu2:=⟨0⟩) J J J (fun hc69=>?_) (fun hc69=>?_)
   .
    obtain⟨a,ha⟩: ∃s,l[j]? =some s:=⟨_,aZ (by omega)⟩;haveI hala:=hb a (aV ha);refine ix _ J (cH ha) J<|cl J (yv (z:=a.b)) J<|?_;refine br J J J (fun hc75=>?_) (fun hc75=>?_)
    .
     have hab: ¬a.b=0:=fun e=>hc75 (iX.2 e);have habR:((a.b:Int):Rat)≠0:=fun e=>hab (cX.1 e);refine cl J (jb (z:=a.a)) J<|cl J (jm (a:=(a.a:Rat)) (b:=x)) J<|cl J (jb (z:=a.c)) J<|cl J (ol (a:=(a.a:Rat)*x) (b:=(a.c:Rat))) J<|?_;refine cl J (jb (z:=a.b)) J<|cl J (wA (a:=(a.a:Rat)*x+(a.c:Rat)) (b:=(a.b:Rat)) habR) J<|cl J (vD (q:=((a.a:Rat)*x+(a.c:Rat))/(a.b:Rat))) J<|?_;refine rf J J<|ap (hv:=by simp only[aj];exact⟨by kernel_rfl,by omega⟩) ((ys++[yA a x]).map eQ) J (by rw[bV];rfl) (ez [_]) J<|?_;refine fH 92 13 J ?_;exact at_ ⟨ys++[yA a x],j+1⟩ (by dsimp only;exact⟨⟨by rw[<-y1,MU ha,if_neg hab];simp,by omega⟩,(by omega)⟩)
    .
     have hab:a.b=0:=iX.1 (Decidable.not_not.1 hc75);exact at_ ⟨ys,j+1⟩ (by dsimp only;exact⟨⟨by rw[<-y1,MU ha,if_pos hab];simp,by omega⟩,(by omega)⟩)
   .
    obtain rfl:j=l.length:=by omega
    obtain rfl:ys=gy l x:=by rw[Bj] at y1;simpa[gy] using y1
    have hyb:=Nv hb hxb;have hgy:(ck (fE (gy l x))).length<=6001:=by have:=Sc l x;unfold wl at this;rw[aX] at this;omega
    refine tj 13 J ?_;refine gx J<|cl J (QV (qs:=gy l x) (k:=2400) hyb (by decide)) J<|cl (fu:=⟨1⟩) J (Mq (cuts:=fE (gy l x)) (k:=2400) (fun q hq=>hyb q (pB.1 hq)) (by decide) (by have:=Dm (gy l x);omega)) J<|?_;refine ak 97 (.d (vI ((ck (fE (gy l x))).length:Nat))) J (by rw[aX]<;>rfl) ?_;refine gx J<|?_;refine lp (X:=List ah×Nat) (fun⟨pts2,j⟩=>[(98, .d (vI (j:Nat))),(10, .rw 10)]) (fun⟨pts2,j⟩=>[(10,some (.b 36 6 (pts2.map eP) true))]) (fun⟨pts2,j⟩=>pts2++(((ck (fE (gy l x))).drop j).map (fun y=>(⟨x,y⟩:ah))++((ck (fE (dG l))).drop (g+1)).flatMap (wl l))=qe l/\j<=(ck (fE (gy l x))).length) (fun⟨pts2,j⟩=>(ck (fE (gy l x))).length-j) ⟨pts,0⟩ J ⟨by rw[auK hx] at g1;exact g1,bZ _⟩ (fun _=>J) (fun⟨pts2,j⟩ hk=>?_)
    try dsimp only at hk⊢
    obtain⟨w1,w2⟩:=hk;have hpl2:=Al w1;have hpm2:=et eP pts2;refine br J J J (fun hc99=>?_) (fun hc99=>?_)
    .
     obtain⟨y,hy⟩: ∃s,(ck (fE (gy l x)))[j]? =some s:=⟨_,aZ (by omega)⟩;refine ix _ J (cH hy) J<|rf J J<|ap ((pts2++[(⟨x,y⟩:ah)]).map eP) J (by rw[bV];rfl) (Nj [(⟨x,y⟩:ah)]) J<|?_;refine fH 107 10 J ?_;exact at_ ⟨pts2++[⟨x,y⟩],j+1⟩ (by dsimp only;exact⟨⟨by rw[<-w1,XH hy];simp,by omega⟩,(by omega)⟩)
    .
     obtain rfl:j=(ck (fE (gy l x))).length:=by omega
     exact at_ ⟨pts2,g+1⟩ (by dsimp only;exact⟨⟨by rw[Bj] at w1;exact w1,by omega⟩,(by omega)⟩)
  .
   obtain rfl:g=(ck (fE (dG l))).length:=by omega
   obtain rfl:pts=qe l:=by rw[Bj] at g1;simpa using g1
   refine ir 10 J ?_;exact rz J J
def anB:PR GB prog 132 [eT (Tr.leaf b)] 6 85 ((Tr.leaf b).lns.map eL):=by
 refine ML (fu:=⟨11⟩) func132 J J ntmps132 J J (fun C hmb=>?_);refine c6 J J J<|?_;exact YU J J J
def anx{l:aa}{x:Tr}(hs:(Tr.node l x y).size<=100000)(ihx:PR GB prog 132 [eT x] 6 85 (x.lns.map eL))(ihy:PR GB prog 132 [eT y] 6 85 (y.lns.map eL)):PR GB prog 132 [eT (Tr.node l x y)] 6 85 ((Tr.node l x y).lns.map eL):=by
 have hsx:=tI x;have hsy:=tI y;have hsz:(Tr.node l x y).size=1+x.size+y.size:=J;refine ML (fu:=⟨11⟩) func132 J J ntmps132 J J (fun C hmb=>?_);refine cd J J J<|ro J J<|cr J ihx J<|ap (hbd:=by simp only[aX,bJ,eX];omega) ((l::x.lns).map eL) J (by rw[bT];rfl) (fP _) J<|?_;refine cr J ihy J<|ap (hbd:=by simp only[aX,bJ,eX];omega) ((l::(x.lns++y.lns)).map eL) J (by rw[bT,bT,bV];rfl) (fP _) J<|?_;exact WW J J J J
def C0: ∀{t:Tr},t.size<=100000->PR GB prog 132 [eT t] 6 85 (t.lns.map eL)
 | .leaf _,_=>anB
 | .node l x y,h=>anx h (C0 (by have:(Tr.node l x y).size=1+x.size+y.size:=J;omega)) (C0 (by have:(Tr.node l x y).size=1+x.size+y.size:=J;omega))
def wM:Tr->ah->Bool
 | .leaf _,_=>true
 | .node l x y,p=>if(l.value p).num.sign=1 then wM x p else if(l.value p).num.sign= -1 then wM y p else false
def QS[hp:aG p i](hb:t.all LB)(hi:i<=400000:=by decide):PF GB prog 133 [eT t,eP p] (.tp [vB (kA t p),vB (wM t p)]):=by
 refine fn func133 J J ntmps133 J J (fun C=>?_);refine lp (fu:=⟨3⟩) (X:=Tr) (fun s=>[(0, .d (eT s))]) (fun s=>[]) (fun s=>kA s p=kA t p/\wM s p=wM t p/\s.all LB) (fun s=>s.size) t J ⟨J,J,hb⟩ (fun _=>J) (fun s hk=>?_);obtain⟨h1,h2,hb2⟩:=hk;rcases s with b|⟨l,x,y⟩
 .
  have hA:kA t p=b:=h1.symm;have hO:wM t p=true:=h2.symm;refine gx (fu:=⟨3⟩) J<|c6 J J J<|?_;exact rz J (by rw[hA,hO];rfl)
 .
  have hAn:=h1.symm;have hOn:=h2.symm;rw[kA] at hAn;rw[wM] at hOn;haveI:=hb2.1;refine gx (fu:=⟨3⟩) J<|cd J J J<|cl J (Bx (l:=l) (p:=p) (i:=i) hi) J<|?_;refine br J J J (fun hc17=>?_) (fun hc17=>?_)
  .
   exact at_ x ⟨⟨by rw[hAn,if_pos hc17],by rw[hOn,if_pos hc17],hb2.2.1⟩,(by simp only[Tr.size];omega)⟩
  .
   refine br J J J (fun hc23=>?_) (fun hc23=>?_)
   .
    exact at_ y ⟨⟨by rw[hAn,if_neg hc17,if_pos hc23],by rw[hOn,if_neg hc17,if_pos hc23],hb2.2.2⟩,(by simp only[Tr.size];omega)⟩
   .
    exact rz J (by rw[hAn,hOn,if_neg hc17,if_neg hc23,if_neg hc17,if_neg hc23];rfl)
def Q2(ls:List aa):(og ls).length<=ls.length:=by
 have:=Fz iq (ls.map aa.canon) [];unfold og ug;rw[aX,eX] at this;omega
theorem Vj(hl: ∀a∈l,LB a): ∀p∈qe l,aG p 4900:=fun p hp=>by
 obtain⟨h1,h2⟩:=Gl.1 hp;have hx:BQ p.x 1900:=Jn (k:=900) (fun q hq=>Cj hl q (pB.1 hq)) _ h1;have hy:BQ p.y 4900:=Jn (k:=2400) (fun q hq=>Nv hl hx q (pB.1 hq)) _ h2;exact⟨hx.mono (by decide),hy⟩
theorem KU(h: ∀l∈ls,LB l): ∀l∈og ls,LB l:=fun l hl=>by
 obtain⟨x,hx,rfl⟩:=Dt hl;haveI:=h x hx
 infer_instance
def aDy(h: ∀l∈ls,l.ok): ∀l∈og ls,l.Ne:=fun l hl=>by
 obtain⟨x,hx,rfl⟩:=Dt hl;exact(Nb (h x hx)).ne
structure qh (a b:Tr):Prop where
 ga:a.gd
 gb:b.gd
 sa:a.size<=3000
 sb:b.size<=3000
theorem qh.lb{a b:Tr}(h:qh a b): ∀l∈a.lns++b.lns,LB l:=fun l hl=>(bW.1 hl).elim (lg.1 h.ga.lb l) (lg.1 h.gb.lb l)
def qh.ok{a b:Tr}(h:qh a b): ∀l∈a.lns++b.lns,l.ok:=fun l hl=>(bW.1 hl).elim (pA h.ga.ok l) (pA h.gb.ok l)
def qh.len{b:Tr}(h:qh a b):(a.lns++b.lns).length<=6000:=by rw[aU,tI,tI];have:=h.sa;have:=h.sb;omega
def qh.fl{b:Tr}(h:qh a b):(ow a b).length<=216072012001:=NG (cS (Q2 _) h.len)
theorem qh.fb{b:Tr}(h:qh a b): ∀p∈ow a b,aG p 4900:=Vj (KU h.lb)
def Yo{b:Tr}(hz:(ow a b)[k]? =some p)(h:kA a p≠kA b p):ue a b=false:=by
 rw[ue,List.all_eq_false];exact⟨p,aV hz,by simpa using h⟩
def ZR{b:Tr}(h: ∀j p,(ow a b)[j]? =some p->j<(ow a b).length->kA a p=kA b p):ue a b=true:=by
 rw[ue,dK];intro p hp;obtain⟨j,hj,rfl⟩:=List.getElem_of_mem hp;simpa using h j _ (aZ hj) hj
def ayI{b:Tr}(h:qh a b):PF GB prog 99 [eT a,eT b] (vB (ue a b)):=by
 have hsa:=h.sa;have hsb:=h.sb;have hll:=h.len;have hfl:=h.fl;have hla:=tI a;have hlb:=tI b;refine fn func99 J J ntmps99 J J (fun C=>?_);refine cr J (C0 (t:=a) (by omega)) J<|cr J (C0 (t:=b) (by omega)) J<|ap (hbd:=by simp only[aX];omega) ((a.lns++b.lns).map eL) J (by rw[bV]) (fP _) J<|?_;refine fz 15 J J<|cl J (Qg (ls:=a.lns++b.lns) h.lb (by omega)) J<|cl (fu:=⟨1⟩) J (ZU (l:=og (a.lns++b.lns)) (KU h.lb) (aDy h.ok) (cS (Q2 _) hll)) J<|?_;refine ak 18 (.d (vI ((ow a b).length:Nat))) J (by rw[aX];rfl) ?_;refine gx J<|?_;refine lp (X:=Nat) (fun k=>[(19, .d (vI (k:Nat)))]) (fun k=>[]) (fun k=>k<=(ow a b).length/\ ∀j q,(ow a b)[j]? =some q->j<k->kA a q=kA b q) (fun k=>(ow a b).length-k) 0 J ⟨bZ _,fun j q _ hj=>absurd hj (by omega)⟩ (fun _=>J) (fun k hk=>?_);obtain⟨k1,k2⟩:=hk;refine br J J J (fun hc20=>?_) (fun hc20=>?_)
 .
  obtain⟨p,hz⟩: ∃s,(ow a b)[k]? =some s:=⟨_,aZ (by omega)⟩;haveI hpb:=h.fb p (aV hz);refine ix _ J (cH (l:=ow a b) hz) J<|cl J (QS (t:=a) (p:=p) (i:=4900) h.ga.lb) J<|cl J (QS (t:=b) (p:=p) (i:=4900) h.gb.lb) J<|?_;refine bb J J J (fun hc37=>?_) (fun hc37=>?_)
  .
   exact rz J (by rw[Yo hz (by simpa using hc37)];rfl)
  .
   exact at_ (k+1) ⟨⟨by omega,fun j q hq hj=>by by_cases e:j=k;(subst e;rw[hz] at hq;cases hq;simpa using hc37);exact k2 j q hq (by omega)⟩,(by omega)⟩
 .
  exact rz J (by rw[ZR fun j q hq hj=>k2 j q hq (by omega)];rfl)

def aC5{l:aa}(hl:l.ok)(hm:m.ok)(h:gi l.dir m.dir=0): ∃k e:Rat,0<k/\ ∀p,m.value p=k*l.value p+e:=by
 obtain⟨h1,h2⟩:=axZ.1 h;have z1:=Fk hl;have key: ∃k:Rat,0<k/\m.dir.x=k*l.dir.x/\m.dir.y=k*l.dir.y:=by
  unfold ah.cross at h2;rcases vW l.dir with⟨e,k⟩|⟨e,k⟩|⟨e,k⟩
  .rw[e] at h1
   have k2:=qm.1 h1.symm;rcases k with k|⟨k,k'⟩
   .have y2:0<m.dir.y:=by
     rcases k2 with k2|⟨k2,k3⟩
     .exact k2
     .exfalso
      rw[k2] at h2;have:=dh k k3;grind
    refine⟨m.dir.y/l.dir.y,?_,by grind,by grind⟩;have:0<m.dir.y/l.dir.y:=(f9 k).1 (by rw[show m.dir.y/l.dir.y*l.dir.y=m.dir.y by grind];exact y2);exact this
   .rw[k] at h2
    have y2:m.dir.y=0:=by
     rcases fW.1 (show l.dir.x*m.dir.y=0 by grind) with q|q
     .rw[q] at k';exact absurd k' (by decide)
     .exact q
    have x2:0<m.dir.x:=by
     rcases k2 with k2|⟨_,k3⟩
     .rw[y2] at k2;exact absurd k2 (by decide)
     .exact k3
    refine⟨m.dir.x/l.dir.x,(f9 k').1 (by rw[show m.dir.x/l.dir.x*l.dir.x=m.dir.x by grind];exact x2),by grind,by rw[y2,k];grind⟩
  .rw[e] at h1
   have k2:=vC.1 h1.symm;rcases k with k|⟨k,k'⟩
   .have y2:m.dir.y<0:=by
     rcases k2 with k2|⟨k2,k3⟩
     .exact k2
     .exfalso
      rw[k2] at h2;have:=dh (show 0< -l.dir.y by grind) (show 0< -m.dir.x by grind);grind
    refine⟨m.dir.y/l.dir.y,(f9 (show 0< -l.dir.y by grind)).1 (by rw[show m.dir.y/l.dir.y* -l.dir.y= -m.dir.y by grind];grind),by grind,by grind⟩
   .rw[k] at h2
    have y2:m.dir.y=0:=by
     rcases fW.1 (show l.dir.x*m.dir.y=0 by grind) with q|q
     .rw[q] at k';exact absurd k' (by decide)
     .exact q
    have x2:m.dir.x<0:=by
     rcases k2 with k2|⟨_,k3⟩
     .rw[y2] at k2;exact absurd k2 (by decide)
     .exact k3
    refine⟨m.dir.x/l.dir.x,(f9 (show 0< -l.dir.x by grind)).1 (by rw[show m.dir.x/l.dir.x* -l.dir.x= -m.dir.x by grind];grind),by grind,by rw[y2,k];grind⟩
  .exact absurd e z1
 obtain⟨k,k0,kx,ky⟩:=key;simp only[aa.dir] at kx ky;refine⟨k,(m.c:Rat)-k*(l.c:Rat),k0,fun p=>?_⟩;rw[jw,jw,kx];have:(m.a:Rat)=k*(l.a:Rat):=by grind
 rw[this];grind
def LW(hne: ∃q,bt e q){l:aa}(hl:l.ok)(hm:m.ok)(pl: ∀p,bt e p->0<l.value p)(pm: ∀p,bt e p->0<m.value p)(tl: ∃p,iA e p/\l.value p=0)(tm: ∃p,iA e p/\m.value p=0)(ha:gi l.dir m.dir=0):l=m:=by
 obtain⟨k,c,k0,hk⟩:=aC5 hl hm ha;obtain⟨p,p1,p2⟩:=tl;obtain⟨q,q1,q2⟩:=tm;have g1:=tv hne pm p1;rw[hk,p2] at g1;have g2:=tv hne pl q1;have g3:=cG (cM k0) g2;rw[hk] at q2;have c0:c=0:=by grind
 have hz: ∀t,m.value (l.at t)=0:=fun t=>by rw[hk,mj hl.ne,c0];grind
 rcases zq hm hl hz with h|h
 .exact h.symm
 .exfalso
  obtain⟨u,hu⟩:=hne;have a:=pl u hu;have b:=pm u hu;rw[h,eD] at b;grind
def Au(hc:bD c)(hs:s∈c):iA c (s.l.at s.v.sample)/\s.l.value (s.l.at s.v.sample)=0:=
 ⟨((hc.edge s hs).2 _).1 (pd (hc.edge s hs).1).has,mj (hc.ok s hs).ne _⟩
def gz(c:ar):Prop:=(c.map fun s=>s.l.dir).Pairwise en
def Jz{p:Nat->Bool}{N:Nat}(hm: ∀i j,i<=j->j<N->p j=true->p i=true): ∀(d i j:Nat),j-i<=d->i<=j->j<=N->(∀k,k<i->p k=true)->(∀k,j<=k->k<N->p k=false)->(∀k,k<f8 p i j->p k=true)/\ ∀k,f8 p i j<=k->k<N->p k=false
 |0,i,j,h,hij,hN,h1,h2=>by
  obtain rfl:i=j:=by omega
  rw[f8,dif_neg (by omega)];exact⟨h1,h2⟩
 |d+1,i,j,h,hij,hN,h1,h2=>by
  by_cases q:i<j
  .rw[f8,dif_pos q]
   by_cases r:p ((i+j)/2)=true
   .rw[if_pos r]
    exact Jz hm d _ _ (by omega) (by omega) hN (fun k hk=>hm k ((i+j)/2) (by omega) (by omega) r) h2
   .rw[if_neg r]
    refine Jz hm d _ _ (by omega) (by omega) (by omega) h1 fun k hk hkN=>?_
    cases hp:p k with
    |false=>rfl
    |true=>exact absurd (hm _ k hk hkN hp) r
  .obtain rfl:i=j:=by omega
   rw[f8,dif_neg q];exact⟨h1,h2⟩
def No{d:ah}(h:ds.Pairwise en)(h1: ∀x∈ds.take n,en x d)(h2: ∀x∈ds.drop n,en d x):(ds.take n++d::ds.drop n).Pairwise en:=by
 have hs:=h;rw[<-lZ n ds,gM] at hs;obtain⟨a,b,c⟩:=hs;rw[gM];refine⟨a,cV.2 ⟨h2,b⟩,fun x hx y hy=>?_⟩;rcases aW.1 hy with rfl|hy
 .exact h1 x hx
 .exact c x hx y hy
def KN(l:aa): ∀c:ar,((d6 l c).map fun s=>s.l.dir).Sublist (c.map fun s=>s.l.dir)
 |[]=>List.Sublist.refl _
 |s::c=>by
  rw[d6];split
  .exact(KN l c).cons_cons _
  .exact(KN l c).cons _
def OP{l:List α}{x:α}(h:x∈l.take n): ∃i,i<n/\l[i]? =some x:=by
 obtain⟨i,hi,e⟩:=mT.1 h;rw[cR] at hi;exact⟨i,by omega,by rw[List.getElem_take] at e;rw[aZ (by omega),e]⟩
def NJ{l:List α}{x:α}(h:x∈l.drop n): ∃i,n<=i/\i<l.length/\l[i]? =some x:=by
 obtain⟨i,hi,e⟩:=mT.1 h;rw[gL] at hi;exact⟨n+i,by omega,by omega,by rw[List.getElem_drop] at e;rw[aZ (by omega),e]⟩
def Ge{l:aa}(hc:bD c)(hl:l.ok)(ha:gz c)(hb:co c l=true):gz (bC c l):=by
 have hg:=(gt hc hl hb).1;unfold bC at hg⊢
 cases hp:kw c l with
 |none=>exact ha
 |some v=>
  simp only[hp] at hg⊢;have hs:gz (d6 l c):=ha.sublist (KN l c);have nt: ∀s∈d6 l c,gi s.l.dir l.dir≠0:=fun s h e=>by
   have m1:s∈l5 (d6 l c) l v:=ry.2 (.inr h);have m2:(⟨l,v⟩:bz)∈l5 (d6 l c) l v:=ry.2 (.inl J);have ee:=LW hg.ne (hg.ok s m1) hl (fun p hp=>hp s m1) (fun p hp=>hp ⟨l,v⟩ m2) ⟨_,Au hg m1⟩ ⟨_,Au hg m2⟩ e;obtain⟨s0,g1,_,rfl⟩:=ta.1 h;obtain⟨_,q,q1,q2⟩:=Il hl.ne hp;have h5:=q1 s0 g1;have e5:s0.l=l:=ee;rw[e5] at h5;grind
  generalize d6 l c=d at*;have hmo: ∀i j,i<=j->j<d.length->ji d l j=true->ji d l i=true:=fun i j hij hj h=>by
   unfold ji at h⊢;rw[aZ hj] at h;rw[aZ (by omega)];simp only[decide_eq_true_eq,Af] at h⊢;by_cases q:i=j
   .subst q;exact h
   .have:=qM.1 hs i j (by simp;omega) (by simp;omega) (by omega)
    simp only[qY] at this;exact Cb this h
  obtain⟨k1,k2⟩:=Jz hmo d.length 0 d.length (by omega) (by omega) (bX _) (fun k h=>absurd h (by omega)) (fun k h h'=>absurd h' (by omega));unfold l5 gz;generalize f8 (ji d l) 0 d.length=n at*;rw[bV,bT,iL,jZ];refine No hs (fun x hx=>?_) (fun x hx=>?_)
  .rw[<-iL] at hx
   obtain⟨s,h1,rfl⟩:=aT.1 hx;obtain⟨i,hi,e⟩:=OP h1;have:=k1 i hi;unfold ji at this;rw[e] at this;simpa[Af] using this
  .rw[<-jZ] at hx
   obtain⟨s,h1,rfl⟩:=aT.1 hx;obtain⟨i,hi,hi2,e⟩:=NJ h1;have:=k2 i hi hi2;unfold ji at this;rw[e] at this;have h3: ¬en s.l.dir l.dir:=by simpa[Af] using this
   by_cases q:en l.dir s.l.dir
   .exact q
   .exact absurd (R7 h3 q) (nt s (gN h1))
def Je: ∀{t:Tr} {c:ar},t.all aa.ok->bD c->gz c-> ∀x∈t.parts c,gz x.2
 | .leaf b,c,_,_,ha,x,h=>by
  rw[Tr.parts,aS] at h;subst h;exact ha
 | .node l u v,c,ht,hc,ha,x,h=>by
  rw[Tr.parts] at h;rcases bW.1 h with h|h
  .split at h
   .rename_i hb
    exact Je ht.2.1 (gt hc ht.1 hb).1 (Ge hc ht.1 ha hb) x h
   .cases h
  .split at h
   .rename_i hb
    exact Je ht.2.2 (gt hc ht.1.rev hb).1 (Ge hc ht.1.rev ha hb) x h
   .cases h
def uI(c:List aa):Prop:=(c.map aa.dir).Pairwise en
def IP{c:List aa}(hs: ∀s∈e,s.l∈c){l:aa}(hl:l.ok)(he:(gc l c ao.all).isSome=true): ∃w:ao,w.Pos/\ ∀t,w.ins t->iA e (l.at t)/\l.value (l.at t)=0/\ ∀m∈c,m≠l->0<m.value (l.at t):=by
 obtain⟨w,hw⟩:=rX.1 he;obtain⟨h1,h2⟩:=Dd l c _ w xv hw;refine⟨w,h1,fun t ht=>?_⟩;have h3:=((h2 t).1 ht).2;refine⟨fun s hs'=>?_,mj hl.ne t,h3⟩;by_cases q:s.l=l
 .rw[q,mj hl.ne];exact iS
 .exact cM (h3 _ (hs s hs') q)
def Of{α:Type}{p:α->Bool}: ∀(l:List α),(∀i x,i<(l.takeWhile p).length->l[i]? =some x->p x=true)/\ ∀x,l[(l.takeWhile p).length]? =some x->p x=false
 |[]=>⟨fun i x h _=>by simp at h,fun x h=>by simp at h⟩
 |a::l=>by
  obtain⟨h1,h2⟩:=Of (p:=p) l;rw[oL]
  cases ha:p a with
  |false=>
   refine⟨fun i x h _=>by simp at h,fun x h=>?_⟩;simp at h;rw[<-h];exact ha
  |true=>
   simp only[if_true,bJ];refine⟨fun i x h e=>?_,fun x h=>h2 x (by simpa using h)⟩
   cases i with
   |zero=>simp at e;rw[<-e];exact ha
   |succ i=>exact h1 i x (by omega) (by simpa using e)
def Zt{l:aa}(ha:uI out)(ht: ∀m∈out,gi m.dir l.dir=0->m=l):uI (pO out l):=by
 unfold pO;split
 .exact ha
 .rename_i hne
  obtain⟨k1,k2⟩:=Of (p:=fun x:aa=>decide (gi x.dir l.dir<0)) out;have e0:nO out l=(out.takeWhile fun x=>decide (gi x.dir l.dir<0)).length:=J;rw[<-e0] at k1 k2;generalize nO out l=n at*;unfold uI;rw[bV,bT,iL,jZ];refine No ha (fun x hx=>?_) (fun x hx=>?_)
  .rw[<-iL] at hx
   obtain⟨m,h1,rfl⟩:=aT.1 hx;obtain⟨i,hi,e⟩:=OP h1;simpa[Af] using k1 i m hi e
  .rw[<-jZ] at hx
   obtain⟨m,h1,rfl⟩:=aT.1 hx;obtain⟨i,hi,hi2,e⟩:=NJ h1;have hn:n<out.length:=by omega
   have h3: ¬en (out[n]).dir l.dir:=by simpa[Af] using k2 _ (aZ hn)
   have h4:en l.dir (out[n]).dir:=by
    by_cases q:en l.dir (out[n]).dir
    .exact q
    .exact absurd (by rw[aZ hn,ht _ (cN hn) (R7 h3 q)]) hne
   by_cases q:i=n
   .subst q
    rw[aZ hn] at e
    cases e
    exact h4
   .have:=qM.1 ha n i (by simp;omega) (by simp;omega) (by omega)
    simp only[qY] at this;rw[aZ hi2] at e
    cases e
    exact Cb h4 this
def Jj{c:List aa}(ht: ∀l∈c,∀m∈c,(gc l c ao.all).isSome=true->(gc m c ao.all).isSome=true->gi m.dir l.dir=0->m=l): ∀{t out:List aa},(∀l∈t,l∈c)->(∀m∈out,m∈c/\(gc m c ao.all).isSome=true)->uI out->uI (n0 c t out)
 |[],out,_,_,ha=>ha
 |l::t,out,hc,ho,ha=>by
  have hl:=hc l aQ;rw[n0];by_cases q:(gc l c ao.all).isSome=true
  .rw[if_pos q]
   refine Jj ht (fun l h=>hc l (aJ _ h)) (fun m hm=>?_) (Zt ha fun m hm e=>ht l hl m (ho m hm).1 q (ho m hm).2 e);rcases IT.1 hm with rfl|h
   .exact⟨hl,q⟩
   .exact ho m h
  .rw[if_neg q]
   exact Jj ht (fun l h=>hc l (aJ _ h)) ho ha
def ath{c:List aa}(hok: ∀l∈c,l.ok)(hne: ∃p,gh c p):uI (iO c):=by
 obtain⟨e,_,hg,hi,hs⟩:=E' hok hne;refine Jj (fun l hl m hm el em h=>?_) (fun l h=>h) (fun m h=>by cases h) .nil;obtain⟨w1,p1,k1⟩:=IP (fun s h=>(hs s h).1) (hok l hl) el;obtain⟨w2,p2,k2⟩:=IP (fun s h=>(hs s h).1) (hok m hm) em;obtain⟨a1,a2,_⟩:=k1 _ (pd p1);obtain⟨b1,b2,_⟩:=k2 _ (pd p2);exact LW hg.ne (hok m hm) (hok l hl) (fun p hp=>(hi p).1 hp m hm) (fun p hp=>(hi p).1 hp l hl) ⟨_,b1,b2⟩ ⟨_,a1,a2⟩ h
def Rh{v:ao}{t u:Rat}(h:v.ins t)(k:v.has u):v.ins ((t+u)*(1/2)):=by
 obtain⟨lo,hi,nl,nh⟩:=v;unfold ao.ins at*;unfold ao.has at k
 cases nl<;>cases nh<;>simp at* <;>grind
def C9(hc: ∃q,bt c q)(h: ∀p,bt c p↔bt d p)(hp:iA c p):iA d p:=fun s hs=>tv hc (fun q hq=>(h q).1 hq s hs) hp
def awr{c:List aa}(hok: ∀l∈c,l.ok)(hd:bD d)(h: ∀p,bt d p↔gh c p)(l:aa):l∈d.map (·.l)↔l∈iO c:=by
 have hne: ∃p,gh c p:=hd.ne.elim fun q hq=>⟨q,(h q).1 hq⟩;obtain⟨e,_,hg,hi,hs⟩:=E' hok hne;have hde: ∀p,bt d p↔bt e p:=fun p=>by rw[h,hi]
 constructor
 .intro hl
  obtain⟨s,k,rfl⟩:=aT.1 hl;obtain⟨t1,t2⟩:=Au hd k;have t3:=C9 hd.ne hde t1;have: ¬bt e (s.l.at s.v.sample):=fun q=>by
   have:=(hde _).2 q s k;rw[t2] at this;exact absurd this (by decide)
  obtain⟨u,hu,hz⟩: ∃u∈e,u.l.value (s.l.at s.v.sample)=0:=by
   by_cases q: ∃u∈e,u.l.value (s.l.at s.v.sample)=0
   .exact q
   .exfalso
    refine this fun u hu=>?_;have g1:=t3 u hu;have g2:u.l.value (s.l.at s.v.sample)≠0:=fun e=>q ⟨u,hu,e⟩;grind
  have:=Ny hd k (hg.ok u hu) (fun p hp=>(hde p).1 hp u hu) hz;rw[<-this];exact uH.2 (hs u hu)
 .intro hl
  obtain⟨l1,l2⟩:=uH.1 hl;obtain⟨w,p1,k1⟩:=IP (fun s h=>(hs s h).1) (hok l l1) l2;have hed: ∀p,bt e p↔bt d p:=fun p=>(hde p).symm;have hi1:=pd p1;obtain⟨⟨u1,m1,n1⟩,⟨u2,m2,n2⟩⟩:=FL hi1;have g1:=Rh hi1 n1;have g2:=Rh hi1 n2;obtain⟨c0,c1,_⟩:=k1 _ hi1;have c2:=C9 hg.ne hed c0;have: ¬bt d (l.at w.sample):=fun q=>by
   have:=(h _).1 q l l1;rw[c1] at this;exact absurd this (by decide)
  obtain⟨s,hsd,hz⟩: ∃s∈d,s.l.value (l.at w.sample)=0:=by
   by_cases q: ∃u∈d,u.l.value (l.at w.sample)=0
   .exact q
   .exfalso
    refine this fun u hu=>?_;have g1:=c2 u hu;have g2:u.l.value (l.at w.sample)≠0:=fun e=>q ⟨u,hu,e⟩;grind
  have e1:=C9 hg.ne hed (k1 _ g1).1 s hsd;have e2:=C9 hg.ne hed (k1 _ g2).1 s hsd;rw[mC] at hz e1 e2;have hK:l.cutK s.l=0:=by
   rcases kE (l.cutK s.l) with h|h|h
   .exact h
   .exfalso
    have:=dh (a:=w.sample-u1) (b:=l.cutK s.l) (by grind) h;grind
   .exfalso
    have:=dh (a:=u2-w.sample) (b:= -l.cutK s.l) (by grind) (by grind);grind
  have hz2: ∀t,s.l.value (l.at t)=0:=fun t=>by rw[mC,hK];rw[hK] at hz;grind
  rcases zq (hd.ok s hsd) (hok l l1) hz2 with q|q
  .rw[<-q];exact dX hsd
  .exfalso
   obtain⟨u,hu⟩:=hd.ne;have a:=hu s hsd;have b:=(h u).1 hu l l1;rw[q,eD] at a;grind
def S9: ∀{l m:List aa},uI l->uI m->(∀x,x∈l↔x∈m)->l=m
 |[],[],_,_,_=>rfl
 |[],b::m,_,_,h=>absurd ((h b).2 aQ) (by simp)
 |a::l,[],_,_,h=>absurd ((h a).1 aQ) (by simp)
 |a::l,b::m,h1,h2,h=>by
  obtain⟨p1,p2⟩:=cV.1 h1;obtain⟨q1,q2⟩:=cV.1 h2;have p1': ∀x∈l,en a.dir x.dir:=fun x hx=>p1 _ (dX hx);have q1': ∀x∈m,en b.dir x.dir:=fun x hx=>q1 _ (dX hx);have e:a=b:=by
   rcases aW.1 ((h a).1 aQ) with e|e
   .exact e
   .rcases aW.1 ((h b).2 aQ) with f|f
    .exact f.symm
    .exact(BJ (q1' a e) (p1' b f)).elim
  subst e;congr 1;refine S9 p2 q2 fun x=>⟨fun hx=>?_,fun hx=>?_⟩
  .rcases aW.1 ((h x).1 (aJ _ hx)) with e|e
   .subst e;exact(xm _ (p1' _ hx)).elim
   .exact e
  .rcases aW.1 ((h x).2 (aJ _ hx)) with e|e
   .subst e;exact(xm _ (q1' _ hx)).elim
   .exact e
def VG{c:List aa}(hok: ∀l∈c,l.ok)(hd:bD d)(ha:gz d)(h: ∀p,bt d p↔gh c p):iO c=d.map (·.l):=by
 refine S9 (ath hok (hd.ne.elim fun q hq=>⟨q,(h q).1 hq⟩)) ?_ fun x=>(awr hok hd h x).symm;unfold uI;rw[List.map_map];exact ha
def Rd(hc:bD c)(hs:s∈c)(h:s.v.nh=true): ∀u∈c,0<=u.l.nor.dot s.l.dir:=fun u hu=>by
 obtain⟨p1,p2⟩:=hc.edge s hs;have hi:=(pd p1).has;have key: ∀n:Rat,0<=n->0<=u.l.value (s.l.at (s.v.sample+n)):=fun n hn=>((p2 _).1 ⟨hi.1.imp id fun q=>by grind, .inl h⟩) u hu;have h0:=key 0 (by decide);rw[mC] at h0;by_cases q:0<=u.l.nor.dot s.l.dir
 .exact q
 .exfalso
  have q':0< -(s.l.cutK u.l):=by unfold aa.cutK;grind
  have h1:=key ((s.l.cutC u.l+s.v.sample*s.l.cutK u.l+1)/ -(s.l.cutK u.l)) (by
   have:=(f9 (s:=(s.l.cutC u.l+s.v.sample*s.l.cutK u.l+1)/ -(s.l.cutK u.l)) q').1 (by rw[show(s.l.cutC u.l+s.v.sample*s.l.cutK u.l+1)/ -(s.l.cutK u.l)* -(s.l.cutK u.l)=s.l.cutC u.l+s.v.sample*s.l.cutK u.l+1 by grind];grind);grind)
  rw[mC] at h1;have:(s.l.cutC u.l+s.v.sample*s.l.cutK u.l+1)/ -(s.l.cutK u.l)*s.l.cutK u.l= -(s.l.cutC u.l+s.v.sample*s.l.cutK u.l+1):=by grind
  grind
def X5(hc:bD c)(hs:s∈c)(h:s.v.nl=true): ∀u∈c,u.l.nor.dot s.l.dir<=0:=fun u hu=>by
 obtain⟨p1,p2⟩:=hc.edge s hs;have hi:=(pd p1).has;have key: ∀n:Rat,0<=n->0<=u.l.value (s.l.at (s.v.sample-n)):=fun n hn=>((p2 _).1 ⟨.inl h,hi.2.imp id fun q=>by grind⟩) u hu;have h0:=key 0 (by decide);rw[mC] at h0;by_cases q:u.l.nor.dot s.l.dir<=0
 .exact q
 .exfalso
  have q':0<s.l.cutK u.l:=by unfold aa.cutK;grind
  have h1:=key ((s.l.cutC u.l+s.v.sample*s.l.cutK u.l+1)/s.l.cutK u.l) (by
   have:=(f9 (s:=(s.l.cutC u.l+s.v.sample*s.l.cutK u.l+1)/s.l.cutK u.l) q').1 (by rw[show(s.l.cutC u.l+s.v.sample*s.l.cutK u.l+1)/s.l.cutK u.l*s.l.cutK u.l=s.l.cutC u.l+s.v.sample*s.l.cutK u.l+1 by grind];grind);grind)
  rw[mC] at h1;have:(s.l.cutC u.l+s.v.sample*s.l.cutK u.l+1)/s.l.cutK u.l*s.l.cutK u.l=s.l.cutC u.l+s.v.sample*s.l.cutK u.l+1:=by grind
  grind
def Ze(k:Rat):0<=Int.sign k.num↔0<=k:=by
 have h1:=Kh k;constructor<;>intro h
 .by_cases q:0<=k
  .exact q
  .exact absurd (h1.2 (by grind)) (by omega)
 .by_cases q:0<=Int.sign k.num
  .exact q
  .exact absurd (h1.1 (by omega)) (by grind)
def CG:aa:=⟨1,0,0⟩
def sC(c:List aa)(i:Nat):List ah:=
 if 0<Int.sign ((c.getD i CG).dir.cross (c.getD ((i+1)%c.length) CG).dir).num then [di (c.getD i CG) (c.getD ((i+1)%c.length) CG)] else []
def jC(c:List aa):List ah:=(List.range c.length).flatMap (sC c)
def wi{c:List aa}{l:aa}(h1:c[i]? =some l)(h2:c[(i+1)%c.length]? =some m):sC c i=if 0<Int.sign (l.dir.cross m.dir).num then [di l m] else []:=by
 unfold sC;rw[aK,aK,h1,h2];rfl
def Ic(c:List aa)(k:Nat):(List.range (k+1)).flatMap (sC c)=(List.range k).flatMap (sC c)++sC c k:=by
 rw[pM,tY];simp
def FG(c:List aa): ∀k,((List.range k).flatMap (sC c)).length<=k
 |0=>bX _
 |k+1=>by
  have:=FG c k;have h2:(sC c k).length<=1:=by unfold sC;split<;>simp
  rw[Ic,aU];omega
def XG{c:List aa}(h:p∈jC c): ∃l∈c,∃m∈c,p=di l m:=by
 obtain⟨i,hi,hp⟩:=iU.1 h;have hi':=kQ.1 hi;have e1:=aZ hi';have e2:=aZ (l:=c) (dV (i+1) (show 0<c.length by omega));rw[wi e1 e2] at hp;split at hp
 .exact⟨_,cN _,_,cN _,aS.1 hp⟩
 .cases hp
def Vc(ht:t.all aa.ok): ∀c∈eu t,bD c:=fun c hc=>(CD ht bD.nil (uG.1 hc)).1
def gh.open{c:List aa}{q:ah}(u:ah)(h:gh c q): ∃e:Rat,0<e/\ ∀d,0<=d->d<=e->gh c (cD q u d):=by
 have hd:bt (c.map fun m=>(⟨m,ao.all⟩:bz)) q:=fun s hs=>by
  obtain⟨m,hm,rfl⟩:=aT.1 hs;exact h m hm
 obtain⟨e,he,ho⟩:=hd.open u;exact⟨e,he,fun d d0 d1 m hm=>ho d d0 d1 ⟨m,ao.all⟩ (dX hm)⟩
def Dc(l:aa)(t u:Rat):l.at (t+u)=cD (l.at t) l.dir u:=by
 rw[<-yl,<-yl];unfold cD;simp only[ah.mk.injEq];constructor<;>grind
def Jp(a:Int)(h:g∣a.natAbs):(g:Int)*zv (decide (a<0)) (a.natAbs/g)=a:=by
 obtain⟨k,hk⟩:=h;by_cases g0:g=0
 .subst g0;simp at hk⊢;omega
 have e:a.natAbs/g=k:=by rw[hk];exact rN k (iK g0)
 rw[e];unfold zv;have hc:((g*k:Nat):Int)=(g:Int)*(k:Int):=by push_cast;rfl
 by_cases n:a<0
 .simp only[n,decide_true,if_true];rw[Int.mul_neg];omega
 .simp only[n,decide_false];show(g:Int)*(k:Int)=a;omega
def YZ{a b c:Int}(h: ¬(a=0/\b=0)): ∃g:Int,0<g/\g*(py a b c).a=a/\g*(py a b c).b=b/\g*(py a b c).c=c:=by
 have hg:0<Nat.gcd (Nat.gcd a.natAbs b.natAbs) c.natAbs:=mL _ (iK fun e=>h ⟨kX.1 (mZ e),kX.1 (lM e)⟩);refine⟨(Nat.gcd (Nat.gcd a.natAbs b.natAbs) c.natAbs:Nat),by omega,?_,?_,?_⟩
 .exact Jp a (rW (kS _ _) (kS _ _))
 .exact Jp b (rW (kS _ _) (lL _ _))
 .exact Jp c (lL _ _)
def Ie: ∀(c:ar) (A B:bz->Rat),(∀u∈c,0<=A u/\(0<=B u\/0<A u))-> ∃e:Rat,0<e/\ ∀u∈c,0<=A u+e*B u
 |[],_,_,_=>⟨1,by decide,fun u hu=>by cases hu⟩
 |s::t,A,B,h=>by
  obtain⟨e,e0,he⟩:=Ie t A B fun u hu=>h u (aJ _ hu);obtain⟨h1,h2⟩:=h s aQ;have hold: ∀q,0<=q->q<=e-> ∀u∈t,0<=A u+q*B u:=fun q q0 q1 u hu=>KJ (h u (aJ _ hu)).1 (he u hu) q0 q1;by_cases hb:0<=B s
  .refine⟨e,e0,fun u hu=>?_⟩
   rcases aW.1 hu with rfl|hu
   .have:=cG (cM e0) hb;grind
   .exact he u hu
  .have ha:=h2.resolve_left hb
   have hq:0<A s/ -(B s):=(f9 (k:= -(B s)) (by grind)).1 (by rw[show A s/ -(B s)* -(B s)=A s by grind];exact ha);have hm:A s/ -(B s)* -(B s)=A s:=by grind
   generalize A s/ -(B s)=q at*;by_cases k:q<=e
   .refine⟨q,hq,fun u hu=>?_⟩
    rcases aW.1 hu with rfl|hu
    .grind
    .exact hold q (cM hq) k u hu
   .refine⟨e,e0,fun u hu=>?_⟩
    rcases aW.1 hu with rfl|hu
    .have:=cG (show 0<=q-e by grind) (show 0<= -(B u) by grind)
     grind
    .exact he u hu
def Hr(l m:aa)(t e:Rat):m.value (l.at (t+e))=m.value (l.at t)+e*m.nor.dot l.dir:=by
 rw[Dc,jF]
def IW(h:s.v.Pos)(nh:s.v.nh=false):s.v.has s.v.hi:=by
 unfold ao.Pos at h;refine⟨?_, .inr iS⟩;rcases h with h|h|h
 .exact .inl h
 .rw[nh] at h;cases h
 .exact .inr (cM h)
def O9(h:s.v.Pos)(nl:s.v.nl=false):s.v.has s.v.lo:=by
 unfold ao.Pos at h;refine⟨.inr iS,?_⟩;rcases h with h|h|h
 .rw[nl] at h;cases h
 .exact .inl h
 .exact .inr (cM h)
def aCE(hc:bD c)(hs:s∈c)(nh:s.v.nh=false): ∃u∈c,u.l.value (s.l.at s.v.hi)=0/\u.l.nor.dot s.l.dir<0:=by
 obtain⟨p1,p2⟩:=hc.edge s hs;have hin:=(p2 _).1 (IW p1 nh);by_cases q: ∃u∈c,u.l.value (s.l.at s.v.hi)=0/\u.l.nor.dot s.l.dir<0
 .exact q
 .exfalso
  obtain⟨e,e0,he⟩:=Ie c (fun u=>u.l.value (s.l.at s.v.hi)) (fun u=>u.l.nor.dot s.l.dir) fun u hu=>by
   have h1:=hin u hu;refine⟨h1,?_⟩;by_cases k:0<=u.l.nor.dot s.l.dir
   .exact .inl k
   .right
    by_cases z:u.l.value (s.l.at s.v.hi)=0
    .exact absurd ⟨u,hu,z,by grind⟩ q
    .grind
  have hh:=(p2 (s.v.hi+e)).2 fun u hu=>by rw[Hr];exact he u hu
  have:=hh.2;rw[nh] at this;rcases this with z|z
  .cases z
  .grind
def UG(hc:bD c)(hs:s∈c)(nl:s.v.nl=false): ∃u∈c,u.l.value (s.l.at s.v.lo)=0/\0<u.l.nor.dot s.l.dir:=by
 obtain⟨p1,p2⟩:=hc.edge s hs;have hin:=(p2 _).1 (O9 p1 nl);by_cases q: ∃u∈c,u.l.value (s.l.at s.v.lo)=0/\0<u.l.nor.dot s.l.dir
 .exact q
 .exfalso
  obtain⟨e,e0,he⟩:=Ie c (fun u=>u.l.value (s.l.at s.v.lo)) (fun u=> -(u.l.nor.dot s.l.dir)) fun u hu=>by
   have h1:=hin u hu;refine⟨h1,?_⟩;by_cases k:0<= -(u.l.nor.dot s.l.dir)
   .exact .inl k
   .right
    by_cases z:u.l.value (s.l.at s.v.lo)=0
    .exact absurd ⟨u,hu,z,by grind⟩ q
    .grind
  have hh:=(p2 (s.v.lo+ -e)).2 fun u hu=>by rw[Hr];have:=he u hu;grind
  have:=hh.1;rw[nl] at this;rcases this with z|z
  .cases z
  .grind
def M3(h:ds.Pairwise en){s:ah}(hs:ds[i]? =some s)(hw:ds[(i+1)%ds.length]? =some w):x6 ds s w:=by
 obtain⟨hi,rfl⟩:=aY.1 hs;obtain⟨hj,rfl⟩:=aY.1 hw;have hp:=qM.1 h;by_cases e:i+1<ds.length
 .have em:(i+1)%ds.length=i+1:=gS e
  left;simp only[em];refine⟨hp i (i+1) hi e (by omega),fun d hd=>?_⟩;obtain⟨j,hj,rfl⟩:=mT.1 hd;rintro ⟨a,b⟩;rcases sJ j i with k|k|k
  .exact BJ a (hp j i hj hi k)
  .subst k;exact xm _ a
  .by_cases z:j=i+1
   .subst z;exact xm _ b
   .exact BJ b (hp (i+1) j e hj (by omega))
 .have ei:i+1=ds.length:=by omega
  have em:(i+1)%ds.length=0:=by rw[ei,Nat.mod_self]
  right;simp only[em];refine⟨fun d hd a=>?_,fun d hd b=>?_⟩
  .obtain⟨j,hj,rfl⟩:=mT.1 hd
   by_cases k:j=i
   .subst k;exact xm _ a
   .exact BJ a (hp j i hj hi (by omega))
  .obtain⟨j,hj,rfl⟩:=mT.1 hd
   by_cases k:j=0
   .subst k;exact xm _ b
   .exact BJ b (hp 0 j (by omega) hj (by omega))
def X9{s:ah}(hs:s.half≠0)(hw:w.half≠0)(hu:u.half≠0)(h1:0<s.cross u)(h2:0<u.cross w)(h3:0<s.cross w)(e:s.half=w.half):u.half=s.half:=by
 rcases pn hs with k|k
 .rw[k] at e⊢
  have a:=qm.1 k;have b:=qm.1 e.symm;rw[qm];unfold ah.cross at*
  -- u is CK s and w
  have i1:(s.x*w.y-s.y*w.x)*u.y=(u.x*w.y-u.y*w.x)*s.y+(s.x*u.y-s.y*u.x)*w.y:=by grind
  have i2:(s.x*w.y-s.y*w.x)*u.x=(u.x*w.y-u.y*w.x)*s.x+(s.x*u.y-s.y*u.x)*w.x:=by grind
  have y0:0<=s.y:=by grind
  have y1:0<=w.y:=by grind
  have m1:=cG (cM h2) y0;have m2:=cG (cM h1) y1;have uy:0<=u.y:=(iv h3).1 (by grind);by_cases z:0<u.y
  .exact .inl z
  .right
   have z0:u.y=0:=by grind
   have i3:(u.x*w.y-u.y*w.x)*s.y+(s.x*u.y-s.y*u.x)*w.y=0:=by rw[<-i1,z0];grind
   have A0:(u.x*w.y-u.y*w.x)*s.y=0:=by generalize (u.x*w.y-u.y*w.x)*s.y=A at*;generalize (s.x*u.y-s.y*u.x)*w.y=B at*;grind
   have B0:(s.x*u.y-s.y*u.x)*w.y=0:=by grind
   have n1:s.y=0:=by
    rcases fW.1 A0 with q|q
    .grind
    .exact q
   have n2:w.y=0:=by
    rcases fW.1 B0 with q|q
    .grind
    .exact q
   rw[n1,n2] at h3;grind
 .rw[k] at e⊢
  have a:=vC.1 k;have b:=vC.1 e.symm;rw[vC];unfold ah.cross at*;have i1:(s.x*w.y-s.y*w.x)*u.y=(u.x*w.y-u.y*w.x)*s.y+(s.x*u.y-s.y*u.x)*w.y:=by grind
  have y0:0<= -s.y:=by grind
  have y1:0<= -w.y:=by grind
  have m1:=cG (cM h2) y0;have m2:=cG (cM h1) y1;have uy:0<= -u.y:=(iv h3).1 (by grind);by_cases z:u.y<0
  .exact .inl z
  .right
   have z0:u.y=0:=by grind
   have i3:(u.x*w.y-u.y*w.x)*s.y+(s.x*u.y-s.y*u.x)*w.y=0:=by rw[<-i1,z0];grind
   have m3:(u.x*w.y-u.y*w.x)* -s.y= -((u.x*w.y-u.y*w.x)*s.y):=by grind
   have m4:(s.x*u.y-s.y*u.x)* -w.y= -((s.x*u.y-s.y*u.x)*w.y):=by grind
   rw[m3] at m1;rw[m4] at m2;have A0:(u.x*w.y-u.y*w.x)*s.y=0:=by generalize (u.x*w.y-u.y*w.x)*s.y=A at*;generalize (s.x*u.y-s.y*u.x)*w.y=B at*;grind
   have B0:(s.x*u.y-s.y*u.x)*w.y=0:=by grind
   have n1:s.y=0:=by
    rcases fW.1 A0 with q|q
    .grind
    .exact q
   have n2:w.y=0:=by
    rcases fW.1 B0 with q|q
    .grind
    .exact q
   rw[n1,n2] at h3;grind
def Un(nz: ∀d∈ds,d.half≠0){s:ah}(hs:s∈ds)(hu:u∈ds)(hw:w∈ds)(hn:x6 ds s w)(h1:0<s.cross u)(h2:0<u.cross w)(h3:0<s.cross w):False:=by
 have zs:=pn (nz s hs);have zu:=pn (nz u hu);have zw:=pn (nz w hw);rcases hn with⟨b,no⟩|⟨n1,n2⟩
 .by_cases e:s.half=w.half
  .have e2:=X9 (nz s hs) (nz w hw) (nz u hu) h1 h2 h3 e
   exact no u hu ⟨.inr ⟨e2.symm,h1⟩, .inr ⟨by omega,h2⟩⟩
  .have e1:s.half=1/\w.half=2:=by
    rcases b with b|⟨b,_⟩
    .omega
    .exact absurd b e
   rcases zu with k|k
   .exact no u hu ⟨.inr ⟨by omega,h1⟩, .inl (by omega)⟩
   .exact no u hu ⟨.inl (by omega), .inr ⟨by omega,h2⟩⟩
 .have a:=n1 u hu
  have b:=n2 u hu;have a1: ¬s.half<u.half:=fun k=>a (.inl k);have a2:s.half≠u.half:=fun k=>a (.inr ⟨k,h1⟩);have b1: ¬u.half<w.half:=fun k=>b (.inl k);have b2:u.half≠w.half:=fun k=>b (.inr ⟨k,h2⟩);omega
def SW{n:ah}(hu:u.half≠0)(hw:w.half≠0)(hn:n.half≠0)(e1:w.half=u.half)(e2:u.half=n.half)(h1:0<u.cross n)(h2: ¬0<u.cross w):0<w.cross n:=by
 by_cases k:0<w.cross u
 .have b1:en w u:= .inr ⟨e1,k⟩
  have b2:en u n:= .inr ⟨e2,h1⟩;rcases Cb b1 b2 with q|⟨_,q⟩
  .omega
  .exact q
 .have hz:w.cross u=0:=by rw[xb] at k⊢;grind
  by_cases q:0<w.cross n
  .exact q
  .exfalso
   have b2:en u n:= .inr ⟨e2,h1⟩;by_cases q2:0<n.cross w
   .have b3:en n w:= .inr ⟨by omega,q2⟩
    rcases Cb b2 b3 with z|⟨_,z⟩
    .omega
    .exact h2 z
   .have hz2:w.cross n=0:=by rw[xb] at q2;grind
    rcases pn hw with hh|hh
    .have a:=qm.1 hh
     have b:=qm.1 (show u.half=1 by omega);have c:=qm.1 (show n.half=1 by omega);unfold ah.cross at*;have j1:w.x*(u.x*n.y-u.y*n.x)=0:=by grind
     have j2:w.y*(u.x*n.y-u.y*n.x)=0:=by grind
     rcases fW.1 j1 with z|z
     .rcases fW.1 j2 with z2|z2<;>grind
     .grind
    .have a:=vC.1 hh
     unfold ah.cross at*;have j1:w.x*(u.x*n.y-u.y*n.x)=0:=by grind
     have j2:w.y*(u.x*n.y-u.y*n.x)=0:=by grind
     rcases fW.1 j1 with z|z
     .rcases fW.1 j2 with z2|z2<;>grind
     .grind
def Yv(nz: ∀d∈ds,d.half≠0){s:ah}(hs:s∈ds)(hu:u∈ds)(hw:w∈ds)(hn:x6 ds s w)(h1:0<s.cross u):0<s.cross w:=by
 have zs:=pn (nz s hs);have zu:=pn (nz u hu);have zw:=pn (nz w hw);have hneg:=azg (nz s hs);have hnz:(bG s).half≠0:=by omega
 have e1:u.cross (bG s)=s.cross u:=by rw[Pt,xb s u];grind
 have e2:w.cross (bG s)=s.cross w:=by rw[Pt,xb s w];grind
 rcases hn with⟨b,no⟩|⟨n1,n2⟩
 .by_cases e:s.half=w.half
  .rcases b with b|⟨_,b⟩
   .omega
   .exact b
  .have e3:s.half=1/\w.half=2:=by
    rcases b with b|⟨b,_⟩
    .omega
    .exact absurd b e
   have nu:=no u hu;rcases zu with k|k
   .exact absurd ⟨.inr ⟨by omega,h1⟩, .inl (by omega)⟩ nu
   .rw[<-e2]
    exact SW (nz u hu) (nz w hw) hnz (by omega) (by omega) (by rw[e1];exact h1) fun q=>nu ⟨.inl (by omega), .inr ⟨by omega,q⟩⟩
 .have a:=n1 u hu
  have b:=n2 u hu;have a1: ¬s.half<u.half:=fun k=>a (.inl k);have a2:s.half≠u.half:=fun k=>a (.inr ⟨k,h1⟩);have b1: ¬u.half<w.half:=fun k=>b (.inl k);rw[<-e2];exact SW (nz u hu) (nz w hw) hnz (by omega) (by omega) (by rw[e1];exact h1) fun q=>b (.inr ⟨by omega,q⟩)
def axJ(s u w:aa)(h p:ah):s.dir.cross u.dir*w.value p=s.dir.cross u.dir*w.value h+w.dir.cross u.dir*(s.value p-s.value h)+s.dir.cross w.dir*(u.value p-u.value h):=by
 rw[jw,jw,jw,jw,jw,jw];unfold ah.cross aa.dir;grind
def ZF(hc:bD c): ∀d∈c.map (fun s=>s.l.dir),d.half≠0:=fun d hd=>by
 obtain⟨s,hs,rfl⟩:=aT.1 hd;exact Fk (hc.ok s hs)
def LG(hc:bD c){w:bz}(hs:s∈c)(hw:w∈c)(hn:x6 (c.map fun s=>s.l.dir) s.l.dir w.l.dir)(nh:s.v.nh=false):0<s.l.dir.cross w.l.dir/\w.l.value (s.l.at s.v.hi)=0:=by
 obtain⟨u,hu,z1,z2⟩:=aCE hc hs nh;have su:0<s.l.dir.cross u.l.dir:=by rw[xb,Hx];grind
 have nz:=ZF hc;have ms:=dX (f:=fun s:bz=>s.l.dir) hs;have mu:=dX (f:=fun s:bz=>s.l.dir) hu;have mw:=dX (f:=fun s:bz=>s.l.dir) hw;have sw:=Yv nz ms mu mw hn su;refine⟨sw,?_⟩;obtain⟨p1,p2⟩:=hc.edge s hs;have hin:=(p2 _).1 (IW p1 nh);have hs0:=mj (hc.ok s hs).ne s.v.hi;have h0:=hin w hw;by_cases q:w.l.value (s.l.at s.v.hi)=0
 .exact q
 .exfalso
  have wu:0<=w.l.dir.cross u.l.dir:=by
   by_cases k:0<u.l.dir.cross w.l.dir
   .exact(Un nz ms mu mw hn su k sw).elim
   .rw[xb];grind
  obtain⟨t1,t2⟩:=Au hc hw;have e:=axJ s.l u.l w.l (s.l.at s.v.hi) (w.l.at w.v.sample);rw[t2,z1,hs0] at e;have g1:=dh su (show 0<w.l.value (s.l.at s.v.hi) by grind);have g2:=cG wu (t1 s hs);have g3:=cG (cM sw) (t1 u hu);grind
def l7(x:Bool×ar):DV:= .ag [.sl (x.2.map c7),eU (.leaf x.1)]
def ZM(l:List (Bool×ar)):cP 2 (l.map l7):=fun d hd=>by
 obtain⟨x,_,rfl⟩:=aT.1 hd;exact⟨J,J⟩
def AI: ∀(t:Tr) (c:ar),(t.parts c).length<=t.size+1
 | .leaf _,_=>bX _
 | .node l x y,c=>by
  have h1:=AI x (bC c l);have h2:=AI y (bC c l.rev);rw[Tr.parts,aU,Tr.size];split<;>split<;>(try simp only[eX])<;>omega
def Tw(hs:o.length<=1000000):PB GB prog 316 (fG [some (eU (.leaf b)),some (.sl (c.map c7)),none]) 2 367 (o.map l7) (fun w=> .v (.slice w.a w.n w.c)) ((o++Tr.parts (.leaf b) c).map l7):=by
 refine GG func316 J J ntmps316 J J (fun C=>?_);refine cl (fu:=⟨0⟩) J ql J<|?_;refine kG 12 J ?_;refine gx J<|rf J J<|MM ((o++[(b,c)]).map l7) J (by rw[bV]<;>rfl) (ZM [(b,c)]) J<|?_;exact xz J J J J
def aoW{l:aa}{x:Tr}(hl:LB l)(hlo:l.ok)(hc:ek c)(hn:c.length+(Tr.node l x y).depth<=100000)(hs:o.length+((Tr.node l x y).size+1)<=1000000)(ihx: ∀{c:ar} {o:List (Bool×ar)},ek c->c.length+x.depth<=100000->o.length+(x.size+1)<=1000000->PB GB prog 316 (fG [some (eU x),some (.sl (c.map c7)),none]) 2 367 (o.map l7) (fun w=> .v (.slice w.a w.n w.c)) ((o++Tr.parts x c).map l7))(ihy: ∀{c:ar} {o:List (Bool×ar)},ek c->c.length+y.depth<=100000->o.length+(y.size+1)<=1000000->PB GB prog 316 (fG [some (eU y),some (.sl (c.map c7)),none]) 2 367 (o.map l7) (fun w=> .v (.slice w.a w.n w.c)) ((o++Tr.parts y c).map l7)):PB GB prog 316 (fG [some (eU (.node l x y)),some (.sl (c.map c7)),none]) 2 367 (o.map l7) (fun w=> .v (.slice w.a w.n w.c)) ((o++Tr.parts (.node l x y) c).map l7):=by
 have hk1:=tq c l;have hk2:=tq c l.rev;have hd:(Tr.node l x y).depth=1+max x.depth y.depth:=J;have hz:(Tr.node l x y).size=1+x.size+y.size:=J;have hp:=AI x (bC c l);refine GG func316 J J ntmps316 J J (fun C=>?_);refine cl (fu:=⟨0⟩) J qG J<|?_;refine r5 12 J ?_;refine gx J<|cl J (HN hlo hc) J<|?_;refine bb J J J (fun hc30=>?_) (fun hc30=>?_)
 .
  have hs2:(o++x.parts (bC c l)).length+(y.size+1)<=1000000:=by rw[aU];omega
  refine cq ((o++x.parts (bC c l)).map l7) J (ihx (si hlo hc) (by omega) (by omega)) J J<|?_;refine bb J J J (fun hc38=>?_) (fun hc38=>?_)
  .
   refine cq _ J (ihy (si hlo.rev hc) (by omega) (by first|exact hs2|omega)) J J<|?_;exact xz J J J (by simp[Tr.parts,hc30,hc38])
  .
   exact xz J J J (by simp[Tr.parts,hc30,hc38])
 .
  refine bb J J J (fun hc38=>?_) (fun hc38=>?_)
  .
   refine cq _ J (ihy (si hlo.rev hc) (by omega) (by first|exact hs2|omega)) J J<|?_;exact xz J J J (by simp[Tr.parts,hc30,hc38])
  .
   exact xz J J J (by simp[Tr.parts,hc30,hc38])
def KG: ∀{t:Tr} {c:ar} {o:List (Bool×ar)},t.all LB->t.all aa.ok->ek c->c.length+t.depth<=100000->o.length+(t.size+1)<=1000000->PB GB prog 316 (fG [some (eU t),some (.sl (c.map c7)),none]) 2 367 (o.map l7) (fun w=> .v (.slice w.a w.n w.c)) ((o++Tr.parts t c).map l7)
 | .leaf _,_,_,_,_,_,_,hs=>Tw (by simp only[Tr.size] at hs;omega)
 | .node _ _ _,_,_,hb,ho,hc,hn,hs=>aoW hb.1 ho.1 hc hn hs (fun k1 k2 k3=>KG hb.2.1 ho.2.1 k1 k2 k3) (fun k1 k2 k3=>KG hb.2.2 ho.2.2 k1 k2 k3)
def axI(hb:t.all LB)(ho:t.all aa.ok)(hd:t.depth<=100000)(hs:t.size<=900000):PB GB prog 316 (fG [some (eU t),some (.sl []),none]) 2 367 [] (fun w=> .v (.slice w.a w.n w.c)) ((t.parts []).map l7):=
 KG (c:=[]) (o:=[]) hb ho ek.nil (by rw[eX];omega) (by rw[eX];omega)
def eC(c:ar):DV:= .sl (c.map c7)
def aIy(l:List ar):cP 1 (l.map eC):=fun d hd=>by
 obtain⟨x,_,rfl⟩:=aT.1 hd;exact⟨J,J⟩
def AE(ps:List (Bool×ar)):List ar:=(ps.filter (·.1)).map (·.2)
def Pc(h:ps[k]? =some (b,e)):AE (ps.drop k)=(if b then [e] else [])++AE (ps.drop (k+1)):=by
 obtain⟨h1,h2⟩:=aY.1 h;rw[bQ h1,h2];unfold AE
 cases b<;>simp
def Zx(hb:t.all LB)(ho:t.all aa.ok)(hd:t.depth<=100000)(hs:t.size<=900000):PF GB prog 260 [eU t] (.sl ((t.parts []).map l7)):=by
 refine fn func260 J J ntmps260 J J (fun C=>?_);refine cqn _ J (axI hb ho hd hs) J J<|?_;refine ir 4 J ?_;exact rz J J
def aDB(hb:t.all LB)(ho:t.all aa.ok)(hd:t.depth<=100000)(hs:t.size<=900000):PF GB prog 177 [eU t] (.sl ((eu t).map eC)):=by
 obtain⟨ps,hps⟩: ∃ps,ps=t.parts []:=⟨_,rfl⟩;have hpl:=AI t [];rw[<-hps] at hpl;have hml:(ps.map l7).length=ps.length:=aX ..;refine fn func177 J J ntmps177 J J (fun C=>?_);refine cl (fu:=⟨0⟩) J (Zx hb ho hd hs) J<|?_;refine ak 7 (.d (.sl (ps.map l7))) J (by rw[hps]) ?_;refine gx (fu:=⟨1⟩) J<|?_;refine ak 8 (.d (vI (ps.length:Nat))) J (by rw[hml]<;>rfl) ?_;refine gx J<|?_;refine nr 3 3 194 1 J J J ?_;refine lp (X:=List ar×Nat) (fun⟨acc,k⟩=>[(9, .d (vI (k:Nat))),(3, .rw 3)]) (fun⟨acc,k⟩=>[(3,some (.b 194 1 (acc.map eC) true))]) (fun⟨acc,k⟩=>acc++AE (ps.drop k)=eu t/\k<=ps.length) (fun⟨acc,k⟩=>ps.length-k) ⟨[],0⟩ J ⟨by rw[hps];rfl,bZ _⟩ (fun _=>J) (fun⟨acc,k⟩ hk=>?_)
 try dsimp only at hk⊢
 obtain⟨h1,h2⟩:=hk;have hal:acc.length<=ps.length:=by
  have q1:=congrArg List.length h1;have q2:(eu t).length<=ps.length:=by unfold eu;rw[aX,hps];exact nL ..
  rw[aU] at q1;omega
 have ham:(acc.map eC).length=acc.length:=aX ..;refine br J J J (fun hc10=>?_) (fun hc10=>?_)
 .
  obtain⟨⟨b,e⟩,hx⟩: ∃x,ps[k]? =some x:=⟨_,aZ (by omega)⟩;refine ix _ J (cH hx) J<|?_;refine bb J J J (fun hc17=>?_) (fun hc17=>?_)
  .
   refine rf J J<|ap ((acc++[e]).map eC) J (by rw[bV]<;>rfl) (aIy [e]) J<|?_;refine fH 22 3 J ?_;exact at_ ⟨acc++[e],k+1⟩ (by dsimp only;exact⟨⟨by rw[<-h1,Pc hx,if_pos hc17];simp,by omega⟩,(by omega)⟩)
  .
   exact at_ ⟨acc,k+1⟩ (by dsimp only;exact⟨⟨by rw[<-h1,Pc hx,if_neg (by simp at hc17;rw[hc17];decide)];rfl,by omega⟩,(by omega)⟩)
 .
  obtain rfl:k=ps.length:=by omega
  obtain rfl:acc=eu t:=by rw[gQ] at h1;simpa[AE] using h1
  refine ir 3 J ?_;exact rz J J
theorem BQ.samp(v:ao)(i j:Nat)[h1:BQ v.lo i][h2:BQ v.hi j]:BQ v.sample (i+j+1+2):=by
 have b1:BQ (1:Rat) 1:=⟨by decide,by decide⟩;unfold ao.sample;split
 .exact BQ.z1.mono (by omega)
 .split
  .exact(inferInstance:BQ (v.hi-1) (j+1+1)).mono (by omega)
  .split
   .exact(inferInstance:BQ (v.lo+1) (i+1+1)).mono (by omega)
   .exact inferInstance
theorem ayr(h:Od s):aG (s.l.at s.v.sample) 3500:=by
 haveI:=h.lb;haveI:=h.v.lo;haveI:=h.v.hi;have h0:BQ s.v.sample _:=BQ.samp s.v 1200 1200;have:= @aG.at s.l s.v.sample _ _ h0;exact⟨this.x.mono (by decide),this.y.mono (by decide)⟩
def W8(l m:aa):l.dir.cross m.dir=(crossI l m:Rat):=by
 unfold ah.cross aa.dir crossI;rw[iR,cW,cW];grind
def ID{l:aa}(h:0<Int.sign (l.dir.cross m.dir).num):crossI l m≠0:=fun e=>by
 rw[n7,W8,e] at h;exact absurd h (by decide)
def NA{l:aa}(h:crossI l m≠0):l.nor.cross m.nor≠0:=fun e=>by
 have:l.nor.cross m.nor=(crossI l m:Rat):=by
  unfold ah.cross aa.nor crossI;rw[iR,cW,cW];grind
 rw[this] at e;exact h (cX.1 e)
def SA{l:aa}(h:crossI l m≠0):di l m=⟨((l.b:Rat)*(m.c:Rat)-(l.c:Rat)*(m.b:Rat))/l.nor.cross m.nor,((l.c:Rat)*(m.a:Rat)-(l.a:Rat)*(m.c:Rat))/l.nor.cross m.nor⟩:=by
 have e1:(meetX l m:Rat)=(l.b:Rat)*(m.c:Rat)-(l.c:Rat)*(m.b:Rat):=by unfold meetX;rw[iR,cW,cW];grind
 have e2:(meetY l m:Rat)=(l.c:Rat)*(m.a:Rat)-(l.a:Rat)*(m.c:Rat):=by unfold meetY;rw[iR,cW,cW];grind
 have e3:(crossI l m:Rat)=l.nor.cross m.nor:=by unfold ah.cross aa.nor crossI;rw[iR,cW,cW];grind
 unfold di;rw[if_neg h,e1,e2,e3]
def C7: ∀{t:Tr} {c:ar} {x:Bool×ar},t.all LB->t.all aa.ok->ek c->x∈t.parts c->ek x.2/\x.2.length<=c.length+t.depth
 | .leaf b,c,x,_,_,hc,h=>by
  rw[Tr.parts,aS] at h;subst h;exact⟨hc,oN _ _⟩
 | .node l u v,c,x,hb,ho,hc,h=>by
  have hl:=hb.1;have hd:(Tr.node l u v).depth=1+max u.depth v.depth:=J;rw[Tr.parts] at h;rcases bW.1 h with h|h
  .split at h
   .obtain⟨k1,k2⟩:=C7 hb.2.1 ho.2.1 (si ho.1 hc) h
    have:=tq c l;exact⟨k1,by omega⟩
   .cases h
  .split at h
   .obtain⟨k1,k2⟩:=C7 hb.2.2 ho.2.2 (si ho.1.rev hc) h
    have:=tq c l.rev;exact⟨k1,by omega⟩
   .cases h
def Sg(t:Tr):(eu t).length<=t.size+1:=by
 unfold eu;rw[aX];exact cS (nL ..) (AI t [])
def IU(hb:t.all LB)(ho:t.all aa.ok): ∀c∈eu t,c.length<=t.depth:=fun c hc=>by
 have:=(C7 hb ho ek.nil (uG.1 hc)).2;simpa using this
def YH(l:List ah):cP 6 (l.map eZ):=fun d hd=>by
 obtain⟨x,_,rfl⟩:=aT.1 hd;exact⟨J,J⟩
def aDN{l:aa}[hl:LB l][hm:LB m](hz:crossI l m≠0):PF GB prog 306 [cO l,cO m] (.tp [eZ (di l m),vB true]):=by
 haveI:=aG.nor l;haveI:=aG.nor m;refine fn func306 J J ntmps306 J J (fun C=>?_);refine cl J (wj (l:=l)) J<|cl J (wj (l:=m)) J<|cl J (D5 (p:=l.nor) (q:=m.nor) (i:=97) (j:=97)) J<|cl (fu:=⟨0⟩) J (uB (q:=l.nor.cross m.nor)) J<|?_;refine ak 15 (.d (vB false)) J (by rw[decide_eq_false (NA hz)]) ?_;refine r5 15 J ?_;refine gx J<|cl J (oC (p:=(l.b:Rat)) (q:=(m.c:Rat)) (i:=97) (j:=97)) J<|cl J (oC (p:=(l.c:Rat)) (q:=(m.b:Rat)) (i:=97) (j:=97)) J<|?_;refine cl J (qE (p:=(l.b:Rat)*(m.c:Rat)) (q:=(l.c:Rat)*(m.b:Rat))) J<|cl J (Bm (p:=(l.b:Rat)*(m.c:Rat)-(l.c:Rat)*(m.b:Rat)) (q:=l.nor.cross m.nor)) J<|?_;refine cl J (oC (p:=(l.c:Rat)) (q:=(m.a:Rat)) (i:=97) (j:=97)) J<|cl J (oC (p:=(l.a:Rat)) (q:=(m.c:Rat)) (i:=97) (j:=97)) J<|?_;refine cl J (qE (p:=(l.c:Rat)*(m.a:Rat)) (q:=(l.a:Rat)*(m.c:Rat))) J<|cl J (Bm (p:=(l.c:Rat)*(m.a:Rat)-(l.a:Rat)*(m.c:Rat)) (q:=l.nor.cross m.nor)) J<|?_;exact rz J (by rw[SA hz];rfl)
def ZC(hb: ∀s∈c,LB s.l)(hn:c.length<=100000):PF GB prog 247 [eC c] (.sl ((jC (c.map (·.l))).map eZ)):=by
 have hml:(c.map c7).length=c.length:=aX ..;obtain⟨L,hL⟩: ∃L,L=c.map (·.l):=⟨_,rfl⟩;have hLl:L.length=c.length:=by rw[hL,aX]
 refine fn (fu:=⟨15⟩) func247 J J ntmps247 J J (fun C=>?_);refine ak 10 (.d (vI (c.length:Nat))) J (by rw[hml]<;>rfl) ?_;refine gx J<|?_;refine nr 3 3 122 6 J J J ?_;refine lp (X:=List ah×Nat) (fun⟨acc,k⟩=>[(11, .d (vI (k:Nat))),(3, .rw 3)]) (fun⟨acc,k⟩=>[(3,some (.b 122 6 (acc.map eZ) true))]) (fun⟨acc,k⟩=>acc=(List.range k).flatMap (sC L)/\k<=c.length) (fun⟨acc,k⟩=>c.length-k) ⟨[],0⟩ J ⟨J,bZ _⟩ (fun _=>J) (fun⟨acc,k⟩ hk=>?_)
 try dsimp only at hk⊢
 obtain⟨h1,h2⟩:=hk;have hal:=FG L k;rw[<-h1] at hal;have ham:(acc.map eZ).length=acc.length:=aX ..;refine br J J J (fun hc12=>?_) (fun hc12=>?_)
 .
  obtain⟨s,hx⟩: ∃u,c[k]? =some u:=⟨_,aZ (by omega)⟩;obtain⟨u,hw⟩: ∃w,c[(k+1)%c.length]? =some w:=⟨_,aZ (dV _ (by omega))⟩;haveI:=hb s (aV hx);haveI:=hb u (aV hw);have hxl:L[k]? =some s.l:=by rw[hL,bS,hx];rfl
  have hwl:L[(k+1)%L.length]? =some u.l:=by rw[hLl,hL,bS,hw];rfl
  refine ix (fu:=⟨13⟩) _ J (cH hx) J<|?_;refine ak 20 (.d (vI (c.length:Nat))) J (by rw[hml]<;>rfl) ?_;refine gx (fu:=⟨1⟩) J<|?_;refine ak 21 (.d (vI (((k+1)%c.length:Nat):Int))) J J ?_;refine gx J<|ix _ J (cH hw) J<|cl J (ww (l:=s.l)) J<|cl J (ww (l:=u.l)) J<|cl J (D5 (p:=s.l.dir) (q:=u.l.dir) (i:=97) (j:=97)) J<|?_;refine cl J (m8 (q:=s.l.dir.cross u.l.dir)) J<|?_;refine br J J J (fun hc32=>?_) (fun hc32=>?_)
  .
   refine cl J (aDN (l:=s.l) (m:=u.l) (ID hc32)) J<|rf J J<|ap ((acc++[di s.l u.l]).map eZ) J (by rw[bV]<;>rfl) (YH [di s.l u.l]) J<|?_;refine fH 44 3 J ?_;exact at_ ⟨acc++[di s.l u.l],k+1⟩ (by dsimp only;exact⟨⟨by rw[Ic,wi hxl hwl,if_pos hc32,<-h1],by omega⟩,(by omega)⟩)
  .
   exact at_ ⟨acc,k+1⟩ (by dsimp only;exact⟨⟨by rw[Ic,wi hxl hwl,if_neg hc32,<-h1,gK],by omega⟩,(by omega)⟩)
 .
  have hS:jC L=acc:=by unfold jC;rw[hLl,h1,show k=c.length by omega]
  refine ir 3 J ?_;exact rz J (by rw[<-hL,hS];rfl)
def L5{l:aa}(h:crossI l m≠0)(h1:l.value p=0)(h2:m.value p=0):p=di l m:=by
 rw[SA h];have hd:=NA h;rw[jw] at h1 h2;obtain⟨x,y⟩:=p;have e1:x*l.nor.cross m.nor=(l.b:Rat)*(m.c:Rat)-(l.c:Rat)*(m.b:Rat):=by unfold ah.cross aa.nor;grind
 have e2:y*l.nor.cross m.nor=(l.c:Rat)*(m.a:Rat)-(l.a:Rat)*(m.c:Rat):=by unfold ah.cross aa.nor;grind
 generalize l.nor.cross m.nor=d at*;simp only[ah.mk.injEq];constructor<;>grind
def Mn(l:aa)(t:Rat):l.at t=cD (l.at 0) l.dir t:=by rw[<-Dc];congr 1;grind
section
variable {C:aD}{Q0:Exit->Act->World->Prop}{fr fr':aC}{own own':aH}{cf cf':Cf}{vc:List Prop}{lk:LK}{bk:BM}
variable {dst:Option Nat}{t t' ty':TypeId}{pos:String}{af:Array Edge}{gd:Option (Nat×Bool)}{x y:Operand}
end
end Go.Sx
end
