import Derived.Test.YtmdgdhokaffbkaaGreatDoorMz16
set_option linter.all false
set_option maxHeartbeats 4000000
set_option maxRecDepth 100000
section
namespace Go.Sx
open Go Go.Proofs Tryz
variable {k i n g j:Nat}{l ls c:List ah}{x t y:Rat}{a b:Tr}{α β:Type}{qs cuts out:List Rat}{p u q w:aa}{m m':ah}{e d:ar}{s f:bt}{ds:List aa}{v:ao}{side:Int}
variable {GB:Gh}
def Qd(l:List Rat):gr l=s6 bB l:=by
 unfold gr s6;have key: ∀(l o:List Rat),l.foldl (fun out x=>lP x out) o=l.foldl (fun out x=>dw bB x out) o:=by
  intro l
  induction l with
  |nil=>intro o;rfl
  |cons a t ih=>intro o;rw[jN,jN,yZ,ih]
 exact key l []
def FO(l:List Rat):(gr l).length<=l.length:=by
 have:=FR bB l [];rw[Qd];simpa[s6] using this
theorem GI{l:List Rat}(h: ∀q∈l,BQ q k): ∀g∈cx l,BQ g (2*k+100):=fun g hg=>by
 cases l with
 |nil=>
  rw[cx,aY] at hg;subst hg;exact BQ.mono (k:=1) ⟨pb,pb⟩ m5
 |cons a t=>
  rw[cx] at hg;rcases aV.1 hg with rfl|hg
  .haveI:=h a aQ
   exact BQ.mono (inferInstance:BQ (a-1) _) m5
  .rcases aL.1 hg with hg|hg
   .obtain⟨c,hc,d,hd,rfl⟩:=GN hg
    haveI:=h c hc;haveI:=h d hd;exact BQ.mono (inferInstance:BQ ((c+d)/2) _) m5
   .rw[aY] at hg
    haveI:=h _ (List.getLast_mem (l:=a::t) vb);subst hg;exact BQ.mono (inferInstance:BQ ((a::t).getLast vb+1) _) m5
def wo(a:ah)(t:List ah):List Rat:=t.filterMap fun b=>if crossI a b=0 then none else some (dC a b).x
def F7(a:ah)(t:List ah):eO (a::t)=(if a.b=0 then [a.base.x] else [])++(wo a t++eO t):=rfl
def Xr(a:ah)(t:List ah):(wo a t).length<=t.length:=mN _ _
def I4: ∀l:List ah,(eO l).length<=l.length*(l.length+1)
 |[]=>bW _
 |a::t=>by
  have h1:=I4 t;have h2:=Xr a t;have h3:(if a.b=0 then [a.base.x] else []).length<=1:=by split<;>simp
  rw[F7,aU,aU,aN];have e:(t.length+1)*(t.length+1+1)=t.length*(t.length+1)+2*t.length+2:=by simp only[dV,fY];omega
  rw[e];omega
theorem Co: ∀{l:List ah},(∀a∈l,LB a)-> ∀x∈eO l,BQ x 900
 |[],_,x,h=>by cases h
 |a::t,hl,x,h=>by
  haveI:=hl a aQ;have ht: ∀b∈t,LB b:=fun b hb=>hl b (aJ _ hb);rw[F7] at h;rcases aL.1 h with h|h
  .split at h
   .rw[aY] at h;subst h;infer_instance
   .cases h
  .rcases aL.1 h with h|h
   .obtain⟨b,hb,e⟩:=kY.1 h
    haveI:=ht b hb;split at e
    .cases e
    .cases e;exact BQ.mono (inferInstance:BQ (dC a b).x 772)
   .exact Co ht x h
def Lz(l:List ah)(x:Rat):(io l x).length<=l.length:=mN _ _
theorem N4(hl: ∀a∈l,LB a)(hx:BQ x 1900): ∀y∈io l x,BQ y 2400:=fun y hy=>by
 obtain⟨a,ha,hb,rfl⟩:=LA hy;haveI:=hl a ha;unfold yA;exact BQ.mono (inferInstance:BQ (-(((a.a:Rat)*x+(a.c:Rat))/(a.b:Rat))) _) m5
def OA{a:ah}(h:l[k]? =some a):io (l.drop k) x=(if a.b=0 then [] else [yA a x])++io (l.drop (k+1)) x:=by
 obtain⟨hk,rfl⟩:=aS.1 h;rw[bV hk];unfold io;rw[rW];split<;>(rename_i e;split at e<;>simp_all)
def Py{t:List ah}{a b:ah}(h:t[k]? =some b):wo a (t.drop k)=(if crossI a b=0 then [] else [(dC a b).x])++wo a (t.drop (k+1)):=by
 obtain⟨hk,rfl⟩:=aS.1 h;rw[bV hk];unfold wo;rw[rW];split<;>(rename_i e;split at e<;>simp_all)
def Ok{a:ah}(h:l[k]? =some a):eO (l.drop k)=(if a.b=0 then [a.base.x] else [])++(wo a (l.drop (k+1))++eO (l.drop (k+1))):=by
 obtain⟨hk,rfl⟩:=aS.1 h;rw[bV hk,F7]
def yv{a b c:List α}(h:a++b=c):a.length<=c.length:=by rw[<-h,aU];omega
def yg(l:List ah)(x:Rat):List aa:=(cx (gr (io l x))).map fun y=>⟨x,y⟩
def aur(l:List ah):qP l=(cx (gr (eO l))).flatMap (yg l):=rfl
def MX(l:List ah)(x:Rat):(yg l x).length<=l.length+1:=by
 unfold yg;rw[aX,xS];have:=FO (io l x);have:=Lz l x;omega
def Ph{α β:Type}(f:α->List β)(m:Nat): ∀l:List α,(∀x,(f x).length<=m)->(l.flatMap f).length<=l.length*m
 |[],_=>by simp
 |a::t,h=>by
  have:=Ph f m t h;have:=h a;rw[kK,aU,aN,gK];omega
def PL(h:l.length<=6000):(cx (gr (eO l))).length<=36006001:=by
 have h1:=I4 l;have h2:=FO (eO l);have h3:l.length*(l.length+1)<=6000*6001:=iS h m5;rw[xS];omega
def Tz(h:l.length<=6000):(qP l).length<=216072012001:=by
 have h1:=Ph (yg l) 6001 (cx (gr (eO l))) (fun x=>by have:=MX l x;omega);have h2:(cx (gr (eO l))).length*6001<=36006001*6001:=bS _ (PL h);rw[aur];omega
def aza{f:α->List β}{l:List α}{x:α}(h:l[k]? =some x):(l.drop k).flatMap f=f x++(l.drop (k+1)).flatMap f:=by
 obtain⟨hk,rfl⟩:=aS.1 h;rw[bV hk,kK]
def awq{f:α->β}{l:List α}{x:α}(h:l[k]? =some x):(l.drop k).map f=f x::(l.drop (k+1)).map f:=by
 obtain⟨hk,rfl⟩:=aS.1 h;rw[bV hk,bY]
def An(l:List α):l.drop l.length=[]:=by simp
theorem omO{p:Prop}(h:p:=by dsimp only;exact⟨⟨by rw[u9 hz,<-h1];exact hin.symm,m5⟩,m5⟩):p:=h
def Tq(hb: ∀q∈qs,BQ q k)(hk:k<=100000)(hn:qs.length<=40000000:=by omega):PF GB prog 159 [.sl (qs.map eQ)] (.sl ((gr qs).map eQ)):=by
 have hm':=fy eQ qs;refine fn (fu:=⟨15⟩) func159 J J ntmps159 J J (fun C=>?_);refine aj 8 (.d (vI (qs.length:Nat))) J (by rw[hm']<;>rfl)<|gx J<|Bj 3 J<|lp (X:=List Rat×Nat) (fun⟨xs,i⟩=>[(9, .d (vI (i:Nat))),(3, .d (.sl (xs.map eQ)))]) (fun⟨xs,i⟩=>[]) (fun⟨xs,i⟩=>xs=rG bB id qs i/\i<=qs.length) (fun⟨xs,i⟩=>qs.length-i) ⟨[],0⟩ J ⟨J,bK _⟩ (fun _=>J) (fun⟨xs,i⟩ hk=>?_)
 try dsimp only at hk⊢
 obtain⟨h1,h2⟩:=hk;refine br J J J (fun hc10=>?_) (fun hc10=>?_)
 .
  obtain⟨q,hz⟩: ∃s,qs[i]? =some s:=⟨_,aZ m5⟩;haveI hqb:=hb q (aW hz);have hxl:=fy eQ xs;have hxn:xs.length<=i:=by rw[h1];exact Hb
  have hxb: ∀u∈xs,BQ u k:=fun u hu=>by rw[h1] at hu;obtain⟨z,hz,he⟩:=HX hu;rw[he];exact hb z hz
  refine ix (fu:=⟨11⟩) _ J (cO hz) J<|mg (fu:=⟨5⟩) (X:=Nat) (fun n=>[(6, .d (vI (n:Nat)))]) (fun n=>[]) (fun n=>mf bB q xs=n) [6] [] rfl ?_ (fun _=>J) (fun n hnx=>?_)
  .
   refine gx J<|lp (fu:=⟨6⟩) (X:=Nat) (fun n=>[(6, .d (vI (n:Nat)))]) (fun n=>[]) (fun n=>n<=xs.length/\ ∀j (h:j<xs.length),j<n->bB xs[j] q<0) (fun n=>xs.length-n) 0 J ⟨bK _,fun j _ hj=>absurd hj m5⟩ (fun _=>J) (fun n hk=>?_);obtain⟨n1,n2⟩:=hk;refine kC (v2:=fun hg16=>by simp only[ak];kernel_rfl) J J J J (fun hg16=>?_) (fun hg16=>?_)
   .
    refine ix _ J (p8) J<|cl J (od (a:=xs[n]' m5) (b:=q) (ha:=hxb _ (cK m5)) (hb:=hqb) m5 m5) J<|br J J J (fun hc25=>?_) (fun hc25=>?_)
    .
     exact at_ (n+1) ⟨⟨m5,fun j h hj=>by by_cases q:j=n;(subst q;exact hc25);exact n2 j h m5⟩,m5⟩
    .
     exact at_ n (th bB n1 n2 (fun h=>hc25))
   .
    exact at_ n (th bB n1 n2 (fun h=>absurd h m5))
  .
   have hnl:n<=xs.length:=by rw[<-hnx];exact BP _ _ _
   refine kC (v1:=fun hg31=>by simp only[ak];kernel_rfl) J J J J (fun hg31=>?_) (fun hg31=>?_)
   .
    have hnew: ∀h:n<xs.length,bB xs[n] q≠0:=fun h=>absurd h m5;obtain⟨ys,hys⟩: ∃ys,ys=xs.take n++q::xs.drop n:=⟨_,rfl⟩;have hin:dw bB q xs=ys:=by rw[hys];exact rO bB hnx hnew
    have hyl:ys.length<=xs.length+1:=by rw[hys];simp;omega
    refine s3 n _ J J J J (fP _) omu J<|ro J J<|kt n xs.length _ J J omZ J (fP _) hnl m5 J<|ap _ J J (rI fP _ _ _) J<|mz (hv:=by simp only[ak];exact⟨v6,m5⟩) (ho:=fun _=>⟨ur fP _ _,vb⟩) (ys.map eQ) J omq (sP fP _ _ _ _) J<|at_ ⟨ys,i+1⟩ omO
   .
    refine ix _ J (p8) J<|cl J (od (a:=xs[n]' m5) (b:=q) (ha:=hxb _ (cK m5)) (hb:=hqb) m5 m5) J<|br J J J (fun hc40=>?_) (fun hc40=>?_)
    .
     have hnew: ∀h:n<xs.length,bB xs[n] q≠0:=fun h=>hc40;obtain⟨ys,hys⟩: ∃ys,ys=xs.take n++q::xs.drop n:=⟨_,rfl⟩;have hin:dw bB q xs=ys:=by rw[hys];exact rO bB hnx hnew
     have hyl:ys.length<=xs.length+1:=by rw[hys];simp;omega
     refine s3 n _ J J J J (fP _) omu J<|ro J J<|kt n xs.length _ J J omZ J (fP _) hnl m5 J<|ap _ J J (rI fP _ _ _) J<|mz (hv:=by simp only[ak];exact⟨v6,m5⟩) (ho:=fun _=>⟨ur fP _ _,vb⟩) (ys.map eQ) J omq (sP fP _ _ _ _) J<|at_ ⟨ys,i+1⟩ omO
    .
     have hin:dw bB q xs=xs:=z7 bB hnx m5 (Decidable.not_not.1 hc40);exact at_ ⟨xs,i+1⟩ omO
 .
  have hfin:gr qs=xs:=by rw[Qd,h1,Kr,List.map_id]
  exact rz J okU
def OE(hb: ∀q∈cuts,BQ q k)(hk':k<=100000)(hn:cuts.length<=40000000):PF GB prog 158 [.sl (cuts.map eQ)] (.sl ((cx cuts).map eQ)):=by
 have hm:=fy eQ cuts;refine fn (fu:=⟨10⟩) func158 J J ntmps158 J J (fun C=>?_);refine aj 6 (.d (vI (cuts.length:Nat))) J oml<|gx J<|br J J J (fun hc7=>?_) (fun hc7=>?_)
 .
  obtain rfl:cuts=[]:=cJ m5;refine rf J J<|rz J (by rw[cx];show DV.sl [_]=DV.sl [_];rw[Jl])
 .
  obtain⟨a,ct,rfl⟩: ∃a t,cuts=a::t:=by cases cuts with|nil=>exact absurd rfl hc7|cons a t=>exact⟨a,t,rfl⟩
  haveI hab:=hb a aQ;have hcl:ct.length+1<=40000000:=hn;refine ix _ J J J<|cl J (lB (n:=1)) J<|cl (fu:=⟨0⟩) J (sG (a:=a) (b:=((1:Int):Rat)) m5 m5) J<|aj 14 (.d (eQ (a-1))) J J<|gx J<|ro J J<|lp (fu:=⟨6⟩) (X:=Nat) (fun i=>[(4, .d (vI ((i+1:Nat):Int))),(3, .rw 15)]) (fun i=>[(15,some (.b 34 3 (((a-1)::gI ((a::ct).take (i+1))).map eQ) true))]) (fun i=>i<=ct.length) (fun i=>ct.length-i) 0 J (bK _) (fun _=>J) (fun i hk=>?_);have hm2:=fy eQ (a::ct);have hml:=BB (a::ct.take i);rw[aN,bL] at hml;have hml2:=BB (a::ct);rw[aN] at hml2;refine aj 18 (.d (vI ((ct.length+1:Nat):Int))) J okM<|gx J<|br (fu2:=⟨11⟩) J J J (fun hc19=>?_) (fun hc19=>?_)
  .
   obtain⟨u,hu⟩: ∃s,(a::ct)[i]? =some s:=⟨_,aZ omg⟩;obtain⟨w,hw⟩: ∃s,(a::ct)[i+1]? =some s:=⟨_,aZ omg⟩;haveI:=hb u (aW hu);haveI:=hb w (aW hw);refine ix _ J okO J<|ix _ J (by rw[cX,cZ,hw];rfl) J<|?_;refine cl J (FS (a:=u) (b:=w) m5 m5) J<|rf J J<|ap (hv:=by simp only[ak];exact⟨v6,m5⟩) (((a-1)::gI ((a::ct).take (i+1+1))).map eQ) J (by rw[H6 hu hw,<-iV,bX];rfl) (fP [(u+w)/2]) J<|fI 34 15 J<|at_ (i+1) ⟨m5,m5⟩
  .
   obtain rfl:i=ct.length:=by omega
   obtain⟨z,hz⟩: ∃s,(a::ct)[ct.length]? =some s:=⟨_,aZ vb⟩;haveI:=hb z (aW hz);rw[show(a::ct).take (ct.length+1)=a::ct from dX (l:=a::ct)];refine aj 38 (.d (vI ((ct.length+1:Nat):Int))) J okM<|gx J<|ix _ J oks J<|cl J (lB (n:=1)) J<|?_;refine cl J (oe (a:=z) (b:=((1:Int):Rat)) m5 m5) J<|rf J J<|ap ((cx (a::ct)).map eQ) J (by rw[SH hz,<-iV,bX];rfl) (fP [z+1]) J<|iH 45 J<|rz J J
theorem okV{p:Prop}(h:p:=by rw[aX]<;>rfl):p:=h
def U5(hb: ∀a∈l,LB a)(ho: ∀a∈l,a.Ne)(hn:l.length<=6000):PF GB prog 85 [.sl (l.map eL)] (.sl ((qP l).map eP)):=by
 have hbl:=hb;have hml:=fy eL l;have htot:=Tz hn;have hgl:=PL hn;have hxl:=I4 l;have hxl2:l.length*(l.length+1)<=6000*6001:=iS hn m5;refine fn (fu:=⟨15⟩) func85 J J ntmps85 J J (fun C=>?_);refine aj 19 (.d (vI (l.length:Nat))) J okV<|gx J<|nr 3 3 34 3 J J J<|lp (X:=List Rat×Nat) (fun⟨cur,i⟩=>[(20, .d (vI (i:Nat))),(3, .rw 3)]) (fun⟨cur,i⟩=>[(3,some (.b 34 3 (cur.map eQ) true))]) (fun⟨cur,i⟩=>cur++eO (l.drop i)=eO l/\i<=l.length) (fun⟨cur,i⟩=>l.length-i) ⟨[],0⟩ J ⟨vb,bK _⟩ (fun _=>J) (fun⟨cur,i⟩ hk=>?_)
 try dsimp only at hk⊢
 obtain⟨h1,h2⟩:=hk;have hcl:=yv h1;have hcm:=fy eQ cur;refine br (fu2:=⟨0⟩) J J J (fun hc21=>?_) (fun hc21=>?_)
 .
  obtain⟨a,ha⟩: ∃s,l[i]? =some s:=⟨_,aZ m5⟩;haveI hab:=hb a (aW ha);have hao:=ho a (aW ha);refine ix (fu:=⟨7⟩) _ J (cO ha) J<|mg (X:=List Rat) (fun cur1=>[(3, .rw 3)]) (fun cur1=>[(3,some (.b 34 3 (cur1.map eQ) true))]) (fun cur1=>cur1++(wo a ((l.drop (i+1)).drop 0)++eO (l.drop (i+1)))=eO l) [3] [3] rfl ?_ (fun _=>J) (fun cur1 hc1=>?_)
  .
   refine gx J<|cl J (zZ (z:=a.b)) J<|br J J J (fun hc28=>?_) (fun hc28=>?_)
   .
    refine cl J (Di (l:=a) hao) J<|rf J J<|ap ((cur++[a.base.x]).map eQ) J omD (fP [_]) J<|fI 34 3 J<|at_ (cur++[a.base.x]) (by rw[<-h1,Ok ha,if_pos (iX.1 hc28)];simp)
   .
    exact at_ cur (by rw[<-h1,Ok ha,if_neg (fun e=>hc28 (iX.2 e))];simp)
  .
   have hcl1:=yv hc1;have hdl:(l.drop (i+1)).length<=6000:=by rw[gT];omega
   have hcm1:=fy eQ cur1;refine kt (fu:=⟨1⟩) (i+1) l.length ((l.drop (i+1)).map eL) J J (by rw[hml]) (by rw[bM (by rw[hml];exact bW _),iT]) (eE l) m5 (by rw[hml];exact bW _) J<|aj 39 (.d (vI ((l.drop (i+1)).length:Nat))) J okV<|gx J<|lp (X:=List Rat×Nat) (fun⟨cur2,j⟩=>[(40, .d (vI (j:Nat))),(3, .rw 3)]) (fun⟨cur2,j⟩=>[(3,some (.b 34 3 (cur2.map eQ) true))]) (fun⟨cur2,j⟩=>cur2++(wo a ((l.drop (i+1)).drop j)++eO (l.drop (i+1)))=eO l/\j<=(l.drop (i+1)).length) (fun⟨cur2,j⟩=>(l.drop (i+1)).length-j) ⟨cur1,0⟩ J ⟨hc1,bK _⟩ (fun _=>J) (fun⟨cur2,j⟩ hk=>?_)
   try dsimp only at hk⊢
   obtain⟨j1,j2⟩:=hk;have hcl2:=yv j1;have hcm2:=fy eQ cur2;refine br J J J (fun hc41=>?_) (fun hc41=>?_)
   .
    obtain⟨b,hb⟩: ∃s,(l.drop (i+1))[j]? =some s:=⟨_,aZ m5⟩;haveI hbb:=hbl b (gL (aW hb));refine ix _ J (cO hb) J<|cl J (Lm (l:=a) (m:=b)) J<|bd J J J (fun hc50=>?_) (fun hc50=>?_)
    .
     refine rf J J<|ap ((cur2++[(dC a b).x]).map eQ) J omD (fP [_]) J<|fI 55 3 J<|at_ ⟨cur2++[(dC a b).x],j+1⟩ (by dsimp only;exact⟨⟨by rw[<-j1,Py hb,if_neg hc50];simp,m5⟩,m5⟩)
    .
     exact at_ ⟨cur2,j+1⟩ (by dsimp only;exact⟨⟨by rw[<-j1,Py hb,if_pos (Decidable.not_not.1 hc50)];simp,m5⟩,m5⟩)
   .
    obtain rfl:j=(l.drop (i+1)).length:=by omega
    exact at_ ⟨cur2,i+1⟩ (by dsimp only;exact⟨⟨by rw[An] at j1;exact j1,m5⟩,m5⟩)
 .
  obtain rfl:i=l.length:=by omega
  obtain rfl:cur=eO l:=by rw[An] at h1;simpa[eO] using h1
  refine oA 3 J<|gx J<|cl J (Tq (qs:=eO l) (k:=900) (Co hb) pb) J<|cl (fu:=⟨1⟩) J (OE (cuts:=gr (eO l)) (k:=900) (fun q hq=>Co hb q (qt.1 hq)) pb (by have:=FO (eO l);omega)) J<|aj 61 (.d (vI ((cx (gr (eO l))).length:Nat))) J okV<|gx J<|nr 10 10 36 6 J J J<|lp (X:=List aa×Nat) (fun⟨pts,g⟩=>[(62, .d (vI (g:Nat))),(10, .rw 10)]) (fun⟨pts,g⟩=>[(10,some (.b 36 6 (pts.map eP) true))]) (fun⟨pts,g⟩=>pts++((cx (gr (eO l))).drop g).flatMap (yg l)=qP l/\g<=(cx (gr (eO l))).length) (fun⟨pts,g⟩=>(cx (gr (eO l))).length-g) ⟨[],0⟩ J ⟨J,bK _⟩ (fun _=>J) (fun⟨pts,g⟩ hk=>?_)
  try dsimp only at hk⊢
  obtain⟨g1,g2⟩:=hk;have hpl:=yv g1;have hpm:=fy eP pts;refine br J J J (fun hc63=>?_) (fun hc63=>?_)
  .
   obtain⟨x,hx⟩: ∃s,(cx (gr (eO l)))[g]? =some s:=⟨_,aZ m5⟩;haveI hxb:BQ x 1900:=GI (k:=900) (fun q hq=>Co hb q (qt.1 hq)) x (aW hx);refine ix (fu:=⟨15⟩) _ J (cO hx) J<|aj 67 (.d (vI (l.length:Nat))) J okV<|gx J<|nr 13 13 34 3 J J J<|lp (X:=List Rat×Nat) (fun⟨ys,j⟩=>[(68, .d (vI (j:Nat))),(13, .rw 13)]) (fun⟨ys,j⟩=>[(13,some (.b 34 3 (ys.map eQ) true))]) (fun⟨ys,j⟩=>ys++io (l.drop j) x=io l x/\j<=l.length) (fun⟨ys,j⟩=>l.length-j) ⟨[],0⟩ J ⟨J,bK _⟩ (fun _=>J) (fun⟨ys,j⟩ hk=>?_)
   try dsimp only at hk⊢
   obtain⟨y1,y2⟩:=hk;have hyl:=yv y1;have hym:=fy eQ ys;have hyt:=Lz l x;refine br (fu2:=⟨0⟩) J J J (fun hc69=>?_) (fun hc69=>?_)
   .
    obtain⟨a,ha⟩: ∃s,l[j]? =some s:=⟨_,aZ m5⟩;haveI hala:=hb a (aW ha);refine ix _ J (cO ha) J<|cl J (zZ (z:=a.b)) J<|br J J J (fun hc75=>?_) (fun hc75=>?_)
    .
     have hab: ¬a.b=0:=fun e=>hc75 (iX.2 e);have habR:((a.b:Int):Rat)≠0:=fun e=>hab (cS.1 e);refine cl J (jq (z:=a.a)) J<|cl J (jA (a:=(a.a:Rat)) (b:=x)) J<|cl J (jq (z:=a.c)) J<|cl J (oe (a:=(a.a:Rat)*x) (b:=(a.c:Rat))) J<|cl J (jq (z:=a.b)) J<|cl J (xH (a:=(a.a:Rat)*x+(a.c:Rat)) (b:=(a.b:Rat)) habR) J<|cl J (vQ (q:=((a.a:Rat)*x+(a.c:Rat))/(a.b:Rat))) J<|rf J J<|ap (hv:=by simp only[ak];exact⟨v6,m5⟩) ((ys++[yA a x]).map eQ) J omD (fP [_]) J<|fI 92 13 J<|at_ ⟨ys++[yA a x],j+1⟩ (by dsimp only;exact⟨⟨by rw[<-y1,OA ha,if_neg hab];simp,m5⟩,m5⟩)
    .
     have hab:a.b=0:=iX.1 (Decidable.not_not.1 hc75);exact at_ ⟨ys,j+1⟩ (by dsimp only;exact⟨⟨by rw[<-y1,OA ha,if_pos hab];simp,m5⟩,m5⟩)
   .
    obtain rfl:j=l.length:=by omega
    obtain rfl:ys=io l x:=by rw[An] at y1;simpa[io] using y1
    have hyb:=N4 hb hxb;have hgy:(cx (gr (io l x))).length<=6001:=by have:=MX l x;unfold yg at this;rw[aX] at this;omega
    refine oA 13 J<|gx J<|cl J (Tq (qs:=io l x) (k:=2400) hyb pb) J<|cl (fu:=⟨1⟩) J (OE (cuts:=gr (io l x)) (k:=2400) (fun q hq=>hyb q (qt.1 hq)) pb (by have:=FO (io l x);omega)) J<|aj 97 (.d (vI ((cx (gr (io l x))).length:Nat))) J okV<|gx J<|lp (X:=List aa×Nat) (fun⟨pts2,j⟩=>[(98, .d (vI (j:Nat))),(10, .rw 10)]) (fun⟨pts2,j⟩=>[(10,some (.b 36 6 (pts2.map eP) true))]) (fun⟨pts2,j⟩=>pts2++(((cx (gr (io l x))).drop j).map (fun y=>(⟨x,y⟩:aa))++((cx (gr (eO l))).drop (g+1)).flatMap (yg l))=qP l/\j<=(cx (gr (io l x))).length) (fun⟨pts2,j⟩=>(cx (gr (io l x))).length-j) ⟨pts,0⟩ J ⟨by rw[aza hx] at g1;exact g1,bK _⟩ (fun _=>J) (fun⟨pts2,j⟩ hk=>?_)
    try dsimp only at hk⊢
    obtain⟨w1,w2⟩:=hk;have hpl2:=yv w1;have hpm2:=fy eP pts2;refine br J J J (fun hc99=>?_) (fun hc99=>?_)
    .
     obtain⟨y,hy⟩: ∃s,(cx (gr (io l x)))[j]? =some s:=⟨_,aZ m5⟩;refine ix _ J (cO hy) J<|rf J J<|ap ((pts2++[(⟨x,y⟩:aa)]).map eP) J omD (Sm [(⟨x,y⟩:aa)]) J<|fI 107 10 J<|at_ ⟨pts2++[⟨x,y⟩],j+1⟩ (by dsimp only;exact⟨⟨by rw[<-w1,awq hy];simp,m5⟩,m5⟩)
    .
     obtain rfl:j=(cx (gr (io l x))).length:=by omega
     exact at_ ⟨pts2,g+1⟩ (by dsimp only;exact⟨⟨by rw[An] at w1;exact w1,m5⟩,m5⟩)
  .
   obtain rfl:g=(cx (gr (eO l))).length:=by omega
   obtain rfl:pts=qP l:=by rw[An] at g1;simpa using g1
   refine iH 10 J<|rz J J
def Yh{b:Bool}:PR GB prog 87 [eT (Tr.leaf b)] 6 136 ((Tr.leaf b).lns.map eL):=by
 refine Dl (fu:=⟨11⟩) func87 J J ntmps87 J J (fun C hmb=>?_);refine d7 J J J<|?_;exact aN9 J J J
def aqp{l:ah}{x y:Tr}(hs:(Tr.node l x y).size<=100000)(ihx:PR GB prog 87 [eT x] 6 136 (x.lns.map eL))(ihy:PR GB prog 87 [eT y] 6 136 (y.lns.map eL)):PR GB prog 87 [eT (Tr.node l x y)] 6 136 ((Tr.node l x y).lns.map eL):=by
 have hsx:=s9 x;have hsy:=s9 y;have hsz:(Tr.node l x y).size=1+x.size+y.size:=J;refine Dl (fu:=⟨11⟩) func87 J J ntmps87 J J (fun C hmb=>?_);refine c9 J J J<|ro J J<|cr J ihx J<|ap (hbd:=by simp only[aX,aN,eK];omega) ((l::x.lns).map eL) J (by rw[bY];rfl) (eE _) J<|cr J ihy J<|ap (hbd:=by simp only[aX,aN,eK];omega) ((l::(x.lns++y.lns)).map eL) J (by rw[bY,bY,bX];rfl) (eE _) J<|?_;exact Io J J J J
theorem ozb{p:Prop}(h:p:=by have:(Tr.node l x y).size=1+x.size+y.size:=J;omega):p:=h
def zY: ∀{t:Tr},t.size<=100000->PR GB prog 87 [eT t] 6 136 (t.lns.map eL)
 | .leaf _,_=>Yh
 | .node l x y,h=>aqp h (zY ozb) (zY ozb)
def yl:Tr->aa->Bool
 | .leaf _,_=>true
 | .node l x y,p=>if(l.value p).num.sign=1 then yl x p else if(l.value p).num.sign= -1 then yl y p else false
theorem okp{p:Prop}(h:p:=by simp only[Tr.size];omega):p:=h
def CT{t:Tr}[hp:aC p i](hb:t.all LB)(hi:i<=400000:=by decide):PF GB prog 88 [eT t,eP p] (.tp [vB (iE t p),vB (yl t p)]):=by
 refine fn func88 J J ntmps88 J J (fun C=>?_);refine lp (fu:=⟨3⟩) (X:=Tr) (fun s=>[(0, .d (eT s))]) (fun s=>[]) (fun s=>iE s p=iE t p/\yl s p=yl t p/\s.all LB) (fun s=>s.size) t J ⟨J,J,hb⟩ (fun _=>J) (fun s hk=>?_);obtain⟨h1,h2,hb2⟩:=hk;rcases s with b|⟨l,x,y⟩
 .
  have hA:iE t p=b:=h1.symm;have hO:yl t p=true:=h2.symm;refine gx (fu:=⟨3⟩) J<|d7 J J J<|rz J (by rw[hA,hO];rfl)
 .
  have hAn:=h1.symm;have hOn:=h2.symm;rw[iE] at hAn;rw[yl] at hOn;haveI:=hb2.1;refine gx (fu:=⟨3⟩) J<|c9 J J J<|cl J (BE (l:=l) (p:=p) (i:=i) hi) J<|br J J J (fun hc17=>?_) (fun hc17=>?_)
  .
   exact at_ x ⟨⟨by rw[hAn,if_pos hc17],by rw[hOn,if_pos hc17],hb2.2.1⟩,okp⟩
  .
   refine br J J J (fun hc23=>?_) (fun hc23=>?_)
   .
    exact at_ y ⟨⟨by rw[hAn,if_neg hc17,if_pos hc23],by rw[hOn,if_neg hc17,if_pos hc23],hb2.2.2⟩,okp⟩
   .
    exact rz J (by rw[hAn,hOn,if_neg hc17,if_neg hc23,if_neg hc17,if_neg hc23];rfl)
def Ij(ls:List ah):(mr ls).length<=ls.length:=by
 have:=FR fm (ls.map ah.canon) [];unfold mr s6;rw[aX,eK] at this;omega
theorem aBu(hl: ∀a∈l,LB a): ∀p∈qP l,aC p 4900:=fun p hp=>by
 obtain⟨h1,h2⟩:=Gq.1 hp;have hx:BQ p.x 1900:=GI (k:=900) (fun q hq=>Co hl q (qt.1 hq)) _ h1;have hy:BQ p.y 4900:=GI (k:=2400) (fun q hq=>N4 hl hx q (qt.1 hq)) _ h2;exact⟨hx.mono pb,hy⟩
theorem Jf(h: ∀l∈ls,LB l): ∀l∈mr ls,LB l:=fun l hl=>by
 obtain⟨x,hx,rfl⟩:=FJ hl;haveI:=h x hx
 infer_instance
def O8(h: ∀l∈ls,l.ok): ∀l∈mr ls,l.Ne:=fun l hl=>by
 obtain⟨x,hx,rfl⟩:=FJ hl;exact(Mr (h x hx)).ne
structure pF (a b:Tr):Prop where
 ga:a.gd
 gb:b.gd
 sa:a.size<=3000
 sb:b.size<=3000
theorem pF.lb{a b:Tr}(h:pF a b): ∀l∈a.lns++b.lns,LB l:=fun l hl=>(aL.1 hl).elim (mH.1 h.ga.lb l) (mH.1 h.gb.lb l)
def pF.ok{a b:Tr}(h:pF a b): ∀l∈a.lns++b.lns,l.ok:=fun l hl=>(aL.1 hl).elim (jB h.ga.ok l) (jB h.gb.ok l)
def pF.len(h:pF a b):(a.lns++b.lns).length<=6000:=by rw[aU,s9,s9];have:=h.sa;have:=h.sb;omega
def pF.fl(h:pF a b):(jr a b).length<=216072012001:=Tz (dZ (Ij _) h.len)
theorem pF.fb(h:pF a b): ∀p∈jr a b,aC p 4900:=aBu (Jf h.lb)
def aKu(hz:(jr a b)[k]? =some p)(h:iE a p≠iE b p):ve a b=false:=by
 rw[ve,List.all_eq_false];exact⟨p,aW hz,by simpa using h⟩
def aGP(h: ∀j p,(jr a b)[j]? =some p->j<(jr a b).length->iE a p=iE b p):ve a b=true:=by
 rw[ve,dW];intro p hp;obtain⟨j,hj,rfl⟩:=mR hp;simpa using h j _ (aZ hj) hj
def aBT(h:pF a b):PF GB prog 83 [eT a,eT b] (vB (ve a b)):=by
 have hsa:=h.sa;have hsb:=h.sb;have hll:=h.len;have hfl:=h.fl;have hla:=s9 a;have hlb:=s9 b;refine fn func83 J J ntmps83 J J (fun C=>?_);refine cr J (zY (t:=a) m5) J<|cr J (zY (t:=b) m5) J<|ap (hbd:=by simp only[aX];omega) ((a.lns++b.lns).map eL) J (by rw[bX]) (eE _) J<|fz 15 J J<|cl J (auP (ls:=a.lns++b.lns) h.lb m5) J<|cl (fu:=⟨1⟩) J (U5 (l:=mr (a.lns++b.lns)) (Jf h.lb) (O8 h.ok) (dZ (Ij _) hll)) J<|aj 18 (.d (vI ((jr a b).length:Nat))) J (by rw[aX];rfl)<|gx J<|lp (X:=Nat) (fun k=>[(19, .d (vI (k:Nat)))]) (fun k=>[]) (fun k=>k<=(jr a b).length/\ ∀j q,(jr a b)[j]? =some q->j<k->iE a q=iE b q) (fun k=>(jr a b).length-k) 0 J ⟨bK _,fun j q _ hj=>absurd hj m5⟩ (fun _=>J) (fun k hk=>?_);obtain⟨k1,k2⟩:=hk;refine br J J J (fun hc20=>?_) (fun hc20=>?_)
 .
  obtain⟨p,hz⟩: ∃s,(jr a b)[k]? =some s:=⟨_,aZ m5⟩;haveI hpb:=h.fb p (aW hz);refine ix _ J (cO (l:=jr a b) hz) J<|cl J (CT (t:=a) (p:=p) (i:=4900) h.ga.lb) J<|cl J (CT (t:=b) (p:=p) (i:=4900) h.gb.lb) J<|bb J J J (fun hc37=>?_) (fun hc37=>?_)
  .
   exact rz J (by rw[aKu hz (by simpa using hc37)];rfl)
  .
   exact at_ (k+1) ⟨⟨m5,fun j q hq hj=>by by_cases e:j=k;(subst e;rw[hz] at hq;cases hq;simpa using hc37);exact k2 j q hq m5⟩,m5⟩
 .
  exact rz J (by rw[aGP fun j q hq hj=>k2 j q hq m5];rfl)

def ZE{l:ah}(hl:l.ok)(hm:m.ok)(h:cE l.dir m.dir=0): ∃k e:Rat,0<k/\ ∀p,m.value p=k*l.value p+e:=by
 obtain⟨h1,h2⟩:=Qf.1 h;have z1:=vp hl;have key: ∃k:Rat,0<k/\m.dir.x=k*l.dir.x/\m.dir.y=k*l.dir.y:=by
  unfold aa.cross at h2;rcases lO l.dir with⟨e,k⟩|⟨e,k⟩|⟨e,k⟩
  .rw[e] at h1
   have k2:=m8.1 h1.symm;rcases k with k|⟨k,k'⟩
   .have y2:0<m.dir.y:=by
     rcases k2 with k2|⟨k2,k3⟩
     .exact k2
     .exfalso
      rw[k2] at h2;have:=bE k k3;grind
    refine⟨m.dir.y/l.dir.y,?_,va,va⟩;have:0<m.dir.y/l.dir.y:=(fB k).1 (by rw[show m.dir.y/l.dir.y*l.dir.y=m.dir.y by grind];exact y2);exact this
   .rw[k] at h2
    have y2:m.dir.y=0:=by
     rcases fX.1 (show l.dir.x*m.dir.y=0 by grind) with q|q
     .rw[q] at k';exact absurd k' pb
     .exact q
    have x2:0<m.dir.x:=by
     rcases k2 with k2|⟨_,k3⟩
     .rw[y2] at k2;exact absurd k2 pb
     .exact k3
    refine⟨m.dir.x/l.dir.x,(fB k').1 (by rw[show m.dir.x/l.dir.x*l.dir.x=m.dir.x by grind];exact x2),va,by rw[y2,k];grind⟩
  .rw[e] at h1
   have k2:=qg.1 h1.symm;rcases k with k|⟨k,k'⟩
   .have y2:m.dir.y<0:=by
     rcases k2 with k2|⟨k2,k3⟩
     .exact k2
     .exfalso
      rw[k2] at h2;have:=bE (show 0< -l.dir.y by grind) (show 0< -m.dir.x by grind);grind
    refine⟨m.dir.y/l.dir.y,(fB (show 0< -l.dir.y by grind)).1 (by rw[show m.dir.y/l.dir.y* -l.dir.y= -m.dir.y by grind];grind),va,va⟩
   .rw[k] at h2
    have y2:m.dir.y=0:=by
     rcases fX.1 (show l.dir.x*m.dir.y=0 by grind) with q|q
     .rw[q] at k';exact absurd k' pb
     .exact q
    have x2:m.dir.x<0:=by
     rcases k2 with k2|⟨_,k3⟩
     .rw[y2] at k2;exact absurd k2 pb
     .exact k3
    refine⟨m.dir.x/l.dir.x,(fB (show 0< -l.dir.x by grind)).1 (by rw[show m.dir.x/l.dir.x* -l.dir.x= -m.dir.x by grind];grind),va,by rw[y2,k];grind⟩
  .exact absurd e z1
 obtain⟨k,k0,kx,ky⟩:=key;simp only[ah.dir] at kx ky;refine⟨k,(m.c:Rat)-k*(l.c:Rat),k0,fun p=>?_⟩;rw[jD,jD,kx];have:(m.a:Rat)=k*(l.a:Rat):=by grind
 rw[this];grind
def Ru(hne: ∃q,bw e q){l:ah}(hl:l.ok)(hm:m.ok)(pl: ∀p,bw e p->0<l.value p)(pm: ∀p,bw e p->0<m.value p)(tl: ∃p,jh e p/\l.value p=0)(tm: ∃p,jh e p/\m.value p=0)(ha:cE l.dir m.dir=0):l=m:=by
 obtain⟨k,c,k0,hk⟩:=ZE hl hm ha;obtain⟨p,p1,p2⟩:=tl;obtain⟨q,q1,q2⟩:=tm;have g1:=vm hne pm p1;rw[hk,p2] at g1;have g2:=vm hne pl q1;have g3:=cC (cR k0) g2;rw[hk] at q2;have c0:c=0:=by grind
 have hz: ∀t,m.value (l.at t)=0:=fun t=>by rw[hk,mj hl.ne,c0];grind
 rcases yq hm hl hz with h|h
 .exact h.symm
 .exfalso
  obtain⟨u,hu⟩:=hne;have a:=pl u hu;have b:=pm u hu;rw[h,fh] at b;grind
def yx{c:ar}(hc:bG c)(hs:s∈c):jh c (s.l.at s.v.sample)/\s.l.value (s.l.at s.v.sample)=0:=
 ⟨((hc.edge s hs).2 _).1 (pI (hc.edge s hs).1).has,mj (hc.ok s hs).ne _⟩
def iq(c:ar):Prop:=(c.map fun s=>s.l.dir).Pairwise cA
def KZ{p:Nat->Bool}{N:Nat}(hm: ∀i j,i<=j->j<N->p j=true->p i=true): ∀(d i j:Nat),j-i<=d->i<=j->j<=N->(∀k,k<i->p k=true)->(∀k,j<=k->k<N->p k=false)->(∀k,k<gG p i j->p k=true)/\ ∀k,gG p i j<=k->k<N->p k=false
 |0,i,j,h,hij,hN,h1,h2=>by
  obtain rfl:i=j:=by omega
  rw[gG,dif_neg m5];exact⟨h1,h2⟩
 |d+1,i,j,h,hij,hN,h1,h2=>by
  by_cases q:i<j
  .rw[gG,dif_pos q]
   by_cases r:p ((i+j)/2)=true
   .rw[if_pos r]
    exact KZ hm d _ _ m5 m5 hN (fun k hk=>hm k ((i+j)/2) m5 m5 r) h2
   .rw[if_neg r]
    refine KZ hm d _ _ m5 m5 m5 h1 fun k hk hkN=>?_
    cases hp:p k with
    |false=>rfl
    |true=>exact absurd (hm _ k hk hkN hp) r
  .obtain rfl:i=j:=by omega
   rw[gG,dif_neg q];exact⟨h1,h2⟩
def MU{d:aa}(h:ds.Pairwise cA)(h1: ∀x∈ds.take n,cA x d)(h2: ∀x∈ds.drop n,cA d x):(ds.take n++d::ds.drop n).Pairwise cA:=by
 have hs:=h;rw[<-kR n ds,gR] at hs;obtain⟨a,b,c⟩:=hs;rw[gR];refine⟨a,bU.2 ⟨h2,b⟩,fun x hx y hy=>?_⟩;rcases aV.1 hy with rfl|hy
 .exact h1 x hx
 .exact c x hx y hy
def Kx(l:ah): ∀c:ar,((fk l c).map fun s=>s.l.dir).Sublist (c.map fun s=>s.l.dir)
 |[]=>List.Sublist.refl _
 |s::c=>by
  rw[fk];split
  .exact(Kx l c).cons_cons _
  .exact(Kx l c).cons _
def UM{l:List α}{x:α}(h:x∈l.take n): ∃i,i<n/\l[i]? =some x:=by
 obtain⟨i,hi,e⟩:=nX.1 h;rw[bL] at hi;exact⟨i,m5,by rw[List.getElem_take] at e;rw[aZ m5,e]⟩
def QV{l:List α}{x:α}(h:x∈l.drop n): ∃i,n<=i/\i<l.length/\l[i]? =some x:=by
 obtain⟨i,hi,e⟩:=nX.1 h;rw[gT] at hi;exact⟨n+i,m5,m5,by rw[List.getElem_drop] at e;rw[aZ m5,e]⟩
def Jy{c:ar}{l:ah}(hc:bG c)(hl:l.ok)(ha:iq c)(hb:cH c l=true):iq (bH c l):=by
 have hg:=(ir hc hl hb).1;unfold bH at hg⊢
 cases hp:lc c l with
 |none=>exact ha
 |some v=>
  simp only[hp] at hg⊢;have hs:iq (fk l c):=ha.sublist (Kx l c);have nt: ∀s∈fk l c,cE s.l.dir l.dir≠0:=fun s h e=>by
   have m1:s∈me (fk l c) l v:=sj.2 (.inr h);have m2:(⟨l,v⟩:bt)∈me (fk l c) l v:=sj.2 (.inl J);have ee:=Ru hg.ne (hg.ok s m1) hl (fun p hp=>hp s m1) (fun p hp=>hp ⟨l,v⟩ m2) ⟨_,yx hg m1⟩ ⟨_,yx hg m2⟩ e;obtain⟨s0,g1,_,rfl⟩:=tI.1 h;obtain⟨_,q,q1,q2⟩:=Gu hl.ne hp;have h5:=q1 s0 g1;have e5:s0.l=l:=ee;rw[e5] at h5;grind
  generalize fk l c=d at*;have hmo: ∀i j,i<=j->j<d.length->jC d l j=true->jC d l i=true:=fun i j hij hj h=>by
   unfold jC at h⊢;rw[aZ hj] at h;rw[aZ m5];simp only[decide_eq_true_eq,nH] at h⊢;by_cases q:i=j
   .subst q;exact h
   .have:=lW.1 hs i j omg omg m5
    simp only[qL] at this;exact wE this h
  obtain⟨k1,k2⟩:=KZ hmo d.length 0 d.length m5 m5 (bW _) (fun k h=>absurd h m5) (fun k h h'=>absurd h' m5);unfold me iq;generalize gG (jC d l) 0 d.length=n at*;rw[bX,bY,gM,iT];refine MU hs (fun x hx=>?_) (fun x hx=>?_)
  .rw[<-gM] at hx
   obtain⟨s,h1,rfl⟩:=aT.1 hx;obtain⟨i,hi,e⟩:=UM h1;have:=k1 i hi;unfold jC at this;rw[e] at this;simpa[nH] using this
  .rw[<-iT] at hx
   obtain⟨s,h1,rfl⟩:=aT.1 hx;obtain⟨i,hi,hi2,e⟩:=QV h1;have:=k2 i hi hi2;unfold jC at this;rw[e] at this;have h3: ¬cA s.l.dir l.dir:=by simpa[nH] using this
   by_cases q:cA l.dir s.l.dir
   .exact q
   .exact absurd (ED h3 q) (nt s (gL h1))
def Ka: ∀{t:Tr} {c:ar},t.all ah.ok->bG c->iq c-> ∀x∈t.parts c,iq x.2
 | .leaf b,c,_,_,ha,x,h=>by
  rw[Tr.parts,aY] at h;subst h;exact ha
 | .node l u v,c,ht,hc,ha,x,h=>by
  rw[Tr.parts] at h;rcases aL.1 h with h|h
  .split at h
   .rename_i hb
    exact Ka ht.2.1 (ir hc ht.1 hb).1 (Jy hc ht.1 ha hb) x h
   .cases h
  .split at h
   .rename_i hb
    exact Ka ht.2.2 (ir hc ht.1.rev hb).1 (Jy hc ht.1.rev ha hb) x h
   .cases h
def vu(c:List ah):Prop:=(c.map ah.dir).Pairwise cA
def Jc(hs: ∀s∈e,s.l∈c){l:ah}(hl:l.ok)(he:(gp l c ao.all).isSome=true): ∃w:ao,w.Pos/\ ∀t,w.ins t->jh e (l.at t)/\l.value (l.at t)=0/\ ∀m∈c,m≠l->0<m.value (l.at t):=by
 obtain⟨w,hw⟩:=rY.1 he;obtain⟨h1,h2⟩:=Bq l c _ w ye hw;refine⟨w,h1,fun t ht=>?_⟩;have h3:=((h2 t).1 ht).2;refine⟨fun s hs'=>?_,mj hl.ne t,h3⟩;by_cases q:s.l=l
 .rw[q,mj hl.ne];exact eY
 .exact cR (h3 _ (hs s hs') q)
def Uc{α:Type}{p:α->Bool}: ∀(l:List α),(∀i x,i<(l.takeWhile p).length->l[i]? =some x->p x=true)/\ ∀x,l[(l.takeWhile p).length]? =some x->p x=false
 |[]=>⟨fun i x h _=>by simp at h,fun x h=>by simp at h⟩
 |a::l=>by
  obtain⟨h1,h2⟩:=Uc (p:=p) l;rw[pK]
  cases ha:p a with
  |false=>
   refine⟨fun i x h _=>by simp at h,fun x h=>?_⟩;simp at h;rw[<-h];exact ha
  |true=>
   simp only[if_true,aN];refine⟨fun i x h e=>?_,fun x h=>h2 x omv⟩
   cases i with
   |zero=>simp at e;rw[<-e];exact ha
   |succ i=>exact h1 i x m5 (by simpa using e)
def apY{out:List ah}{l:ah}(ha:vu out)(ht: ∀m∈out,cE m.dir l.dir=0->m=l):vu (ql out l):=by
 unfold ql;split
 .exact ha
 .rename_i hne
  obtain⟨k1,k2⟩:=Uc (p:=fun x:ah=>decide (cE x.dir l.dir<0)) out;have e0:oI out l=(out.takeWhile fun x=>decide (cE x.dir l.dir<0)).length:=J;rw[<-e0] at k1 k2;generalize oI out l=n at*;unfold vu;rw[bX,bY,gM,iT];refine MU ha (fun x hx=>?_) (fun x hx=>?_)
  .rw[<-gM] at hx
   obtain⟨m,h1,rfl⟩:=aT.1 hx;obtain⟨i,hi,e⟩:=UM h1;simpa[nH] using k1 i m hi e
  .rw[<-iT] at hx
   obtain⟨m,h1,rfl⟩:=aT.1 hx;obtain⟨i,hi,hi2,e⟩:=QV h1;have hn:n<out.length:=by omega
   have h3: ¬cA (out[n]).dir l.dir:=by simpa[nH] using k2 _ (aZ hn)
   have h4:cA l.dir (out[n]).dir:=by
    by_cases q:cA l.dir (out[n]).dir
    .exact q
    .exact absurd (by rw[aZ hn,ht _ (cK hn) (ED h3 q)]) hne
   by_cases q:i=n
   .subst q
    rw[aZ hn] at e
    cases e
    exact h4
   .have:=lW.1 ha n i omg omg m5
    simp only[qL] at this;rw[aZ hi2] at e
    cases e
    exact wE h4 this
def Lc{c:List ah}(ht: ∀l∈c,∀m∈c,(gp l c ao.all).isSome=true->(gp m c ao.all).isSome=true->cE m.dir l.dir=0->m=l): ∀{t out:List ah},(∀l∈t,l∈c)->(∀m∈out,m∈c/\(gp m c ao.all).isSome=true)->vu out->vu (ow c t out)
 |[],out,_,_,ha=>ha
 |l::t,out,hc,ho,ha=>by
  have hl:=hc l aQ;rw[ow];by_cases q:(gp l c ao.all).isSome=true
  .rw[if_pos q]
   refine Lc ht (fun l h=>hc l (aJ _ h)) (fun m hm=>?_) (apY ha fun m hm e=>ht l hl m (ho m hm).1 q (ho m hm).2 e);rcases Kh.1 hm with rfl|h
   .exact⟨hl,q⟩
   .exact ho m h
  .rw[if_neg q]
   exact Lc ht (fun l h=>hc l (aJ _ h)) ho ha
def au1(hok: ∀l∈c,l.ok)(hne: ∃p,dP c p):vu (jl c):=by
 obtain⟨e,_,hg,hi,hs⟩:=EZ hok hne;refine Lc (fun l hl m hm el em h=>?_) (fun l h=>h) (fun m h=>by cases h) .nil;obtain⟨w1,p1,k1⟩:=Jc (fun s h=>(hs s h).1) (hok l hl) el;obtain⟨w2,p2,k2⟩:=Jc (fun s h=>(hs s h).1) (hok m hm) em;obtain⟨a1,a2,_⟩:=k1 _ (pI p1);obtain⟨b1,b2,_⟩:=k2 _ (pI p2);exact Ru hg.ne (hok m hm) (hok l hl) (fun p hp=>(hi p).1 hp m hm) (fun p hp=>(hi p).1 hp l hl) ⟨_,b1,b2⟩ ⟨_,a1,a2⟩ h
def SU{u:Rat}(h:v.ins t)(k:v.has u):v.ins ((t+u)*(1/2)):=by
 obtain⟨lo,hi,nl,nh⟩:=v;unfold ao.ins at*;unfold ao.has at k
 cases nl<;>cases nh<;>simp at* <;>grind
def EY{c:ar}(hc: ∃q,bw c q)(h: ∀p,bw c p↔bw d p)(hp:jh c p):jh d p:=fun s hs=>vm hc (fun q hq=>(h q).1 hq s hs) hp
def Wc(hok: ∀l∈c,l.ok)(hd:bG d)(h: ∀p,bw d p↔dP c p)(l:ah):l∈d.map (·.l)↔l∈jl c:=by
 have hne: ∃p,dP c p:=hd.ne.elim fun q hq=>⟨q,(h q).1 hq⟩;obtain⟨e,_,hg,hi,hs⟩:=EZ hok hne;have hde: ∀p,bw d p↔bw e p:=fun p=>by rw[h,hi]
 constructor
 .intro hl
  obtain⟨s,k,rfl⟩:=aT.1 hl;obtain⟨t1,t2⟩:=yx hd k;have t3:=EY hd.ne hde t1;have: ¬bw e (s.l.at s.v.sample):=fun q=>by
   have:=(hde _).2 q s k;rw[t2] at this;exact absurd this pb
  obtain⟨u,hu,hz⟩: ∃u∈e,u.l.value (s.l.at s.v.sample)=0:=by
   by_cases q: ∃u∈e,u.l.value (s.l.at s.v.sample)=0
   .exact q
   .exfalso
    refine this fun u hu=>?_;have g1:=t3 u hu;have g2:u.l.value (s.l.at s.v.sample)≠0:=fun e=>q ⟨u,hu,e⟩;grind
  have:=NY hd k (hg.ok u hu) (fun p hp=>(hde p).1 hp u hu) hz;rw[<-this];exact uD.2 (hs u hu)
 .intro hl
  obtain⟨l1,l2⟩:=uD.1 hl;obtain⟨w,p1,k1⟩:=Jc (fun s h=>(hs s h).1) (hok l l1) l2;have hed: ∀p,bw e p↔bw d p:=fun p=>(hde p).symm;have hi1:=pI p1;obtain⟨⟨u1,m1,n1⟩,⟨u2,m2,n2⟩⟩:=I9 hi1;have g1:=SU hi1 n1;have g2:=SU hi1 n2;obtain⟨c0,c1,_⟩:=k1 _ hi1;have c2:=EY hg.ne hed c0;have: ¬bw d (l.at w.sample):=fun q=>by
   have:=(h _).1 q l l1;rw[c1] at this;exact absurd this pb
  obtain⟨s,hsd,hz⟩: ∃s∈d,s.l.value (l.at w.sample)=0:=by
   by_cases q: ∃u∈d,u.l.value (l.at w.sample)=0
   .exact q
   .exfalso
    refine this fun u hu=>?_;have g1:=c2 u hu;have g2:u.l.value (l.at w.sample)≠0:=fun e=>q ⟨u,hu,e⟩;grind
  have e1:=EY hg.ne hed (k1 _ g1).1 s hsd;have e2:=EY hg.ne hed (k1 _ g2).1 s hsd;rw[kG] at hz e1 e2;have hK:l.cutK s.l=0:=by
   rcases fG (l.cutK s.l) with h|h|h
   .exact h
   .exfalso
    have:=bE (a:=w.sample-u1) (b:=l.cutK s.l) va h;grind
   .exfalso
    have:=bE (a:=u2-w.sample) (b:= -l.cutK s.l) va va;grind
  have hz2: ∀t,s.l.value (l.at t)=0:=fun t=>by rw[kG,hK];rw[hK] at hz;grind
  rcases yq (hd.ok s hsd) (hok l l1) hz2 with q|q
  .rw[<-q];exact dQ hsd
  .exfalso
   obtain⟨u,hu⟩:=hd.ne;have a:=hu s hsd;have b:=(h u).1 hu l l1;rw[q,fh] at a;grind
def NC: ∀{l m:List ah},vu l->vu m->(∀x,x∈l↔x∈m)->l=m
 |[],[],_,_,_=>rfl
 |[],b::m,_,_,h=>absurd ((h b).2 aQ) vb
 |a::l,[],_,_,h=>absurd ((h a).1 aQ) vb
 |a::l,b::m,h1,h2,h=>by
  obtain⟨p1,p2⟩:=bU.1 h1;obtain⟨q1,q2⟩:=bU.1 h2;have p1': ∀x∈l,cA a.dir x.dir:=fun x hx=>p1 _ (dQ hx);have q1': ∀x∈m,cA b.dir x.dir:=fun x hx=>q1 _ (dQ hx);have e:a=b:=by
   rcases aV.1 ((h a).1 aQ) with e|e
   .exact e
   .rcases aV.1 ((h b).2 aQ) with f|f
    .exact f.symm
    .exact(yB (q1' a e) (p1' b f)).elim
  subst e;congr 1;refine NC p2 q2 fun x=>⟨fun hx=>?_,fun hx=>?_⟩
  .rcases aV.1 ((h x).1 (aJ _ hx)) with e|e
   .subst e;exact(sH _ (p1' _ hx)).elim
   .exact e
  .rcases aV.1 ((h x).2 (aJ _ hx)) with e|e
   .subst e;exact(sH _ (q1' _ hx)).elim
   .exact e
def aBr(hok: ∀l∈c,l.ok)(hd:bG d)(ha:iq d)(h: ∀p,bw d p↔dP c p):jl c=d.map (·.l):=by
 refine NC (au1 hok (hd.ne.elim fun q hq=>⟨q,(h q).1 hq⟩)) ?_ fun x=>(Wc hok hd h x).symm;unfold vu;rw[sL];exact ha
def Ng{c:ar}(hc:bG c)(hs:s∈c)(h:s.v.nh=true): ∀u∈c,0<=u.l.nor.dot s.l.dir:=fun u hu=>by
 obtain⟨p1,p2⟩:=hc.edge s hs;have hi:=(pI p1).has;have key: ∀n:Rat,0<=n->0<=u.l.value (s.l.at (s.v.sample+n)):=fun n hn=>((p2 _).1 ⟨hi.1.imp id fun q=>by grind, .inl h⟩) u hu;have h0:=key 0 pb;rw[kG] at h0;by_cases q:0<=u.l.nor.dot s.l.dir
 .exact q
 .exfalso
  have q':0< -(s.l.cutK u.l):=by unfold ah.cutK;grind
  have h1:=key ((s.l.cutC u.l+s.v.sample*s.l.cutK u.l+1)/ -(s.l.cutK u.l)) (by
   have:=(fB (s:=(s.l.cutC u.l+s.v.sample*s.l.cutK u.l+1)/ -(s.l.cutK u.l)) q').1 (by rw[show(s.l.cutC u.l+s.v.sample*s.l.cutK u.l+1)/ -(s.l.cutK u.l)* -(s.l.cutK u.l)=s.l.cutC u.l+s.v.sample*s.l.cutK u.l+1 by grind];grind);grind)
  rw[kG] at h1;have:(s.l.cutC u.l+s.v.sample*s.l.cutK u.l+1)/ -(s.l.cutK u.l)*s.l.cutK u.l= -(s.l.cutC u.l+s.v.sample*s.l.cutK u.l+1):=by grind
  grind
def aGA{c:ar}(hc:bG c)(hs:s∈c)(h:s.v.nl=true): ∀u∈c,u.l.nor.dot s.l.dir<=0:=fun u hu=>by
 obtain⟨p1,p2⟩:=hc.edge s hs;have hi:=(pI p1).has;have key: ∀n:Rat,0<=n->0<=u.l.value (s.l.at (s.v.sample-n)):=fun n hn=>((p2 _).1 ⟨.inl h,hi.2.imp id fun q=>by grind⟩) u hu;have h0:=key 0 pb;rw[kG] at h0;by_cases q:u.l.nor.dot s.l.dir<=0
 .exact q
 .exfalso
  have q':0<s.l.cutK u.l:=by unfold ah.cutK;grind
  have h1:=key ((s.l.cutC u.l+s.v.sample*s.l.cutK u.l+1)/s.l.cutK u.l) (by
   have:=(fB (s:=(s.l.cutC u.l+s.v.sample*s.l.cutK u.l+1)/s.l.cutK u.l) q').1 (by rw[show(s.l.cutC u.l+s.v.sample*s.l.cutK u.l+1)/s.l.cutK u.l*s.l.cutK u.l=s.l.cutC u.l+s.v.sample*s.l.cutK u.l+1 by grind];grind);grind)
  rw[kG] at h1;have:(s.l.cutC u.l+s.v.sample*s.l.cutK u.l+1)/s.l.cutK u.l*s.l.cutK u.l=s.l.cutC u.l+s.v.sample*s.l.cutK u.l+1:=by grind
  grind
def D5:ah:=⟨1,0,0⟩
def tP(c:List ah)(i:Nat):List aa:=
 if 0<Int.sign ((c.getD i D5).dir.cross (c.getD ((i+1)%c.length) D5).dir).num then [dC (c.getD i D5) (c.getD ((i+1)%c.length) D5)] else []
def kE(c:List ah):List aa:=(List.range c.length).flatMap (tP c)
def xT{l:ah}(h1:c[i]? =some l)(h2:c[(i+1)%c.length]? =some m):tP c i=if 0<Int.sign (l.dir.cross m.dir).num then [dC l m] else []:=by
 unfold tP;rw[aK,aK,h1,h2];rfl
def IJ(c:List ah)(k:Nat):(List.range (k+1)).flatMap (tP c)=(List.range k).flatMap (tP c)++tP c k:=by
 rw[qZ,pV];simp
def Kk(c:List ah): ∀k,((List.range k).flatMap (tP c)).length<=k
 |0=>bW _
 |k+1=>by
  have:=Kk c k;have h2:(tP c k).length<=1:=by unfold tP;split<;>simp
  rw[IJ,aU];omega
def aCh(h:p∈kE c): ∃l∈c,∃m∈c,p=dC l m:=by
 obtain⟨i,hi,hp⟩:=gJ.1 h;have hi':=jU.1 hi;have e1:=aZ hi';have e2:=aZ (l:=c) (dJ (i+1) (show 0<c.length by omega));rw[xT e1 e2] at hp;split at hp
 .exact⟨_,cK _,_,cK _,aY.1 hp⟩
 .cases hp
def aqB{t:Tr}(ht:t.all ah.ok): ∀c∈f7 t,bG c:=fun c hc=>(As ht bG.nil (tF.1 hc)).1
def JC{l:ah}: ∀{c:List ah} {v:ao},(gt l c v).2=true->gp l c v=some (gt l c v).1
 |[],v,_=>rfl
 |m::t,v,h=>by
  rw[gt] at h⊢;rw[gp];split
  .rename_i e;rw[if_pos e] at h;exact JC h
  .rename_i e
   rw[if_neg e] at h;split
   .rename_i k;rw[if_pos k] at h;exact JC h
   .rename_i k;rw[if_neg k] at h;cases h
def aq3(h:v.Pos):v.ins (kA v):=by
 obtain⟨lo,hi,nl,nh⟩:=v;unfold ao.Pos at h;unfold kA ao.ins
 cases nl<;>cases nh<;>simp at* <;>grind
def T4{p v:aa}: ∀{c:List ah} {s:Rat},0<s->0<nv p v c s/\nv p v c s<=s/\ ∀m∈c,0<m.value p->m.nor.dot v<0->nv p v c s<= -(m.value p/m.nor.dot v)/2
 |[],s,h=>⟨h,eY,fun m hm=>by cases hm⟩
 |m::t,s,h=>by
  have hk:m.value (cd p v ((1:Int):Rat))-m.value p=m.nor.dot v:=by rw[iC];grind
  have key:0<ph p v m s/\ph p v m s<=s/\(0<m.value p->m.nor.dot v<0->ph p v m s<= -(m.value p/m.nor.dot v)/2):=by
   unfold ph uz;simp only[hk,mm,kg,DL];split
   .rename_i e;exact⟨h,eY,fun _ k=>by rw[e] at k;exact absurd k pb⟩
   .split
    .rename_i e;exact⟨h,eY,fun k=>by rw[e] at k;exact absurd k pb⟩
    .split
     .rename_i e
      split
      .exact⟨va,va,fun _ _=>eY⟩
      .exact⟨h,eY,fun _ _=>by grind⟩
     .rename_i e
      exact⟨h,eY,fun k1 k2=>absurd (Uf k2 k1) e⟩
  obtain⟨a1,a2,a3⟩:=key;obtain⟨b1,b2,b3⟩:=T4 (p:=p) (v:=v) (c:=t) a1;rw[nv];refine⟨b1,va,fun u hu k1 k2=>?_⟩;rcases aV.1 hu with rfl|hu
  .have:=a3 k1 k2;grind
  .exact b3 u hu k1 k2
def X2{v:aa}(h: ∀m∈c,0<m.value p\/(m.value p=0/\0<m.nor.dot v)):dP c (Ab c p v):=fun m hm=>by
 obtain⟨s0,_,s2⟩:=T4 (p:=p) (v:=v) (c:=c) (s:=((1:Int):Rat)) pb;unfold Ab;generalize nv p v c ((1:Int):Rat)=s at*;rw[iC];rcases h m hm with k|⟨k,k2⟩
 .by_cases q:m.nor.dot v<0
  .have h3:=s2 m hm k q
   have h4:=Uf q k;have e:m.value p/m.nor.dot v*m.nor.dot v=m.value p:=by grind
   generalize m.value p/m.nor.dot v=z at*;have h5:=cC (a:= -z/2-s) (b:= -m.nor.dot v) va va;grind
  .have:=cC (cR s0) (show 0<=m.nor.dot v by grind)
   grind
 .have:=bE s0 k2
  grind
def VD(h:m.Ne):0<m.nor.dot (f9 m.dir):=by
 have:=mG h;have e:m.nor.dot (f9 m.dir)=m.nor.dot m.nor:=by unfold f9 ah.dir ah.nor aa.dot;grind
 rw[e];exact this
def aw1(hok: ∀m∈c,m.ok)(hb:lF c=true):dP c (jx c c):=by
 have key: ∀t:List ah,(∀m∈t,m∈c)->(∃m∈t,(gp m c ao.all).isSome=true)->dP c (jx c t):=by
  intro t
  induction t with
  |nil=>rintro _ ⟨m,hm,_⟩;cases hm
  |cons m t ih=>
   intro hs hx;rw[jx];split
   .rename_i e
    obtain⟨h1,h2⟩:=Bq m c _ _ ye (JC e);have h3:=((h2 _).1 (aq3 h1)).2;have hmo:=(hok m (hs m aQ)).ne;refine X2 fun u hu=>?_;by_cases q:u=m
    .subst q;exact .inr ⟨mj hmo _,VD hmo⟩
    .exact .inl (h3 u hu q)
   .rename_i e
    refine ih (fun u hu=>hs u (aJ _ hu)) ?_;obtain⟨u,hu,h⟩:=hx;rcases aV.1 hu with rfl|hu
    .rw[xQ] at e;exact absurd h e
    .exact⟨u,hu,h⟩
 unfold lF at hb;rw[gS,tQ,iU] at hb;rcases hb with rfl|⟨m,hm,h⟩
 .exact fun m hm=>by cases hm
 .exact key c (fun _ h=>h) ⟨m,hm,h⟩
def dP.seg{e:Rat}(hq:dP c q)(hp:dP c p)(h0:0<=e)(h1:e<=1):dP c (bO q p e):=fun m hm=>by
 rw[lE];have a:=hq m hm;have b:=hp m hm;by_cases z:e=0
 .subst z;grind
 .have k1:=bE (show 0<e by grind) b
  have k2:=cC (show 0<=1-e by grind) (cR a);grind
def dP.open{c:List ah}{q:aa}(u:aa)(h:dP c q): ∃e:Rat,0<e/\ ∀d,0<=d->d<=e->dP c (cd q u d):=by
 have hd:bw (c.map fun m=>(⟨m,ao.all⟩:bt)) q:=fun s hs=>by
  obtain⟨m,hm,rfl⟩:=aT.1 hs;exact h m hm
 obtain⟨e,he,ho⟩:=hd.open u;exact⟨e,he,fun d d0 d1 m hm=>ho d d0 d1 ⟨m,ao.all⟩ (dQ hm)⟩
def yt(l:ah)(t u:Rat):l.at (t+u)=cd (l.at t) l.dir u:=by
 rw[<-tf,<-tf];unfold cd;simp only[aa.mk.injEq];constructor<;>grind
def aHZ(l:ah)(a b s:Rat):bO (l.at a) (l.at b) s=l.at (a+s*(b-a)):=by
 rw[<-tf,<-tf,<-tf];unfold bO cd;simp only[aa.mk.injEq];constructor<;>grind
def PJ{l:ah}(h:l.Ne)(t:Rat):gy l (l.at t)=t:=by
 obtain⟨q,_,hq⟩:=zk h;have h2:=mG h;have e0:l.dir.dot l.dir=l.nor.dot l.nor:=by unfold ah.dir ah.nor aa.dot;grind
 have e1:(l.at t).dot l.dir=t*l.dir.dot l.dir:=by
  rw[<-tf,hq];unfold cd ah.dir aa.dot;grind
 unfold gy;rw[e1];rw[<-e0] at h2;generalize l.dir.dot l.dir=d at*;have:d≠0:=by grind
 grind
def MK{l:ah}(h:l.Ne)(hp:l.value p=0):l.at (gy l p)=p:=by
 obtain⟨t,rfl⟩:=yn h hp;rw[PJ h]
def If(a:Int)(h:g∣a.natAbs):(g:Int)*zv (decide (a<0)) (a.natAbs/g)=a:=by
 obtain⟨k,hk⟩:=h;by_cases g0:g=0
 .subst g0;simp at hk⊢;omega
 have e:a.natAbs/g=k:=by rw[hk];exact sX k (iR g0)
 rw[e];unfold zv;have hc:((g*k:Nat):Int)=(g:Int)*(k:Int):=by push_cast;rfl
 by_cases n:a<0
 .simp only[n,decide_true,if_true];rw[Int.mul_neg];omega
 .simp only[n,decide_false];show(g:Int)*(k:Int)=a;omega
def aEn{a b c:Int}(h: ¬(a=0/\b=0)): ∃g:Int,0<g/\g*(pk a b c).a=a/\g*(pk a b c).b=b/\g*(pk a b c).c=c:=by
 have hg:0<Nat.gcd (Nat.gcd a.natAbs b.natAbs) c.natAbs:=mV _ (iR fun e=>h ⟨lZ.1 (mS e),lZ.1 (mU e)⟩);refine⟨(Nat.gcd (Nat.gcd a.natAbs b.natAbs) c.natAbs:Nat),m5,?_,?_,?_⟩
 .exact If a (rT (lV _ _) (lV _ _))
 .exact If b (rT (lV _ _) (mY _ _))
 .exact If c (mY _ _)
def BD(h:cuts.Pairwise (· < ·))(hij:i<j)(hj:j<cuts.length):cuts.getD i 0<cuts.getD j 0:=by
 rw[aK,aK,aZ hj,aZ m5];exact lW.1 h i j m5 hj hij
def HC{cuts:List Rat}{marks:List Bool}(h:cuts.Pairwise (· < ·)): ∀{k:Nat},∀v∈gA cuts marks (k+1),k<cuts.length->(v.nh=false/\v.hi<=cuts.getD k 0)/\(v.nl=true\/v.lo<cuts.getD k 0)
 |k,v,hv,hk=>by
  have hg:((d8 cuts k).nh=false/\(d8 cuts k).hi<=cuts.getD k 0)/\((d8 cuts k).nl=true\/(d8 cuts k).lo<cuts.getD k 0):=by
   unfold d8;dsimp only;refine⟨⟨by simp;omega,by rw[if_pos hk];exact eY⟩,?_⟩;by_cases z:k=0
   .left;simp[z]
   .right;rw[if_neg z];exact BD h m5 hk
  have hold: ∀v∈gA cuts marks k,(v.nh=false/\v.hi<=cuts.getD k 0)/\(v.nl=true\/v.lo<cuts.getD k 0):=fun v hv=>by
   cases k with
   |zero=>cases hv
   |succ k=>
    have ih:=HC h v hv m5;have:=BD h (Nat.lt_succ_self k) hk;exact⟨⟨ih.1.1,by have:=ih.1.2;grind⟩,ih.2.imp id fun z=>by grind⟩
  rw[gA] at hv;split at hv
  .split at hv
   .split at hv
    .rename_i w hw
     rcases aL.1 hv with q|q
     .exact hold v ((List.dropLast_sublist _).subset q)
     .rw[aY] at q;subst q
      exact⟨hg.1,(hold w (qR hw)).2⟩
    .rcases aL.1 hv with q|q
     .exact hold v q
     .rw[aY] at q;subst q;exact hg
   .rcases aL.1 hv with q|q
    .exact hold v q
    .rw[aY] at q;subst q;exact hg
  .exact hold v hv
def R9{cuts:List Rat}{marks:List Bool}(h:cuts.Pairwise (· < ·)){x:Rat}{i:Nat}(hm:marks.getD i false=true)(hx:(d8 cuts i).ins x): ∀{k:Nat},k<=cuts.length+1->i<k-> ∃v∈gA cuts marks k,v.ins x
 |k+1,hk,hi=>by
  by_cases e:i=k
  .subst e
   rw[gA,if_pos hm];split
   .rename_i h0
    split
    .rename_i w hw
     refine⟨_,aM _ (aY.2 J),?_,hx.2⟩;obtain⟨j,rfl⟩: ∃j,i=j+1:=⟨i-1,m5⟩;have:=(HC h w (qR hw) m5).2;have hl:=hx.1;unfold d8 at hl;dsimp only at hl;rw[if_neg m5,show j+1-1=j by omega] at hl;have hl':cuts.getD j 0<x:=hl.resolve_left vb;exact this.imp id fun z=>by show w.lo<x;grind
    .exact⟨_,aM _ (aY.2 J),hx⟩
   .exact⟨_,aM _ (aY.2 J),hx⟩
  .obtain⟨v,hv,hvx⟩:=R9 h hm hx (k:=k) m5 m5
   rw[gA];split
   .split
    .split
     .rename_i w hw
      by_cases q:v=w
      .subst q
       refine⟨_,aM _ (aY.2 J),hvx.1,?_⟩;show(d8 cuts k).nh=true\/x<(d8 cuts k).hi;obtain⟨j,rfl⟩: ∃j,k=j+1:=⟨k-1,m5⟩;obtain⟨⟨b1,b2⟩,_⟩:=HC h v hv m5;have hh:=hvx.2.resolve_left (by rw[b1];decide);unfold d8;dsimp only;by_cases z:j+1<cuts.length
       .right;rw[if_pos z];have:=BD h (Nat.lt_succ_self j) z;grind
       .left;simp;omega
      .refine⟨v,bJ _ ?_,hvx⟩
       obtain⟨l,hl⟩:=List.getLast?_eq_some_iff.1 hw;rw[hl] at hv⊢;rw[List.dropLast_concat];rcases aL.1 hv with z|z
       .exact z
       .rw[aY] at z;exact absurd z q
     .exact⟨v,bJ _ hv,hvx⟩
    .exact⟨v,bJ _ hv,hvx⟩
   .exact⟨v,hv,hvx⟩
def Ma: ∀{l:List Rat} {i:Nat},i+1<l.length->(gI l).getD i 0=(l.getD i 0+l.getD (i+1) 0)/2
 |[],_,h=>by simp at h
 |[_],_,h=>by simp at h
 |a::b::t,0,_=>by simp[gI]
 |a::b::t,i+1,h=>by
  have:=Ma (l:=b::t) (i:=i) (by simp at h⊢;omega);rw[gI,jS,this];simp only[jS]
def CC: ∀(l:List Rat) (a:Rat),(gI (a::l)).length=l.length
 |[],_=>rfl
 |b::t,a=>by rw[gI,aN,CC t b,aN]
def aBw(h:cuts.Pairwise (· < ·))(hi:i<=cuts.length)(hj:j<cuts.length):(cuts.getD j 0<(cx cuts).getD i 0↔j<i)/\cuts.getD j 0≠(cx cuts).getD i 0:=by
 have mono: ∀{a b:Nat},a<=b->b<cuts.length->cuts.getD a 0<=cuts.getD b 0:=fun{a b} hab hb=>by
  by_cases e:a=b
  .subst e;exact eY
  .exact cR (BD h m5 hb)
 cases cuts with
 |nil=>simp at hj
 |cons a t=>
  have hl:(a::t).length=t.length+1:=J;rw[cx]
  cases i with
  |zero=>
   rw[nT];have:=mono (bK j) hj;rw[nT] at this;constructor
   .constructor
    .intro q;exfalso;grind
    .intro q;omega
   .intro q;grind
  |succ i=>
   rw[jS];by_cases e:i<t.length
   .have e1:(gI (a::t)++[(a::t).getLast vb+1]).getD i 0=((a::t).getD i 0+(a::t).getD (i+1) 0)/2:=by
     rw[<-Ma m5,aK,aK,fS (by rw[CC];exact e)]
    rw[e1];have h1:=BD h (Nat.lt_succ_self i) m5;by_cases q:j<=i
    .have:=mono q m5
     constructor
     .exact⟨fun _=>by omega,fun _=>by grind⟩
     .grind
    .have:=mono (show i+1<=j by omega) hj
     constructor
     .exact⟨fun _=>by exfalso;grind,fun _=>by omega⟩
     .grind
   .have ei:i=t.length:=by omega
    have e1:(gI (a::t)++[(a::t).getLast vb+1]).getD i 0=(a::t).getLast vb+1:=by
     rw[aK,fN (by rw[CC];omega),CC,ei];simp
    rw[e1];have:=Dy h vb ((a::t).getD j 0) (by rw[aK,aZ hj];exact cK _);constructor
    .exact⟨fun _=>by omega,fun _=>by grind⟩
    .grind
def Sa(x:Rat): ∀{cuts:List Rat},cuts.Pairwise (· < ·)-> ∃i,i<=cuts.length/\ ∀j,j<cuts.length->(cuts.getD j 0<x↔j<i)
 |[],_=>⟨0,bW _,fun j hj=>by simp at hj⟩
 |a::t,h=>by
  rw[bU] at h;by_cases q:a<x
  .obtain⟨i,h1,h2⟩:=Sa x h.2
   refine⟨i+1,by simp;exact h1,fun j hj=>?_⟩
   cases j with
   |zero=>simp[q]
   |succ j=>rw[jS,h2 j omK];omega
  .refine⟨0,bK _,fun j hj=>⟨fun k=>?_,fun k=>by omega⟩⟩
   exfalso
   cases j with
   |zero=>simp at k;grind
   |succ j=>
    rw[jS] at k;have hj':j<t.length:=by simpa using hj
    have:=h.1 (t.getD j 0) (by rw[aK,aZ hj'];exact cK _);grind
def SQ{s:ao}:y∈mi out s↔y∈out\/(s.nl=false/\y=s.lo)\/(s.nh=false/\y=s.hi):=by
 unfold mi
 cases e1:s.nl<;>cases e2:s.nh<;>simp[qI]<;>grind
def Mb:gD [v] x=true↔v.ins x:=by
 unfold gD uj uj ao.ins;have h1:=IL x v.lo;have h2:=DL x v.hi;rw[decide_eq_true_eq]
 cases e1:v.nl<;>cases e2:v.nh<;>simp only[if_true,kW,if_false,false_or,true_or,h1,h2,and_true,true_and,show(0:Int)<1 from by decide,show(-1:Int)<0 from by decide]<;>grind
def Rj(hl:v.nl=true\/v.lo∈cuts)(hh:v.nh=true\/v.hi∈cuts){g:Rat}(ho: ∀u∈cuts,(u<x↔u<g)/\u≠x/\u≠g)(h:v.ins x):v.ins g:=by
 refine⟨?_,?_⟩
 .rcases hl with e|e
  .exact .inl e
  .rcases h.1 with k|k
   .exact .inl k
   .exact .inr ((ho _ e).1.1 k)
 .rcases hh with e|e
  .exact .inl e
  .rcases h.2 with k|k
   .exact .inl k
   .obtain⟨a,b,c⟩:=ho _ e
    right;by_cases q:v.hi<g
    .have:=a.2 q;grind
    .grind
def aBg{w:ao}(hv:v.ins t)(hw:w.ins t): ∃z∈pA 2 [v] [w],z.ins t:=by
 have hmem: ∀y,y∈ja ([v]++[w])↔((v.nl=false/\y=v.lo)\/(v.nh=false/\y=v.hi))\/(w.nl=false/\y=w.lo)\/(w.nh=false/\y=w.hi):=fun y=>by
  show y∈mi (mi [] v) w↔_;rw[SQ,SQ];simp
 have hasc:=(Ge ([v]++[w])).1;have h0: ∀u∈ja ([v]++[w]),u≠t:=fun u hu e=>by
  subst e;rcases(hmem u).1 hu with(⟨a,b⟩|⟨a,b⟩)|⟨a,b⟩|⟨a,b⟩
  .have:=hv.1.resolve_left (by rw[a];decide);grind
  .have:=hv.2.resolve_left (by rw[a];decide);grind
  .have:=hw.1.resolve_left (by rw[a];decide);grind
  .have:=hw.2.resolve_left (by rw[a];decide);grind
 have l1:v.nl=true\/v.lo∈ja ([v]++[w]):=by
  cases e:v.nl with
  |true=>exact .inl J
  |false=>exact .inr ((hmem _).2 (.inl (.inl ⟨e,J⟩)))
 have l2:v.nh=true\/v.hi∈ja ([v]++[w]):=by
  cases e:v.nh with
  |true=>exact .inl J
  |false=>exact .inr ((hmem _).2 (.inl (.inr ⟨e,J⟩)))
 have l3:w.nl=true\/w.lo∈ja ([v]++[w]):=by
  cases e:w.nl with
  |true=>exact .inl J
  |false=>exact .inr ((hmem _).2 (.inr (.inl ⟨e,J⟩)))
 have l4:w.nh=true\/w.hi∈ja ([v]++[w]):=by
  cases e:w.nh with
  |true=>exact .inl J
  |false=>exact .inr ((hmem _).2 (.inr (.inr ⟨e,J⟩)))
 unfold pA wl;generalize ja ([v]++[w])=cuts at*;obtain⟨i,hi,ho⟩:=Sa t hasc;have hord: ∀u∈cuts,(u<t↔u<(cx cuts).getD i 0)/\u≠t/\u≠(cx cuts).getD i 0:=fun u hu=>by
  obtain⟨j,hj,e⟩:=nX.1 hu;have e':cuts.getD j 0=u:=by rw[aK,aZ hj];exact e
  obtain⟨g1,g2⟩:=aBw hasc hi hj;have:=ho j hj;rw[e'] at g1 g2 this;exact⟨this.trans g1.symm,h0 u hu,g2⟩
 have hlen:(cx cuts).length=cuts.length+1:=xS;refine R9 hasc (i:=i) ?_ ?_ (by rw[aX,hlen];exact bW _) (by rw[aX,hlen];omega)
 .rw[aK,cZ,aZ m5]
  show oH 2 (gD [v] _) (gD [w] _)=true;have e:(cx cuts)[i]' m5=(cx cuts).getD i 0:=by rw[aK,aZ m5];rfl
  rw[e,Mb.2 (Rj l1 l2 hord hv),Mb.2 (Rj l3 l4 hord hw)];rfl
 .unfold d8 ao.ins
  dsimp only;refine⟨?_,?_⟩
  .by_cases z:i=0
   .left;simp[z]
   .right;rw[if_neg z];exact(ho (i-1) m5).2 m5
  .by_cases z:i=cuts.length
   .left;simp[z]
   .right
    rw[if_pos m5];have a:=ho i m5;have b:=h0 (cuts.getD i 0) (by rw[aK,aZ m5];exact cK _);have c: ¬cuts.getD i 0<t:=fun k=>by have:=a.1 k;omega
    grind
def Ms{l:ah}(h:crossI l m=0):l.cutK m=0:=by
 have e:l.cutK m= -(crossI l m:Rat):=by unfold ah.cutK ah.nor ah.dir aa.dot crossI;push_cast;grind
 rw[e,h];rfl
def aBU{k:Rat}(hs:side=1\/side= -1)(h:0<(side:Rat)*k):k.num.sign=side:=by
 rcases hs with rfl|rfl
 .exact(nC k).2 va
 .have:k.num.sign<0:=(rm k).2 va
  have:=rK k.num;omega
def ayK(hs:side=1\/side= -1)(hl:f.l.Ne)(ht:f.v.ins t)(hm:0<(side:Rat)*m.value (f.l.at t)): ∃g∈fH f m side,g.l=f.l/\g.v.ins t:=by
 have hv:=kG f.l m t;have ho: ¬mD f.l m=true:=fun e=>by
  unfold mD at e;rw[decide_eq_true_eq,mm] at e;rw[Ms e.1,show f.l.cutC m=m.value f.l.base from J,e.2] at hv;rw[hv] at hm;grind
 unfold fH;rw[if_neg ho];have hh: ∃w,ju f.l m side=[w]/\w.ins t:=by
  unfold ju;by_cases hc:crossI f.l m=0
  .rw[if_pos hc]
   rw[Ms hc,show f.l.cutC m=m.value f.l.base from J] at hv;rw[if_pos (aBU hs (by rw[hv] at hm;grind))];exact⟨_,J,aFQ t⟩
  .rw[if_neg hc]
   have hp:=At hl hc;have hK:f.l.cutK m≠0:=fun e=>by
    have e2:f.l.cutK m= -(crossI f.l m:Rat):=by unfold ah.cutK ah.nor ah.dir aa.dot crossI;push_cast;grind
    rw[e2] at e;have:(crossI f.l m:Rat)=0:=by grind
    exact hc (cS.1 this)
   generalize hx:gy f.l (dC f.l m)=x at*;have hv2: ∀u,m.value (f.l.at u)=f.l.cutK m*(u-x):=fun u=>by rw[kG,hp];grind
   rw[hv2] at hm;have e1:m.value (f.l.at (x+1))=f.l.cutK m:=by rw[hv2];grind
   rw[e1];generalize f.l.cutK m=K at*;by_cases q:K.num.sign=side
   .rw[if_pos q]
    refine⟨_,J, .inr ?_, .inl J⟩;show x<t;rcases hs with rfl|rfl
    .have:=(nC K).1 q
     have:=(ot this).1 (show 0<K*(t-x) by grind);grind
    .have:=(rm K).1 m5
     have:=(HR this).1 (show K*(t-x)<0 by grind);grind
   .rw[if_neg q]
    refine⟨_,J, .inl J, .inr ?_⟩;show t<x;have h3:=fG K;rcases hs with rfl|rfl
    .have kn:K<0:=by
      rcases h3 with h|h|h
      .exact absurd h hK
      .exact absurd ((nC K).2 h) q
      .exact h
     have:=(HR kn (b:=x-t)).1 va;grind
    .have kp:0<K:=by
      rcases h3 with h|h|h
      .exact absurd h hK
      .exact h
      .exact absurd (by have:=(rm K).2 h;have:=rK K.num;omega) q
     have:=(ot kp (b:=x-t)).1 va;grind
 obtain⟨w,e,hw⟩:=hh;rw[e];obtain⟨z,hz,hzt⟩:=aBg ht hw;exact⟨⟨f.l,z⟩,dQ hz,J,hzt⟩
def E5(E:List bt)(c:List ah)(l:List bt):Prop:= ∀e∈E,∀t,e.v.ins t->dP c (e.l.at t)-> ∃f∈l,f.l=e.l/\f.v.ins t
def E5.split{E l:List bt}(h:E5 E c l)(hE: ∀e∈E,e.l.Ne)(hs:side=1\/side= -1)(hm': ∀p,m'.value p=(side:Rat)*m.value p):E5 E (c++[m']) (l.flatMap fun g=>fH g m side):=fun e he t ht hin=>by
 obtain⟨h1,h2⟩:=se.1 hin;obtain⟨f,hf,ef,hft⟩:=h e he t ht h1;rw[hm'] at h2;obtain⟨g,hg,eg,hgt⟩:=ayK (f:=f) hs (by rw[ef];exact hE e he) hft (by rw[ef];exact h2);exact⟨g,gJ.2 ⟨f,hf,hg⟩,by rw[eg,ef],hgt⟩
def HM{acc:aa->Bool}{E:List bt}(hE: ∀e∈E,e.l.Ne)(ha: ∀(c:List ah) (q p:aa),(∀e∈E,∀t,e.v.ins t-> ¬dP c (e.l.at t))->dP c q->dP c p->acc q=acc p): ∀{n:Nat} {l:List bt} {c:List ah} {p:aa},(∀f∈l,lu f)->tE n l->(∀m∈c,m.ok)->E5 E c l->dP c p->cB (jg acc n l c).lns p->(jg acc n l c).val p=acc p
 |n,[],c,p,_,_,hc,hcov,hp,_=>by
  have e:jg acc n [] c= .leaf (acc (jx c c)):=by cases n<;>rfl
  rw[e,Tr.val];exact ha c _ _ (fun e he t ht hin=>by obtain⟨f,hf,_⟩:=hcov e he t ht hin;cases hf) (aw1 hc ((H3 hc).2 ⟨p,hp⟩)) hp
 |0,f::t,_,_,_,hf,_,_,_,_=>by
  obtain⟨K,hK,hs⟩:=hf;obtain⟨m,hm,_⟩:=hs f aQ;have:K=[]:=cJ m5;rw[this] at hm;cases hm
 |n+1,f::t,c,p,hok,hf,hc,hcov,hp,hoff=>by
  have fo:=hok f aQ;have hok': ∀side,∀g∈(f::t).flatMap fun g=>fH g f.l side,lu g:=fun side g hg=>by
   obtain⟨q,hq,hg⟩:=gJ.1 hg;exact(Cw (hok q hq) fo.lb g hg).1
  rw[jg] at hoff⊢;by_cases q:0<f.l.value p
  .rw[Tr.val_pos q]
   exact HM hE ha (hok' 1) (hf.split hok) (n8 hc fo.ok) (hcov.split hE (.inl J) fun p=>by grind) (se.2 ⟨hp,q⟩) hoff.x
  .rw[Tr.val_neg q]
   have:=hoff.l;exact HM hE ha (hok' (-1)) (hf.split hok) (n8 hc fo.ok.rev) (hcov.split hE (.inr J) fun p=>by rw[fh];grind) (se.2 ⟨hp,by rw[fh];grind⟩) hoff.y
def Kf: ∀(c:ar) (A B:bt->Rat),(∀u∈c,0<=A u/\(0<=B u\/0<A u))-> ∃e:Rat,0<e/\ ∀u∈c,0<=A u+e*B u
 |[],_,_,_=>⟨1,pb,fun u hu=>by cases hu⟩
 |s::t,A,B,h=>by
  obtain⟨e,e0,he⟩:=Kf t A B fun u hu=>h u (aJ _ hu);obtain⟨h1,h2⟩:=h s aQ;have hold: ∀q,0<=q->q<=e-> ∀u∈t,0<=A u+q*B u:=fun q q0 q1 u hu=>I7 (h u (aJ _ hu)).1 (he u hu) q0 q1;by_cases hb:0<=B s
  .refine⟨e,e0,fun u hu=>?_⟩
   rcases aV.1 hu with rfl|hu
   .have:=cC (cR e0) hb;grind
   .exact he u hu
  .have ha:=h2.resolve_left hb
   have hq:0<A s/ -(B s):=(fB (k:= -(B s)) va).1 (by rw[show A s/ -(B s)* -(B s)=A s by grind];exact ha);have hm:A s/ -(B s)* -(B s)=A s:=by grind
   generalize A s/ -(B s)=q at*;by_cases k:q<=e
   .refine⟨q,hq,fun u hu=>?_⟩
    rcases aV.1 hu with rfl|hu
    .grind
    .exact hold q (cR hq) k u hu
   .refine⟨e,e0,fun u hu=>?_⟩
    rcases aV.1 hu with rfl|hu
    .have:=cC (show 0<=q-e by grind) (show 0<= -(B u) by grind)
     grind
    .exact he u hu
def GG(l m:ah)(t e:Rat):m.value (l.at (t+e))=m.value (l.at t)+e*m.nor.dot l.dir:=by
 rw[yt,iC]
def HY(h:s.v.Pos)(nh:s.v.nh=false):s.v.has s.v.hi:=by
 unfold ao.Pos at h;refine⟨?_, .inr eY⟩;rcases h with h|h|h
 .exact .inl h
 .rw[nh] at h;cases h
 .exact .inr (cR h)
def S2(h:s.v.Pos)(nl:s.v.nl=false):s.v.has s.v.lo:=by
 unfold ao.Pos at h;refine⟨.inr eY,?_⟩;rcases h with h|h|h
 .rw[nl] at h;cases h
 .exact .inl h
 .exact .inr (cR h)
def Zu{c:ar}(hc:bG c)(hs:s∈c)(nh:s.v.nh=false): ∃u∈c,u.l.value (s.l.at s.v.hi)=0/\u.l.nor.dot s.l.dir<0:=by
 obtain⟨p1,p2⟩:=hc.edge s hs;have hin:=(p2 _).1 (HY p1 nh);by_cases q: ∃u∈c,u.l.value (s.l.at s.v.hi)=0/\u.l.nor.dot s.l.dir<0
 .exact q
 .exfalso
  obtain⟨e,e0,he⟩:=Kf c (fun u=>u.l.value (s.l.at s.v.hi)) (fun u=>u.l.nor.dot s.l.dir) fun u hu=>by
   have h1:=hin u hu;refine⟨h1,?_⟩;by_cases k:0<=u.l.nor.dot s.l.dir
   .exact .inl k
   .right
    by_cases z:u.l.value (s.l.at s.v.hi)=0
    .exact absurd ⟨u,hu,z,va⟩ q
    .grind
  have hh:=(p2 (s.v.hi+e)).2 fun u hu=>by rw[GG];exact he u hu
  have:=hh.2;rw[nh] at this;rcases this with z|z
  .cases z
  .grind
def aG2{c:ar}(hc:bG c)(hs:s∈c)(nl:s.v.nl=false): ∃u∈c,u.l.value (s.l.at s.v.lo)=0/\0<u.l.nor.dot s.l.dir:=by
 obtain⟨p1,p2⟩:=hc.edge s hs;have hin:=(p2 _).1 (S2 p1 nl);by_cases q: ∃u∈c,u.l.value (s.l.at s.v.lo)=0/\0<u.l.nor.dot s.l.dir
 .exact q
 .exfalso
  obtain⟨e,e0,he⟩:=Kf c (fun u=>u.l.value (s.l.at s.v.lo)) (fun u=> -(u.l.nor.dot s.l.dir)) fun u hu=>by
   have h1:=hin u hu;refine⟨h1,?_⟩;by_cases k:0<= -(u.l.nor.dot s.l.dir)
   .exact .inl k
   .right
    by_cases z:u.l.value (s.l.at s.v.lo)=0
    .exact absurd ⟨u,hu,z,va⟩ q
    .grind
  have hh:=(p2 (s.v.lo+ -e)).2 fun u hu=>by rw[GG];have:=he u hu;grind
  have:=hh.1;rw[nl] at this;rcases this with z|z
  .cases z
  .grind
def L7(h:ds.Pairwise cA){s:aa}(hs:ds[i]? =some s)(hw:ds[(i+1)%ds.length]? =some w):mc ds s w:=by
 obtain⟨hi,rfl⟩:=aS.1 hs;obtain⟨hj,rfl⟩:=aS.1 hw;have hp:=lW.1 h;by_cases e:i+1<ds.length
 .have em:(i+1)%ds.length=i+1:=iN e
  left;simp only[em];refine⟨hp i (i+1) hi e m5,fun d hd=>?_⟩;obtain⟨j,hj,rfl⟩:=nX.1 hd;rintro ⟨a,b⟩;rcases qK j i with k|k|k
  .exact yB a (hp j i hj hi k)
  .subst k;exact sH _ a
  .by_cases z:j=i+1
   .subst z;exact sH _ b
   .exact yB b (hp (i+1) j e hj m5)
 .have ei:i+1=ds.length:=by omega
  have em:(i+1)%ds.length=0:=by rw[ei,Nat.mod_self]
  right;simp only[em];refine⟨fun d hd a=>?_,fun d hd b=>?_⟩
  .obtain⟨j,hj,rfl⟩:=nX.1 hd
   by_cases k:j=i
   .subst k;exact sH _ a
   .exact yB a (hp j i hj hi m5)
  .obtain⟨j,hj,rfl⟩:=nX.1 hd
   by_cases k:j=0
   .subst k;exact sH _ b
   .exact yB b (hp 0 j m5 hj m5)
def awB{s:aa}(hs:s.half≠0)(hw:w.half≠0)(hu:u.half≠0)(h1:0<s.cross u)(h2:0<u.cross w)(h3:0<s.cross w)(e:s.half=w.half):u.half=s.half:=by
 rcases iu hs with k|k
 .rw[k] at e⊢
  have a:=m8.1 k;have b:=m8.1 e.symm;rw[m8];unfold aa.cross at*
  -- u is Av s and w
  have i1:(s.x*w.y-s.y*w.x)*u.y=(u.x*w.y-u.y*w.x)*s.y+(s.x*u.y-s.y*u.x)*w.y:=by grind
  have i2:(s.x*w.y-s.y*w.x)*u.x=(u.x*w.y-u.y*w.x)*s.x+(s.x*u.y-s.y*u.x)*w.x:=by grind
  have y0:0<=s.y:=by grind
  have y1:0<=w.y:=by grind
  have m1:=cC (cR h2) y0;have m2:=cC (cR h1) y1;have uy:0<=u.y:=(iB h3).1 va;by_cases z:0<u.y
  .exact .inl z
  .right
   have z0:u.y=0:=by grind
   have i3:(u.x*w.y-u.y*w.x)*s.y+(s.x*u.y-s.y*u.x)*w.y=0:=by rw[<-i1,z0];grind
   have A0:(u.x*w.y-u.y*w.x)*s.y=0:=by generalize (u.x*w.y-u.y*w.x)*s.y=A at*;generalize (s.x*u.y-s.y*u.x)*w.y=B at*;grind
   have B0:(s.x*u.y-s.y*u.x)*w.y=0:=by grind
   have n1:s.y=0:=by
    rcases fX.1 A0 with q|q
    .grind
    .exact q
   have n2:w.y=0:=by
    rcases fX.1 B0 with q|q
    .grind
    .exact q
   rw[n1,n2] at h3;grind
 .rw[k] at e⊢
  have a:=qg.1 k;have b:=qg.1 e.symm;rw[qg];unfold aa.cross at*;have i1:(s.x*w.y-s.y*w.x)*u.y=(u.x*w.y-u.y*w.x)*s.y+(s.x*u.y-s.y*u.x)*w.y:=by grind
  have y0:0<= -s.y:=by grind
  have y1:0<= -w.y:=by grind
  have m1:=cC (cR h2) y0;have m2:=cC (cR h1) y1;have uy:0<= -u.y:=(iB h3).1 va;by_cases z:u.y<0
  .exact .inl z
  .right
   have z0:u.y=0:=by grind
   have i3:(u.x*w.y-u.y*w.x)*s.y+(s.x*u.y-s.y*u.x)*w.y=0:=by rw[<-i1,z0];grind
   have m3:(u.x*w.y-u.y*w.x)* -s.y= -((u.x*w.y-u.y*w.x)*s.y):=by grind
   have m4:(s.x*u.y-s.y*u.x)* -w.y= -((s.x*u.y-s.y*u.x)*w.y):=by grind
   rw[m3] at m1;rw[m4] at m2;have A0:(u.x*w.y-u.y*w.x)*s.y=0:=by generalize (u.x*w.y-u.y*w.x)*s.y=A at*;generalize (s.x*u.y-s.y*u.x)*w.y=B at*;grind
   have B0:(s.x*u.y-s.y*u.x)*w.y=0:=by grind
   have n1:s.y=0:=by
    rcases fX.1 A0 with q|q
    .grind
    .exact q
   have n2:w.y=0:=by
    rcases fX.1 B0 with q|q
    .grind
    .exact q
   rw[n1,n2] at h3;grind
def XX(nz: ∀d∈ds,d.half≠0){s:aa}(hs:s∈ds)(hu:u∈ds)(hw:w∈ds)(hn:mc ds s w)(h1:0<s.cross u)(h2:0<u.cross w)(h3:0<s.cross w):False:=by
 have zs:=iu (nz s hs);have zu:=iu (nz u hu);have zw:=iu (nz w hw);rcases hn with⟨b,no⟩|⟨n1,n2⟩
 .by_cases e:s.half=w.half
  .have e2:=awB (nz s hs) (nz w hw) (nz u hu) h1 h2 h3 e
   exact no u hu ⟨.inr ⟨e2.symm,h1⟩, .inr ⟨m5,h2⟩⟩
  .have e1:s.half=1/\w.half=2:=by
    rcases b with b|⟨b,_⟩
    .omega
    .exact absurd b e
   rcases zu with k|k
   .exact no u hu ⟨.inr ⟨m5,h1⟩, .inl m5⟩
   .exact no u hu ⟨.inl m5, .inr ⟨m5,h2⟩⟩
 .have a:=n1 u hu
  have b:=n2 u hu;have a1: ¬s.half<u.half:=fun k=>a (.inl k);have a2:s.half≠u.half:=fun k=>a (.inr ⟨k,h1⟩);have b1: ¬u.half<w.half:=fun k=>b (.inl k);have b2:u.half≠w.half:=fun k=>b (.inr ⟨k,h2⟩);omega
def L3{n:aa}(hu:u.half≠0)(hw:w.half≠0)(hn:n.half≠0)(e1:w.half=u.half)(e2:u.half=n.half)(h1:0<u.cross n)(h2: ¬0<u.cross w):0<w.cross n:=by
 by_cases k:0<w.cross u
 .have b1:cA w u:= .inr ⟨e1,k⟩
  have b2:cA u n:= .inr ⟨e2,h1⟩;rcases wE b1 b2 with q|⟨_,q⟩
  .omega
  .exact q
 .have hz:w.cross u=0:=by rw[gv] at k⊢;grind
  by_cases q:0<w.cross n
  .exact q
  .exfalso
   have b2:cA u n:= .inr ⟨e2,h1⟩;by_cases q2:0<n.cross w
   .have b3:cA n w:= .inr ⟨m5,q2⟩
    rcases wE b2 b3 with z|⟨_,z⟩
    .omega
    .exact h2 z
   .have hz2:w.cross n=0:=by rw[gv] at q2;grind
    rcases iu hw with hh|hh
    .have a:=m8.1 hh
     have b:=m8.1 (show u.half=1 by omega);have c:=m8.1 (show n.half=1 by omega);unfold aa.cross at*;have j1:w.x*(u.x*n.y-u.y*n.x)=0:=by grind
     have j2:w.y*(u.x*n.y-u.y*n.x)=0:=by grind
     rcases fX.1 j1 with z|z
     .rcases fX.1 j2 with z2|z2<;>grind
     .grind
    .have a:=qg.1 hh
     unfold aa.cross at*;have j1:w.x*(u.x*n.y-u.y*n.x)=0:=by grind
     have j2:w.y*(u.x*n.y-u.y*n.x)=0:=by grind
     rcases fX.1 j1 with z|z
     .rcases fX.1 j2 with z2|z2<;>grind
     .grind
def WA(nz: ∀d∈ds,d.half≠0){s:aa}(hs:s∈ds)(hu:u∈ds)(hw:w∈ds)(hn:mc ds s w)(h1:0<s.cross u):0<s.cross w:=by
 have zs:=iu (nz s hs);have zu:=iu (nz u hu);have zw:=iu (nz w hw);have hneg:=u7 (nz s hs);have hnz:(bD s).half≠0:=by omega
 have e1:u.cross (bD s)=s.cross u:=by rw[nD,gv s u];grind
 have e2:w.cross (bD s)=s.cross w:=by rw[nD,gv s w];grind
 rcases hn with⟨b,no⟩|⟨n1,n2⟩
 .by_cases e:s.half=w.half
  .rcases b with b|⟨_,b⟩
   .omega
   .exact b
  .have e3:s.half=1/\w.half=2:=by
    rcases b with b|⟨b,_⟩
    .omega
    .exact absurd b e
   have nu:=no u hu;rcases zu with k|k
   .exact absurd ⟨.inr ⟨m5,h1⟩, .inl m5⟩ nu
   .rw[<-e2]
    exact L3 (nz u hu) (nz w hw) hnz m5 m5 (by rw[e1];exact h1) fun q=>nu ⟨.inl m5, .inr ⟨m5,q⟩⟩
 .have a:=n1 u hu
  have b:=n2 u hu;have a1: ¬s.half<u.half:=fun k=>a (.inl k);have a2:s.half≠u.half:=fun k=>a (.inr ⟨k,h1⟩);have b1: ¬u.half<w.half:=fun k=>b (.inl k);rw[<-e2];exact L3 (nz u hu) (nz w hw) hnz m5 m5 (by rw[e1];exact h1) fun q=>b (.inr ⟨m5,q⟩)
def aCp(s u w:ah)(h p:aa):s.dir.cross u.dir*w.value p=s.dir.cross u.dir*w.value h+w.dir.cross u.dir*(s.value p-s.value h)+s.dir.cross w.dir*(u.value p-u.value h):=by
 rw[jD,jD,jD,jD,jD,jD];unfold aa.cross ah.dir;grind
def ZG{c:ar}(hc:bG c): ∀d∈c.map (fun s=>s.l.dir),d.half≠0:=fun d hd=>by
 obtain⟨s,hs,rfl⟩:=aT.1 hd;exact vp (hc.ok s hs)
def Nq{c:ar}(hc:bG c){w:bt}(hs:s∈c)(hw:w∈c)(hn:mc (c.map fun s=>s.l.dir) s.l.dir w.l.dir)(nh:s.v.nh=false):0<s.l.dir.cross w.l.dir/\w.l.value (s.l.at s.v.hi)=0:=by
 obtain⟨u,hu,z1,z2⟩:=Zu hc hs nh;have su:0<s.l.dir.cross u.l.dir:=by rw[gv,tv];grind
 have nz:=ZG hc;have ms:=dQ (f:=fun s:bt=>s.l.dir) hs;have mu:=dQ (f:=fun s:bt=>s.l.dir) hu;have mw:=dQ (f:=fun s:bt=>s.l.dir) hw;have sw:=WA nz ms mu mw hn su;refine⟨sw,?_⟩;obtain⟨p1,p2⟩:=hc.edge s hs;have hin:=(p2 _).1 (HY p1 nh);have hs0:=mj (hc.ok s hs).ne s.v.hi;have h0:=hin w hw;by_cases q:w.l.value (s.l.at s.v.hi)=0
 .exact q
 .exfalso
  have wu:0<=w.l.dir.cross u.l.dir:=by
   by_cases k:0<u.l.dir.cross w.l.dir
   .exact(XX nz ms mu mw hn su k sw).elim
   .rw[gv];grind
  obtain⟨t1,t2⟩:=yx hc hw;have e:=aCp s.l u.l w.l (s.l.at s.v.hi) (w.l.at w.v.sample);rw[t2,z1,hs0] at e;have g1:=bE su (show 0<w.l.value (s.l.at s.v.hi) by grind);have g2:=cC wu (t1 s hs);have g3:=cC (cR sw) (t1 u hu);grind
end Go.Sx
end
