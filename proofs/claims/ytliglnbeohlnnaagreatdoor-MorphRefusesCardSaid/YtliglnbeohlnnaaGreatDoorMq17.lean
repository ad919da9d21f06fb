import Derived.Test.YtliglnbeohlnnaaGreatDoorMq16
set_option linter.all false
set_option maxHeartbeats 4000000
set_option maxRecDepth 100000
section
namespace Go.Sx
open Go Go.Proofs Tryz
variable {k i n g:Nat}{l ls out:List aa}{x:Rat}{a t y:Tr}{b:Bool}{α β:Type}{qs cuts:List Rat}{p u w:ah}{m:aa}{e c d:av}{s:bB}{ds:List ah}
variable {GB:Gh}
def L5(l:List Rat):fP l=gn bw l:=by
 unfold fP gn;have key: ∀(l o:List Rat),l.foldl (fun out x=>kI x out) o=l.foldl (fun out x=>c9 bw x out) o:=by
  intro l
  induction l with
  |nil=>intro o;rfl
  |cons a t ih=>intro o;rw[iK,iK,x9,ih]
 exact key l []
def Du(l:List Rat):(fP l).length<=l.length:=by
 have:=Dd bw l [];rw[L5];simpa[gn] using this
theorem IA{l:List Rat}(h: ∀q∈l,BQ q k): ∀g∈cv l,BQ g (2*k+100):=fun g hg=>by
 cases l with
 |nil=>
  rw[cv,aR] at hg;subst hg;exact BQ.mono (k:=1) ⟨oma,oma⟩ we
 |cons a t=>
  rw[cv] at hg;rcases aW.1 hg with rfl|hg
  .haveI:=h a aZ
   exact BQ.mono (inferInstance:BQ (a-1) _) we
  .rcases bX.1 hg with hg|hg
   .obtain⟨c,hc,d,hd,rfl⟩:=Lg hg
    haveI:=h c hc;haveI:=h d hd;exact BQ.mono (inferInstance:BQ ((c+d)/2) _) we
   .rw[aR] at hg
    haveI:=h _ (List.getLast_mem (l:=a::t) omc);subst hg;exact BQ.mono (inferInstance:BQ ((a::t).getLast omc+1) _) we
def vD(a:aa)(t:List aa):List Rat:=t.filterMap fun b=>if crossI a b=0 then none else some (dw a b).x
def KJ(a:aa)(t:List aa):d6 (a::t)=(if a.b=0 then [a.base.x] else [])++(vD a t++d6 t):=rfl
def aFI(a:aa)(t:List aa):(vD a t).length<=t.length:=jT _ _
def JJ: ∀l:List aa,(d6 l).length<=l.length*(l.length+1)
 |[]=>bJ _
 |a::t=>by
  have h1:=JJ t;have h2:=aFI a t;have h3:(if a.b=0 then [a.base.x] else []).length<=1:=by split<;>simp
  rw[KJ,aY,aY,bZ];have e:(t.length+1)*(t.length+1+1)=t.length*(t.length+1)+2*t.length+2:=by simp only[dY,eX];omega
  rw[e];omega
theorem BV: ∀{l:List aa},(∀a∈l,LB a)-> ∀x∈d6 l,BQ x 900
 |[],_,x,h=>by cases h
 |a::t,hl,x,h=>by
  haveI:=hl a aZ;have ht: ∀b∈t,LB b:=fun b hb=>hl b (aJ _ hb);rw[KJ] at h;rcases bX.1 h with h|h
  .split at h
   .rw[aR] at h;subst h;infer_instance
   .cases h
  .rcases bX.1 h with h|h
   .obtain⟨b,hb,e⟩:=gV.1 h
    haveI:=ht b hb;split at e
    .cases e
    .cases e;exact BQ.mono (inferInstance:BQ (dw a b).x 772)
   .exact BV ht x h
def QR(l:List aa)(x:Rat):(gw l x).length<=l.length:=jT _ _
theorem RJ(hl: ∀a∈l,LB a)(hx:BQ x 1900): ∀y∈gw l x,BQ y 2400:=fun y hy=>by
 obtain⟨a,ha,hb,rfl⟩:=M8 hy;haveI:=hl a ha;unfold yA;exact BQ.mono (inferInstance:BQ (-(((a.a:Rat)*x+(a.c:Rat))/(a.b:Rat))) _) we
def OA{a:aa}(h:l[k]? =some a):gw (l.drop k) x=(if a.b=0 then [] else [yA a x])++gw (l.drop (k+1)) x:=by
 obtain⟨hk,rfl⟩:=aT.1 h;rw[bK hk];unfold gw;rw[qL];split<;>(rename_i e;split at e<;>simp_all)
def PD{t:List aa}{a b:aa}(h:t[k]? =some b):vD a (t.drop k)=(if crossI a b=0 then [] else [(dw a b).x])++vD a (t.drop (k+1)):=by
 obtain⟨hk,rfl⟩:=aT.1 h;rw[bK hk];unfold vD;rw[qL];split<;>(rename_i e;split at e<;>simp_all)
def Pz{a:aa}(h:l[k]? =some a):d6 (l.drop k)=(if a.b=0 then [a.base.x] else [])++(vD a (l.drop (k+1))++d6 (l.drop (k+1))):=by
 obtain⟨hk,rfl⟩:=aT.1 h;rw[bK hk,KJ]
def zf{a b c:List α}(h:a++b=c):a.length<=c.length:=by rw[<-h,aY];omega
def xY(l:List aa)(x:Rat):List ah:=(cv (fP (gw l x))).map fun y=>⟨x,y⟩
def auC(l:List aa):p7 l=(cv (fP (d6 l))).flatMap (xY l):=rfl
def QO(l:List aa)(x:Rat):(xY l x).length<=l.length+1:=by
 unfold xY;rw[aX,yy];have:=Du (gw l x);have:=QR l x;omega
def Pt{α β:Type}(f:α->List β)(m:Nat): ∀l:List α,(∀x,(f x).length<=m)->(l.flatMap f).length<=l.length*m
 |[],_=>by simp
 |a::t,h=>by
  have:=Pt f m t h;have:=h a;rw[kJ,aY,bZ,gQ];omega
def Qe(h:l.length<=6000):(cv (fP (d6 l))).length<=36006001:=by
 have h1:=JJ l;have h2:=Du (d6 l);have h3:l.length*(l.length+1)<=6000*6001:=fU h we;rw[yy];omega
def R2(h:l.length<=6000):(p7 l).length<=216072012001:=by
 have h1:=Pt (xY l) 6001 (cv (fP (d6 l))) (fun x=>by have:=QO l x;omega);have h2:(cv (fP (d6 l))).length*6001<=36006001*6001:=bR _ (Qe h);rw[auC];omega
def ay3{f:α->List β}{l:List α}{x:α}(h:l[k]? =some x):(l.drop k).flatMap f=f x++(l.drop (k+1)).flatMap f:=by
 obtain⟨hk,rfl⟩:=aT.1 h;rw[bK hk,kJ]
def W7{f:α->β}{l:List α}{x:α}(h:l[k]? =some x):(l.drop k).map f=f x::(l.drop (k+1)).map f:=by
 obtain⟨hk,rfl⟩:=aT.1 h;rw[bK hk,bV]
def Am(l:List α):l.drop l.length=[]:=by simp
theorem okb{p:Prop}(h:p:=by dsimp only;exact⟨⟨by rw[qc hz,<-h1];exact hin.symm,we⟩,we⟩):p:=h
def Ub(hb: ∀q∈qs,BQ q k)(hk:k<=100000)(hn:qs.length<=40000000:=by omega):PF GB prog 116 [.sl (qs.map eQ)] (.sl ((fP qs).map eQ)):=by
 have hm':=d7 eQ qs;refine fn (fu:=⟨15⟩) func116 J J ntmps116 J J (fun C=>?_);refine aj 8 (.d (vI (qs.length:Nat))) J (by rw[hm']<;>rfl)<|gx J<|zi 3 J<|lp (X:=List Rat×Nat) (fun⟨xs,i⟩=>[(9, .d (vI (i:Nat))),(3, .d (.sl (xs.map eQ)))]) (fun⟨xs,i⟩=>[]) (fun⟨xs,i⟩=>xs=qr bw id qs i/\i<=qs.length) (fun⟨xs,i⟩=>qs.length-i) ⟨[],0⟩ J ⟨J,aS _⟩ (fun _=>J) (fun⟨xs,i⟩ hk=>?_)
 try dsimp only at hk⊢
 obtain⟨h1,h2⟩:=hk;refine br J J J (fun hc10=>?_) (fun hc10=>?_)
 .
  obtain⟨q,hz⟩: ∃s,qs[i]? =some s:=⟨_,aQ we⟩;haveI hqb:=hb q (aK hz);have hxl:=d7 eQ xs;have hxn:xs.length<=i:=by rw[h1];exact Ed
  have hxb: ∀u∈xs,BQ u k:=fun u hu=>by rw[h1] at hu;obtain⟨z,hz,he⟩:=EJ hu;rw[he];exact hb z hz
  refine ix (fu:=⟨11⟩) _ J (ce hz) J<|mg (fu:=⟨5⟩) (X:=Nat) (fun n=>[(6, .d (vI (n:Nat)))]) (fun n=>[]) (fun n=>jt bw q xs=n) [6] [] rfl ?_ (fun _=>J) (fun n hnx=>?_)
  .
   refine gx J<|lp (fu:=⟨6⟩) (X:=Nat) (fun n=>[(6, .d (vI (n:Nat)))]) (fun n=>[]) (fun n=>n<=xs.length/\ ∀j (h:j<xs.length),j<n->bw xs[j] q<0) (fun n=>xs.length-n) 0 J ⟨aS _,fun j _ hj=>absurd hj we⟩ (fun _=>J) (fun n hk=>?_);obtain⟨n1,n2⟩:=hk;refine gF (v2:=fun hg16=>by simp only[ak];kernel_rfl) J J J J (fun hg16=>?_) (fun hg16=>?_)
   .
    refine ix _ J (my) J<|cl J (jF (a:=xs[n]' we) (b:=q) (ha:=hxb _ (cR we)) (hb:=hqb) we we) J<|br J J J (fun hc25=>?_) (fun hc25=>?_)
    .
     exact at_ (n+1) ⟨⟨we,fun j h hj=>by by_cases q:j=n;(subst q;exact hc25);exact n2 j h we⟩,we⟩
    .
     exact at_ n (p8 bw n1 n2 (fun h=>hc25))
   .
    exact at_ n (p8 bw n1 n2 (fun h=>absurd h we))
  .
   have hnl:n<=xs.length:=by rw[<-hnx];exact yN _ _ _
   refine gF (v1:=fun hg31=>by simp only[ak];kernel_rfl) J J J J (fun hg31=>?_) (fun hg31=>?_)
   .
    have hnew: ∀h:n<xs.length,bw xs[n] q≠0:=fun h=>absurd h we;obtain⟨ys,hys⟩: ∃ys,ys=xs.take n++q::xs.drop n:=⟨_,rfl⟩;have hin:c9 bw q xs=ys:=by rw[hys];exact oH bw hnx hnew
    have hyl:ys.length<=xs.length+1:=by rw[hys];simp;omega
    refine s3 n _ J J J J (fh _) omA J<|ro J J<|je n xs.length _ J J oke J (fh _) hnl we J<|ap _ J J (oF fh _ _ _) J<|kp (hv:=by simp only[ak];exact⟨omd,we⟩) (ho:=fun _=>⟨pI fh _ _,omc⟩) (ys.map eQ) J omx (qj fh _ _ _ _) J<|at_ ⟨ys,i+1⟩ okb
   .
    refine ix _ J (my) J<|cl J (jF (a:=xs[n]' we) (b:=q) (ha:=hxb _ (cR we)) (hb:=hqb) we we) J<|br J J J (fun hc40=>?_) (fun hc40=>?_)
    .
     have hnew: ∀h:n<xs.length,bw xs[n] q≠0:=fun h=>hc40;obtain⟨ys,hys⟩: ∃ys,ys=xs.take n++q::xs.drop n:=⟨_,rfl⟩;have hin:c9 bw q xs=ys:=by rw[hys];exact oH bw hnx hnew
     have hyl:ys.length<=xs.length+1:=by rw[hys];simp;omega
     refine s3 n _ J J J J (fh _) omA J<|ro J J<|je n xs.length _ J J oke J (fh _) hnl we J<|ap _ J J (oF fh _ _ _) J<|kp (hv:=by simp only[ak];exact⟨omd,we⟩) (ho:=fun _=>⟨pI fh _ _,omc⟩) (ys.map eQ) J omx (qj fh _ _ _ _) J<|at_ ⟨ys,i+1⟩ okb
    .
     have hin:c9 bw q xs=xs:=wL bw hnx we (Decidable.not_not.1 hc40);exact at_ ⟨xs,i+1⟩ okb
 .
  have hfin:fP qs=xs:=by rw[L5,h1,F9,List.map_id]
  exact rz J omY
def Uv(hb: ∀q∈cuts,BQ q k)(hk':k<=100000)(hn:cuts.length<=40000000):PF GB prog 115 [.sl (cuts.map eQ)] (.sl ((cv cuts).map eQ)):=by
 have hm:=d7 eQ cuts;refine fn (fu:=⟨10⟩) func115 J J ntmps115 J J (fun C=>?_);refine aj 6 (.d (vI (cuts.length:Nat))) J omn<|gx J<|br J J J (fun hc7=>?_) (fun hc7=>?_)
 .
  obtain rfl:cuts=[]:=cJ we;refine rf J J<|rz J (by rw[cv];show DV.sl [_]=DV.sl [_];rw[D0])
 .
  obtain⟨a,ct,rfl⟩: ∃a t,cuts=a::t:=by cases cuts with|nil=>exact absurd rfl hc7|cons a t=>exact⟨a,t,rfl⟩
  haveI hab:=hb a aZ;have hcl:ct.length+1<=40000000:=hn;refine ix _ J J J<|cl J (ju (n:=1)) J<|cl (fu:=⟨0⟩) J (tu (a:=a) (b:=((1:Int):Rat)) we we) J<|aj 14 (.d (eQ (a-1))) J J<|gx J<|ro J J<|lp (fu:=⟨6⟩) (X:=Nat) (fun i=>[(4, .d (vI ((i+1:Nat):Int))),(3, .rw 15)]) (fun i=>[(15,some (.b 81 3 (((a-1)::jd ((a::ct).take (i+1))).map eQ) true))]) (fun i=>i<=ct.length) (fun i=>ct.length-i) 0 J (aS _) (fun _=>J) (fun i hk=>?_);have hm2:=d7 eQ (a::ct);have hml:=BP (a::ct.take i);rw[bZ,bT] at hml;have hml2:=BP (a::ct);rw[bZ] at hml2;refine aj 18 (.d (vI ((ct.length+1:Nat):Int))) J okx<|gx J<|br (fu2:=⟨11⟩) J J J (fun hc19=>?_) (fun hc19=>?_)
  .
   obtain⟨u,hu⟩: ∃s,(a::ct)[i]? =some s:=⟨_,aQ omp⟩;obtain⟨w,hw⟩: ∃s,(a::ct)[i+1]? =some s:=⟨_,aQ omp⟩;haveI:=hb u (aK hu);haveI:=hb w (aK hw);refine ix _ J ozf J<|ix _ J (by rw[cK,bL,hw];rfl) J<|?_;refine cl J (Eb (a:=u) (b:=w) we we) J<|rf J J<|ap (hv:=by simp only[ak];exact⟨omd,we⟩) (((a-1)::jd ((a::ct).take (i+1+1))).map eQ) J (by rw[Ig hu hw,<-iJ,aM];rfl) (fh [(u+w)/2]) J<|d8 34 15 J<|at_ (i+1) ⟨we,we⟩
  .
   obtain rfl:i=ct.length:=by omega
   obtain⟨z,hz⟩: ∃s,(a::ct)[ct.length]? =some s:=⟨_,aQ omc⟩;haveI:=hb z (aK hz);rw[show(a::ct).take (ct.length+1)=a::ct from dQ (l:=a::ct)];refine aj 38 (.d (vI ((ct.length+1:Nat):Int))) J okx<|gx J<|ix _ J okJ J<|cl J (ju (n:=1)) J<|?_;refine cl J (ng (a:=z) (b:=((1:Int):Rat)) we we) J<|rf J J<|ap ((cv (a::ct)).map eQ) J (by rw[Rv hz,<-iJ,aM];rfl) (fh [z+1]) J<|gD 45 J<|rz J J
theorem ozm{p:Prop}(h:p:=by rw[aX]<;>rfl):p:=h
def aFD(hb: ∀a∈l,LB a)(ho: ∀a∈l,a.Ne)(hn:l.length<=6000):PF GB prog 62 [.sl (l.map eL)] (.sl ((p7 l).map eP)):=by
 have hbl:=hb;have hml:=d7 eL l;have htot:=R2 hn;have hgl:=Qe hn;have hxl:=JJ l;have hxl2:l.length*(l.length+1)<=6000*6001:=fU hn we;refine fn (fu:=⟨15⟩) func62 J J ntmps62 J J (fun C=>?_);refine aj 19 (.d (vI (l.length:Nat))) J ozm<|gx J<|nr 3 3 81 3 J J J<|lp (X:=List Rat×Nat) (fun⟨cur,i⟩=>[(20, .d (vI (i:Nat))),(3, .rw 3)]) (fun⟨cur,i⟩=>[(3,some (.b 81 3 (cur.map eQ) true))]) (fun⟨cur,i⟩=>cur++d6 (l.drop i)=d6 l/\i<=l.length) (fun⟨cur,i⟩=>l.length-i) ⟨[],0⟩ J ⟨omc,aS _⟩ (fun _=>J) (fun⟨cur,i⟩ hk=>?_)
 try dsimp only at hk⊢
 obtain⟨h1,h2⟩:=hk;have hcl:=zf h1;have hcm:=d7 eQ cur;refine br (fu2:=⟨0⟩) J J J (fun hc21=>?_) (fun hc21=>?_)
 .
  obtain⟨a,ha⟩: ∃s,l[i]? =some s:=⟨_,aQ we⟩;haveI hab:=hb a (aK ha);have hao:=ho a (aK ha);refine ix (fu:=⟨7⟩) _ J (ce ha) J<|mg (X:=List Rat) (fun cur1=>[(3, .rw 3)]) (fun cur1=>[(3,some (.b 81 3 (cur1.map eQ) true))]) (fun cur1=>cur1++(vD a ((l.drop (i+1)).drop 0)++d6 (l.drop (i+1)))=d6 l) [3] [3] rfl ?_ (fun _=>J) (fun cur1 hc1=>?_)
  .
   refine gx J<|cl J (yw (z:=a.b)) J<|br J J J (fun hc28=>?_) (fun hc28=>?_)
   .
    refine cl J (Dp (l:=a) hao) J<|rf J J<|ap ((cur++[a.base.x]).map eQ) J omJ (fh [_]) J<|d8 34 3 J<|at_ (cur++[a.base.x]) (by rw[<-h1,Pz ha,if_pos (fM.1 hc28)];simp)
   .
    exact at_ cur (by rw[<-h1,Pz ha,if_neg (fun e=>hc28 (fM.2 e))];simp)
  .
   have hcl1:=zf hc1;have hdl:(l.drop (i+1)).length<=6000:=by rw[gW];omega
   have hcm1:=d7 eQ cur1;refine je (fu:=⟨1⟩) (i+1) l.length ((l.drop (i+1)).map eL) J J (by rw[hml]) (by rw[bS (by rw[hml];exact bJ _),gL]) (dO l) we (by rw[hml];exact bJ _) J<|aj 39 (.d (vI ((l.drop (i+1)).length:Nat))) J ozm<|gx J<|lp (X:=List Rat×Nat) (fun⟨cur2,j⟩=>[(40, .d (vI (j:Nat))),(3, .rw 3)]) (fun⟨cur2,j⟩=>[(3,some (.b 81 3 (cur2.map eQ) true))]) (fun⟨cur2,j⟩=>cur2++(vD a ((l.drop (i+1)).drop j)++d6 (l.drop (i+1)))=d6 l/\j<=(l.drop (i+1)).length) (fun⟨cur2,j⟩=>(l.drop (i+1)).length-j) ⟨cur1,0⟩ J ⟨hc1,aS _⟩ (fun _=>J) (fun⟨cur2,j⟩ hk=>?_)
   try dsimp only at hk⊢
   obtain⟨j1,j2⟩:=hk;have hcl2:=zf j1;have hcm2:=d7 eQ cur2;refine br J J J (fun hc41=>?_) (fun hc41=>?_)
   .
    obtain⟨b,hb⟩: ∃s,(l.drop (i+1))[j]? =some s:=⟨_,aQ we⟩;haveI hbb:=hbl b (gS (aK hb));refine ix _ J (ce hb) J<|cl J (KP (l:=a) (m:=b)) J<|bd J J J (fun hc50=>?_) (fun hc50=>?_)
    .
     refine rf J J<|ap ((cur2++[(dw a b).x]).map eQ) J omJ (fh [_]) J<|d8 55 3 J<|at_ ⟨cur2++[(dw a b).x],j+1⟩ (by dsimp only;exact⟨⟨by rw[<-j1,PD hb,if_neg hc50];simp,we⟩,we⟩)
    .
     exact at_ ⟨cur2,j+1⟩ (by dsimp only;exact⟨⟨by rw[<-j1,PD hb,if_pos (Decidable.not_not.1 hc50)];simp,we⟩,we⟩)
   .
    obtain rfl:j=(l.drop (i+1)).length:=by omega
    exact at_ ⟨cur2,i+1⟩ (by dsimp only;exact⟨⟨by rw[Am] at j1;exact j1,we⟩,we⟩)
 .
  obtain rfl:i=l.length:=by omega
  obtain rfl:cur=d6 l:=by rw[Am] at h1;simpa[d6] using h1
  refine lv 3 J<|gx J<|cl J (Ub (qs:=d6 l) (k:=900) (BV hb) oma) J<|cl (fu:=⟨1⟩) J (Uv (cuts:=fP (d6 l)) (k:=900) (fun q hq=>BV hb q (pE.1 hq)) oma (by have:=Du (d6 l);omega)) J<|aj 61 (.d (vI ((cv (fP (d6 l))).length:Nat))) J ozm<|gx J<|nr 10 10 83 6 J J J<|lp (X:=List ah×Nat) (fun⟨pts,g⟩=>[(62, .d (vI (g:Nat))),(10, .rw 10)]) (fun⟨pts,g⟩=>[(10,some (.b 83 6 (pts.map eP) true))]) (fun⟨pts,g⟩=>pts++((cv (fP (d6 l))).drop g).flatMap (xY l)=p7 l/\g<=(cv (fP (d6 l))).length) (fun⟨pts,g⟩=>(cv (fP (d6 l))).length-g) ⟨[],0⟩ J ⟨J,aS _⟩ (fun _=>J) (fun⟨pts,g⟩ hk=>?_)
  try dsimp only at hk⊢
  obtain⟨g1,g2⟩:=hk;have hpl:=zf g1;have hpm:=d7 eP pts;refine br J J J (fun hc63=>?_) (fun hc63=>?_)
  .
   obtain⟨x,hx⟩: ∃s,(cv (fP (d6 l)))[g]? =some s:=⟨_,aQ we⟩;haveI hxb:BQ x 1900:=IA (k:=900) (fun q hq=>BV hb q (pE.1 hq)) x (aK hx);refine ix (fu:=⟨15⟩) _ J (ce hx) J<|aj 67 (.d (vI (l.length:Nat))) J ozm<|gx J<|nr 13 13 81 3 J J J<|lp (X:=List Rat×Nat) (fun⟨ys,j⟩=>[(68, .d (vI (j:Nat))),(13, .rw 13)]) (fun⟨ys,j⟩=>[(13,some (.b 81 3 (ys.map eQ) true))]) (fun⟨ys,j⟩=>ys++gw (l.drop j) x=gw l x/\j<=l.length) (fun⟨ys,j⟩=>l.length-j) ⟨[],0⟩ J ⟨J,aS _⟩ (fun _=>J) (fun⟨ys,j⟩ hk=>?_)
   try dsimp only at hk⊢
   obtain⟨y1,y2⟩:=hk;have hyl:=zf y1;have hym:=d7 eQ ys;have hyt:=QR l x;refine br (fu2:=⟨0⟩) J J J (fun hc69=>?_) (fun hc69=>?_)
   .
    obtain⟨a,ha⟩: ∃s,l[j]? =some s:=⟨_,aQ we⟩;haveI hala:=hb a (aK ha);refine ix _ J (ce ha) J<|cl J (yw (z:=a.b)) J<|br J J J (fun hc75=>?_) (fun hc75=>?_)
    .
     have hab: ¬a.b=0:=fun e=>hc75 (fM.2 e);have habR:((a.b:Int):Rat)≠0:=fun e=>hab (cX.1 e);refine cl J (jc (z:=a.a)) J<|cl J (gH (a:=(a.a:Rat)) (b:=x)) J<|cl J (jc (z:=a.c)) J<|cl J (ng (a:=(a.a:Rat)*x) (b:=(a.c:Rat))) J<|cl J (jc (z:=a.b)) J<|cl J (wZ (a:=(a.a:Rat)*x+(a.c:Rat)) (b:=(a.b:Rat)) habR) J<|cl J (tC (q:=((a.a:Rat)*x+(a.c:Rat))/(a.b:Rat))) J<|rf J J<|ap (hv:=by simp only[ak];exact⟨omd,we⟩) ((ys++[yA a x]).map eQ) J omJ (fh [_]) J<|d8 92 13 J<|at_ ⟨ys++[yA a x],j+1⟩ (by dsimp only;exact⟨⟨by rw[<-y1,OA ha,if_neg hab];simp,we⟩,we⟩)
    .
     have hab:a.b=0:=fM.1 (Decidable.not_not.1 hc75);exact at_ ⟨ys,j+1⟩ (by dsimp only;exact⟨⟨by rw[<-y1,OA ha,if_pos hab];simp,we⟩,we⟩)
   .
    obtain rfl:j=l.length:=by omega
    obtain rfl:ys=gw l x:=by rw[Am] at y1;simpa[gw] using y1
    have hyb:=RJ hb hxb;have hgy:(cv (fP (gw l x))).length<=6001:=by have:=QO l x;unfold xY at this;rw[aX] at this;omega
    refine lv 13 J<|gx J<|cl J (Ub (qs:=gw l x) (k:=2400) hyb oma) J<|cl (fu:=⟨1⟩) J (Uv (cuts:=fP (gw l x)) (k:=2400) (fun q hq=>hyb q (pE.1 hq)) oma (by have:=Du (gw l x);omega)) J<|aj 97 (.d (vI ((cv (fP (gw l x))).length:Nat))) J ozm<|gx J<|lp (X:=List ah×Nat) (fun⟨pts2,j⟩=>[(98, .d (vI (j:Nat))),(10, .rw 10)]) (fun⟨pts2,j⟩=>[(10,some (.b 83 6 (pts2.map eP) true))]) (fun⟨pts2,j⟩=>pts2++(((cv (fP (gw l x))).drop j).map (fun y=>(⟨x,y⟩:ah))++((cv (fP (d6 l))).drop (g+1)).flatMap (xY l))=p7 l/\j<=(cv (fP (gw l x))).length) (fun⟨pts2,j⟩=>(cv (fP (gw l x))).length-j) ⟨pts,0⟩ J ⟨by rw[ay3 hx] at g1;exact g1,aS _⟩ (fun _=>J) (fun⟨pts2,j⟩ hk=>?_)
    try dsimp only at hk⊢
    obtain⟨w1,w2⟩:=hk;have hpl2:=zf w1;have hpm2:=d7 eP pts2;refine br J J J (fun hc99=>?_) (fun hc99=>?_)
    .
     obtain⟨y,hy⟩: ∃s,(cv (fP (gw l x)))[j]? =some s:=⟨_,aQ we⟩;refine ix _ J (ce hy) J<|rf J J<|ap ((pts2++[(⟨x,y⟩:ah)]).map eP) J omJ (qf [(⟨x,y⟩:ah)]) J<|d8 107 10 J<|at_ ⟨pts2++[⟨x,y⟩],j+1⟩ (by dsimp only;exact⟨⟨by rw[<-w1,W7 hy];simp,we⟩,we⟩)
    .
     obtain rfl:j=(cv (fP (gw l x))).length:=by omega
     exact at_ ⟨pts2,g+1⟩ (by dsimp only;exact⟨⟨by rw[Am] at w1;exact w1,we⟩,we⟩)
  .
   obtain rfl:g=(cv (fP (d6 l))).length:=by omega
   obtain rfl:pts=p7 l:=by rw[Am] at g1;simpa using g1
   refine gD 10 J<|rz J J
def aoc:PR GB prog 64 [eT (Tr.leaf b)] 6 99 ((Tr.leaf b).lns.map eL):=by
 refine E7 (fu:=⟨11⟩) func64 J J ntmps64 J J (fun C hmb=>?_);refine cF J J J<|?_;exact X4 J J J
def apC{l:aa}{x:Tr}(hs:(Tr.node l x y).size<=100000)(ihx:PR GB prog 64 [eT x] 6 99 (x.lns.map eL))(ihy:PR GB prog 64 [eT y] 6 99 (y.lns.map eL)):PR GB prog 64 [eT (Tr.node l x y)] 6 99 ((Tr.node l x y).lns.map eL):=by
 have hsx:=u' x;have hsy:=u' y;have hsz:(Tr.node l x y).size=1+x.size+y.size:=J;refine E7 (fu:=⟨11⟩) func64 J J ntmps64 J J (fun C hmb=>?_);refine bO J J J<|ro J J<|cr J ihx J<|ap (hbd:=by simp only[aX,bZ,fX];omega) ((l::x.lns).map eL) J (by rw[bV];rfl) (dO _) J<|cr J ihy J<|ap (hbd:=by simp only[aX,bZ,fX];omega) ((l::(x.lns++y.lns)).map eL) J (by rw[bV,bV,aM];rfl) (dO _) J<|?_;exact JZ J J J J
theorem ozt{p:Prop}(h:p:=by have:(Tr.node l x y).size=1+x.size+y.size:=J;omega):p:=h
def FB: ∀{t:Tr},t.size<=100000->PR GB prog 64 [eT t] 6 99 (t.lns.map eL)
 | .leaf _,_=>aoc
 | .node l x y,h=>apC h (FB ozt) (FB ozt)
def wU:Tr->ah->Bool
 | .leaf _,_=>true
 | .node l x y,p=>if(l.value p).num.sign=1 then wU x p else if(l.value p).num.sign= -1 then wU y p else false
def Nm[hp:aE p i](hb:t.all LB)(hi:i<=400000:=by decide):PF GB prog 65 [eT t,eP p] (.tp [vB (kd t p),vB (wU t p)]):=by
 refine fn func65 J J ntmps65 J J (fun C=>?_);refine lp (fu:=⟨3⟩) (X:=Tr) (fun s=>[(0, .d (eT s))]) (fun s=>[]) (fun s=>kd s p=kd t p/\wU s p=wU t p/\s.all LB) (fun s=>s.size) t J ⟨J,J,hb⟩ (fun _=>J) (fun s hk=>?_);obtain⟨h1,h2,hb2⟩:=hk;rcases s with b|⟨l,x,y⟩
 .
  have hA:kd t p=b:=h1.symm;have hO:wU t p=true:=h2.symm;refine gx (fu:=⟨3⟩) J<|cF J J J<|rz J (by rw[hA,hO];rfl)
 .
  have hAn:=h1.symm;have hOn:=h2.symm;rw[kd] at hAn;rw[wU] at hOn;haveI:=hb2.1;refine gx (fu:=⟨3⟩) J<|bO J J J<|cl J (A5 (l:=l) (p:=p) (i:=i) hi) J<|br J J J (fun hc17=>?_) (fun hc17=>?_)
  .
   exact at_ x ⟨⟨by rw[hAn,if_pos hc17],by rw[hOn,if_pos hc17],hb2.2.1⟩,(by simp only[Tr.size];omega)⟩
  .
   refine br J J J (fun hc23=>?_) (fun hc23=>?_)
   .
    exact at_ y ⟨⟨by rw[hAn,if_neg hc17,if_pos hc23],by rw[hOn,if_neg hc17,if_pos hc23],hb2.2.2⟩,(by simp only[Tr.size];omega)⟩
   .
    exact rz J (by rw[hAn,hOn,if_neg hc17,if_neg hc23,if_neg hc17,if_neg hc23];rfl)
def Of(ls:List aa):(mi ls).length<=ls.length:=by
 have:=Dd en (ls.map aa.canon) [];unfold mi gn;rw[aX,fX] at this;omega
theorem azW(hl: ∀a∈l,LB a): ∀p∈p7 l,aE p 4900:=fun p hp=>by
 obtain⟨h1,h2⟩:=Hu.1 hp;have hx:BQ p.x 1900:=IA (k:=900) (fun q hq=>BV hl q (pE.1 hq)) _ h1;have hy:BQ p.y 4900:=IA (k:=2400) (fun q hq=>RJ hl hx q (pE.1 hq)) _ h2;exact⟨hx.mono oma,hy⟩
theorem TN(h: ∀l∈ls,LB l): ∀l∈mi ls,LB l:=fun l hl=>by
 obtain⟨x,hx,rfl⟩:=CP hl;haveI:=h x hx
 infer_instance
def aFz(h: ∀l∈ls,l.ok): ∀l∈mi ls,l.Ne:=fun l hl=>by
 obtain⟨x,hx,rfl⟩:=CP hl;exact(OG (h x hx)).ne
structure qv (a b:Tr):Prop where
 ga:a.gd
 gb:b.gd
 sa:a.size<=3000
 sb:b.size<=3000
theorem qv.lb{a b:Tr}(h:qv a b): ∀l∈a.lns++b.lns,LB l:=fun l hl=>(bX.1 hl).elim (uP.1 h.ga.lb l) (uP.1 h.gb.lb l)
def qv.ok{a b:Tr}(h:qv a b): ∀l∈a.lns++b.lns,l.ok:=fun l hl=>(bX.1 hl).elim (wo h.ga.ok l) (wo h.gb.ok l)
def qv.len{b:Tr}(h:qv a b):(a.lns++b.lns).length<=6000:=by rw[aY,u',u'];have:=h.sa;have:=h.sb;omega
def qv.fl{b:Tr}(h:qv a b):(pi a b).length<=216072012001:=R2 (cN (Of _) h.len)
theorem qv.fb{b:Tr}(h:qv a b): ∀p∈pi a b,aE p 4900:=azW (TN h.lb)
def aJZ{b:Tr}(hz:(pi a b)[k]? =some p)(h:kd a p≠kd b p):uz a b=false:=by
 rw[uz,sQ];exact⟨p,aK hz,by simpa using h⟩
def Y6{b:Tr}(h: ∀j p,(pi a b)[j]? =some p->j<(pi a b).length->kd a p=kd b p):uz a b=true:=by
 rw[uz,dJ];intro p hp;obtain⟨j,hj,rfl⟩:=List.getElem_of_mem hp;simpa using h j _ (aQ hj) hj
def aAf{b:Tr}(h:qv a b):PF GB prog 27 [eT a,eT b] (vB (uz a b)):=by
 have hsa:=h.sa;have hsb:=h.sb;have hll:=h.len;have hfl:=h.fl;have hla:=u' a;have hlb:=u' b;refine fn func27 J J ntmps27 J J (fun C=>?_);refine cr J (FB (t:=a) we) J<|cr J (FB (t:=b) we) J<|ap (hbd:=by simp only[aX];omega) ((a.lns++b.lns).map eL) J (by rw[aM]) (dO _) J<|fz 15 J J<|cl J (atW (ls:=a.lns++b.lns) h.lb we) J<|cl (fu:=⟨1⟩) J (aFD (l:=mi (a.lns++b.lns)) (TN h.lb) (aFz h.ok) (cN (Of _) hll)) J<|aj 18 (.d (vI ((pi a b).length:Nat))) J (by rw[aX];rfl)<|gx J<|lp (X:=Nat) (fun k=>[(19, .d (vI (k:Nat)))]) (fun k=>[]) (fun k=>k<=(pi a b).length/\ ∀j q,(pi a b)[j]? =some q->j<k->kd a q=kd b q) (fun k=>(pi a b).length-k) 0 J ⟨aS _,fun j q _ hj=>absurd hj we⟩ (fun _=>J) (fun k hk=>?_);obtain⟨k1,k2⟩:=hk;refine br J J J (fun hc20=>?_) (fun hc20=>?_)
 .
  obtain⟨p,hz⟩: ∃s,(pi a b)[k]? =some s:=⟨_,aQ we⟩;haveI hpb:=h.fb p (aK hz);refine ix _ J (ce (l:=pi a b) hz) J<|cl J (Nm (t:=a) (p:=p) (i:=4900) h.ga.lb) J<|cl J (Nm (t:=b) (p:=p) (i:=4900) h.gb.lb) J<|bb J J J (fun hc37=>?_) (fun hc37=>?_)
  .
   exact rz J (by rw[aJZ hz (by simpa using hc37)];rfl)
  .
   exact at_ (k+1) ⟨⟨we,fun j q hq hj=>by by_cases e:j=k;(subst e;rw[hz] at hq;cases hq;simpa using hc37);exact k2 j q hq we⟩,we⟩
 .
  exact rz J (by rw[Y6 fun j q hq hj=>k2 j q hq we];rfl)

def ZG{l:aa}(hl:l.ok)(hm:m.ok)(h:gm l.dir m.dir=0): ∃k e:Rat,0<k/\ ∀p,m.value p=k*l.value p+e:=by
 obtain⟨h1,h2⟩:=Xk.1 h;have z1:=D7 hl;have key: ∃k:Rat,0<k/\m.dir.x=k*l.dir.x/\m.dir.y=k*l.dir.y:=by
  unfold ah.cross at h2;rcases vN l.dir with⟨e,k⟩|⟨e,k⟩|⟨e,k⟩
  .rw[e] at h1
   have k2:=qa.1 h1.symm;rcases k with k|⟨k,k'⟩
   .have y2:0<m.dir.y:=by
     rcases k2 with k2|⟨k2,k3⟩
     .exact k2
     .exfalso
      rw[k2] at h2;have:=dx k k3;grind
    refine⟨m.dir.y/l.dir.y,?_,omb,omb⟩;have:0<m.dir.y/l.dir.y:=(gh k).1 (by rw[show m.dir.y/l.dir.y*l.dir.y=m.dir.y by grind];exact y2);exact this
   .rw[k] at h2
    have y2:m.dir.y=0:=by
     rcases fJ.1 (show l.dir.x*m.dir.y=0 by grind) with q|q
     .rw[q] at k';exact absurd k' oma
     .exact q
    have x2:0<m.dir.x:=by
     rcases k2 with k2|⟨_,k3⟩
     .rw[y2] at k2;exact absurd k2 oma
     .exact k3
    refine⟨m.dir.x/l.dir.x,(gh k').1 (by rw[show m.dir.x/l.dir.x*l.dir.x=m.dir.x by grind];exact x2),omb,by rw[y2,k];grind⟩
  .rw[e] at h1
   have k2:=wA.1 h1.symm;rcases k with k|⟨k,k'⟩
   .have y2:m.dir.y<0:=by
     rcases k2 with k2|⟨k2,k3⟩
     .exact k2
     .exfalso
      rw[k2] at h2;have:=dx (show 0< -l.dir.y by grind) (show 0< -m.dir.x by grind);grind
    refine⟨m.dir.y/l.dir.y,(gh (show 0< -l.dir.y by grind)).1 (by rw[show m.dir.y/l.dir.y* -l.dir.y= -m.dir.y by grind];grind),omb,omb⟩
   .rw[k] at h2
    have y2:m.dir.y=0:=by
     rcases fJ.1 (show l.dir.x*m.dir.y=0 by grind) with q|q
     .rw[q] at k';exact absurd k' oma
     .exact q
    have x2:m.dir.x<0:=by
     rcases k2 with k2|⟨_,k3⟩
     .rw[y2] at k2;exact absurd k2 oma
     .exact k3
    refine⟨m.dir.x/l.dir.x,(gh (show 0< -l.dir.x by grind)).1 (by rw[show m.dir.x/l.dir.x* -l.dir.x= -m.dir.x by grind];grind),omb,by rw[y2,k];grind⟩
  .exact absurd e z1
 obtain⟨k,k0,kx,ky⟩:=key;simp only[aa.dir] at kx ky;refine⟨k,(m.c:Rat)-k*(l.c:Rat),k0,fun p=>?_⟩;rw[jy,jy,kx];have:(m.a:Rat)=k*(l.a:Rat):=by grind
 rw[this];grind
def M9(hne: ∃q,bA e q){l:aa}(hl:l.ok)(hm:m.ok)(pl: ∀p,bA e p->0<l.value p)(pm: ∀p,bA e p->0<m.value p)(tl: ∃p,iA e p/\l.value p=0)(tm: ∃p,iA e p/\m.value p=0)(ha:gm l.dir m.dir=0):l=m:=by
 obtain⟨k,c,k0,hk⟩:=ZG hl hm ha;obtain⟨p,p1,p2⟩:=tl;obtain⟨q,q1,q2⟩:=tm;have g1:=tO hne pm p1;rw[hk,p2] at g1;have g2:=tO hne pl q1;have g3:=dh (dX k0) g2;rw[hk] at q2;have c0:c=0:=by grind
 have hz: ∀t,m.value (l.at t)=0:=fun t=>by rw[hk,mn hl.ne,c0];grind
 rcases zq hm hl hz with h|h
 .exact h.symm
 .exfalso
  obtain⟨u,hu⟩:=hne;have a:=pl u hu;have b:=pm u hu;rw[h,fA] at b;grind
def zB(hc:bF c)(hs:s∈c):iA c (s.l.at s.v.sample)/\s.l.value (s.l.at s.v.sample)=0:=
 ⟨((hc.edge s hs).2 _).1 (pn (hc.edge s hs).1).has,mn (hc.ok s hs).ne _⟩
def f9(c:av):Prop:=(c.map fun s=>s.l.dir).Pairwise eD
def Ib{p:Nat->Bool}{N:Nat}(hm: ∀i j,i<=j->j<N->p j=true->p i=true): ∀(d i j:Nat),j-i<=d->i<=j->j<=N->(∀k,k<i->p k=true)->(∀k,j<=k->k<N->p k=false)->(∀k,k<gg p i j->p k=true)/\ ∀k,gg p i j<=k->k<N->p k=false
 |0,i,j,h,hij,hN,h1,h2=>by
  obtain rfl:i=j:=by omega
  rw[gg,dif_neg we];exact⟨h1,h2⟩
 |d+1,i,j,h,hij,hN,h1,h2=>by
  by_cases q:i<j
  .rw[gg,dif_pos q]
   by_cases r:p ((i+j)/2)=true
   .rw[if_pos r]
    exact Ib hm d _ _ we we hN (fun k hk=>hm k ((i+j)/2) we we r) h2
   .rw[if_neg r]
    refine Ib hm d _ _ we we we h1 fun k hk hkN=>?_
    cases hp:p k with
    |false=>rfl
    |true=>exact absurd (hm _ k hk hkN hp) r
  .obtain rfl:i=j:=by omega
   rw[gg,dif_neg q];exact⟨h1,h2⟩
def Ou{d:ah}(h:ds.Pairwise eD)(h1: ∀x∈ds.take n,eD x d)(h2: ∀x∈ds.drop n,eD d x):(ds.take n++d::ds.drop n).Pairwise eD:=by
 have hs:=h;rw[<-jR n ds,gR] at hs;obtain⟨a,b,c⟩:=hs;rw[gR];refine⟨a,bY.2 ⟨h2,b⟩,fun x hx y hy=>?_⟩;rcases aW.1 hy with rfl|hy
 .exact h1 x hx
 .exact c x hx y hy
def KG(l:aa): ∀c:av,((eu l c).map fun s=>s.l.dir).Sublist (c.map fun s=>s.l.dir)
 |[]=>List.Sublist.refl _
 |s::c=>by
  rw[eu];split
  .exact(KG l c).cons_cons _
  .exact(KG l c).cons _
def TC{l:List α}{x:α}(h:x∈l.take n): ∃i,i<n/\l[i]? =some x:=by
 obtain⟨i,hi,e⟩:=lJ.1 h;rw[bT] at hi;exact⟨i,we,by rw[List.getElem_take] at e;rw[aQ we,e]⟩
def R7{l:List α}{x:α}(h:x∈l.drop n): ∃i,n<=i/\i<l.length/\l[i]? =some x:=by
 obtain⟨i,hi,e⟩:=lJ.1 h;rw[gW] at hi;exact⟨n+i,we,we,by rw[List.getElem_drop] at e;rw[aQ we,e]⟩
def Gr{l:aa}(hc:bF c)(hl:l.ok)(ha:f9 c)(hb:cx c l=true):f9 (bE c l):=by
 have hg:=(gO hc hl hb).1;unfold bE at hg⊢
 cases hp:kv c l with
 |none=>exact ha
 |some v=>
  simp only[hp] at hg⊢;have hs:f9 (eu l c):=ha.sublist (KG l c);have nt: ∀s∈eu l c,gm s.l.dir l.dir≠0:=fun s h e=>by
   have m1:s∈ma (eu l c) l v:=ra.2 (.inr h);have m2:(⟨l,v⟩:bB)∈ma (eu l c) l v:=ra.2 (.inl J);have ee:=M9 hg.ne (hg.ok s m1) hl (fun p hp=>hp s m1) (fun p hp=>hp ⟨l,v⟩ m2) ⟨_,zB hg m1⟩ ⟨_,zB hg m2⟩ e;obtain⟨s0,g1,_,rfl⟩:=sg.1 h;obtain⟨_,q,q1,q2⟩:=J' hl.ne hp;have h5:=q1 s0 g1;have e5:s0.l=l:=ee;rw[e5] at h5;grind
  generalize eu l c=d at*;have hmo: ∀i j,i<=j->j<d.length->jf d l j=true->jf d l i=true:=fun i j hij hj h=>by
   unfold jf at h⊢;rw[aQ hj] at h;rw[aQ we];simp only[decide_eq_true_eq,yo] at h⊢;by_cases q:i=j
   .subst q;exact h
   .have:=qY.1 hs i j omp omp we
    simp only[oL] at this;exact Ae this h
  obtain⟨k1,k2⟩:=Ib hmo d.length 0 d.length we we (bJ _) (fun k h=>absurd h we) (fun k h h'=>absurd h' we);unfold ma f9;generalize gg (jf d l) 0 d.length=n at*;rw[aM,bV,fN,gL];refine Ou hs (fun x hx=>?_) (fun x hx=>?_)
  .rw[<-fN] at hx
   obtain⟨s,h1,rfl⟩:=aU.1 hx;obtain⟨i,hi,e⟩:=TC h1;have:=k1 i hi;unfold jf at this;rw[e] at this;simpa[yo] using this
  .rw[<-gL] at hx
   obtain⟨s,h1,rfl⟩:=aU.1 hx;obtain⟨i,hi,hi2,e⟩:=R7 h1;have:=k2 i hi hi2;unfold jf at this;rw[e] at this;have h3: ¬eD s.l.dir l.dir:=by simpa[yo] using this
   by_cases q:eD l.dir s.l.dir
   .exact q
   .exact absurd (UD h3 q) (nt s (gS h1))
def KY: ∀{t:Tr} {c:av},t.all aa.ok->bF c->f9 c-> ∀x∈t.parts c,f9 x.2
 | .leaf b,c,_,_,ha,x,h=>by
  rw[Tr.parts,aR] at h;subst h;exact ha
 | .node l u v,c,ht,hc,ha,x,h=>by
  rw[Tr.parts] at h;rcases bX.1 h with h|h
  .split at h
   .rename_i hb
    exact KY ht.2.1 (gO hc ht.1 hb).1 (Gr hc ht.1 ha hb) x h
   .cases h
  .split at h
   .rename_i hb
    exact KY ht.2.2 (gO hc ht.1.rev hb).1 (Gr hc ht.1.rev ha hb) x h
   .cases h
def uq(c:List aa):Prop:=(c.map aa.dir).Pairwise eD
def KT{c:List aa}(hs: ∀s∈e,s.l∈c){l:aa}(hl:l.ok)(he:(ge l c au.all).isSome=true): ∃w:au,w.Pos/\ ∀t,w.ins t->iA e (l.at t)/\l.value (l.at t)=0/\ ∀m∈c,m≠l->0<m.value (l.at t):=by
 obtain⟨w,hw⟩:=qM.1 he;obtain⟨h1,h2⟩:=Cy l c _ w z7 hw;refine⟨w,h1,fun t ht=>?_⟩;have h3:=((h2 t).1 ht).2;refine⟨fun s hs'=>?_,mn hl.ne t,h3⟩;by_cases q:s.l=l
 .rw[q,mn hl.ne];exact iS
 .exact dX (h3 _ (hs s hs') q)
def Rq{α:Type}{p:α->Bool}: ∀(l:List α),(∀i x,i<(l.takeWhile p).length->l[i]? =some x->p x=true)/\ ∀x,l[(l.takeWhile p).length]? =some x->p x=false
 |[]=>⟨fun i x h _=>by simp at h,fun x h=>by simp at h⟩
 |a::l=>by
  obtain⟨h1,h2⟩:=Rq (p:=p) l;rw[oS]
  cases ha:p a with
  |false=>
   refine⟨fun i x h _=>by simp at h,fun x h=>?_⟩;simp at h;rw[<-h];exact ha
  |true=>
   simp only[if_true,bZ];refine⟨fun i x h e=>?_,fun x h=>h2 x omE⟩
   cases i with
   |zero=>simp at e;rw[<-e];exact ha
   |succ i=>exact h1 i x we (by simpa using e)
def apH{l:aa}(ha:uq out)(ht: ∀m∈out,gm m.dir l.dir=0->m=l):uq (qe out l):=by
 unfold qe;split
 .exact ha
 .rename_i hne
  obtain⟨k1,k2⟩:=Rq (p:=fun x:aa=>decide (gm x.dir l.dir<0)) out;have e0:ou out l=(out.takeWhile fun x=>decide (gm x.dir l.dir<0)).length:=J;rw[<-e0] at k1 k2;generalize ou out l=n at*;unfold uq;rw[aM,bV,fN,gL];refine Ou ha (fun x hx=>?_) (fun x hx=>?_)
  .rw[<-fN] at hx
   obtain⟨m,h1,rfl⟩:=aU.1 hx;obtain⟨i,hi,e⟩:=TC h1;simpa[yo] using k1 i m hi e
  .rw[<-gL] at hx
   obtain⟨m,h1,rfl⟩:=aU.1 hx;obtain⟨i,hi,hi2,e⟩:=R7 h1;have hn:n<out.length:=by omega
   have h3: ¬eD (out[n]).dir l.dir:=by simpa[yo] using k2 _ (aQ hn)
   have h4:eD l.dir (out[n]).dir:=by
    by_cases q:eD l.dir (out[n]).dir
    .exact q
    .exact absurd (by rw[aQ hn,ht _ (cR hn) (UD h3 q)]) hne
   by_cases q:i=n
   .subst q
    rw[aQ hn] at e
    cases e
    exact h4
   .have:=qY.1 ha n i omp omp we
    simp only[oL] at this;rw[aQ hi2] at e
    cases e
    exact Ae h4 this
def Kk{c:List aa}(ht: ∀l∈c,∀m∈c,(ge l c au.all).isSome=true->(ge m c au.all).isSome=true->gm m.dir l.dir=0->m=l): ∀{t out:List aa},(∀l∈t,l∈c)->(∀m∈out,m∈c/\(ge m c au.all).isSome=true)->uq out->uq (n4 c t out)
 |[],out,_,_,ha=>ha
 |l::t,out,hc,ho,ha=>by
  have hl:=hc l aZ;rw[n4];by_cases q:(ge l c au.all).isSome=true
  .rw[if_pos q]
   refine Kk ht (fun l h=>hc l (aJ _ h)) (fun m hm=>?_) (apH ha fun m hm e=>ht l hl m (ho m hm).1 q (ho m hm).2 e);rcases KA.1 hm with rfl|h
   .exact⟨hl,q⟩
   .exact ho m h
  .rw[if_neg q]
   exact Kk ht (fun l h=>hc l (aJ _ h)) ho ha
def auf{c:List aa}(hok: ∀l∈c,l.ok)(hne: ∃p,gq c p):uq (im c):=by
 obtain⟨e,_,hg,hi,hs⟩:=Ec hok hne;refine Kk (fun l hl m hm el em h=>?_) (fun l h=>h) (fun m h=>by cases h) .nil;obtain⟨w1,p1,k1⟩:=KT (fun s h=>(hs s h).1) (hok l hl) el;obtain⟨w2,p2,k2⟩:=KT (fun s h=>(hs s h).1) (hok m hm) em;obtain⟨a1,a2,_⟩:=k1 _ (pn p1);obtain⟨b1,b2,_⟩:=k2 _ (pn p2);exact M9 hg.ne (hok m hm) (hok l hl) (fun p hp=>(hi p).1 hp m hm) (fun p hp=>(hi p).1 hp l hl) ⟨_,b1,b2⟩ ⟨_,a1,a2⟩ h
def OD{v:au}{t u:Rat}(h:v.ins t)(k:v.has u):v.ins ((t+u)*(1/2)):=by
 obtain⟨lo,hi,nl,nh⟩:=v;unfold au.ins at*;unfold au.has at k
 cases nl<;>cases nh<;>simp at* <;>grind
def EH(hc: ∃q,bA c q)(h: ∀p,bA c p↔bA d p)(hp:iA c p):iA d p:=fun s hs=>tO hc (fun q hq=>(h q).1 hq s hs) hp
def axT{c:List aa}(hok: ∀l∈c,l.ok)(hd:bF d)(h: ∀p,bA d p↔gq c p)(l:aa):l∈d.map (·.l)↔l∈im c:=by
 have hne: ∃p,gq c p:=hd.ne.elim fun q hq=>⟨q,(h q).1 hq⟩;obtain⟨e,_,hg,hi,hs⟩:=Ec hok hne;have hde: ∀p,bA d p↔bA e p:=fun p=>by rw[h,hi]
 constructor
 .intro hl
  obtain⟨s,k,rfl⟩:=aU.1 hl;obtain⟨t1,t2⟩:=zB hd k;have t3:=EH hd.ne hde t1;have: ¬bA e (s.l.at s.v.sample):=fun q=>by
   have:=(hde _).2 q s k;rw[t2] at this;exact absurd this oma
  obtain⟨u,hu,hz⟩: ∃u∈e,u.l.value (s.l.at s.v.sample)=0:=by
   by_cases q: ∃u∈e,u.l.value (s.l.at s.v.sample)=0
   .exact q
   .exfalso
    refine this fun u hu=>?_;have g1:=t3 u hu;have g2:u.l.value (s.l.at s.v.sample)≠0:=fun e=>q ⟨u,hu,e⟩;grind
  have:=P5 hd k (hg.ok u hu) (fun p hp=>(hde p).1 hp u hu) hz;rw[<-this];exact uF.2 (hs u hu)
 .intro hl
  obtain⟨l1,l2⟩:=uF.1 hl;obtain⟨w,p1,k1⟩:=KT (fun s h=>(hs s h).1) (hok l l1) l2;have hed: ∀p,bA e p↔bA d p:=fun p=>(hde p).symm;have hi1:=pn p1;obtain⟨⟨u1,m1,n1⟩,⟨u2,m2,n2⟩⟩:=JX hi1;have g1:=OD hi1 n1;have g2:=OD hi1 n2;obtain⟨c0,c1,_⟩:=k1 _ hi1;have c2:=EH hg.ne hed c0;have: ¬bA d (l.at w.sample):=fun q=>by
   have:=(h _).1 q l l1;rw[c1] at this;exact absurd this oma
  obtain⟨s,hsd,hz⟩: ∃s∈d,s.l.value (l.at w.sample)=0:=by
   by_cases q: ∃u∈d,u.l.value (l.at w.sample)=0
   .exact q
   .exfalso
    refine this fun u hu=>?_;have g1:=c2 u hu;have g2:u.l.value (l.at w.sample)≠0:=fun e=>q ⟨u,hu,e⟩;grind
  have e1:=EH hg.ne hed (k1 _ g1).1 s hsd;have e2:=EH hg.ne hed (k1 _ g2).1 s hsd;rw[mG] at hz e1 e2;have hK:l.cutK s.l=0:=by
   rcases kt (l.cutK s.l) with h|h|h
   .exact h
   .exfalso
    have:=dx (a:=w.sample-u1) (b:=l.cutK s.l) omb h;grind
   .exfalso
    have:=dx (a:=u2-w.sample) (b:= -l.cutK s.l) omb omb;grind
  have hz2: ∀t,s.l.value (l.at t)=0:=fun t=>by rw[mG,hK];rw[hK] at hz;grind
  rcases zq (hd.ok s hsd) (hok l l1) hz2 with q|q
  .rw[<-q];exact fQ hsd
  .exfalso
   obtain⟨u,hu⟩:=hd.ne;have a:=hu s hsd;have b:=(h u).1 hu l l1;rw[q,fA] at a;grind
def QC: ∀{l m:List aa},uq l->uq m->(∀x,x∈l↔x∈m)->l=m
 |[],[],_,_,_=>rfl
 |[],b::m,_,_,h=>absurd ((h b).2 aZ) omc
 |a::l,[],_,_,h=>absurd ((h a).1 aZ) omc
 |a::l,b::m,h1,h2,h=>by
  obtain⟨p1,p2⟩:=bY.1 h1;obtain⟨q1,q2⟩:=bY.1 h2;have p1': ∀x∈l,eD a.dir x.dir:=fun x hx=>p1 _ (fQ hx);have q1': ∀x∈m,eD b.dir x.dir:=fun x hx=>q1 _ (fQ hx);have e:a=b:=by
   rcases aW.1 ((h a).1 aZ) with e|e
   .exact e
   .rcases aW.1 ((h b).2 aZ) with f|f
    .exact f.symm
    .exact(BY (q1' a e) (p1' b f)).elim
  subst e;congr 1;refine QC p2 q2 fun x=>⟨fun hx=>?_,fun hx=>?_⟩
  .rcases aW.1 ((h x).1 (aJ _ hx)) with e|e
   .subst e;exact(x8 _ (p1' _ hx)).elim
   .exact e
  .rcases aW.1 ((h x).2 (aJ _ hx)) with e|e
   .subst e;exact(x8 _ (q1' _ hx)).elim
   .exact e
def JA{c:List aa}(hok: ∀l∈c,l.ok)(hd:bF d)(ha:f9 d)(h: ∀p,bA d p↔gq c p):im c=d.map (·.l):=by
 refine QC (auf hok (hd.ne.elim fun q hq=>⟨q,(h q).1 hq⟩)) ?_ fun x=>(axT hok hd h x).symm;unfold uq;rw[pY];exact ha
def Te(hc:bF c)(hs:s∈c)(h:s.v.nh=true): ∀u∈c,0<=u.l.nor.dot s.l.dir:=fun u hu=>by
 obtain⟨p1,p2⟩:=hc.edge s hs;have hi:=(pn p1).has;have key: ∀n:Rat,0<=n->0<=u.l.value (s.l.at (s.v.sample+n)):=fun n hn=>((p2 _).1 ⟨hi.1.imp id fun q=>by grind, .inl h⟩) u hu;have h0:=key 0 oma;rw[mG] at h0;by_cases q:0<=u.l.nor.dot s.l.dir
 .exact q
 .exfalso
  have q':0< -(s.l.cutK u.l):=by unfold aa.cutK;grind
  have h1:=key ((s.l.cutC u.l+s.v.sample*s.l.cutK u.l+1)/ -(s.l.cutK u.l)) (by
   have:=(gh (s:=(s.l.cutC u.l+s.v.sample*s.l.cutK u.l+1)/ -(s.l.cutK u.l)) q').1 (by rw[show(s.l.cutC u.l+s.v.sample*s.l.cutK u.l+1)/ -(s.l.cutK u.l)* -(s.l.cutK u.l)=s.l.cutC u.l+s.v.sample*s.l.cutK u.l+1 by grind];grind);grind)
  rw[mG] at h1;have:(s.l.cutC u.l+s.v.sample*s.l.cutK u.l+1)/ -(s.l.cutK u.l)*s.l.cutK u.l= -(s.l.cutC u.l+s.v.sample*s.l.cutK u.l+1):=by grind
  grind
def Wl(hc:bF c)(hs:s∈c)(h:s.v.nl=true): ∀u∈c,u.l.nor.dot s.l.dir<=0:=fun u hu=>by
 obtain⟨p1,p2⟩:=hc.edge s hs;have hi:=(pn p1).has;have key: ∀n:Rat,0<=n->0<=u.l.value (s.l.at (s.v.sample-n)):=fun n hn=>((p2 _).1 ⟨.inl h,hi.2.imp id fun q=>by grind⟩) u hu;have h0:=key 0 oma;rw[mG] at h0;by_cases q:u.l.nor.dot s.l.dir<=0
 .exact q
 .exfalso
  have q':0<s.l.cutK u.l:=by unfold aa.cutK;grind
  have h1:=key ((s.l.cutC u.l+s.v.sample*s.l.cutK u.l+1)/s.l.cutK u.l) (by
   have:=(gh (s:=(s.l.cutC u.l+s.v.sample*s.l.cutK u.l+1)/s.l.cutK u.l) q').1 (by rw[show(s.l.cutC u.l+s.v.sample*s.l.cutK u.l+1)/s.l.cutK u.l*s.l.cutK u.l=s.l.cutC u.l+s.v.sample*s.l.cutK u.l+1 by grind];grind);grind)
  rw[mG] at h1;have:(s.l.cutC u.l+s.v.sample*s.l.cutK u.l+1)/s.l.cutK u.l*s.l.cutK u.l=s.l.cutC u.l+s.v.sample*s.l.cutK u.l+1:=by grind
  grind
def D4:aa:=⟨1,0,0⟩
def r6(c:List aa)(i:Nat):List ah:=
 if 0<Int.sign ((c.getD i D4).dir.cross (c.getD ((i+1)%c.length) D4).dir).num then [dw (c.getD i D4) (c.getD ((i+1)%c.length) D4)] else []
def jB(c:List aa):List ah:=(List.range c.length).flatMap (r6 c)
def xz{c:List aa}{l:aa}(h1:c[i]? =some l)(h2:c[(i+1)%c.length]? =some m):r6 c i=if 0<Int.sign (l.dir.cross m.dir).num then [dw l m] else []:=by
 unfold r6;rw[aV,aV,h1,h2];rfl
def Iq(c:List aa)(k:Nat):(List.range (k+1)).flatMap (r6 c)=(List.range k).flatMap (r6 c)++r6 c k:=by
 rw[tU,uZ];simp
def JI(c:List aa): ∀k,((List.range k).flatMap (r6 c)).length<=k
 |0=>bJ _
 |k+1=>by
  have:=JI c k;have h2:(r6 c k).length<=1:=by unfold r6;split<;>simp
  rw[Iq,aY];omega
def WC{c:List aa}(h:p∈jB c): ∃l∈c,∃m∈c,p=dw l m:=by
 obtain⟨i,hi,hp⟩:=iR.1 h;have hi':=jJ.1 hi;have e1:=aQ hi';have e2:=aQ (l:=c) (dK (i+1) (show 0<c.length by omega));rw[xz e1 e2] at hp;split at hp
 .exact⟨_,cR _,_,cR _,aR.1 hp⟩
 .cases hp
def aqX(ht:t.all aa.ok): ∀c∈dE t,bF c:=fun c hc=>(In ht bF.nil (vR.1 hc)).1
def gq.open{c:List aa}{q:ah}(u:ah)(h:gq c q): ∃e:Rat,0<e/\ ∀d,0<=d->d<=e->gq c (de q u d):=by
 have hd:bA (c.map fun m=>(⟨m,au.all⟩:bB)) q:=fun s hs=>by
  obtain⟨m,hm,rfl⟩:=aU.1 hs;exact h m hm
 obtain⟨e,he,ho⟩:=hd.open u;exact⟨e,he,fun d d0 d1 m hm=>ho d d0 d1 ⟨m,au.all⟩ (fQ hm)⟩
def Gf(l:aa)(t u:Rat):l.at (t+u)=de (l.at t) l.dir u:=by
 rw[<-yU,<-yU];unfold de;simp only[ah.mk.injEq];constructor<;>grind
def IL(a:Int)(h:g∣a.natAbs):(g:Int)*zv (decide (a<0)) (a.natAbs/g)=a:=by
 obtain⟨k,hk⟩:=h;by_cases g0:g=0
 .subst g0;simp at hk⊢;omega
 have e:a.natAbs/g=k:=by rw[hk];exact rT k (fZ g0)
 rw[e];unfold zv;have hc:((g*k:Nat):Int)=(g:Int)*(k:Int):=by push_cast;rfl
 by_cases n:a<0
 .simp only[n,decide_true,if_true];rw[Int.mul_neg];omega
 .simp only[n,decide_false];show(g:Int)*(k:Int)=a;omega
def Wa{a b c:Int}(h: ¬(a=0/\b=0)): ∃g:Int,0<g/\g*(nH a b c).a=a/\g*(nH a b c).b=b/\g*(nH a b c).c=c:=by
 have hg:0<Nat.gcd (Nat.gcd a.natAbs b.natAbs) c.natAbs:=mJ _ (fZ fun e=>h ⟨jU.1 (kN e),jU.1 (kM e)⟩);refine⟨(Nat.gcd (Nat.gcd a.natAbs b.natAbs) c.natAbs:Nat),we,?_,?_,?_⟩
 .exact IL a (rQ (lW _ _) (lW _ _))
 .exact IL b (rQ (lW _ _) (mV _ _))
 .exact IL c (mV _ _)
def JC: ∀(c:av) (A B:bB->Rat),(∀u∈c,0<=A u/\(0<=B u\/0<A u))-> ∃e:Rat,0<e/\ ∀u∈c,0<=A u+e*B u
 |[],_,_,_=>⟨1,oma,fun u hu=>by cases hu⟩
 |s::t,A,B,h=>by
  obtain⟨e,e0,he⟩:=JC t A B fun u hu=>h u (aJ _ hu);obtain⟨h1,h2⟩:=h s aZ;have hold: ∀q,0<=q->q<=e-> ∀u∈t,0<=A u+q*B u:=fun q q0 q1 u hu=>Hc (h u (aJ _ hu)).1 (he u hu) q0 q1;by_cases hb:0<=B s
  .refine⟨e,e0,fun u hu=>?_⟩
   rcases aW.1 hu with rfl|hu
   .have:=dh (dX e0) hb;grind
   .exact he u hu
  .have ha:=h2.resolve_left hb
   have hq:0<A s/ -(B s):=(gh (k:= -(B s)) omb).1 (by rw[show A s/ -(B s)* -(B s)=A s by grind];exact ha);have hm:A s/ -(B s)* -(B s)=A s:=by grind
   generalize A s/ -(B s)=q at*;by_cases k:q<=e
   .refine⟨q,hq,fun u hu=>?_⟩
    rcases aW.1 hu with rfl|hu
    .grind
    .exact hold q (dX hq) k u hu
   .refine⟨e,e0,fun u hu=>?_⟩
    rcases aW.1 hu with rfl|hu
    .have:=dh (show 0<=q-e by grind) (show 0<= -(B u) by grind)
     grind
    .exact he u hu
def Jm(l m:aa)(t e:Rat):m.value (l.at (t+e))=m.value (l.at t)+e*m.nor.dot l.dir:=by
 rw[Gf,jD]
def Jf(h:s.v.Pos)(nh:s.v.nh=false):s.v.has s.v.hi:=by
 unfold au.Pos at h;refine⟨?_, .inr iS⟩;rcases h with h|h|h
 .exact .inl h
 .rw[nh] at h;cases h
 .exact .inr (dX h)
def Nv(h:s.v.Pos)(nl:s.v.nl=false):s.v.has s.v.lo:=by
 unfold au.Pos at h;refine⟨.inr iS,?_⟩;rcases h with h|h|h
 .rw[nl] at h;cases h
 .exact .inl h
 .exact .inr (dX h)
def aGE(hc:bF c)(hs:s∈c)(nh:s.v.nh=false): ∃u∈c,u.l.value (s.l.at s.v.hi)=0/\u.l.nor.dot s.l.dir<0:=by
 obtain⟨p1,p2⟩:=hc.edge s hs;have hin:=(p2 _).1 (Jf p1 nh);by_cases q: ∃u∈c,u.l.value (s.l.at s.v.hi)=0/\u.l.nor.dot s.l.dir<0
 .exact q
 .exfalso
  obtain⟨e,e0,he⟩:=JC c (fun u=>u.l.value (s.l.at s.v.hi)) (fun u=>u.l.nor.dot s.l.dir) fun u hu=>by
   have h1:=hin u hu;refine⟨h1,?_⟩;by_cases k:0<=u.l.nor.dot s.l.dir
   .exact .inl k
   .right
    by_cases z:u.l.value (s.l.at s.v.hi)=0
    .exact absurd ⟨u,hu,z,omb⟩ q
    .grind
  have hh:=(p2 (s.v.hi+e)).2 fun u hu=>by rw[Jm];exact he u hu
  have:=hh.2;rw[nh] at this;rcases this with z|z
  .cases z
  .grind
def aFg(hc:bF c)(hs:s∈c)(nl:s.v.nl=false): ∃u∈c,u.l.value (s.l.at s.v.lo)=0/\0<u.l.nor.dot s.l.dir:=by
 obtain⟨p1,p2⟩:=hc.edge s hs;have hin:=(p2 _).1 (Nv p1 nl);by_cases q: ∃u∈c,u.l.value (s.l.at s.v.lo)=0/\0<u.l.nor.dot s.l.dir
 .exact q
 .exfalso
  obtain⟨e,e0,he⟩:=JC c (fun u=>u.l.value (s.l.at s.v.lo)) (fun u=> -(u.l.nor.dot s.l.dir)) fun u hu=>by
   have h1:=hin u hu;refine⟨h1,?_⟩;by_cases k:0<= -(u.l.nor.dot s.l.dir)
   .exact .inl k
   .right
    by_cases z:u.l.value (s.l.at s.v.lo)=0
    .exact absurd ⟨u,hu,z,omb⟩ q
    .grind
  have hh:=(p2 (s.v.lo+ -e)).2 fun u hu=>by rw[Jm];have:=he u hu;grind
  have:=hh.1;rw[nl] at this;rcases this with z|z
  .cases z
  .grind
def Sz(h:ds.Pairwise eD){s:ah}(hs:ds[i]? =some s)(hw:ds[(i+1)%ds.length]? =some w):y7 ds s w:=by
 obtain⟨hi,rfl⟩:=aT.1 hs;obtain⟨hj,rfl⟩:=aT.1 hw;have hp:=qY.1 h;by_cases e:i+1<ds.length
 .have em:(i+1)%ds.length=i+1:=kQ e
  left;simp only[em];refine⟨hp i (i+1) hi e we,fun d hd=>?_⟩;obtain⟨j,hj,rfl⟩:=lJ.1 hd;rintro ⟨a,b⟩;rcases rL j i with k|k|k
  .exact BY a (hp j i hj hi k)
  .subst k;exact x8 _ a
  .by_cases z:j=i+1
   .subst z;exact x8 _ b
   .exact BY b (hp (i+1) j e hj we)
 .have ei:i+1=ds.length:=by omega
  have em:(i+1)%ds.length=0:=by rw[ei,Nat.mod_self]
  right;simp only[em];refine⟨fun d hd a=>?_,fun d hd b=>?_⟩
  .obtain⟨j,hj,rfl⟩:=lJ.1 hd
   by_cases k:j=i
   .subst k;exact x8 _ a
   .exact BY a (hp j i hj hi we)
  .obtain⟨j,hj,rfl⟩:=lJ.1 hd
   by_cases k:j=0
   .subst k;exact x8 _ b
   .exact BY b (hp 0 j we hj we)
def VH{s:ah}(hs:s.half≠0)(hw:w.half≠0)(hu:u.half≠0)(h1:0<s.cross u)(h2:0<u.cross w)(h3:0<s.cross w)(e:s.half=w.half):u.half=s.half:=by
 rcases oO hs with k|k
 .rw[k] at e⊢
  have a:=qa.1 k;have b:=qa.1 e.symm;rw[qa];unfold ah.cross at*
  -- u is EV s and w
  have i1:(s.x*w.y-s.y*w.x)*u.y=(u.x*w.y-u.y*w.x)*s.y+(s.x*u.y-s.y*u.x)*w.y:=by grind
  have i2:(s.x*w.y-s.y*w.x)*u.x=(u.x*w.y-u.y*w.x)*s.x+(s.x*u.y-s.y*u.x)*w.x:=by grind
  have y0:0<=s.y:=by grind
  have y1:0<=w.y:=by grind
  have m1:=dh (dX h2) y0;have m2:=dh (dX h1) y1;have uy:0<=u.y:=(iw h3).1 omb;by_cases z:0<u.y
  .exact .inl z
  .right
   have z0:u.y=0:=by grind
   have i3:(u.x*w.y-u.y*w.x)*s.y+(s.x*u.y-s.y*u.x)*w.y=0:=by rw[<-i1,z0];grind
   have A0:(u.x*w.y-u.y*w.x)*s.y=0:=by generalize (u.x*w.y-u.y*w.x)*s.y=A at*;generalize (s.x*u.y-s.y*u.x)*w.y=B at*;grind
   have B0:(s.x*u.y-s.y*u.x)*w.y=0:=by grind
   have n1:s.y=0:=by
    rcases fJ.1 A0 with q|q
    .grind
    .exact q
   have n2:w.y=0:=by
    rcases fJ.1 B0 with q|q
    .grind
    .exact q
   rw[n1,n2] at h3;grind
 .rw[k] at e⊢
  have a:=wA.1 k;have b:=wA.1 e.symm;rw[wA];unfold ah.cross at*;have i1:(s.x*w.y-s.y*w.x)*u.y=(u.x*w.y-u.y*w.x)*s.y+(s.x*u.y-s.y*u.x)*w.y:=by grind
  have y0:0<= -s.y:=by grind
  have y1:0<= -w.y:=by grind
  have m1:=dh (dX h2) y0;have m2:=dh (dX h1) y1;have uy:0<= -u.y:=(iw h3).1 omb;by_cases z:u.y<0
  .exact .inl z
  .right
   have z0:u.y=0:=by grind
   have i3:(u.x*w.y-u.y*w.x)*s.y+(s.x*u.y-s.y*u.x)*w.y=0:=by rw[<-i1,z0];grind
   have m3:(u.x*w.y-u.y*w.x)* -s.y= -((u.x*w.y-u.y*w.x)*s.y):=by grind
   have m4:(s.x*u.y-s.y*u.x)* -w.y= -((s.x*u.y-s.y*u.x)*w.y):=by grind
   rw[m3] at m1;rw[m4] at m2;have A0:(u.x*w.y-u.y*w.x)*s.y=0:=by generalize (u.x*w.y-u.y*w.x)*s.y=A at*;generalize (s.x*u.y-s.y*u.x)*w.y=B at*;grind
   have B0:(s.x*u.y-s.y*u.x)*w.y=0:=by grind
   have n1:s.y=0:=by
    rcases fJ.1 A0 with q|q
    .grind
    .exact q
   have n2:w.y=0:=by
    rcases fJ.1 B0 with q|q
    .grind
    .exact q
   rw[n1,n2] at h3;grind
def auA(nz: ∀d∈ds,d.half≠0){s:ah}(hs:s∈ds)(hu:u∈ds)(hw:w∈ds)(hn:y7 ds s w)(h1:0<s.cross u)(h2:0<u.cross w)(h3:0<s.cross w):False:=by
 have zs:=oO (nz s hs);have zu:=oO (nz u hu);have zw:=oO (nz w hw);rcases hn with⟨b,no⟩|⟨n1,n2⟩
 .by_cases e:s.half=w.half
  .have e2:=VH (nz s hs) (nz w hw) (nz u hu) h1 h2 h3 e
   exact no u hu ⟨.inr ⟨e2.symm,h1⟩, .inr ⟨we,h2⟩⟩
  .have e1:s.half=1/\w.half=2:=by
    rcases b with b|⟨b,_⟩
    .omega
    .exact absurd b e
   rcases zu with k|k
   .exact no u hu ⟨.inr ⟨we,h1⟩, .inl we⟩
   .exact no u hu ⟨.inl we, .inr ⟨we,h2⟩⟩
 .have a:=n1 u hu
  have b:=n2 u hu;have a1: ¬s.half<u.half:=fun k=>a (.inl k);have a2:s.half≠u.half:=fun k=>a (.inr ⟨k,h1⟩);have b1: ¬u.half<w.half:=fun k=>b (.inl k);have b2:u.half≠w.half:=fun k=>b (.inr ⟨k,h2⟩);omega
def Pp{n:ah}(hu:u.half≠0)(hw:w.half≠0)(hn:n.half≠0)(e1:w.half=u.half)(e2:u.half=n.half)(h1:0<u.cross n)(h2: ¬0<u.cross w):0<w.cross n:=by
 by_cases k:0<w.cross u
 .have b1:eD w u:= .inr ⟨e1,k⟩
  have b2:eD u n:= .inr ⟨e2,h1⟩;rcases Ae b1 b2 with q|⟨_,q⟩
  .omega
  .exact q
 .have hz:w.cross u=0:=by rw[xP] at k⊢;grind
  by_cases q:0<w.cross n
  .exact q
  .exfalso
   have b2:eD u n:= .inr ⟨e2,h1⟩;by_cases q2:0<n.cross w
   .have b3:eD n w:= .inr ⟨we,q2⟩
    rcases Ae b2 b3 with z|⟨_,z⟩
    .omega
    .exact h2 z
   .have hz2:w.cross n=0:=by rw[xP] at q2;grind
    rcases oO hw with hh|hh
    .have a:=qa.1 hh
     have b:=qa.1 (show u.half=1 by omega);have c:=qa.1 (show n.half=1 by omega);unfold ah.cross at*;have j1:w.x*(u.x*n.y-u.y*n.x)=0:=by grind
     have j2:w.y*(u.x*n.y-u.y*n.x)=0:=by grind
     rcases fJ.1 j1 with z|z
     .rcases fJ.1 j2 with z2|z2<;>grind
     .grind
    .have a:=wA.1 hh
     unfold ah.cross at*;have j1:w.x*(u.x*n.y-u.y*n.x)=0:=by grind
     have j2:w.y*(u.x*n.y-u.y*n.x)=0:=by grind
     rcases fJ.1 j1 with z|z
     .rcases fJ.1 j2 with z2|z2<;>grind
     .grind
def aEb(nz: ∀d∈ds,d.half≠0){s:ah}(hs:s∈ds)(hu:u∈ds)(hw:w∈ds)(hn:y7 ds s w)(h1:0<s.cross u):0<s.cross w:=by
 have zs:=oO (nz s hs);have zu:=oO (nz u hu);have zw:=oO (nz w hw);have hneg:=azF (nz s hs);have hnz:(fH s).half≠0:=by omega
 have e1:u.cross (fH s)=s.cross u:=by rw[Mm,xP s u];grind
 have e2:w.cross (fH s)=s.cross w:=by rw[Mm,xP s w];grind
 rcases hn with⟨b,no⟩|⟨n1,n2⟩
 .by_cases e:s.half=w.half
  .rcases b with b|⟨_,b⟩
   .omega
   .exact b
  .have e3:s.half=1/\w.half=2:=by
    rcases b with b|⟨b,_⟩
    .omega
    .exact absurd b e
   have nu:=no u hu;rcases zu with k|k
   .exact absurd ⟨.inr ⟨we,h1⟩, .inl we⟩ nu
   .rw[<-e2]
    exact Pp (nz u hu) (nz w hw) hnz we we (by rw[e1];exact h1) fun q=>nu ⟨.inl we, .inr ⟨we,q⟩⟩
 .have a:=n1 u hu
  have b:=n2 u hu;have a1: ¬s.half<u.half:=fun k=>a (.inl k);have a2:s.half≠u.half:=fun k=>a (.inr ⟨k,h1⟩);have b1: ¬u.half<w.half:=fun k=>b (.inl k);rw[<-e2];exact Pp (nz u hu) (nz w hw) hnz we we (by rw[e1];exact h1) fun q=>b (.inr ⟨we,q⟩)
def Vl(s u w:aa)(h p:ah):s.dir.cross u.dir*w.value p=s.dir.cross u.dir*w.value h+w.dir.cross u.dir*(s.value p-s.value h)+s.dir.cross w.dir*(u.value p-u.value h):=by
 rw[jy,jy,jy,jy,jy,jy];unfold ah.cross aa.dir;grind
def aGH(hc:bF c): ∀d∈c.map (fun s=>s.l.dir),d.half≠0:=fun d hd=>by
 obtain⟨s,hs,rfl⟩:=aU.1 hd;exact D7 (hc.ok s hs)
def SM(hc:bF c){w:bB}(hs:s∈c)(hw:w∈c)(hn:y7 (c.map fun s=>s.l.dir) s.l.dir w.l.dir)(nh:s.v.nh=false):0<s.l.dir.cross w.l.dir/\w.l.value (s.l.at s.v.hi)=0:=by
 obtain⟨u,hu,z1,z2⟩:=aGE hc hs nh;have su:0<s.l.dir.cross u.l.dir:=by rw[xP,Ln];grind
 have nz:=aGH hc;have ms:=fQ (f:=fun s:bB=>s.l.dir) hs;have mu:=fQ (f:=fun s:bB=>s.l.dir) hu;have mw:=fQ (f:=fun s:bB=>s.l.dir) hw;have sw:=aEb nz ms mu mw hn su;refine⟨sw,?_⟩;obtain⟨p1,p2⟩:=hc.edge s hs;have hin:=(p2 _).1 (Jf p1 nh);have hs0:=mn (hc.ok s hs).ne s.v.hi;have h0:=hin w hw;by_cases q:w.l.value (s.l.at s.v.hi)=0
 .exact q
 .exfalso
  have wu:0<=w.l.dir.cross u.l.dir:=by
   by_cases k:0<u.l.dir.cross w.l.dir
   .exact(auA nz ms mu mw hn su k sw).elim
   .rw[xP];grind
  obtain⟨t1,t2⟩:=zB hc hw;have e:=Vl s.l u.l w.l (s.l.at s.v.hi) (w.l.at w.v.sample);rw[t2,z1,hs0] at e;have g1:=dx su (show 0<w.l.value (s.l.at s.v.hi) by grind);have g2:=dh wu (t1 s hs);have g3:=dh (dX sw) (t1 u hu);grind
def lz(x:Bool×av):DV:= .ag [.sl (x.2.map di),eU (.leaf x.1)]
def WI(l:List (Bool×av)):cI 2 (l.map lz):=fun d hd=>by
 obtain⟨x,_,rfl⟩:=aU.1 hd;exact⟨J,J⟩
def Bz: ∀(t:Tr) (c:av),(t.parts c).length<=t.size+1
 | .leaf _,_=>bJ _
 | .node l x y,c=>by
  have h1:=Bz x (bE c l);have h2:=Bz y (bE c l.rev);rw[Tr.parts,aY,Tr.size];split<;>split<;>(try simp only[fX])<;>omega
def apD{o:List (Bool×av)}(hs:o.length<=1000000):PB GB prog 204 (f7 [some (eU (.leaf b)),some (.sl (c.map di)),none]) 2 250 (o.map lz) (fun w=> .v (.slice w.a w.n w.c)) ((o++Tr.parts (.leaf b) c).map lz):=by
 refine DR func204 J J ntmps204 J J (fun C=>?_);refine cl (fu:=⟨0⟩) J qD J<|fD 12 J<|gx J<|rf J J<|Pd ((o++[(b,c)]).map lz) J (by rw[aM]<;>rfl) (WI [(b,c)]) J<|?_;exact wg J J J J
theorem okF{p:Prop}(h:p:=by simp[Tr.parts,hc30,hc38]):p:=h
def XV{l:aa}{x:Tr}{o:List (Bool×av)}(hl:LB l)(hlo:l.ok)(hc:d5 c)(hn:c.length+(Tr.node l x y).depth<=100000)(hs:o.length+((Tr.node l x y).size+1)<=1000000)(ihx: ∀{c:av} {o:List (Bool×av)},d5 c->c.length+x.depth<=100000->o.length+(x.size+1)<=1000000->PB GB prog 204 (f7 [some (eU x),some (.sl (c.map di)),none]) 2 250 (o.map lz) (fun w=> .v (.slice w.a w.n w.c)) ((o++Tr.parts x c).map lz))(ihy: ∀{c:av} {o:List (Bool×av)},d5 c->c.length+y.depth<=100000->o.length+(y.size+1)<=1000000->PB GB prog 204 (f7 [some (eU y),some (.sl (c.map di)),none]) 2 250 (o.map lz) (fun w=> .v (.slice w.a w.n w.c)) ((o++Tr.parts y c).map lz)):PB GB prog 204 (f7 [some (eU (.node l x y)),some (.sl (c.map di)),none]) 2 250 (o.map lz) (fun w=> .v (.slice w.a w.n w.c)) ((o++Tr.parts (.node l x y) c).map lz):=by
 have hk1:=sh c l;have hk2:=sh c l.rev;have hd:(Tr.node l x y).depth=1+max x.depth y.depth:=J;have hz:(Tr.node l x y).size=1+x.size+y.size:=J;have hp:=Bz x (bE c l);refine DR func204 J J ntmps204 J J (fun C=>?_);refine cl (fu:=⟨0⟩) J ti J<|iG 12 J<|gx J<|cl J (HM hlo hc) J<|bb J J J (fun hc30=>?_) (fun hc30=>?_)
 .
  have hs2:(o++x.parts (bE c l)).length+(y.size+1)<=1000000:=by rw[aY];omega
  refine cq ((o++x.parts (bE c l)).map lz) J (ihx (qC hlo hc) we we) J J<|bb J J J (fun hc38=>?_) (fun hc38=>?_)
  .
   refine cq _ J (ihy (qC hlo.rev hc) we (by first|exact hs2|omega)) J J<|?_;exact wg J J J okF
  .
   exact wg J J J okF
 .
  refine bb J J J (fun hc38=>?_) (fun hc38=>?_)
  .
   refine cq _ J (ihy (qC hlo.rev hc) we (by first|exact hs2|omega)) J J<|?_;exact wg J J J okF
  .
   exact wg J J J okF
def JW: ∀{t:Tr} {c:av} {o:List (Bool×av)},t.all LB->t.all aa.ok->d5 c->c.length+t.depth<=100000->o.length+(t.size+1)<=1000000->PB GB prog 204 (f7 [some (eU t),some (.sl (c.map di)),none]) 2 250 (o.map lz) (fun w=> .v (.slice w.a w.n w.c)) ((o++Tr.parts t c).map lz)
 | .leaf _,_,_,_,_,_,_,hs=>apD (by simp only[Tr.size] at hs;omega)
 | .node _ _ _,_,_,hb,ho,hc,hn,hs=>XV hb.1 ho.1 hc hn hs (fun k1 k2 k3=>JW hb.2.1 ho.2.1 k1 k2 k3) (fun k1 k2 k3=>JW hb.2.2 ho.2.2 k1 k2 k3)
def Zb(hb:t.all LB)(ho:t.all aa.ok)(hd:t.depth<=100000)(hs:t.size<=900000):PB GB prog 204 (f7 [some (eU t),some (.sl []),none]) 2 250 [] (fun w=> .v (.slice w.a w.n w.c)) ((t.parts []).map lz):=
 JW (c:=[]) (o:=[]) hb ho d5.nil (by rw[fX];omega) (by rw[fX];omega)
def eC(c:av):DV:= .sl (c.map di)
def Zy(l:List av):cI 1 (l.map eC):=fun d hd=>by
 obtain⟨x,_,rfl⟩:=aU.1 hd;exact⟨J,J⟩
def AW(ps:List (Bool×av)):List av:=(ps.filter (·.1)).map (·.2)
def L1{ps:List (Bool×av)}(h:ps[k]? =some (b,e)):AW (ps.drop k)=(if b then [e] else [])++AW (ps.drop (k+1)):=by
 obtain⟨h1,h2⟩:=aT.1 h;rw[bK h1,h2];unfold AW
 cases b<;>simp
def aEE(hb:t.all LB)(ho:t.all aa.ok)(hd:t.depth<=100000)(hs:t.size<=900000):PF GB prog 136 [eU t] (.sl ((t.parts []).map lz)):=by
 refine fn func136 J J ntmps136 J J (fun C=>?_);refine cqn _ J (Zb hb ho hd hs) J J<|gD 4 J<|rz J J
def Wz(hb:t.all LB)(ho:t.all aa.ok)(hd:t.depth<=100000)(hs:t.size<=900000):PF GB prog 78 [eU t] (.sl ((dE t).map eC)):=by
 obtain⟨ps,hps⟩: ∃ps,ps=t.parts []:=⟨_,rfl⟩;have hpl:=Bz t [];rw[<-hps] at hpl;have hml:(ps.map lz).length=ps.length:=aX ..;refine fn func78 J J ntmps78 J J (fun C=>?_);refine cl (fu:=⟨0⟩) J (aEE hb ho hd hs) J<|aj 7 (.d (.sl (ps.map lz))) J (by rw[hps])<|gx (fu:=⟨1⟩) J<|aj 8 (.d (vI (ps.length:Nat))) J omo<|gx J<|nr 3 3 112 1 J J J<|lp (X:=List av×Nat) (fun⟨acc,k⟩=>[(9, .d (vI (k:Nat))),(3, .rw 3)]) (fun⟨acc,k⟩=>[(3,some (.b 112 1 (acc.map eC) true))]) (fun⟨acc,k⟩=>acc++AW (ps.drop k)=dE t/\k<=ps.length) (fun⟨acc,k⟩=>ps.length-k) ⟨[],0⟩ J ⟨by rw[hps];rfl,aS _⟩ (fun _=>J) (fun⟨acc,k⟩ hk=>?_)
 try dsimp only at hk⊢
 obtain⟨h1,h2⟩:=hk;have hal:acc.length<=ps.length:=by
  have q1:=congrArg List.length h1;have q2:(dE t).length<=ps.length:=by unfold dE;rw[aX,hps];exact pL ..
  rw[aY] at q1;omega
 have ham:(acc.map eC).length=acc.length:=aX ..;refine br J J J (fun hc10=>?_) (fun hc10=>?_)
 .
  obtain⟨⟨b,e⟩,hx⟩: ∃x,ps[k]? =some x:=⟨_,aQ we⟩;refine ix _ J (ce hx) J<|bb J J J (fun hc17=>?_) (fun hc17=>?_)
  .
   refine rf J J<|ap ((acc++[e]).map eC) J (by rw[aM]<;>rfl) (Zy [e]) J<|d8 22 3 J<|at_ ⟨acc++[e],k+1⟩ (by dsimp only;exact⟨⟨by rw[<-h1,L1 hx,if_pos hc17];simp,we⟩,we⟩)
  .
   exact at_ ⟨acc,k+1⟩ (by dsimp only;exact⟨⟨by rw[<-h1,L1 hx,if_neg (by simp at hc17;rw[hc17];decide)];rfl,we⟩,we⟩)
 .
  obtain rfl:k=ps.length:=by omega
  obtain rfl:acc=dE t:=by rw[gT] at h1;simpa[AW] using h1
  refine gD 3 J<|rz J J
theorem BQ.samp(v:au)(i j:Nat)[h1:BQ v.lo i][h2:BQ v.hi j]:BQ v.sample (i+j+1+2):=by
 have b1:BQ (1:Rat) 1:=⟨oma,oma⟩;unfold au.sample;split
 .exact BQ.z1.mono we
 .split
  .exact(inferInstance:BQ (v.hi-1) (j+1+1)).mono we
  .split
   .exact(inferInstance:BQ (v.lo+1) (i+1+1)).mono we
   .exact inferInstance
theorem aA2(h:NH s):aE (s.l.at s.v.sample) 3500:=by
 haveI:=h.lb;haveI:=h.v.lo;haveI:=h.v.hi;have h0:BQ s.v.sample _:=BQ.samp s.v 1200 1200;have:= @aE.at s.l s.v.sample _ _ h0;exact⟨this.x.mono oma,this.y.mono oma⟩
def atN(l m:aa):l.dir.cross m.dir=(crossI l m:Rat):=by
 unfold ah.cross aa.dir crossI;rw[jM,cS,cS];grind
def Ha{l:aa}(h:0<Int.sign (l.dir.cross m.dir).num):crossI l m≠0:=fun e=>by
 rw[mO,atN,e] at h;exact absurd h oma
def Rn{l:aa}(h:crossI l m≠0):l.nor.cross m.nor≠0:=fun e=>by
 have:l.nor.cross m.nor=(crossI l m:Rat):=by
  unfold ah.cross aa.nor crossI;rw[jM,cS,cS];grind
 rw[this] at e;exact h (cX.1 e)
def No{l:aa}(h:crossI l m≠0):dw l m=⟨((l.b:Rat)*(m.c:Rat)-(l.c:Rat)*(m.b:Rat))/l.nor.cross m.nor,((l.c:Rat)*(m.a:Rat)-(l.a:Rat)*(m.c:Rat))/l.nor.cross m.nor⟩:=by
 have e1:(meetX l m:Rat)=(l.b:Rat)*(m.c:Rat)-(l.c:Rat)*(m.b:Rat):=by unfold meetX;rw[jM,cS,cS];grind
 have e2:(meetY l m:Rat)=(l.c:Rat)*(m.a:Rat)-(l.a:Rat)*(m.c:Rat):=by unfold meetY;rw[jM,cS,cS];grind
 have e3:(crossI l m:Rat)=l.nor.cross m.nor:=by unfold ah.cross aa.nor crossI;rw[jM,cS,cS];grind
 unfold dw;rw[if_neg h,e1,e2,e3]
def Cl: ∀{t:Tr} {c:av} {x:Bool×av},t.all LB->t.all aa.ok->d5 c->x∈t.parts c->d5 x.2/\x.2.length<=c.length+t.depth
 | .leaf b,c,x,_,_,hc,h=>by
  rw[Tr.parts,aR] at h;subst h;exact⟨hc,oM _ _⟩
 | .node l u v,c,x,hb,ho,hc,h=>by
  have hl:=hb.1;have hd:(Tr.node l u v).depth=1+max u.depth v.depth:=J;rw[Tr.parts] at h;rcases bX.1 h with h|h
  .split at h
   .obtain⟨k1,k2⟩:=Cl hb.2.1 ho.2.1 (qC ho.1 hc) h
    have:=sh c l;exact⟨k1,we⟩
   .cases h
  .split at h
   .obtain⟨k1,k2⟩:=Cl hb.2.2 ho.2.2 (qC ho.1.rev hc) h
    have:=sh c l.rev;exact⟨k1,we⟩
   .cases h
def J1(t:Tr):(dE t).length<=t.size+1:=by
 unfold dE;rw[aX];exact cN (pL ..) (Bz t [])
def H3(hb:t.all LB)(ho:t.all aa.ok): ∀c∈dE t,c.length<=t.depth:=fun c hc=>by
 have:=(Cl hb ho d5.nil (vR.1 hc)).2;simpa using this
def aKC(l:List ah):cI 6 (l.map eZ):=fun d hd=>by
 obtain⟨x,_,rfl⟩:=aU.1 hd;exact⟨J,J⟩
def Wh{l:aa}[hl:LB l][hm:LB m](hz:crossI l m≠0):PF GB prog 232 [co l,co m] (.tp [eZ (dw l m),vB true]):=by
 haveI:=aE.nor l;haveI:=aE.nor m;refine fn func232 J J ntmps232 J J (fun C=>?_);refine cl J (xm (l:=l)) J<|cl J (xm (l:=m)) J<|cl J (Ek (p:=l.nor) (q:=m.nor) (i:=97) (j:=97)) J<|cl (fu:=⟨0⟩) J (uI (q:=l.nor.cross m.nor)) J<|aj 15 (.d (vB false)) J (by rw[decide_eq_false (Rn hz)])<|iG 15 J<|gx J<|cl J (py (p:=(l.b:Rat)) (q:=(m.c:Rat)) (i:=97) (j:=97)) J<|cl J (py (p:=(l.c:Rat)) (q:=(m.b:Rat)) (i:=97) (j:=97)) J<|cl J (rP (p:=(l.b:Rat)*(m.c:Rat)) (q:=(l.c:Rat)*(m.b:Rat))) J<|cl J (AU (p:=(l.b:Rat)*(m.c:Rat)-(l.c:Rat)*(m.b:Rat)) (q:=l.nor.cross m.nor)) J<|cl J (py (p:=(l.c:Rat)) (q:=(m.a:Rat)) (i:=97) (j:=97)) J<|cl J (py (p:=(l.a:Rat)) (q:=(m.c:Rat)) (i:=97) (j:=97)) J<|cl J (rP (p:=(l.c:Rat)*(m.a:Rat)) (q:=(l.a:Rat)*(m.c:Rat))) J<|cl J (AU (p:=(l.c:Rat)*(m.a:Rat)-(l.a:Rat)*(m.c:Rat)) (q:=l.nor.cross m.nor)) J<|rz J (by rw[No hz];rfl)
def Xp(hb: ∀s∈c,LB s.l)(hn:c.length<=100000):PF GB prog 172 [eC c] (.sl ((jB (c.map (·.l))).map eZ)):=by
 have hml:(c.map di).length=c.length:=aX ..;obtain⟨L,hL⟩: ∃L,L=c.map (·.l):=⟨_,rfl⟩;have hLl:L.length=c.length:=by rw[hL,aX]
 refine fn (fu:=⟨15⟩) func172 J J ntmps172 J J (fun C=>?_);refine aj 10 (.d (vI (c.length:Nat))) J omo<|gx J<|nr 3 3 181 6 J J J<|lp (X:=List ah×Nat) (fun⟨acc,k⟩=>[(11, .d (vI (k:Nat))),(3, .rw 3)]) (fun⟨acc,k⟩=>[(3,some (.b 181 6 (acc.map eZ) true))]) (fun⟨acc,k⟩=>acc=(List.range k).flatMap (r6 L)/\k<=c.length) (fun⟨acc,k⟩=>c.length-k) ⟨[],0⟩ J ⟨J,aS _⟩ (fun _=>J) (fun⟨acc,k⟩ hk=>?_)
 try dsimp only at hk⊢
 obtain⟨h1,h2⟩:=hk;have hal:=JI L k;rw[<-h1] at hal;have ham:(acc.map eZ).length=acc.length:=aX ..;refine br J J J (fun hc12=>?_) (fun hc12=>?_)
 .
  obtain⟨s,hx⟩: ∃u,c[k]? =some u:=⟨_,aQ we⟩;obtain⟨u,hw⟩: ∃w,c[(k+1)%c.length]? =some w:=⟨_,aQ (dK _ we)⟩;haveI:=hb s (aK hx);haveI:=hb u (aK hw);have hxl:L[k]? =some s.l:=by rw[hL,bL,hx];rfl
  have hwl:L[(k+1)%L.length]? =some u.l:=by rw[hLl,hL,bL,hw];rfl
  refine ix (fu:=⟨13⟩) _ J (ce hx) J<|aj 20 (.d (vI (c.length:Nat))) J omo<|gx (fu:=⟨1⟩) J<|aj 21 (.d (vI (((k+1)%c.length:Nat):Int))) J J<|gx J<|ix _ J (ce hw) J<|cl J (xh (l:=s.l)) J<|cl J (xh (l:=u.l)) J<|cl J (Ek (p:=s.l.dir) (q:=u.l.dir) (i:=97) (j:=97)) J<|cl J (nA (q:=s.l.dir.cross u.l.dir)) J<|br J J J (fun hc32=>?_) (fun hc32=>?_)
  .
   refine cl J (Wh (l:=s.l) (m:=u.l) (Ha hc32)) J<|rf J J<|ap ((acc++[dw s.l u.l]).map eZ) J (by rw[aM]<;>rfl) (aKC [dw s.l u.l]) J<|d8 44 3 J<|at_ ⟨acc++[dw s.l u.l],k+1⟩ (by dsimp only;exact⟨⟨by rw[Iq,xz hxl hwl,if_pos hc32,<-h1],we⟩,we⟩)
  .
   exact at_ ⟨acc,k+1⟩ (by dsimp only;exact⟨⟨by rw[Iq,xz hxl hwl,if_neg hc32,<-h1,gX],we⟩,we⟩)
 .
  have hS:jB L=acc:=by unfold jB;rw[hLl,h1,show k=c.length by omega]
  refine gD 3 J<|rz J (by rw[<-hL,hS];rfl)
def Tb{l:aa}(h:crossI l m≠0)(h1:l.value p=0)(h2:m.value p=0):p=dw l m:=by
 rw[No h];have hd:=Rn h;rw[jy] at h1 h2;obtain⟨x,y⟩:=p;have e1:x*l.nor.cross m.nor=(l.b:Rat)*(m.c:Rat)-(l.c:Rat)*(m.b:Rat):=by unfold ah.cross aa.nor;grind
 have e2:y*l.nor.cross m.nor=(l.c:Rat)*(m.a:Rat)-(l.a:Rat)*(m.c:Rat):=by unfold ah.cross aa.nor;grind
 generalize l.nor.cross m.nor=d at*;simp only[ah.mk.injEq];constructor<;>grind
def Ms(l:aa)(t:Rat):l.at t=de (l.at 0) l.dir t:=by rw[<-Gf];congr 1;grind
end Go.Sx
end
