import Derived.Test.YtliglnbeohlnnaaGreatDoorMq14
set_option linter.all false
set_option maxHeartbeats 4000000
set_option maxRecDepth 100000
section
namespace Go.Sx
open Go Go.Proofs Tryz
variable {GB:Gh}{l a xs:List au}{k i j n e len s nm off d:Nat}{v:au}{t z:Rat}{b p q:Bool}{cuts o:List Rat}{m l1:aa}{side fill:Int}{y x u:Tr}{marks:List Bool}{lk:LK}{bk:BM}{ty':TypeId}{pos:String}{af:Array Edge}{zx:List FX}{f g:bB}{r:List ZP}{c:List aa}{ns:List NQ}
def ye(vs:List au):cI 8 (vs.map eV):=fun d hd=>by
 obtain⟨u,_,rfl⟩:=aU.1 hd;exact⟨rfl,rfl⟩
def fh(qs:List Rat):cI 3 (qs.map eQ):=fun d hd=>by
 obtain⟨u,_,rfl⟩:=aU.1 hd;exact⟨rfl,rfl⟩
def PU(bs:List Bool):cI 1 (bs.map vB):=fun d hd=>by
 obtain⟨u,_,rfl⟩:=aU.1 hd;exact⟨rfl,rfl⟩
def azw{a b:Int}(h:l[k]? =some v)(ha:a=if v.nl then 1 else bw t v.lo)(hb:b=if v.nh then-1 else bw t v.hi):
  vw (l.drop k) t=if 0<a/\b<0 then 2 else if(a=0/\b<=0)\/(b=0/\0<=a) then 1 else vw (l.drop (k+1)) t:=by
 obtain⟨hk,rfl⟩:=aT.1 h;rw[bK hk,vw,ha,hb]
structure n5 (v:au):Prop where
 lo:BQ v.lo 1200
 hi:BQ v.hi 1200
theorem oml{p:Prop}(h:p:=by first|(rw[<-h2,gT];rfl)|(rw[<-h2,hst,if_pos we];rfl)|(rw[<-h2,hst,if_neg we,if_pos we];rfl)):p:=h
def aAr[ht:BQ t i](hb: ∀v∈l,n5 v)(hn:l.length<=100000)(hi:i<=20000:=by decide):PF GB prog 294 [.sl (l.map eV),eQ t] (vI (vw l t)):=by
 have hm:=d7 eV l;refine fn (fu:=⟨11⟩) func294 J J ntmps294 J J (fun C=>?_);refine aj 10 (.d (vI (l.length:Nat))) J omn<|gx J<|lp (X:=Nat) (fun k=>[(11, .d (vI (k:Nat)))]) (fun k=>[]) (fun k=>k<=l.length/\vw (l.drop k) t=vw l t) (fun k=>l.length-k) 0 J ⟨aS _,J⟩ (fun _=>J) (fun k hk=>?_);obtain⟨h1,h2⟩:=hk;refine br J J J (fun hc12=>?_) (fun hc12=>?_)
 .
  obtain⟨v,hz⟩: ∃s,l[k]? =some s:=⟨_,aQ we⟩;have hv:=hb v (aK hz);haveI:=hv.lo;haveI:=hv.hi;refine ix (fu:=⟨12⟩) _ J (ce hz) J<|mg (fu:=⟨1⟩) (X:=Int) (fun a=>[(7, .d (vI a))]) (fun a=>[]) (fun a=>a=if v.nl then 1 else bw t v.lo) [7] [] rfl ?_ (fun _=>J) (fun a ha=>?_)
  .
   refine gx J<|bb J J J (fun hc17=>?_) (fun hc17=>?_)
   .
    refine cl J (jF (a:=t) (b:=v.lo) (i:=i) we) J<|at_ (bw t v.lo) (by rw[if_neg (by simpa using hc17)])
   .
    exact at_ 1 (by rw[if_pos (by simpa using hc17)])
  .
   refine mg (X:=Int) (fun b=>[(8, .d (vI b))]) (fun b=>[]) (fun b=>b=if v.nh then-1 else bw t v.hi) [8] [] rfl ?_ (fun _=>J) (fun b hb'=>?_)
   .
    refine gx J<|bb J J J (fun hc24=>?_) (fun hc24=>?_)
    .
     refine cl J (jF (a:=t) (b:=v.hi) (i:=i) we) J<|at_ (bw t v.hi) (by rw[if_neg (by simpa using hc24)])
    .
     exact at_ (-1) (by rw[if_pos (by simpa using hc24)])
   .
    have hst:=azw hz ha hb';refine cs 31 J J J (fun hg31=>?_) (fun hg31=>?_)
    .
     refine br J J J (fun hc34=>?_) (fun hc34=>?_)
     .
      exact rz J oml
     .
      refine cs 37 J J J (fun hg37=>?_) (fun hg37=>?_)
      .
       refine cs 41 J J J (fun hg41=>?_) (fun hg41=>?_)
       .
        exact rz J oml
       .
        refine cs 44 J J J (fun hg44=>?_) (fun hg44=>?_)
        .
         refine br J J J (fun hc48=>?_) (fun hc48=>?_)
         .
          exact rz J oml
         .
          exact at_ (k+1) ⟨⟨we,by rw[<-h2,hst,if_neg we,if_neg we]⟩,we⟩
        .
         exact at_ (k+1) ⟨⟨we,by rw[<-h2,hst,if_neg we,if_neg we]⟩,we⟩
      .
       refine cs 44 J J J (fun hg44=>?_) (fun hg44=>?_)
       .
        refine br J J J (fun hc48=>?_) (fun hc48=>?_)
        .
         exact rz J oml
        .
         exact at_ (k+1) ⟨⟨we,by rw[<-h2,hst,if_neg we,if_neg we]⟩,we⟩
       .
        exact at_ (k+1) ⟨⟨we,by rw[<-h2,hst,if_neg we,if_neg we]⟩,we⟩
    .
     refine cs 37 J J J (fun hg37=>?_) (fun hg37=>?_)
     .
      refine cs 41 J J J (fun hg41=>?_) (fun hg41=>?_)
      .
       exact rz J oml
      .
       refine cs 44 J J J (fun hg44=>?_) (fun hg44=>?_)
       .
        refine br J J J (fun hc48=>?_) (fun hc48=>?_)
        .
         exact rz J oml
        .
         exact at_ (k+1) ⟨⟨we,by rw[<-h2,hst,if_neg we,if_neg we]⟩,we⟩
       .
        exact at_ (k+1) ⟨⟨we,by rw[<-h2,hst,if_neg we,if_neg we]⟩,we⟩
     .
      refine cs 44 J J J (fun hg44=>?_) (fun hg44=>?_)
      .
       refine br J J J (fun hc48=>?_) (fun hc48=>?_)
       .
        exact rz J oml
       .
        exact at_ (k+1) ⟨⟨we,by rw[<-h2,hst,if_neg we,if_neg we]⟩,we⟩
      .
       exact at_ (k+1) ⟨⟨we,by rw[<-h2,hst,if_neg we,if_neg we]⟩,we⟩
 .
  obtain rfl:k=l.length:=by omega
  exact rz J oml
def LP[ht:BQ t i](hb: ∀v∈l,n5 v)(hn:l.length<=100000)(hi:i<=20000:=by decide):PF GB prog 282 [.sl (l.map eV),eQ t] (vB (gy l t)):=by
 refine fn func282 J J ntmps282 J J (fun C=>?_);refine cl J (aAr (l:=l) (t:=t) hb hn hi) J<|rz J J
def Ig: ∀{l:List Rat} {i:Nat} {a b:Rat},l[i]? =some a->l[i+1]? =some b->jd (l.take (i+2))=jd (l.take (i+1))++[(a+b)/2]
 |[],i,a,b,h,_=>by simp at h
 |[_],i,a,b,h,k=>by simp at k
 |c::d::t,0,a,b,h,k=>by
  simp at h k;subst h;subst k;simp[jd]
 |c::d::t,i+1,a,b,h,k=>by
  have:=Ig (l:=d::t) (i:=i) omE (by simpa using k);rw[show(c::d::t).take (i+1+2)=c::d::t.take (i+1) by simp,show(c::d::t).take (i+1+1)=c::d::t.take i by simp,jd,jd,iJ];congr 1
def BP: ∀l:List Rat,(jd l).length<=l.length
 |[]=>bJ _
 |[_]=>aS _
 |a::b::t=>by rw[jd,bZ,bZ];exact Nat.succ_le_succ (BP (b::t))
def Rv{a:Rat}{t:List Rat}(h:(a::t)[t.length]? =some z):cv (a::t)=(a-1)::(jd (a::t)++[z+1]):=by
 rw[cv];have:(a::t).getLast omc=z:=by
  rw[List.getLast_eq_getElem];have:=aT.1 h;obtain⟨h1,h2⟩:=this;rw[<-h2];congr 1
 rw[this]
theorem okx{p:Prop}(h:p:=by rw[hm2]<;>rfl):p:=h
theorem okJ{p:Prop}(h:p:=by rw[show((((ct.length+1:Nat):Int))-1).toNat=ct.length by omega,bL,hz];rfl):p:=h
theorem ozf{p:Prop}(h:p:=by rw[show((((i+1:Nat):Int))-1).toNat=i by omega,bL,hu];rfl):p:=h
def VF(hb: ∀q∈cuts,BQ q 1200)(hn:cuts.length<=100000):PF GB prog 281 [.sl (cuts.map eQ)] (.sl ((cv cuts).map eQ)):=by
 have hm:=d7 eQ cuts;refine fn (fu:=⟨10⟩) func281 J J ntmps281 J J (fun C=>?_);refine aj 6 (.d (vI (cuts.length:Nat))) J omn<|gx J<|br J J J (fun hc7=>?_) (fun hc7=>?_)
 .
  obtain rfl:cuts=[]:=cJ we;refine rf J J<|rz J (by rw[cv];show DV.sl [_]=DV.sl [_];rw[D0])
 .
  obtain⟨a,ct,rfl⟩: ∃a t,cuts=a::t:=by cases cuts with|nil=>exact absurd rfl hc7|cons a t=>exact⟨a,t,rfl⟩
  haveI hab:=hb a aZ;have hcl:ct.length+1<=100000:=hn;refine ix _ J J J<|cl J (ju (n:=1)) J<|cl (fu:=⟨0⟩) J (tu (a:=a) (b:=((1:Int):Rat))) J<|aj 14 (.d (eQ (a-1))) J J<|gx J<|ro J J<|lp (fu:=⟨6⟩) (X:=Nat) (fun i=>[(4, .d (vI ((i+1:Nat):Int))),(3, .rw 15)]) (fun i=>[(15,some (.b 81 3 (((a-1)::jd ((a::ct).take (i+1))).map eQ) true))]) (fun i=>i<=ct.length) (fun i=>ct.length-i) 0 J (aS _) (fun _=>J) (fun i hk=>?_);have hm2:=d7 eQ (a::ct);have hml:=BP (a::ct.take i);rw[bZ,bT] at hml;have hml2:=BP (a::ct);rw[bZ] at hml2;refine aj 18 (.d (vI ((ct.length+1:Nat):Int))) J okx<|gx J<|br (fu2:=⟨11⟩) J J J (fun hc19=>?_) (fun hc19=>?_)
  .
   obtain⟨u,hu⟩: ∃s,(a::ct)[i]? =some s:=⟨_,aQ omp⟩;obtain⟨w,hw⟩: ∃s,(a::ct)[i+1]? =some s:=⟨_,aQ omp⟩;haveI:=hb u (aK hu);haveI:=hb w (aK hw);refine ix _ J ozf J<|ix _ J (by rw[cK,bL,hw];rfl) J<|?_;refine cl J (Eb (a:=u) (b:=w)) J<|rf J J<|ap (hv:=by simp only[ak];exact⟨omd,we⟩) (((a-1)::jd ((a::ct).take (i+1+1))).map eQ) J (by rw[Ig hu hw,<-iJ,aM];rfl) (fh [(u+w)/2]) J<|d8 34 15 J<|at_ (i+1) ⟨we,we⟩
  .
   obtain rfl:i=ct.length:=by omega
   obtain⟨z,hz⟩: ∃s,(a::ct)[ct.length]? =some s:=⟨_,aQ omc⟩;haveI:=hb z (aK hz);rw[show(a::ct).take (ct.length+1)=a::ct from dQ (l:=a::ct)];refine aj 38 (.d (vI ((ct.length+1:Nat):Int))) J okx<|gx J<|ix _ J okJ J<|cl J (ju (n:=1)) J<|?_;refine cl J (ng (a:=z) (b:=((1:Int):Rat))) J<|rf J J<|ap ((cv (a::ct)).map eQ) J (by rw[Rv hz,<-iJ,aM];rfl) (fh [z+1]) J<|gD 45 J<|rz J J
def Qi(o:List Rat)(s:au):(pq o s).length<=o.length+2:=by
 unfold pq;have h:=fun(x:Rat) (l:List Rat)=>x9 (x:=x) (l:=l)▸Do bw x l;have h1:=h s.lo o;have h2:=h s.hi o;have h3:=h s.hi (kI s.lo o);split<;>split<;>omega
def rm(l:List au)(k:Nat):List Rat:=ks (l.take k)
def QE(h:l[k]? =some v):rm l (k+1)=pq (rm l k) v:=by
 unfold rm ks;rw[dW,h,oK];rfl
def E'(l:List au): ∀k,(rm l k).length<=2*k
 |0=>bJ _
 |k+1=>by
  cases h:l[k]? with
  |none=>
   have:=E' l k;unfold rm at*;rw[dW,h];simp;omega
  |some v=>rw[QE h];have:=E' l k;have:=Qi (rm l k) v;omega
theorem Pu(hb: ∀v∈l,n5 v): ∀y∈rm l k,BQ y 1200:=fun y hy=>by
 obtain⟨s,hs,h⟩:=(Ul _).2 y hy;have:=hb s (fW hs);rcases h with⟨_,rfl⟩|⟨_,rfl⟩
 .exact this.lo
 .exact this.hi
def tz(o:List Rat)(v:au)(j:Nat):List Rat:=if j=0 then o else if j=1 then(if v.nl then o else kI v.lo o) else pq o v
def AR(v:au)(j:Nat):Rat:=if j=0 then v.lo else v.hi
def rG(v:au)(j:Nat):Bool:=if j=0 then v.nl else v.nh
def wx(hj:j<2:=by decide):tz o v (j+1)=if rG v j then tz o v j else c9 bw (AR v j) (tz o v j):=by
 have:j=0\/j=1:=by omega
 rcases this with rfl|rfl
 .simp[tz,rG,AR,x9]
 .simp[tz,rG,AR,pq,x9]
def aAO(hj:j<=2):(tz o v j).length<=o.length+2:=by
 unfold tz;have:=Qi o v;have h:=x9 (x:=v.lo) (l:=o)▸Do bw v.lo o;split
 .omega
 .split
  .split<;>omega
  .exact this
theorem aFo(ho: ∀q∈o,BQ q 1200)(hv:n5 v)(hj:j<=2): ∀q∈tz o v j,BQ q 1200:=fun q hq=>by
 unfold tz pq at hq;have lo:=hv.lo;have hi:=hv.hi;split at hq
 .exact ho q hq
 .split at hq
  .split at hq
   .exact ho q hq
   .rcases qO.1 hq with rfl|hq
    .exact lo
    .exact ho q hq
  .split at hq
   .split at hq
    .exact ho q hq
    .rcases qO.1 hq with rfl|hq
     .exact lo
     .exact ho q hq
   .rcases qO.1 hq with rfl|hq
    .exact hi
    .split at hq
     .exact ho q hq
     .rcases qO.1 hq with rfl|hq
      .exact lo
      .exact ho q hq
theorem omx{p:Prop}(h:p:=by rw[hys,aM,bV,fN,gL,bS (l:=xs.map eQ) (i:=xs.length) omc];rfl):p:=h
theorem omM{p:Prop}(h:p:=by dsimp only;exact⟨⟨by rw[wx,if_neg (by simpa[rG] using hg32),<-g1,<-hm2,hin],we⟩,we⟩):p:=h
theorem omN{p:Prop}(h:p:=by dsimp only;exact⟨⟨by rw[wx,if_neg (by simpa[rG] using hc39),<-g1,<-hm2,hin],we⟩,we⟩):p:=h
def aHj(hb: ∀v∈l,n5 v)(hn:l.length<=10000):PF GB prog 280 [.sl (l.map eV)] (.sl ((ks l).map eQ)):=by
 have hm:=d7 eV l;refine fn (fu:=⟨15⟩) func280 J J ntmps280 J J (fun C=>?_);refine aj 10 (.d (vI (l.length:Nat))) J omn<|gx J<|zi 3 J<|lp (X:=List Rat×Nat) (fun⟨o,k⟩=>[(11, .d (vI (k:Nat))),(3, .d (.sl (o.map eQ)))]) (fun⟨o,k⟩=>[]) (fun⟨o,k⟩=>o=rm l k/\k<=l.length) (fun⟨o,k⟩=>l.length-k) ([],0) J ⟨J,aS _⟩ (fun _=>J) (fun⟨o,k⟩ hk=>?_);dsimp only at hk⊢;obtain⟨h1,h2⟩:=hk;refine br J J J (fun hc12=>?_) (fun hc12=>?_)
 .
  obtain⟨v,hz⟩: ∃s,l[k]? =some s:=⟨_,aQ we⟩;have hv:=hb v (aK hz);haveI:=hv.lo;haveI:=hv.hi;have hob:=Pu hb (k:=k);have hol:=E' l k;rw[<-h1] at hob hol;refine ix _ J (ce hz) J<|rf J J<|lp (X:=List Rat×Nat) (fun⟨xs,j⟩=>[(21, .d (vI (j:Nat))),(3, .d (.sl (xs.map eQ)))]) (fun⟨xs,j⟩=>[]) (fun⟨xs,j⟩=>xs=tz o v j/\j<=2) (fun⟨xs,j⟩=>2-j) (o,0) J ⟨J,we⟩ (fun _=>J) (fun⟨xs,j⟩ hk=>?_);dsimp only at hk⊢;obtain⟨g1,g2⟩:=hk;refine br J J J (fun hc22=>?_) (fun hc22=>?_)
  .
   have hj2:j<2:=by have:=hc22;simp only[bZ,fX] at this;omega
   obtain⟨m,hm2⟩: ∃m,m=AR v j:=⟨_,rfl⟩;haveI hmb:BQ m 1200:=by rw[hm2];unfold AR;split;exact hv.lo;exact hv.hi
   have hxl:=d7 eQ xs;have hxn:xs.length<=2*k+2:=by rw[g1];have:=aAO (o:=o) (v:=v) (j:=j) g2;omega
   have hxb: ∀q∈xs,BQ q 1200:=by rw[g1];exact aFo hob hv g2
   refine ix (fu:=⟨10⟩) _ rfl (by rw[cK];exact(show([v.lo,v.hi].map eQ)[j]? =some (eQ m) by rw[hm2];have:j=0\/j=1:=we;rcases this with rfl|rfl<;>rfl)) rfl<|?_;rcases(show j=0\/j=1 by omega) with rfl|rfl
   .
    refine cF J J J<|iE (fu2:=⟨1⟩) 32 J J J (fun hg32=>?_) (fun hg32=>?_)
    .
     exact at_ (xs,0+1) (by dsimp only;exact⟨⟨by rw[wx,if_pos (by simpa[rG] using hg32),<-g1],we⟩,we⟩)
    .
     refine bO (fu:=⟨16⟩) J J J<|mg (fu:=⟨5⟩) (X:=Nat) (fun n=>[(8, .d (vI (n:Nat)))]) (fun n=>[]) (fun n=>jt bw m xs=n) [8] [] rfl ?_ (fun _=>J) (fun n hnx=>?_)
     .
      refine gx J<|lp (fu:=⟨6⟩) (X:=Nat) (fun n=>[(8, .d (vI (n:Nat)))]) (fun n=>[]) (fun n=>n<=xs.length/\ ∀j (h:j<xs.length),j<n->bw xs[j] m<0) (fun n=>xs.length-n) 0 J ⟨aS _,fun j _ hj=>absurd hj we⟩ (fun _=>J) (fun n hk=>?_);obtain⟨n1,n2⟩:=hk;refine gF (v2:=fun hg43=>by simp only[ak];kernel_rfl) J J J J (fun hg43=>?_) (fun hg43=>?_)
      .
       refine ix _ J (my) J<|cl J (jF (a:=xs[n]' we) (b:=m) (ha:=hxb _ (cR we)) (hb:=hmb)) J<|br J J J (fun hc52=>?_) (fun hc52=>?_)
       .
        exact at_ (n+1) ⟨⟨we,fun j h hj=>by by_cases q:j=n;(subst q;exact hc52);exact n2 j h we⟩,we⟩
       .
        exact at_ n (p8 bw n1 n2 (fun h=>hc52))
      .
       exact at_ n (p8 bw n1 n2 (fun h=>absurd h we))
     .
      have hnl:n<=xs.length:=by rw[<-hnx];exact yN _ _ _
      refine gF (v1:=fun hg58=>by simp only[ak];kernel_rfl) J J J J (fun hg58=>?_) (fun hg58=>?_)
      .
       have hnew: ∀h:n<xs.length,bw xs[n] m≠0:=fun h=>absurd h we;obtain⟨ys,hys⟩: ∃ys,ys=xs.take n++m::xs.drop n:=⟨_,rfl⟩;have hin:c9 bw m xs=ys:=by rw[hys];exact oH bw hnx hnew
       have hyl:ys.length<=xs.length+1:=by rw[hys];simp;omega
       refine s3 n _ J J J J (fh _) omA J<|ro J J<|je n xs.length _ J J oke J (fh _) hnl we J<|ap _ J J (oF fh _ _ _) J<|kp (hv:=by simp only[ak];exact⟨omd,we⟩) (ho:=fun _=>⟨pI fh _ _,omc⟩) (ys.map eQ) J omx (qj fh _ _ _ _) J<|at_ (ys,0+1) omM
      .
       refine ix _ J (my) J<|cl J (jF (a:=xs[n]' we) (b:=m) (ha:=hxb _ (cR we)) (hb:=hmb)) J<|br (fu2:=⟨7⟩) J J J (fun hc67=>?_) (fun hc67=>?_)
       .
        have hnew: ∀h:n<xs.length,bw xs[n] m≠0:=fun h=>hc67;obtain⟨ys,hys⟩: ∃ys,ys=xs.take n++m::xs.drop n:=⟨_,rfl⟩;have hin:c9 bw m xs=ys:=by rw[hys];exact oH bw hnx hnew
        have hyl:ys.length<=xs.length+1:=by rw[hys];simp;omega
        refine s3 n _ J J J J (fh _) omA J<|ro J J<|je n xs.length _ J J oke J (fh _) hnl we J<|ap _ J J (oF fh _ _ _) J<|kp (hv:=by simp only[ak];exact⟨omd,we⟩) (ho:=fun _=>⟨pI fh _ _,omc⟩) (ys.map eQ) J omx (qj fh _ _ _ _) J<|at_ (ys,0+1) omM
       .
        have hin:c9 bw m xs=xs:=wL bw hnx we (Decidable.not_not.1 hc67);exact at_ (xs,0+1) omM
   .
    refine bO (fu:=⟨6⟩) J J J<|cF J J J<|bb (fu2:=⟨8⟩) J J J (fun hc39=>?_) (fun hc39=>?_)
    .
     exact at_ (xs,1+1) (by dsimp only;exact⟨⟨by rw[wx,if_pos (by simpa[rG] using hc39),<-g1],we⟩,we⟩)
    .
     refine mg (fu:=⟨5⟩) (X:=Nat) (fun n=>[(8, .d (vI (n:Nat)))]) (fun n=>[]) (fun n=>jt bw m xs=n) [8] [] rfl ?_ (fun _=>J) (fun n hnx=>?_)
     .
      refine gx J<|lp (fu:=⟨6⟩) (X:=Nat) (fun n=>[(8, .d (vI (n:Nat)))]) (fun n=>[]) (fun n=>n<=xs.length/\ ∀j (h:j<xs.length),j<n->bw xs[j] m<0) (fun n=>xs.length-n) 0 J ⟨aS _,fun j _ hj=>absurd hj we⟩ (fun _=>J) (fun n hk=>?_);obtain⟨n1,n2⟩:=hk;refine gF (v2:=fun hg43=>by simp only[ak];kernel_rfl) J J J J (fun hg43=>?_) (fun hg43=>?_)
      .
       refine ix _ J (my) J<|cl J (jF (a:=xs[n]' we) (b:=m) (ha:=hxb _ (cR we)) (hb:=hmb)) J<|br J J J (fun hc52=>?_) (fun hc52=>?_)
       .
        exact at_ (n+1) ⟨⟨we,fun j h hj=>by by_cases q:j=n;(subst q;exact hc52);exact n2 j h we⟩,we⟩
       .
        exact at_ n (p8 bw n1 n2 (fun h=>hc52))
      .
       exact at_ n (p8 bw n1 n2 (fun h=>absurd h we))
     .
      have hnl:n<=xs.length:=by rw[<-hnx];exact yN _ _ _
      refine gF (v1:=fun hg58=>by simp only[ak];kernel_rfl) J J J J (fun hg58=>?_) (fun hg58=>?_)
      .
       have hnew: ∀h:n<xs.length,bw xs[n] m≠0:=fun h=>absurd h we;obtain⟨ys,hys⟩: ∃ys,ys=xs.take n++m::xs.drop n:=⟨_,rfl⟩;have hin:c9 bw m xs=ys:=by rw[hys];exact oH bw hnx hnew
       have hyl:ys.length<=xs.length+1:=by rw[hys];simp;omega
       refine s3 n _ J J J J (fh _) omA J<|ro J J<|je n xs.length _ J J oke J (fh _) hnl we J<|ap _ J J (oF fh _ _ _) J<|kp (hv:=by simp only[ak];exact⟨omd,we⟩) (ho:=fun _=>⟨pI fh _ _,omc⟩) (ys.map eQ) J omx (qj fh _ _ _ _) J<|at_ (ys,1+1) omN
      .
       refine ix _ J (my) J<|cl J (jF (a:=xs[n]' we) (b:=m) (ha:=hxb _ (cR we)) (hb:=hmb)) J<|br J J J (fun hc67=>?_) (fun hc67=>?_)
       .
        have hnew: ∀h:n<xs.length,bw xs[n] m≠0:=fun h=>hc67;obtain⟨ys,hys⟩: ∃ys,ys=xs.take n++m::xs.drop n:=⟨_,rfl⟩;have hin:c9 bw m xs=ys:=by rw[hys];exact oH bw hnx hnew
        have hyl:ys.length<=xs.length+1:=by rw[hys];simp;omega
        refine s3 n _ J J J J (fh _) omA J<|ro J J<|je n xs.length _ J J oke J (fh _) hnl we J<|ap _ J J (oF fh _ _ _) J<|kp (hv:=by simp only[ak];exact⟨omd,we⟩) (ho:=fun _=>⟨pI fh _ _,omc⟩) (ys.map eQ) J omx (qj fh _ _ _ _) J<|at_ (ys,1+1) omN
       .
        have hin:c9 bw m xs=xs:=wL bw hnx we (Decidable.not_not.1 hc67);exact at_ (xs,1+1) omN
  .
   have hj2: ¬j<2:=by have:=hc22;simp only[bZ,fX] at this;omega
   exact at_ (xs,k+1) (by dsimp only;exact⟨⟨by rw[QE hz,<-h1,g1,show j=2 by omega];rfl,we⟩,we⟩)
 .
  have hfin:ks l=o:=by rw[h1,show k=l.length by omega];unfold rm;rw[dQ]
  exact rz J omY
def Yy(t:Rat):eV ⟨t,0,false,true⟩= .ag [.v (.bool (decide (t.num<0))),dN t.num.natAbs,dD t.den, .v (.bool false), .sl [], .sl [], .v (.bool false), .v (.bool true)]:=by
 unfold eV dD;simp only[show(0:Rat).num=0 from J,show(0:Rat).den=1 from J,lN,nD];rfl
def Zv(t:Rat):eV ⟨0,t,true,false⟩= .ag [.v (.bool false), .sl [], .sl [], .v (.bool (decide (t.num<0))),dN t.num.natAbs,dD t.den, .v (.bool true), .v (.bool false)]:=by
 unfold eV dD;simp only[show(0:Rat).num=0 from J,show(0:Rat).den=1 from J,lN,nD];rfl
def Cd(l m:aa)(side:Int):DV:= .tp [.sl ((jo l m side).map eV),vB (mP l m)]
def Ux{l:aa}(h:crossI l m≠0):mP l m=false:=by unfold mP;rw[decide_eq_false];exact fun e=>h e.1
def Qq{l:aa}(h:crossI l m=0):mP l m=decide ((m.value l.base).num.sign=0):=by unfold mP;simp[h]
def QT{l:aa}[hl:LB l][hm:LB m](hlo:l.ok)(hmo:m.ok)(hs:side=1\/side= -1):PF GB prog 256 [eL l,eL m,vI side] (Cd l m side):=by
 refine fn func256 J J ntmps256 J J (fun C=>?_);refine cl J (KP (l:=l) (m:=m)) J<|bb J J J (fun hc19=>?_) (fun hc19=>?_)
 .
  have hc:crossI l m=0:=by simpa using hc19
  refine cl J (Dp hlo.ne) J<|cl J (A5 (l:=m) (p:=l.base)) J<|br J J J (fun hc26=>?_) (fun hc26=>?_)
  .
   refine cl J Sd J<|rf J J<|rz J (by unfold Cd jo;rw[if_pos hc,if_pos hc26,Qq hc];rfl)
  .
   exact rz J (by unfold Cd jo;rw[if_pos hc,if_neg hc26,Qq hc];rfl)
 .
  have hc:crossI l m≠0:=by simpa using hc19
  haveI hpb:=DS (l:=l) (m:=m) hlo.ne hc;obtain⟨t,ht⟩: ∃t,t=ir l (dw l m):=⟨_,rfl⟩;refine cl (fu:=⟨0⟩) J (El (l:=l) (p:=dw l m) hlo.ne) J<|aj 35 (.d (eQ t)) J (by rw[ht]) ?_;rw[<-ht] at hpb;refine gx J<|cl J (ju (n:=1)) J<|cl J (ng (a:=t) (b:=((1:Int):Rat))) J<|cl J (Q4 (l:=l) (t:=t+((1:Int):Rat)) hlo.ne) J<|cl J (A5 (l:=m) (p:=l.at (t+((1:Int):Rat)))) J<|br J J J (fun hc44=>?_) (fun hc44=>?_)
  .
   refine rf J J<|rz J (by unfold Cd jo;rw[if_neg hc,<-ht,if_pos (show(m.value (l.at (t+1))).num.sign=side from hc44),Ux hc,bV,Yy];rfl)
  .
   refine rf J J<|rz J (by unfold Cd jo;rw[if_neg hc,<-ht,if_neg (show¬(m.value (l.at (t+1))).num.sign=side from hc44),Ux hc,bV,Zv];rfl)
def fE(f:bB):DV:= .ag [.v (.bool (decide (f.l.a<0))),dN f.l.a.natAbs, .v (.bool (decide (f.l.b<0))),dN f.l.b.natAbs, .v (.bool (decide (f.l.c<0))),dN f.l.c.natAbs, .v (.bool (decide (f.v.lo.num<0))),dN f.v.lo.num.natAbs,dD f.v.lo.den, .v (.bool (decide (f.v.hi.num<0))),dN f.v.hi.num.natAbs,dD f.v.hi.den, .v (.bool f.v.nl), .v (.bool f.v.nh)]
def zj(fs:List bB):cI 14 (fs.map fE):=fun d hd=>by
 obtain⟨u,_,rfl⟩:=aU.1 hd;exact⟨rfl,rfl⟩
theorem Cm{p:ZP}(h:ZP.le 100 p):aE p.q 12:=by
 haveI:BI p.1 11:=ku (by have:=h.1;omega);haveI:BI p.2 11:=ku okP;exact(inferInstance:aE (iP p.1 p.2) 12)
def YZ(a b:Bool):eV ⟨0,0,a,b⟩= .ag [.v (.bool false), .sl [], .sl [], .v (.bool false), .sl [], .sl [], .v (.bool a), .v (.bool b)]:=by
 unfold eV dD;simp only[show(0:Rat).num=0 from J,show(0:Rat).den=1 from J,lN,nD];rfl
def Uz(t:Rat)(a b:Bool):eV ⟨t,0,a,b⟩= .ag [.v (.bool (decide (t.num<0))),dN t.num.natAbs,dD t.den, .v (.bool false), .sl [], .sl [], .v (.bool a), .v (.bool b)]:=by
 unfold eV dD;simp only[show(0:Rat).num=0 from J,show(0:Rat).den=1 from J,lN,nD];rfl
def aL0(t:Rat)(a b:Bool):eV ⟨0,t,a,b⟩= .ag [.v (.bool false), .sl [], .sl [], .v (.bool (decide (t.num<0))),dN t.num.natAbs,dD t.den, .v (.bool a), .v (.bool b)]:=by
 unfold eV dD;simp only[show(0:Rat).num=0 from J,show(0:Rat).den=1 from J,lN,nD];rfl
def YW(h:i=0)(k: ¬i<cuts.length):fq cuts i=⟨0,0,decide (i=0),decide (i=cuts.length)⟩:=by unfold fq;rw[if_pos h,if_neg k]
def aEl{y:Rat}(h:i=0)(k:cuts[i]? =some y):fq cuts i=⟨0,y,decide (i=0),decide (i=cuts.length)⟩:=by
 unfold fq;rw[if_pos h,if_pos (aT.1 k).1,aV,k];rfl
def Xz{x:Rat}(h: ¬i=0)(k:cuts[i-1]? =some x)(k2: ¬i<cuts.length):fq cuts i=⟨x,0,decide (i=0),decide (i=cuts.length)⟩:=by
 unfold fq;rw[if_neg h,if_neg k2,aV,k];rfl
def XO{x y:Rat}(h: ¬i=0)(k:cuts[i-1]? =some x)(k2:cuts[i]? =some y):fq cuts i=⟨x,y,decide (i=0),decide (i=cuts.length)⟩:=by
 unfold fq;rw[if_neg h,if_pos (aT.1 k2).1,aV,k,aV,k2];rfl
def aAp(h:marks[k]? =some false):il cuts marks (k+1)=il cuts marks k:=by
 rw[il,aV,h];rfl
def CI(h:marks[k]? =some true)(hp: ¬(0<k/\marks[k-1]? =some true)):il cuts marks (k+1)=il cuts marks k++[fq cuts k]:=by
 rw[il,aV,h];show(if 0<k/\_ then _ else _)=_;rw[if_neg];rintro ⟨h1,h2⟩;rw[aV] at h2
 cases e:marks[k-1]? with
 |none=>rw[e] at h2;cases h2
 |some b=>rw[e] at h2;exact hp ⟨h1,by rw[e];simp at h2;rw[h2]⟩
def UJ(h:marks[k]? =some true):il cuts marks (k+1)≠[]:=by
 rw[il,aV,h];show(if 0<k/\_ then _ else _)≠[];split
 .split<;>simp
 .simp
def Sn(hk:0<k)(h:marks[k]? =some true)(hp:marks[k-1]? =some true)(hx:il cuts marks k=xs)(hv:xs[xs.length-1]? =some v):il cuts marks (k+1)=xs.set (xs.length-1) (vg v (fq cuts k)):=by
 rw[il,aV,h];show(if 0<k/\_ then _ else _)=_;rw[if_pos ⟨hk,by rw[aV,hp];rfl⟩,hx,lY,hv];have hn:0<xs.length:=by
  have:=(aT.1 hv).1;omega
 show xs.dropLast++[_]=_;apply lR;intro i;rw[qQ];by_cases hi:i<xs.length-1
 .rw[iQ (by rw[iM];exact hi),sV,if_pos hi,if_neg we]
 .by_cases hi2:i=xs.length-1
  .subst hi2
   rw[jZ (by rw[iM];exact bJ _),iM,pK,if_pos J,if_pos we];rfl
  .rw[dT (by rw[aY,iM];simp;omega),if_neg we,dT we]
def zI{α:Type}{f:α->DV}{l:List α}{x:α}(hk:0<k)(h:l[k-1]? =some x):(l.map f)[(((k:Nat):Int)-1).toNat]? =some (f x):=by
 rw[show(((k:Nat):Int)-1).toNat=k-1 by omega,bL,h];rfl
def se:decide (k=n)=decide (((k:Nat):Int)=((n:Nat):Int)):=decide_eq_decide.2 we
theorem omR{p:Prop}(h:p:=by dsimp only;exact⟨⟨by rw[CI hz hnp,<-h1],we⟩,we⟩):p:=h
theorem omS{p:Prop}(h:p:=by rw[show(((xs.length:Nat):Int)-1).toNat=xs.length-1 by omega,kK,List.set_set,kK,hgap];unfold vg;dsimp only;rw[se (k:=k) (n:=cuts.length)]<;>rfl):p:=h
theorem okk{p:Prop}(h:p:=by rw[hmc]<;>rfl):p:=h
theorem oky{p:Prop}(h:p:=by rw[show(((xs.length:Nat):Int)-1).toNat=xs.length-1 by omega,kK,sZ (by rw[hml];omega)]):p:=h
theorem ozc{p:Prop}(h:p:=by dsimp only;exact⟨⟨(Sn we hz hpb' h1.symm hw).symm,we⟩,we⟩):p:=h
def Vx(hn:cuts.length<=100000)(hmk:marks.length<=cuts.length+1):PF GB prog 283 [.sl (cuts.map eQ), .sl (marks.map vB)] (.sl ((wN cuts marks).map eV)):=by
 have hm:=d7 vB marks;have hmc:=d7 eQ cuts;refine fn (fu:=⟨15⟩) func283 J J ntmps283 J J (fun C=>?_);refine aj 11 (.d (vI (marks.length:Nat))) J omn<|gx J<|nr 5 5 219 8 J J J<|lp (X:=List au×Nat) (fun⟨xs,k⟩=>[(12, .d (vI (k:Nat))),(5, .rw 5)]) (fun⟨xs,k⟩=>[(5,some (.b 219 8 (xs.map eV) true))]) (fun⟨xs,k⟩=>xs=il cuts marks k/\k<=marks.length) (fun⟨xs,k⟩=>marks.length-k) ([],0) J ⟨J,aS _⟩ (fun _=>J) (fun⟨xs,k⟩ hk=>?_);dsimp only at hk⊢;obtain⟨h1,h2⟩:=hk;have hml:=d7 eV xs;have hxl:xs.length<=k:=by rw[h1];exact Kj
 refine br J J J (fun hc13=>?_) (fun hc13=>?_)
 .
  obtain⟨b,hz⟩: ∃s,marks[k]? =some s:=⟨_,aQ we⟩;refine ix (fu:=⟨8⟩) _ J (ce hz) J<|?_
  cases b
  .
   refine bO (fu:=⟨12⟩) J J J<|at_ (xs,k+1) (by dsimp only;exact⟨⟨by rw[aAp hz,<-h1],we⟩,we⟩)
  .
   refine cF (fu:=⟨13⟩) J J J<|?_;rcases(show(k=0/\k<cuts.length)\/(k=0/\ ¬k<cuts.length)\/(0<k/\k<cuts.length)\/(0<k/\ ¬k<cuts.length) by omega) with⟨c1,c2⟩|⟨c1,c2⟩|⟨c1,c2⟩|⟨c1,c2⟩
   .
    obtain⟨y,hy⟩: ∃s,cuts[k]? =some s:=⟨_,aQ we⟩;have hgap:=aEl (cuts:=cuts) (i:=k) c1 hy;have hnp: ¬(0<k/\marks[k-1]? =some true):=fun e=>by omega
    refine aj 23 (.d (vI (cuts.length:Nat))) J okk<|gx (fu:=⟨10⟩) J<|bO (fu:=⟨11⟩) J (omh we) J<|aj 36 (.d (vI (cuts.length:Nat))) J okk<|gx (fu:=⟨0⟩) J<|cF J (omg we) J<|ix (fu:=⟨10⟩) _ J (ce hy) J<|aj 44 (.d (vI (xs.length:Nat))) J omo<|gx (fu:=⟨6⟩) J<|bO (fu:=⟨19⟩) J (omh we) J<|aj 73 (.d (eV (fq cuts k))) J (by rw[hgap,aL0,se (k:=k) (n:=0),se (k:=k) (n:=cuts.length)]<;>rfl)<|gx J<|rf J J<|ap (fu:=⟨12⟩) ((xs++[fq cuts k]).map eV) J omJ (ye [fq cuts k]) J<|d8 75 5 J<|at_ (xs++[fq cuts k],k+1) omR
   .
    have hgap:=YW (cuts:=cuts) (i:=k) c1 c2;have hnp: ¬(0<k/\marks[k-1]? =some true):=fun e=>by omega
    refine aj 23 (.d (vI (cuts.length:Nat))) J okk<|gx (fu:=⟨10⟩) J<|bO (fu:=⟨11⟩) J (omh we) J<|aj 36 (.d (vI (cuts.length:Nat))) J okk<|gx (fu:=⟨0⟩) J<|bO (fu:=⟨10⟩) J (omh we) J<|aj 44 (.d (vI (xs.length:Nat))) J omo<|gx (fu:=⟨6⟩) J<|bO (fu:=⟨19⟩) J (omh we) J<|aj 73 (.d (eV (fq cuts k))) J (by rw[hgap,YZ,se (k:=k) (n:=0),se (k:=k) (n:=cuts.length)]<;>rfl)<|gx J<|rf J J<|ap (fu:=⟨12⟩) ((xs++[fq cuts k]).map eV) J omJ (ye [fq cuts k]) J<|d8 75 5 J<|at_ (xs++[fq cuts k],k+1) omR
   .
    obtain⟨x,hx⟩: ∃s,cuts[k-1]? =some s:=⟨_,aQ we⟩;obtain⟨pb,hpb⟩: ∃s,marks[k-1]? =some s:=⟨_,aQ we⟩;obtain⟨y,hy⟩: ∃s,cuts[k]? =some s:=⟨_,aQ we⟩;have hgap:=XO (cuts:=cuts) (i:=k) we hx hy;refine aj 23 (.d (vI (cuts.length:Nat))) J okk<|gx (fu:=⟨10⟩) J<|cF J (omg we) J<|ix (fu:=⟨11⟩) _ J (zI we hx) J<|aj 36 (.d (vI (cuts.length:Nat))) J okk<|gx (fu:=⟨0⟩) J<|cF J (omg we) J<|ix (fu:=⟨10⟩) _ J (ce hy) J<|aj 44 (.d (vI (xs.length:Nat))) J omo<|gx (fu:=⟨6⟩) J<|cF J (omg we) J<|ix _ J (zI we hpb) J<|iE (fu1:=⟨1⟩) (fu2:=⟨11⟩) 54 J J J (fun hg54=>?_) (fun hg54=>?_)
    .
     have hpb':marks[k-1]? =some true:=by rw[hpb];congr 1
     have hxn:0<xs.length:=by rw[h1];have:=UJ (cuts:=cuts) hpb';rw[show k-1+1=k by omega] at this;exact oR.2 this
     obtain⟨w,hw⟩: ∃s,xs[xs.length-1]? =some s:=⟨_,aQ we⟩;refine cF J (omg we) J<|sb (eV w) ((xs.set (xs.length-1) (⟨w.lo,y,w.nl,w.nh⟩:au)).map eV) J (zI hxn hw) J (by rw[show(((xs.length:Nat):Int)-1).toNat=xs.length-1 by omega,kK];rfl) J<|sb (hv:=by simp only[ak];exact⟨omd,we⟩) (eV (⟨w.lo,y,w.nl,w.nh⟩:au)) ((xs.set (xs.length-1) (vg w (fq cuts k))).map eV) J oky J omS J<|?_;exact at_ (xs.set (xs.length-1) (vg w (fq cuts k)),k+1) ozc
    .
     have hnp: ¬(0<k/\marks[k-1]? =some true):=fun e=>by rw[hpb,hg54] at e;simpa using e.2
     refine aj 73 (.d (eV (fq cuts k))) J (by rw[hgap];unfold eV;dsimp only;rw[se (k:=k) (n:=0),se (k:=k) (n:=cuts.length)]<;>rfl)<|gx J<|rf J J<|ap (fu:=⟨12⟩) ((xs++[fq cuts k]).map eV) J omJ (ye [fq cuts k]) J<|d8 75 5 J<|at_ (xs++[fq cuts k],k+1) omR
   .
    obtain⟨x,hx⟩: ∃s,cuts[k-1]? =some s:=⟨_,aQ we⟩;obtain⟨pb,hpb⟩: ∃s,marks[k-1]? =some s:=⟨_,aQ we⟩;have hgap:=Xz (cuts:=cuts) (i:=k) we hx c2;refine aj 23 (.d (vI (cuts.length:Nat))) J okk<|gx (fu:=⟨10⟩) J<|cF J (omg we) J<|ix (fu:=⟨11⟩) _ J (zI we hx) J<|aj 36 (.d (vI (cuts.length:Nat))) J okk<|gx (fu:=⟨0⟩) J<|bO (fu:=⟨10⟩) J (omh we) J<|aj 44 (.d (vI (xs.length:Nat))) J omo<|gx (fu:=⟨6⟩) J<|cF J (omg we) J<|ix _ J (zI we hpb) J<|iE (fu1:=⟨1⟩) (fu2:=⟨11⟩) 54 J J J (fun hg54=>?_) (fun hg54=>?_)
    .
     have hpb':marks[k-1]? =some true:=by rw[hpb];congr 1
     have hxn:0<xs.length:=by rw[h1];have:=UJ (cuts:=cuts) hpb';rw[show k-1+1=k by omega] at this;exact oR.2 this
     obtain⟨w,hw⟩: ∃s,xs[xs.length-1]? =some s:=⟨_,aQ we⟩;refine cF J (omg we) J<|sb (eV w) ((xs.set (xs.length-1) (⟨w.lo,0,w.nl,w.nh⟩:au)).map eV) J (zI hxn hw) J (by rw[show(((xs.length:Nat):Int)-1).toNat=xs.length-1 by omega,kK,Uz];rfl) J<|sb (hv:=by simp only[ak];exact⟨omd,we⟩) (eV (⟨w.lo,0,w.nl,w.nh⟩:au)) ((xs.set (xs.length-1) (vg w (fq cuts k))).map eV) J oky J omS J<|?_;exact at_ (xs.set (xs.length-1) (vg w (fq cuts k)),k+1) ozc
    .
     have hnp: ¬(0<k/\marks[k-1]? =some true):=fun e=>by rw[hpb,hg54] at e;simpa using e.2
     refine aj 73 (.d (eV (fq cuts k))) J (by rw[hgap,Uz,se (k:=k) (n:=0),se (k:=k) (n:=cuts.length)]<;>rfl)<|gx J<|rf J J<|ap ((xs++[fq cuts k]).map eV) J omJ (ye [fq cuts k]) J<|d8 75 5 J<|at_ (xs++[fq cuts k],k+1) omR
 .
  have hfin:wN cuts marks=xs:=by rw[h1,wN,show k=marks.length by omega]
  refine gD 5 J<|rz J omY
def Lg{g:Rat}: ∀{l:List Rat},g∈jd l-> ∃a∈l,∃b∈l,g=(a+b)/2
 |[],h=>by cases h
 |[_],h=>by cases h
 |a::b::t,h=>by
  rw[jd] at h;rcases aW.1 h with rfl|h
  .exact⟨a,aZ,b,aJ _ aZ,J⟩
  .obtain⟨c,hc,d,hd,e⟩:=Lg h
   exact⟨c,aJ _ hc,d,aJ _ hd,e⟩
theorem aFk{l:List Rat}(h: ∀q∈l,BQ q 1200): ∀g∈cv l,BQ g 2500:=fun g hg=>by
 cases l with
 |nil=>
  rw[cv,aR] at hg;subst hg;exact BQ.mono (k:=1) ⟨oma,oma⟩
 |cons a t=>
  rw[cv] at hg;rcases aW.1 hg with rfl|hg
  .haveI:=h a aZ
   exact BQ.mono (inferInstance:BQ (a-1) _) we
  .rcases bX.1 hg with hg|hg
   .obtain⟨c,hc,d,hd,rfl⟩:=Lg hg
    haveI:=h c hc;haveI:=h d hd;exact BQ.mono (inferInstance:BQ ((c+d)/2) _) we
   .rw[aR] at hg
    haveI:=h _ (List.getLast_mem (l:=a::t) omc);subst hg;exact BQ.mono (inferInstance:BQ ((a::t).getLast omc+1) _) we
def NC(l:List au):rm l l.length=ks l:=by unfold rm;rw[dQ]
theorem ZL(h: ∀v∈l,n5 v): ∀y∈ks l,BQ y 1200:=by rw[<-NC];exact Pu h
def Lb(l:List au):(ks l).length<=2*l.length:=by rw[<-NC];exact E' l _
def n5.app{b:List au}(ha: ∀v∈a,n5 v)(hb: ∀v∈b,n5 v): ∀v∈a++b,n5 v:=fun v hv=>(bX.1 hv).elim (ha v) (hb v)
def OS{b:List au}(ha: ∀v∈a,n5 v)(hb: ∀v∈b,n5 v)(hna:a.length<=100)(hnb:b.length<=100):PF GB prog 257 [vI 2, .sl (a.map eV), .sl (b.map eV)] (.sl ((rF 2 a b).map eV)):=by
 obtain⟨cuts,hcu⟩: ∃c,c=ks (a++b):=⟨_,rfl⟩;have hab:=n5.app ha hb;have hcb: ∀q∈cuts,BQ q 1200:=by rw[hcu];exact ZL hab
 have hcl:cuts.length<=2*(a.length+b.length):=by rw[hcu];have:=Lb (a++b);rw[aY] at this;exact this
 have hgb:=aFk hcb;have hgl:=yy (l:=cuts);have hmp:=d7 eQ (cv cuts);refine fn func257 J J ntmps257 J J (fun C=>?_);refine sO J J<|ap (a.map eV) J J (ye _) J<|kp ((a++b).map eV) J (by rw[aM]) (ye b) J<|cl (fu:=⟨0⟩) J (aHj (l:=a++b) hab okD) J<|aj 19 (.d (.sl (cuts.map eQ))) J (by rw[hcu])<|gx J<|cl (fu:=⟨1⟩) J (VF (cuts:=cuts) hcb we) J<|aj 22 (.d (vI ((cuts.length+1:Nat):Int))) J (by rw[hmp,hgl]<;>rfl)<|gx J<|nr 8 8 4 1 J J J<|lp (X:=Nat) (fun k=>[(23, .d (vI (k:Nat))),(8, .rw 8)]) (fun k=>[(8,some (.b 4 1 ((((cv cuts).map (fun t=>oB 2 (gy a t) (gy b t))).take k).map vB) true))]) (fun k=>k<=cuts.length+1) (fun k=>cuts.length+1-k) 0 J (aS _) (fun _=>J) (fun k hk=>?_);have hml:(((((cv cuts).map (fun t=>oB 2 (gy a t) (gy b t))).take k).map vB)).length=k:=by rw[aX,bT,aX,hgl];omega
 refine br (fu2:=⟨0⟩) J J J (fun hc24=>?_) (fun hc24=>?_)
 .
  obtain⟨t,hz⟩: ∃s,(cv cuts)[k]? =some s:=⟨_,aQ we⟩;haveI:=hgb t (aK hz);have hz2:((cv cuts).map (fun t=>oB 2 (gy a t) (gy b t)))[k]? =some (oB 2 (gy a t) (gy b t)):=by rw[bL,hz];rfl
  refine ix _ J (ce hz) J<|cl J (LP (l:=a) (t:=t) ha we) J<|cl (fu:=⟨6⟩) J (LP (l:=b) (t:=t) hb we) J<|?_
  cases hx:gy a t
  .
   refine bO (fu:=⟨15⟩) J J J<|cF (fu:=⟨5⟩) J J J<|bO J J J<|rf J J<|ap (fu:=⟨8⟩) ((((cv cuts).map (fun t=>oB 2 (gy a t) (gy b t))).take (k+1)).map vB) J (by rw[<-vY hz2,hx];rfl) (PU [false]) J<|d8 59 8 J<|at_ (k+1) ⟨we,we⟩
  .
   refine cF (fu:=⟨15⟩) J J J<|cF (fu:=⟨5⟩) J J J<|cF J J J<|rf J J<|ap ((((cv cuts).map (fun t=>oB 2 (gy a t) (gy b t))).take (k+1)).map vB) J (by rw[<-vY hz2,hx];rfl) (PU [_]) J<|d8 59 8 J<|at_ (k+1) ⟨we,we⟩
 .
  obtain rfl:k=cuts.length+1:=by omega
  have htk:((cv cuts).map (fun t=>oB 2 (gy a t) (gy b t))).take (cuts.length+1)=(cv cuts).map (fun t=>oB 2 (gy a t) (gy b t)):=bS (by rw[aX,hgl];exact bJ _);rw[htk];refine lv 8 J<|gx J<|cl J (Vx (cuts:=cuts) (marks:=(cv cuts).map (fun t=>oB 2 (gy a t) (gy b t))) we (by rw[aX,hgl];exact bJ _)) J<|rz J (by unfold rF;rw[<-hcu];rfl)
section
variable {C:aF}{Q0:Exit->Act->World->Prop}{fr fr':aC}{own own':aO}{cf cf':Cf}{vc:List Prop}
def aHY{dst:Option Nat}{t:TypeId}{gd:Option (Nat×Bool)}{x y:Operand}{k:IntKind}(hu:prog.underlying t=some (.array len e))(hs:(prog.info? e).map (·.size)=some s)
  (e1:bj lk x=some (.ov nm off))(e2:bj lk y=some (.d (.v (.int k (i:Nat)))))(hi:i<len):b8 prog GB C n lk bk ⟨dst, .indexAddr t x y,ty',pos,af,gd⟩ (.ov nm (off+i*s)) [] []:= .yd fun ρ G ov a w r=>by
 obtain⟨p,h1,h2⟩:=r.ev e1;obtain⟨q,h3,h4⟩:=r.ev e2;rw[dk] at h4;subst h4;obtain⟨b,hb,rfl⟩:=h2;refine⟨_,⟨b,hb,J⟩,?_⟩;obtain⟨j,hj,hjs⟩: ∃j,prog.info? e=some j/\j.size=s:=by
  cases h:prog.info? e with
  |none=>rw[h] at hs;cases hs
  |some j=>rw[h] at hs;exact⟨j,J,by simpa using hs⟩
 intro a' w' hf hh;simp only[execOp,bC hf h1,bC hf h3];have:(Instr.indexAt t (.pointer (some ⟨b,off,none⟩)) (.int k (i:Nat))).run prog w'= .ok (.pointer (some ⟨b,off+i*s,none⟩)) w':=by
  unfold Instr.indexAt;show(underlying t>>=_).run prog w'=_;rw[aP (rh hu w')];show(underlying t>>=_).run prog w'=_;rw[aP (rh hu w')];have h0:0<=((i:Nat):Int):=Int.natCast_nonneg i;have h1:((i:Nat):Int)<((len:Nat):Int):=by omega
  simp only[h0,h1,and_self,if_true];show(sizeOf e>>=_).run prog w'=_;rw[aP (vJ hj w'),tk,hjs,cK];rfl
 exact c7 this
def Nx(fr:aC)(cf:Cf):Option (TypeId×Nat×Nat×Int):=match c6 fr cf with
 |some ⟨_, .indexAddr t x y,_,_,_,_⟩=>match bj (cd fr cf) x with
  |some (.ov nm off)=>match bj (cd fr cf) y with
   |some (.d (.v (.int _ i)))=>some (t,nm,off,i)
   |_=>none
  |_=>none
 |_=>none
def m6[fu:Fu](i:Nat){t:Nat}(h:Nx fr cf=some (t,nm,off,((i:Nat):Int)))(hu:prog.underlying t=some (.array len e))(hs:(prog.info? e).map (·.size)=some s)(hi:i<len)
  (hgo:cB tt n fu.n fr own cf (.ov nm (off+i*s)) [] []=⟨vc,fr',own',cf'⟩)(k:aA prog GB C n Q0 fr' own' cf')
  (hv:autoParam (ak vc) cL._auto_1):aA prog GB C n Q0 fr own cf:=by
 unfold Nx at h;split at h<;>try (cases h;done)
 rename_i hh;split at h<;>try (cases h;done)
 rename_i hx;split at h<;>cases h;rename_i hy;exact us hh (aHY hu hs hx hy hi) hgo hv k
def aJj{e t:TypeId}{gd:Option (Nat×Bool)}{ps:List (Nat×Operand)}{fo:List (Nat×Nat×Nat)}{i:TI}{z:List FX}{pre post:List DV}(hi:fw prog t=some i)(hk:i.k= .st fo)(hz:i.z=some z)
  (hb:uB lk fo z ps=some zx)(h0:zx[k]? =some .nl)(h1:jx (zx.take k)=some pre)(h2:jx (zx.drop (k+1))=some post):b8 prog GB C n lk bk ⟨some d, .build t ⟨ps⟩,ty',pos,af,gd⟩ (.bx false pre d post) [(d,some (.b e s [] true))] [d]:=by
 intro hd tl tb K' s1 s2 hf hk';refine⟨fun ρ G ov a w r Q=>?_⟩;obtain⟨v,hv,hv'⟩:=Bo hi hz;have:=L' hi hk;have hsp:zx=zx.take k++ .nl::zx.drop (k+1):=by
  obtain⟨hk1,hk2⟩:=aT.1 h0
  conv=>lhs;rw[<-jR k zx,bK hk1,hk2]
 obtain⟨l,h1',h2'⟩:=EB (r.mono s1 s2) (fo:=fo) ps _ _ _ hb (hv' ρ G);rw[hsp] at h2';obtain⟨m1,m2',rfl,k1,y,m2,rfl,k2,k3⟩:=RH h2'
 cases (show y= .slice none 0 0 from k2)
 have hy:Yd prog C (cp a) ov G ⟨some d, .build t ⟨ps⟩,ty',pos,af,gd⟩ (.agg ⟨m1++Value.slice none 0 0::m2⟩):=xZ h1';have r3:=r.new' (x:=⟨none,0,0⟩) (B':= .b e s [] true) (os:=[]) (ov':=ov) (f:= .bx false pre d post) (y:= .agg ⟨m1++Value.slice none 0 0::m2⟩) hf (bI.refl G) r.h
  ⟨[],by simp only[if_true];exact .inl ⟨J,J,J⟩, .nil,omc,fun _ o ho=>by cases ho⟩ (fun o ho=>by cases ho) (fun m B _ _ o ho _=>⟨ho,omc⟩)
  ⟨m1,m2,omc,tv k1 h1,tv k3 h2⟩ (r.putA _ hd)
 exact kO (hy a w (cC a) r.h) (hk'.run _ G ov _ w r3)
def Tf(fr:aC)(cf:Cf):Option (Nat×List FX):=match c6 fr cf with
 |some ⟨some d, .build t ⟨ps⟩,_,_,_,_⟩=>match eo tt t with
  |some ⟨.st fo,_,some zx,_⟩=>match uB (cd fr cf) fo zx ps with
   |some l=>some (d,l)
   |none=>none
  |_=>none
 |_=>none
def bzp[fu:Fu](e s kk:Nat)(pre post:List DV)(h:Tf fr cf=some (d,zx))(h0:zx[kk]? =some .nl)(h1:jx (zx.take kk)=some pre)(h2:jx (zx.drop (kk+1))=some post)(hgo:cB tt n fu.n fr own cf (.bx false pre d post) [(d,some (.b e s [] true))] [d]=⟨vc,fr',own',cf'⟩)(k:aA prog GB C n Q0 fr' own' cf')
  (hv:autoParam (ak vc) cL._auto_1):aA prog GB C n Q0 fr own cf:=by
 unfold Tf at h;split at h<;>try (cases h;done)
 rename_i hh;split at h<;>try (cases h;done)
 rename_i hT;split at h<;>cases h;rename_i hb;exact us hh (aJj (fi _ _ hT) J J hb h0 h1 h2) hgo hv k
end
def Xv(f:bB)(m:aa)(k:Nat):List bB:=if k=0 then [] else fC f m 1
def sp2(f:bB)(m:aa)(k:Nat):List bB:=if k<=1 then [] else fC f m (-1)
def LT{l:aa}(hl:LB l)(hm:LB m)(hlo:l.ok): ∀v∈jo l m side,n5 v:=fun v hv=>⟨(Kw hl hm hlo v hv).2.1,(Kw hl hm hlo v hv).2.2⟩
def Al{l:aa}:(jo l m side).length<=1:=by
 unfold jo;split
 .split<;>simp
 .split<;>simp
def S1(op:Int)(a b:List au):(rF op a b).length<=2*(a.length+b.length)+1:=by
 unfold rF wN;refine cN Kj ?_;rw[aX,yy];have:=Lb (a++b);rw[aY] at this;omega
theorem oki{p:Prop}(h:p:=by first|(unfold fC;rw[if_pos hon,if_pos hon];rfl)|rfl):p:=h
def aFf(h:mj f)[hm:LB m](hmo:m.ok):PF GB prog 192 [fE f,eL m] (.tp [.sl ((fC f m 1).map fE), .sl ((fC f m (-1)).map fE)]):=by
 haveI:=h.lb;refine fn func192 J J ntmps192 J J (fun C=>?_);refine rf (fu:=⟨1⟩) J J<|aj 14 (.d (vI (2:Nat))) J J<|gx J<|FP 6 0 60 221 14 J J J J J<|FP 6 1 61 221 14 J J J J J<|lp (X:=Nat) (fun k=>[(15, .d (vI (k:Nat))),(6, .ov 6 0)]) (fun k=>[(6,some (.o 356 [.rw 60, .rw 61] true)),(60,some (.b 221 14 ((Xv f m k).map fE) true)),(61,some (.b 221 14 ((sp2 f m k).map fE) true))]) (fun k=>k<=2) (fun k=>2-k) 0 J we (fun _=>J) (fun k hk=>?_);refine br J J J (fun hc16=>?_) (fun hc16=>?_)
 .
  rcases(show k=0\/k=1 by omega) with rfl|rfl
  .
   refine ix _ J J J<|cl (fu:=⟨0⟩) J (QT (l:=f.l) (m:=m) (side:=1) h.ok hmo (.inl J)) J<|?_;obtain⟨cs,hcs⟩: ∃c,c=rF 2 [f.v] (jo f.l m 1):=⟨_,rfl⟩;have hcl:cs.length<=5:=by rw[hcs];have h1:=S1 2 [f.v] (jo f.l m 1);have h2:=Al (l:=f.l) (m:=m) (side:=1);simp only[fY] at h1;omega
   refine aj 25 (.d (.tp [.sl ((jo f.l m 1).map eV),vB (mP f.l m)])) J J<|gx J<|bb J J J (fun hc28=>?_) (fun hc28=>?_)
   .
    have hon:mP f.l m=true:=hc28;exact rz J oki
   .
    have hon:mP f.l m=false:=by simpa using hc28
    refine rf J J<|cl (fu:=⟨0⟩) J (OS (a:=[f.v]) (b:=jo f.l m 1) (fun v hv=>by rw[aR] at hv;subst hv;exact⟨h.lo,h.hi⟩) (LT h.lb hm h.ok) (by show 1<=100;decide) (by have:=Al (l:=f.l) (m:=m) (side:=1);omega)) J<|aj 33 (.d (.sl (cs.map eV))) J (by rw[hcs])<|gx (fu:=⟨1⟩) J<|aj 34 (.d (vI (cs.length:Nat))) J (by rw[d7 eV cs]<;>rfl)<|gx J<|lp (X:=Nat) (fun j=>[(35, .d (vI (j:Nat)))]) (fun j=>[(60,some (.b 221 14 (((cs.take j).map fun v=>(⟨f.l,v⟩:bB)).map fE) true))]) (fun j=>j<=cs.length) (fun j=>cs.length-j) 0 J (aS _) (fun _=>J) (fun j hk=>?_);have hml:(((cs.take j).map fun v=>(⟨f.l,v⟩:bB)).map fE).length<=j:=by rw[aX,aX,bT];omega
    refine br J J J (fun hc36=>?_) (fun hc36=>?_)
    .
     obtain⟨z,hz⟩: ∃s,cs[j]? =some s:=⟨_,aQ we⟩;refine ix _ J (ce hz) J<|m6 0 (e:=215) (len:=2) (s:=1) J omd omd oma J<|rf J J<|ap (((cs.take (j+1)).map fun v=>(⟨f.l,v⟩:bB)).map fE) J (by rw[<-vY hz,aM];rfl) (zj [⟨f.l,z⟩]) J<|m6 (hv:=by simp only[ak];exact⟨omd,we⟩) 0 (e:=215) (len:=2) (s:=1) J omd omd oma J<|d8 48 60 J<|at_ (j+1) ⟨we,we⟩
    .
     obtain rfl:j=cs.length:=by omega
     rw[show(cs.take cs.length).map (fun v=>(⟨f.l,v⟩:bB))=fC f m 1 from by rw[dQ];unfold fC;rw[if_neg (by rw[hon];decide),<-hcs]];exact at_ (0+1) ⟨we,we⟩
  .
   refine ix _ J J J<|cl (fu:=⟨0⟩) J (QT (l:=f.l) (m:=m) (side:= -1) h.ok hmo (.inr J)) J<|?_;obtain⟨cs,hcs⟩: ∃c,c=rF 2 [f.v] (jo f.l m (-1)):=⟨_,rfl⟩;have hcl:cs.length<=5:=by rw[hcs];have h1:=S1 2 [f.v] (jo f.l m (-1));have h2:=Al (l:=f.l) (m:=m) (side:=(-1));simp only[fY] at h1;omega
   refine aj 25 (.d (.tp [.sl ((jo f.l m (-1)).map eV),vB (mP f.l m)])) J J<|gx J<|bb J J J (fun hc28=>?_) (fun hc28=>?_)
   .
    have hon:mP f.l m=true:=hc28;exact rz J oki
   .
    have hon:mP f.l m=false:=by simpa using hc28
    refine rf J J<|cl (fu:=⟨0⟩) J (OS (a:=[f.v]) (b:=jo f.l m (-1)) (fun v hv=>by rw[aR] at hv;subst hv;exact⟨h.lo,h.hi⟩) (LT h.lb hm h.ok) (by show 1<=100;decide) (by have:=Al (l:=f.l) (m:=m) (side:=(-1));omega)) J<|aj 33 (.d (.sl (cs.map eV))) J (by rw[hcs])<|gx (fu:=⟨1⟩) J<|aj 34 (.d (vI (cs.length:Nat))) J (by rw[d7 eV cs]<;>rfl)<|gx J<|lp (X:=Nat) (fun j=>[(35, .d (vI (j:Nat)))]) (fun j=>[(61,some (.b 221 14 (((cs.take j).map fun v=>(⟨f.l,v⟩:bB)).map fE) true))]) (fun j=>j<=cs.length) (fun j=>cs.length-j) 0 J (aS _) (fun _=>J) (fun j hk=>?_);have hml:(((cs.take j).map fun v=>(⟨f.l,v⟩:bB)).map fE).length<=j:=by rw[aX,aX,bT];omega
    refine br J J J (fun hc36=>?_) (fun hc36=>?_)
    .
     obtain⟨z,hz⟩: ∃s,cs[j]? =some s:=⟨_,aQ we⟩;refine ix _ J (ce hz) J<|m6 1 (e:=215) (len:=2) (s:=1) J omd omd oma J<|rf J J<|ap (((cs.take (j+1)).map fun v=>(⟨f.l,v⟩:bB)).map fE) J (by rw[<-vY hz,aM];rfl) (zj [⟨f.l,z⟩]) J<|m6 (hv:=by simp only[ak];exact⟨omd,we⟩) 1 (e:=215) (len:=2) (s:=1) J omd omd oma J<|d8 48 61 J<|at_ (j+1) ⟨we,we⟩
    .
     obtain rfl:j=cs.length:=by omega
     rw[show(cs.take cs.length).map (fun v=>(⟨f.l,v⟩:bB))=fC f m (-1) from by rw[dQ];unfold fC;rw[if_neg (by rw[hon];decide),<-hcs]];exact at_ (1+1) ⟨we,we⟩
 .
  obtain rfl:k=2:=by omega
  refine m6 0 (e:=215) (len:=2) (s:=1) J omd omd oma J<|m6 1 (e:=215) (len:=2) (s:=1) J omd omd oma J<|gD 60 J<|gD 61 J<|rz J oki
def iF(p:ZP):DV:=eP p.q
def sC(r:List ZP):DV:= .sl (r.map iF)
def IH(l:List ZP):cI 6 (l.map iF):=fun d hd=>by
 obtain⟨u,_,rfl⟩:=aU.1 hd;exact⟨rfl,rfl⟩
def K4(h:i<r.length):(r.map iF)[((i:Nat):Int).toNat]? =some (iF (r.getD i (0,0))):=by
 rw[cK,bL,aV,aQ h];rfl
def Xh(h:i<r.length):(r.map iF)[(((i+1)%r.length:Nat):Int).toNat]? =some (iF (iv r i)):=K4 (dK _ we)
def VM(v w p:ah):(tA v w p).natAbs<=1:=by
 unfold tA;split<;>split<;>decide
theorem omK{p:Prop}(h:p:=by show vB _=vB _;unfold vT;congr 1;simp_all):p:=h
def VY{n:Int}(hn:n.natAbs<=1000):PF GB prog 255 [vI fill,vI n] (vB (vT fill n)):=by
 refine fn func255 J J ntmps255 J J (fun C=>?_);refine cs 7 J J J (fun hg7=>?_) (fun hg7=>?_)
 .
  refine cs 12 J J J (fun hg12=>?_) (fun hg12=>?_)
  .
   exact rz J omK
  .
   refine cs 15 J J J (fun hg15=>?_) (fun hg15=>?_)
   .
    exact rz J omK
   .
    exact rz J omK
 .
  refine cs 15 J J J (fun hg15=>?_) (fun hg15=>?_)
  .
   exact rz J omK
  .
   exact rz J omK
def Dc(r:List ZP):DV:= .sl ((r.map ZP.q).map iz)
theorem aJH(h: ∀p∈r,ZP.le 100 p): ∀p∈r.map ZP.q,aE p 1200:=fun p hp=>by
 obtain⟨z,hz,rfl⟩:=aU.1 hp;have:=Cm (h z hz);exact⟨BQ.mono this.x,BQ.mono this.y⟩
def Zn(r:List ZP):DV.sl ((r.map ZP.q).map eP)=sC r:=by unfold sC;rw[pY];rfl
def Wm(out:List aa)(l:aa):(qe out l).length<=out.length+1:=by
 unfold qe;split
 .omega
 .simp;omega
def Ry(c:List aa): ∀(t out:List aa),(n4 c t out).length<=out.length+t.length
 |[],out=>by simp[n4]
 |l::t,out=>by
  rw[n4];refine cN (Ry c t _) ?_;have:=Wm out l;split<;>simp<;>omega
def EF(c:List aa):(im c).length<=c.length:=cN (Ry c c []) omc
theorem P2(h: ∀m∈c,LB m): ∀m∈im c,LB m:=fun m hm=>h m (uF.1 hm).1
def Oc(h: ∀m∈c,m.ok): ∀m∈im c,m.ok:=fun m hm=>h m (uF.1 hm).1
def Mw{l:aa}(hc: ∀m∈c,LB m)(hok: ∀m∈c,m.ok)(hn:c.length<=900)(hl:LB l)(hlo:l.ok):PF GB prog 141 [.sl (c.map eL),eL l] (.sl ((im (c++[l])).map eL)):=by
 have hcl:=wY c;refine fn func141 J J ntmps141 J J (fun C=>?_);refine sO J J<|ap (c.map eL) J J (dO _) J<|rf J J<|kp ((c++[l]).map eL) J omJ (dO [l]) J<|cl J (aEd (c:=c++[l]) (xS hc hl) (pg hok hlo) omp) J<|rz J J
def XZ{l:aa}:PF GB prog 140 [eL l,eT (.node l1 x y),eT u] (eT (.node l (.node l1 x y) u)):=by
 refine fn (fu:=⟨12⟩) func140 J J ntmps140 J J (fun C=>?_);refine bO J J J<|gD 33 J<|rz J J
def ayt{l:aa}:PF GB prog 140 [eL l,eT (.leaf p),eT (.node l1 x y)] (eT (.node l (.leaf p) (.node l1 x y))):=by
 refine fn (fu:=⟨12⟩) func140 J J ntmps140 J J (fun C=>?_);refine cF (fu:=⟨4⟩) J J J<|bO J J J<|gD 33 J<|rz J J
def awZ{l:aa}:PF GB prog 140 [eL l,eT (.leaf p),eT (.leaf q)] (eT (Tr.joinQ l (.leaf p) (.leaf q))):=by
 refine fn (fu:=⟨12⟩) func140 J J ntmps140 J J (fun C=>?_);refine cF (fu:=⟨4⟩) J J J<|cF J J J<|bd J J J (fun hc27=>?_) (fun hc27=>?_)
 .
  exact rz J (by rw[show Tr.joinQ l (.leaf p) (.leaf q)= .leaf p by simp[Tr.joinQ,Tr.isLeaf,Tr.code,hc27]];rfl)
 .
  refine gD 33 J<|rz J (by rw[show Tr.joinQ l (.leaf p) (.leaf q)= .node l (.leaf p) (.leaf q) by simp[Tr.joinQ,Tr.isLeaf,Tr.code,hc27]];rfl)
def aJf{l:aa}: ∀{x y:Tr},PF GB prog 140 [eL l,eT x,eT y] (eT (Tr.joinQ l x y))
 | .leaf _, .leaf _=>awZ
 | .leaf _, .node .. =>ayt
 | .node ..,_=>XZ
def Y0:PF GB prog 83 [eT (.leaf b), .sl (c.map eL)] (eT (Tr.restrictL (.leaf b) c)):=by
 refine fn (fu:=⟨11⟩) func83 J J ntmps83 J J (fun C=>?_);refine cF J J J<|rz J J
def Yg{l:aa}(hl:LB l)(hlo:l.ok)(hc: ∀m∈c,LB m)(hok: ∀m∈c,m.ok)(hn:c.length+(Tr.node l x y).depth<=900)(ihx: ∀{c:List aa},(∀m∈c,LB m)->(∀m∈c,m.ok)->c.length+x.depth<=900->PF GB prog 83 [eT x, .sl (c.map eL)] (eT (Tr.restrictL x c)))(ihy: ∀{c:List aa},(∀m∈c,LB m)->(∀m∈c,m.ok)->c.length+y.depth<=900->PF GB prog 83 [eT y, .sl (c.map eL)] (eT (Tr.restrictL y c))):PF GB prog 83 [eT (.node l x y), .sl (c.map eL)] (eT (Tr.restrictL (.node l x y) c)):=by
 have hdp:(Tr.node l x y).depth=1+Nat.max x.depth y.depth:=J;have hdx:x.depth<=Nat.max x.depth y.depth:=rK _ _;have hdy:y.depth<=Nat.max x.depth y.depth:=qV _ _;have hca:=EF (c++[l]);have hcb:=EF (c++[l.rev]);rw[aY,fY] at hca hcb;refine fn (fu:=⟨11⟩) func83 J J ntmps83 J J (fun C=>?_);refine bO J J J<|cl J (aFe (c:=c) (l:=l) hc hok we hl hlo) J<|br J J J (fun hc16=>?_) (fun hc16=>?_)
 .
  refine cl J (ihx hc hok we) J<|rz J (by rw[Tr.restrictL,if_pos hc16];rfl)
 .
  refine br J J J (fun hc24=>?_) (fun hc24=>?_)
  .
   refine cl J (ihy hc hok we) J<|rz J (by rw[Tr.restrictL,if_neg hc16,if_pos hc24];rfl)
  .
   refine cl J (Mw (c:=c) (l:=l) hc hok we hl hlo) J<|cl J (ihx (c:=im (c++[l])) (P2 (xS hc hl)) (Oc (pg hok hlo)) we) J<|cl J (BZ (l:=l)) J<|cl J (Mw (c:=c) (l:=l.rev) hc hok we hl.rev hlo.rev) J<|cl J (ihy (c:=im (c++[l.rev])) (P2 (xS hc hl.rev)) (Oc (pg hok hlo.rev)) we) J<|cl J aJf J<|rz J (by rw[Tr.restrictL,if_neg hc16,if_neg hc24];rfl)
def GO: ∀{t:Tr} {c:List aa},t.all LB->t.all aa.ok->(∀m∈c,LB m)->(∀m∈c,m.ok)->c.length+t.depth<=900->PF GB prog 83 [eT t, .sl (c.map eL)] (eT (Tr.restrictL t c))
 | .leaf _,_,_,_,_,_,_=>Y0
 | .node l x y,c,hb,ho,hc,hok,hn=>Yg hb.1 ho.1 hc hok hn (fun h1 h2 h3=>GO hb.2.1 ho.2.1 h1 h2 h3) (fun h1 h2 h3=>GO hb.2.2 ho.2.2 h1 h2 h3)

def SS(xs ys:List NQ)(n:NQ):((xs++(n::ys)).map eN)[((xs.length:Nat):Int).toNat]? =some (eN n):=by simp
def UP(xs ys:List NQ)(n m:NQ)(e:DV)(h:e=eN m):((xs++(n::ys)).map eN).set ((xs.length:Nat):Int).toNat e=(xs++(m::ys)).map eN:=by subst h;simp
def ao9:PB GB prog 40 (f7 [some (eT (.leaf true)),none]) 8 164 (ns.map eN) (fun w=> .tp ([]++ .v (.slice w.a w.n w.c)::[.v (.int .i64 (Tr.num (.leaf true) ns.length))])) ((ns++Tr.wr (.leaf true) ns.length).map eN):=by
 refine Gn (fu:=⟨12⟩) func40 J J ntmps40 J J (fun C=>?_);refine cF (fu:=⟨9⟩) J J J<|cF J J J<|?_;exact I6 J J J J J (by simp[Tr.wr]) J
def anN:PB GB prog 40 (f7 [some (eT (.leaf false)),none]) 8 164 (ns.map eN) (fun w=> .tp ([]++ .v (.slice w.a w.n w.c)::[.v (.int .i64 (Tr.num (.leaf false) ns.length))])) ((ns++Tr.wr (.leaf false) ns.length).map eN):=by
 refine Gn (fu:=⟨12⟩) func40 J J ntmps40 J J (fun C=>?_);refine cF (fu:=⟨9⟩) J J J<|bO J J J<|?_;exact I6 J J J J J (by simp[Tr.wr]) J
def VU{l:aa}{s u:Tr}{ns:List NQ}(hl:BL l 672)(hs:ns.length+(1+s.size+u.size)<=1000000)(ihs: ∀{ns:List NQ},ns.length+s.size<=1000000->PB GB prog 40 (f7 [some (eT s),none]) 8 164 (ns.map eN) (fun w=> .tp ([]++ .v (.slice w.a w.n w.c)::[.v (.int .i64 (Tr.num s ns.length))])) ((ns++Tr.wr s ns.length).map eN))(ihu: ∀{ns:List NQ},ns.length+u.size<=1000000->PB GB prog 40 (f7 [some (eT u),none]) 8 164 (ns.map eN) (fun w=> .tp ([]++ .v (.slice w.a w.n w.c)::[.v (.int .i64 (Tr.num u ns.length))])) ((ns++Tr.wr u ns.length).map eN)):PB GB prog 40 (f7 [some (eT (.node l s u)),none]) 8 164 (ns.map eN) (fun w=> .tp ([]++ .v (.slice w.a w.n w.c)::[.v (.int .i64 (Tr.num (.node l s u) ns.length))])) ((ns++Tr.wr (.node l s u) ns.length).map eN):=by
 refine Gn (fu:=⟨12⟩) func40 J J ntmps40 J J (fun C=>?_);refine bO (fu:=⟨9⟩) J J J<|aj 20 (.d (.v (.int .i64 (ns.length:Nat)))) J omc<|gx J<|cl J (Zs hl) J<|rf J J<|Pd ((ns++[(⟨l,0,0⟩:NQ)]).map eN) J (by rw[aM]<;>rfl) (Wb [(⟨l,0,0⟩:NQ)]) J<|cb _ J (ihs (ns:=ns++[(⟨l,0,0⟩:NQ)]) omp) J J<|cb (hv:=by simp only[ak];exact omp) ((ns++((⟨l,0,0⟩:NQ)::(s.wr (ns.length+1)++u.wr (ns.length+1+s.size)))).map eN) J (ihu (ns:=ns++[(⟨l,0,0⟩:NQ)]++s.wr (ns++[(⟨l,0,0⟩:NQ)]).length) (by simp[Tr.wr_len];omega)) (by simp[Tr.wr_len,lL,lV 1]) J<|sb (hv:=by simp only[ak];exact omp) (eN ⟨l,0,0⟩) ((ns++((⟨l,s.num (ns.length+1),0⟩:NQ)::(s.wr (ns.length+1)++u.wr (ns.length+1+s.size)))).map eN) J (SS ns _ ⟨l,0,0⟩) J (by rw[UP _ _ _ ⟨l,s.num (ns.length+1),0⟩ _ (by simp[eN,DV.cells])]) J<|sb (eN ⟨l,s.num (ns.length+1),0⟩) ((ns++Tr.wr (.node l s u) ns.length).map eN) J (SS ns _ ⟨l,s.num (ns.length+1),0⟩) J (by rw[UP _ _ _ ⟨l,s.num (ns.length+1),u.num (ns.length+1+s.size)⟩ _ (by simp[eN,DV.cells,Tr.wr_len,lL,lV 1])];simp[Tr.wr]) J<|?_;exact I6 J J J J J J J
def Hx: ∀{t:Tr} {ns:List NQ},t.all (fun l=>BL l 672)->ns.length+t.size<=1000000->PB GB prog 40 (f7 [some (eT t),none]) 8 164 (ns.map eN) (fun w=> .tp ([]++ .v (.slice w.a w.n w.c)::[.v (.int .i64 (Tr.num t ns.length))])) ((ns++Tr.wr t ns.length).map eN)
 | .leaf true,ns,_,_=>ao9
 | .leaf false,ns,_,_=>anN
 | .node l s u,ns,hb,hs=>VU hb.1 hs (fun h=>Hx hb.2.1 h) (fun h=>Hx hb.2.2 h)
def Ye{t:Tr}(hb:t.all (fun l=>BL l 672))(hs:t.size<=1000000):PF GB prog 12 [eT t] (eA t):=by
 refine fn func12 J J ntmps12 J J (fun C=>?_);refine Wx _ J (Hx (t:=t) (ns:=[]) hb (by simpa using hs)) J J<|gD 6 J<|rz J J
def aLH(ds:List Int):cI 1 (ds.map vI):=fun d hd=>by
 obtain⟨n,_,rfl⟩:=aU.1 hd;exact⟨rfl,rfl⟩
def aAH(es:List Int):(es.map vI).take (min es.length 400)=(es.take 400).map vI:=by
 rw[fN];rcases Nat.le_total es.length 400 with h|h
 .rw[kW h,bS omc,bS omE]
 .rw[Nat.min_eq_right h]
def aMj{es:List Int}(hb:es.length<=1125899906842624):PN GB prog 7 [.sl (es.map vI)] 76 Unit (fun _=>[.sl ((es.take 400).map vI), .v (.int .i64 (0:Nat))]):=by
 have hel:(es.map vI).length=es.length:=by simp
 refine fnN func7 J J ntmps7 J J (fun C hmb=>?_);refine je 0 (min es.length 400) ((es.take 400).map vI) J J (by rw[hel];show(if _ then _ else _:Int)=_;split<;>omega) (aAH es) (aLH _) we we J<|?_;exact Ze () J J J J J
def M'{t:Tr}(hb:t.all LB)(hok:t.all aa.ok)(hd:t.depth<=900):PF GB prog 41 [eT t] (eT (t.restrict [])):=by
 refine fn func41 J J ntmps41 J J (fun C=>?_);refine cl J (GO (t:=t) (c:=[]) hb hok omc omc (by simpa using hd)) J<|rz J (by rw[<-Tr.restrictL_eq t [] [] hok omc bF.nil (fun p=>by unfold bA gq;simp)];rfl)
def S5{cuts:List Rat}{marks:List Bool}: ∀k,2*(il cuts marks k).length<=k+(if 0<k/\marks.getD (k-1) false=true then 1 else 0)
 |0=>by rw[il];simp
 |k+1=>by
  have ih:=S5 (cuts:=cuts) (marks:=marks) k;rw[il];simp only[mM];by_cases hm:marks.getD k false=true
  .rw[if_pos hm,if_pos (show 0<k+1/\marks.getD k false=true from⟨we,hm⟩)]
   by_cases hp:0<k/\marks.getD (k-1) false=true
   .rw[if_pos hp] at ih⊢
    cases hv:(il cuts marks k).getLast? with
    |some v=>
     have:0<(il cuts marks k).length:=by
      cases e:il cuts marks k with
      |nil=>rw[e] at hv;simp at hv
      |cons a t=>simp
     show 2*((il cuts marks k).dropLast++[_]).length<=_;rw[aY,iM,fY];omega
    |none=>
     have:il cuts marks k=[]:=List.getLast?_eq_none_iff.1 hv;simp only[this];simp
   .rw[if_neg hp] at ih⊢
    rw[aY,fY];omega
  .rw[if_neg hm]
   split at ih<;>split<;>omega
def azG(op:Int)(a b:List au):(rF op a b).length<=a.length+b.length+1:=by
 unfold rF wN;have h:=S5 (cuts:=ks (a++b)) (marks:=(cv (ks (a++b))).map fun t=>oB op (gy a t) (gy b t)) ((cv (ks (a++b))).map fun t=>oB op (gy a t) (gy b t)).length;have h2:=Lb (a++b);rw[aY] at h2;have h3:((cv (ks (a++b))).map fun t=>oB op (gy a t) (gy b t)).length=(ks (a++b)).length+1:=by rw[aX,yy]
 split at h<;>omega
def IC(f:bB)(m:aa)(side:Int):(fC f m side).length<=3:=by
 unfold fC;split
 .simp
 .rw[aX]
  have:=azG 2 [f.v] (jo f.l m side);have h2:=Al (l:=f.l) (m:=m) (side:=side);rw[fY] at this;omega
theorem aq6{p v:ah}{s:Rat}[hp:aE p 4500][hv:aE v 97][hm:LB m](hs:BQ s 60000):BQ (u7 p v m s) 60000:=by
 unfold u7 vx;split
 .exact hs
 .split
  .exact hs
  .split
   .split
    .haveI:BQ (-(m.value p/(m.value (de p v ((1:Int):Rat))-m.value p))) 45000:=BQ.mono inferInstance
     exact BQ.mono (inferInstance:BQ (-(m.value p/(m.value (de p v ((1:Int):Rat))-m.value p))/2) _)
    .exact hs
   .exact hs
theorem Oy{p v:ah}[hp:aE p 4500][hv:aE v 97]: ∀{c:List aa} {s:Rat},(∀m∈c,LB m)->BQ s 60000->BQ (sk p v c s) 60000
 |[],_,_,hs=>hs
 |m::t,s,hc,hs=>by
  haveI:=hc m aZ;exact Oy (c:=t) (fun q hq=>hc q (aJ _ hq)) (aq6 hs)
theorem SN{c:List aa}(hc: ∀m∈c,LB m)(hok: ∀m∈c,m.ok): ∀{t:List aa},(∀m∈t,m∈c)->aE (ki c t) 70000
 |[],_=>by
  have h0:BQ (0:Rat) 70000:=BQ.mono (k:=1) ⟨oma,oma⟩;exact⟨h0,h0⟩
 |m::t,h=>by
  have hm:=h m aZ;haveI:=hc m hm;rw[ki];split
  .have hbd:=CF (v:=au.all) (hok m hm).ne hc ik.all (BQ.mono (k:=1) ⟨oma,oma⟩) (BQ.mono (k:=1) ⟨oma,oma⟩)
   haveI:=hbd.1;haveI:=hbd.2;haveI hsb:=U8 (v:=(gj m c au.all).1) (i:=1200);haveI hpt:aE (m.at (lc (gj m c au.all).1)) 4500:=by have:=aE.at m (lc (gj m c au.all).1) (1200+1200+5);exact⟨this.x.mono oma,this.y.mono oma⟩
   haveI hvt:aE (iB m.dir) 97:=inferInstance;haveI hns:BQ (sk (m.at (lc (gj m c au.all).1)) (iB m.dir) c ((1:Int):Rat)) 60000:=Oy hc (BQ.mono (k:=2) ⟨oma,oma⟩);have:=aE.mov (m.at (lc (gj m c au.all).1)) (iB m.dir) (sk (m.at (lc (gj m c au.all).1)) (iB m.dir) c ((1:Int):Rat)) 4500 97 60000;exact⟨this.x.mono oma,this.y.mono oma⟩
  .exact SN hc hok (fun q hq=>h q (aJ _ hq))
def Mx{l:List bB}(h:l[k]? =some g):(l.take (k+1)).flatMap (fun g=>fC g m side)=(l.take k).flatMap (fun g=>fC g m side)++fC g m side:=by
 rw[dW,h,uZ];simp
def CQ(l:List bB)(m:aa)(side:Int):(l.flatMap fun g=>fC g m side).length<=3*l.length:=by
 induction l with
 |nil=>simp
 |cons a t ih=>rw[kJ,aY,bZ];have:=IC a m side;omega
def aBu{acc:ah->Bool}:jv acc n [] c= .leaf (acc (ki c c)):=by cases n<;>rfl
def azV(l:List bB):ul l.length l:=⟨l.map bB.l,by rw[aX];exact bJ _,fun f hf=>⟨f.l,fQ hf, .inl J⟩⟩
def Yw(h:n<=18):n*3^n<=6973568802:=cN (fU h (cZ oma h)) oma
def atY:PF GB prog 45 [eT (.leaf b)] (eT (Tr.compl (.leaf b))):=by
 refine fn (fu:=⟨11⟩) func45 J J ntmps45 J J (fun C=>?_);refine cF J J J<|cl J (Ee (p:=!b)) J<|rz J J
def XC{l:aa}(ihx:PF GB prog 45 [eT x] (eT x.compl))(ihy:PF GB prog 45 [eT y] (eT y.compl)):PF GB prog 45 [eT (.node l x y)] (eT (Tr.compl (.node l x y))):=by
 refine fn (fu:=⟨11⟩) func45 J J ntmps45 J J (fun C=>?_);refine bO J J J<|cl J ihx J<|cl (fu:=⟨1⟩) J ihy J<|xb J J<|rz J J
def HZ: ∀{t:Tr},PF GB prog 45 [eT t] (eT t.compl)
 | .leaf _=>atY
 | .node _ _ _=>XC HZ HZ
end Go.Sx
end
