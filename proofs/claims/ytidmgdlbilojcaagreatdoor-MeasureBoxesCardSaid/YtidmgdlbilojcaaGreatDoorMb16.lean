import Derived.Test.YtidmgdlbilojcaaGreatDoorMb15
set_option linter.all false
set_option maxHeartbeats 4000000
set_option maxRecDepth 100000
section
namespace Go.Sx
open Go Go.Proofs Tryz
variable {GB:Gh}
def yv(vs:List ah):cP 8 (vs.map eV):=fun d hd=>by
 obtain⟨u,_,rfl⟩:=bQ.1 hd;exact⟨rfl,rfl⟩
def i9(qs:List Rat):cP 3 (qs.map eQ):=fun d hd=>by
 obtain⟨u,_,rfl⟩:=bQ.1 hd;exact⟨rfl,rfl⟩
def O8(bs:List Bool):cP 1 (bs.map vB):=fun d hd=>by
 obtain⟨u,_,rfl⟩:=bQ.1 hd;exact⟨rfl,rfl⟩
def ZS{l:List ah}{k:Nat}{v:ah}{t:Rat}{a b:Int}(h:l[k]? =some v)(ha:a=if v.nl then 1 else bg t v.lo)(hb:b=if v.nh then-1 else bg t v.hi):
  sD (l.drop k) t=if 0<a/\b<0 then 2 else if(a=0/\b<=0)\/(b=0/\0<=a) then 1 else sD (l.drop (k+1)) t:=by
 obtain⟨hk,rfl⟩:=aS.1 h;rw[bZ hk,sD,ha,hb]
structure od (v:ah):Prop where
 lo:BQ v.lo 1200
 hi:BQ v.hi 1200
def YY{l:List ah}{t:Rat}{i:Nat}[ht:BQ t i](hb: ∀v∈l,od v)(hn:l.length<=100000)(hi:i<=20000:=by decide):PF GB prog 298 [.sl (l.map eV),eQ t] (vI (sD l t)):=by
 have hm:=gj eV l;refine fn (fu:=⟨11⟩) func298 J J ntmps298 J J (fun C=>?_);refine aj 10 (.d (vI (l.length:Nat))) J (by rw[hm]<;>rfl) ?_;refine gx J<|?_;refine lp (X:=Nat) (fun k=>[(11, .d (vI (k:Nat)))]) (fun k=>[]) (fun k=>k<=l.length/\sD (l.drop k) t=sD l t) (fun k=>l.length-k) 0 J ⟨bV _,J⟩ (fun _=>J) (fun k hk=>?_);obtain⟨h1,h2⟩:=hk;refine br J J J (fun hc12=>?_) (fun hc12=>?_)
 .
  obtain⟨v,hz⟩: ∃s,l[k]? =some s:=⟨_,aZ (by omega)⟩;have hv:=hb v (aT hz);haveI:=hv.lo;haveI:=hv.hi;refine ix (fu:=⟨12⟩) _ J (d8 hz) J<|?_;refine mg (fu:=⟨1⟩) (X:=Int) (fun a=>[(7, .d (vI a))]) (fun a=>[]) (fun a=>a=if v.nl then 1 else bg t v.lo) [7] [] rfl ?_ (fun _=>J) (fun a ha=>?_)
  .
   refine gx J<|?_;refine bb J J J (fun hc17=>?_) (fun hc17=>?_)
   .
    refine cl J (jm (a:=t) (b:=v.lo) (i:=i) (by omega)) J<|?_;exact at_ (bg t v.lo) (by rw[if_neg (by simpa using hc17)])
   .
    exact at_ 1 (by rw[if_pos (by simpa using hc17)])
  .
   refine mg (X:=Int) (fun b=>[(8, .d (vI b))]) (fun b=>[]) (fun b=>b=if v.nh then-1 else bg t v.hi) [8] [] rfl ?_ (fun _=>J) (fun b hb'=>?_)
   .
    refine gx J<|?_;refine bb J J J (fun hc24=>?_) (fun hc24=>?_)
    .
     refine cl J (jm (a:=t) (b:=v.hi) (i:=i) (by omega)) J<|?_;exact at_ (bg t v.hi) (by rw[if_neg (by simpa using hc24)])
    .
     exact at_ (-1) (by rw[if_pos (by simpa using hc24)])
   .
    have hst:=ZS hz ha hb';refine cs 31 J J J (fun hg31=>?_) (fun hg31=>?_)
    .
     refine br J J J (fun hc34=>?_) (fun hc34=>?_)
     .
      exact rz J (by first|(rw[<-h2,fV];rfl)|(rw[<-h2,hst,if_pos (by omega)];rfl)|(rw[<-h2,hst,if_neg (by omega),if_pos (by omega)];rfl))
     .
      refine cs 37 J J J (fun hg37=>?_) (fun hg37=>?_)
      .
       refine cs 41 J J J (fun hg41=>?_) (fun hg41=>?_)
       .
        exact rz J (by first|(rw[<-h2,fV];rfl)|(rw[<-h2,hst,if_pos (by omega)];rfl)|(rw[<-h2,hst,if_neg (by omega),if_pos (by omega)];rfl))
       .
        refine cs 44 J J J (fun hg44=>?_) (fun hg44=>?_)
        .
         refine br J J J (fun hc48=>?_) (fun hc48=>?_)
         .
          exact rz J (by first|(rw[<-h2,fV];rfl)|(rw[<-h2,hst,if_pos (by omega)];rfl)|(rw[<-h2,hst,if_neg (by omega),if_pos (by omega)];rfl))
         .
          exact at_ (k+1) ⟨⟨by omega,by rw[<-h2,hst,if_neg (by omega),if_neg (by omega)]⟩,(by omega)⟩
        .
         exact at_ (k+1) ⟨⟨by omega,by rw[<-h2,hst,if_neg (by omega),if_neg (by omega)]⟩,(by omega)⟩
      .
       refine cs 44 J J J (fun hg44=>?_) (fun hg44=>?_)
       .
        refine br J J J (fun hc48=>?_) (fun hc48=>?_)
        .
         exact rz J (by first|(rw[<-h2,fV];rfl)|(rw[<-h2,hst,if_pos (by omega)];rfl)|(rw[<-h2,hst,if_neg (by omega),if_pos (by omega)];rfl))
        .
         exact at_ (k+1) ⟨⟨by omega,by rw[<-h2,hst,if_neg (by omega),if_neg (by omega)]⟩,(by omega)⟩
       .
        exact at_ (k+1) ⟨⟨by omega,by rw[<-h2,hst,if_neg (by omega),if_neg (by omega)]⟩,(by omega)⟩
    .
     refine cs 37 J J J (fun hg37=>?_) (fun hg37=>?_)
     .
      refine cs 41 J J J (fun hg41=>?_) (fun hg41=>?_)
      .
       exact rz J (by first|(rw[<-h2,fV];rfl)|(rw[<-h2,hst,if_pos (by omega)];rfl)|(rw[<-h2,hst,if_neg (by omega),if_pos (by omega)];rfl))
      .
       refine cs 44 J J J (fun hg44=>?_) (fun hg44=>?_)
       .
        refine br J J J (fun hc48=>?_) (fun hc48=>?_)
        .
         exact rz J (by first|(rw[<-h2,fV];rfl)|(rw[<-h2,hst,if_pos (by omega)];rfl)|(rw[<-h2,hst,if_neg (by omega),if_pos (by omega)];rfl))
        .
         exact at_ (k+1) ⟨⟨by omega,by rw[<-h2,hst,if_neg (by omega),if_neg (by omega)]⟩,(by omega)⟩
       .
        exact at_ (k+1) ⟨⟨by omega,by rw[<-h2,hst,if_neg (by omega),if_neg (by omega)]⟩,(by omega)⟩
     .
      refine cs 44 J J J (fun hg44=>?_) (fun hg44=>?_)
      .
       refine br J J J (fun hc48=>?_) (fun hc48=>?_)
       .
        exact rz J (by first|(rw[<-h2,fV];rfl)|(rw[<-h2,hst,if_pos (by omega)];rfl)|(rw[<-h2,hst,if_neg (by omega),if_pos (by omega)];rfl))
       .
        exact at_ (k+1) ⟨⟨by omega,by rw[<-h2,hst,if_neg (by omega),if_neg (by omega)]⟩,(by omega)⟩
      .
       exact at_ (k+1) ⟨⟨by omega,by rw[<-h2,hst,if_neg (by omega),if_neg (by omega)]⟩,(by omega)⟩
 .
  obtain rfl:k=l.length:=by omega
  exact rz J (by first|(rw[<-h2,fV];rfl)|(rw[<-h2,hst,if_pos (by omega)];rfl)|(rw[<-h2,hst,if_neg (by omega),if_pos (by omega)];rfl))
def Ok{l:List ah}{t:Rat}{i:Nat}[ht:BQ t i](hb: ∀v∈l,od v)(hn:l.length<=100000)(hi:i<=20000:=by decide):PF GB prog 281 [.sl (l.map eV),eQ t] (vB (fA l t)):=by
 refine fn func281 J J ntmps281 J J (fun C=>?_);refine cl J (YY (l:=l) (t:=t) hb hn hi) J<|?_;exact rz J J
def R1: ∀{l:List Rat} {i:Nat} {a b:Rat},l[i]? =some a->l[i+1]? =some b->iI (l.take (i+2))=iI (l.take (i+1))++[(a+b)/2]
 |[],i,a,b,h,_=>by simp at h
 |[_],i,a,b,h,k=>by simp at k
 |c::d::t,0,a,b,h,k=>by
  simp at h k;subst h;subst k;simp[iI]
 |c::d::t,i+1,a,b,h,k=>by
  have:=R1 (l:=d::t) (i:=i) (by simpa using h) (by simpa using k);rw[show(c::d::t).take (i+1+2)=c::d::t.take (i+1) by simp,show(c::d::t).take (i+1+1)=c::d::t.take i by simp,iI,iI,jJ];congr 1
def H3: ∀l:List Rat,(iI l).length<=l.length
 |[]=>aN _
 |[_]=>bV _
 |a::b::t=>by rw[iI,bX,bX];exact Nat.succ_le_succ (H3 (b::t))
def V3{a:Rat}{t:List Rat}{z:Rat}(h:(a::t)[t.length]? =some z):e7 (a::t)=(a-1)::(iI (a::t)++[z+1]):=by
 rw[e7];have:(a::t).getLast (by simp)=z:=by
  rw[List.getLast_eq_getElem];have:=aS.1 h;obtain⟨h1,h2⟩:=this;rw[<-h2];congr 1
 rw[this]
def aw0{cuts:List Rat}(hb: ∀q∈cuts,BQ q 1200)(hn:cuts.length<=100000):PF GB prog 280 [.sl (cuts.map eQ)] (.sl ((e7 cuts).map eQ)):=by
 have hm:=gj eQ cuts;refine fn (fu:=⟨10⟩) func280 J J ntmps280 J J (fun C=>?_);refine aj 6 (.d (vI (cuts.length:Nat))) J (by rw[hm]<;>rfl) ?_;refine gx J<|?_;refine br J J J (fun hc7=>?_) (fun hc7=>?_)
 .
  obtain rfl:cuts=[]:=bU (by omega);refine rf J J<|?_;exact rz J (by rw[e7];show DV.sl [_]=DV.sl [_];rw[SK])
 .
  obtain⟨a,ct,rfl⟩: ∃a t,cuts=a::t:=by cases cuts with|nil=>exact absurd rfl hc7|cons a t=>exact⟨a,t,rfl⟩
  haveI hab:=hb a aQ;have hcl:ct.length+1<=100000:=hn;refine ix _ J J J<|cl J (ku (n:=1) (by decide) (by decide)) J<|cl (fu:=⟨0⟩) J (ug (a:=a) (b:=((1:Int):Rat))) J<|?_;refine aj 14 (.d (eQ (a-1))) J J ?_;refine gx J<|ro J J<|?_;refine lp (fu:=⟨6⟩) (X:=Nat) (fun i=>[(4, .d (vI ((i+1:Nat):Int))),(3, .rw 15)]) (fun i=>[(15,some (.b 48 3 (((a-1)::iI ((a::ct).take (i+1))).map eQ) true))]) (fun i=>i<=ct.length) (fun i=>ct.length-i) 0 J (bV _) (fun _=>J) (fun i hk=>?_);have hm2:=gj eQ (a::ct);have hml:=H3 (a::ct.take i);rw[bX,cW] at hml;have hml2:=H3 (a::ct);rw[bX] at hml2;refine aj 18 (.d (vI ((ct.length+1:Nat):Int))) J (by rw[hm2]<;>rfl) ?_;refine gx J<|?_;refine br (fu2:=⟨11⟩) J J J (fun hc19=>?_) (fun hc19=>?_)
  .
   obtain⟨u,hu⟩: ∃s,(a::ct)[i]? =some s:=⟨_,aZ (by simp;omega)⟩;obtain⟨w,hw⟩: ∃s,(a::ct)[i+1]? =some s:=⟨_,aZ (by simp;omega)⟩;haveI:=hb u (aT hu);haveI:=hb w (aT hw);refine ix _ J (by rw[show((((i+1:Nat):Int))-1).toNat=i by omega,cV,hu];rfl) J<|ix _ J (by rw[bJ,cV,hw];rfl) J<|?_;refine cl J (HQ (a:=u) (b:=w)) J<|rf J J<|ap (hv:=by simp only[ac];exact⟨by kernel_rfl,by omega⟩) (((a-1)::iI ((a::ct).take (i+1+1))).map eQ) J (by rw[R1 hu hw,<-jJ,bS];rfl) (i9 [(u+w)/2]) J<|?_;refine gI 34 15 J ?_;exact at_ (i+1) ⟨(by omega),(by omega)⟩
  .
   obtain rfl:i=ct.length:=by omega
   obtain⟨z,hz⟩: ∃s,(a::ct)[ct.length]? =some s:=⟨_,aZ (by simp)⟩;haveI:=hb z (aT hz);rw[show(a::ct).take (ct.length+1)=a::ct from dJ (l:=a::ct)];refine aj 38 (.d (vI ((ct.length+1:Nat):Int))) J (by rw[hm2]<;>rfl) ?_;refine gx J<|ix _ J (by rw[show((((ct.length+1:Nat):Int))-1).toNat=ct.length by omega,cV,hz];rfl) J<|cl J (ku (n:=1) (by decide) (by decide)) J<|?_;refine cl J (pE (a:=z) (b:=((1:Int):Rat))) J<|rf J J<|ap ((e7 (a::ct)).map eQ) J (by rw[V3 hz,<-jJ,bS];rfl) (i9 [z+1]) J<|?_;refine iE 45 J ?_;exact rz J J
def LW(o:List Rat)(s:ah):(lx o s).length<=o.length+2:=by
 unfold lx;have h:=fun(x:Rat) (l:List Rat)=>AU (x:=x) (l:=l)▸DJ bg x l;have h1:=h s.lo o;have h2:=h s.hi o;have h3:=h s.hi (mH s.lo o);split<;>split<;>omega
def qh(l:List ah)(k:Nat):List Rat:=gG (l.take k)
def Mh{l:List ah}{k:Nat}{v:ah}(h:l[k]? =some v):qh l (k+1)=lx (qh l k) v:=by
 unfold qh gG;rw[iQ,h,pL];rfl
def FQ(l:List ah): ∀k,(qh l k).length<=2*k
 |0=>aN _
 |k+1=>by
  cases h:l[k]? with
  |none=>
   have:=FQ l k;unfold qh at*;rw[iQ,h];simp;omega
  |some v=>rw[Mh h];have:=FQ l k;have:=LW (qh l k) v;omega
theorem To{l:List ah}(hb: ∀v∈l,od v){k:Nat}: ∀y∈qh l k,BQ y 1200:=fun y hy=>by
 obtain⟨s,hs,h⟩:=(H5 _).2 y hy;have:=hb s (dZ hs);rcases h with⟨_,rfl⟩|⟨_,rfl⟩
 ·exact this.lo
 ·exact this.hi
def rk(o:List Rat)(v:ah)(j:Nat):List Rat:=if j=0 then o else if j=1 then(if v.nl then o else mH v.lo o) else lx o v
def BK(v:ah)(j:Nat):Rat:=if j=0 then v.lo else v.hi
def qm(v:ah)(j:Nat):Bool:=if j=0 then v.nl else v.nh
def uP{o:List Rat}{v:ah}{j:Nat}(hj:j<2):rk o v (j+1)=if qm v j then rk o v j else du bg (BK v j) (rk o v j):=by
 have:j=0\/j=1:=by omega
 rcases this with rfl|rfl
 ·simp[rk,qm,BK,AU]
 ·simp[rk,qm,BK,lx,AU]
def Zq{o:List Rat}{v:ah}{j:Nat}(hj:j<=2):(rk o v j).length<=o.length+2:=by
 unfold rk;have:=LW o v;have h:=AU (x:=v.lo) (l:=o)▸DJ bg v.lo o;split
 ·omega
 ·split
  ·split<;>omega
  ·exact this
theorem aBw{o:List Rat}(ho: ∀q∈o,BQ q 1200){v:ah}(hv:od v){j:Nat}(hj:j<=2): ∀q∈rk o v j,BQ q 1200:=fun q hq=>by
 unfold rk lx at hq;have lo:=hv.lo;have hi:=hv.hi;split at hq
 ·exact ho q hq
 ·split at hq
  ·split at hq
   ·exact ho q hq
   ·rcases qj.1 hq with rfl|hq
    ·exact lo
    ·exact ho q hq
  ·split at hq
   ·split at hq
    ·exact ho q hq
    ·rcases qj.1 hq with rfl|hq
     ·exact lo
     ·exact ho q hq
   ·rcases qj.1 hq with rfl|hq
    ·exact hi
    ·split at hq
     ·exact ho q hq
     ·rcases qj.1 hq with rfl|hq
      ·exact lo
      ·exact ho q hq
def UW{l:List ah}(hb: ∀v∈l,od v)(hn:l.length<=10000):PF GB prog 279 [.sl (l.map eV)] (.sl ((gG l).map eQ)):=by
 have hm:=gj eV l;refine fn (fu:=⟨15⟩) func279 J J ntmps279 J J (fun C=>?_);refine aj 10 (.d (vI (l.length:Nat))) J (by rw[hm]<;>rfl) ?_;refine gx J<|?_;refine Dd 3 J ?_;refine lp (X:=List Rat×Nat) (fun⟨o,k⟩=>[(11, .d (vI (k:Nat))),(3, .d (.sl (o.map eQ)))]) (fun⟨o,k⟩=>[]) (fun⟨o,k⟩=>o=qh l k/\k<=l.length) (fun⟨o,k⟩=>l.length-k) ([],0) J ⟨J,bV _⟩ (fun _=>J) (fun⟨o,k⟩ hk=>?_);dsimp only at hk⊢;obtain⟨h1,h2⟩:=hk;refine br J J J (fun hc12=>?_) (fun hc12=>?_)
 .
  obtain⟨v,hz⟩: ∃s,l[k]? =some s:=⟨_,aZ (by omega)⟩;have hv:=hb v (aT hz);haveI:=hv.lo;haveI:=hv.hi;have hob:=To hb (k:=k);have hol:=FQ l k;rw[<-h1] at hob hol;refine ix _ J (d8 hz) J<|rf J J<|?_;refine lp (X:=List Rat×Nat) (fun⟨xs,j⟩=>[(21, .d (vI (j:Nat))),(3, .d (.sl (xs.map eQ)))]) (fun⟨xs,j⟩=>[]) (fun⟨xs,j⟩=>xs=rk o v j/\j<=2) (fun⟨xs,j⟩=>2-j) (o,0) J ⟨J,by omega⟩ (fun _=>J) (fun⟨xs,j⟩ hk=>?_);dsimp only at hk⊢;obtain⟨g1,g2⟩:=hk;refine br J J J (fun hc22=>?_) (fun hc22=>?_)
  .
   have hj2:j<2:=by have:=hc22;simp only[bX,fU] at this;omega
   obtain⟨m,hm2⟩: ∃m,m=BK v j:=⟨_,rfl⟩;haveI hmb:BQ m 1200:=by rw[hm2];unfold BK;split;exact hv.lo;exact hv.hi
   have hxl:=gj eQ xs;have hxn:xs.length<=2*k+2:=by rw[g1];have:=Zq (o:=o) (v:=v) (j:=j) g2;omega
   have hxb: ∀q∈xs,BQ q 1200:=by rw[g1];exact aBw hob hv g2
   refine ix (fu:=⟨10⟩) _ rfl (by rw[bJ];exact(show([v.lo,v.hi].map eQ)[j]? =some (eQ m) by rw[hm2];have:j=0\/j=1:=(by omega);rcases this with rfl|rfl<;>rfl)) rfl<|?_;rcases(show j=0\/j=1 by omega) with rfl|rfl
   .
    refine cB J J J<|?_;refine jd (fu2:=⟨1⟩) 32 J J J (fun hg32=>?_) (fun hg32=>?_)
    .
     exact at_ (xs,0+1) (by dsimp only;exact⟨⟨by rw[uP (by decide),if_pos (by simpa[qm] using hg32),<-g1],by omega⟩,(by omega)⟩)
    .
     refine cG (fu:=⟨16⟩) J J J<|?_;refine mg (fu:=⟨5⟩) (X:=Nat) (fun n=>[(8, .d (vI (n:Nat)))]) (fun n=>[]) (fun n=>jP bg m xs=n) [8] [] rfl ?_ (fun _=>J) (fun n hnx=>?_)
     .
      refine gx J<|?_;refine lp (fu:=⟨6⟩) (X:=Nat) (fun n=>[(8, .d (vI (n:Nat)))]) (fun n=>[]) (fun n=>n<=xs.length/\ ∀j (h:j<xs.length),j<n->bg xs[j] m<0) (fun n=>xs.length-n) 0 J ⟨bV _,fun j _ hj=>absurd hj (by omega)⟩ (fun _=>J) (fun n hk=>?_);obtain⟨n1,n2⟩:=hk;refine ml (v2:=fun hg43=>by simp only[ac];kernel_rfl) J J J J (fun hg43=>?_) (fun hg43=>?_)
      .
       refine ix _ J (rF (by omega)) J<|cl J (jm (a:=xs[n]'(by omega)) (b:=m) (ha:=hxb _ (bM (by omega))) (hb:=hmb)) J<|?_;refine br J J J (fun hc52=>?_) (fun hc52=>?_)
       .
        exact at_ (n+1) ⟨⟨by omega,fun j h hj=>by by_cases q:j=n;(subst q;exact hc52);exact n2 j h (by omega)⟩,(by omega)⟩
       .
        exact at_ n (uF bg n1 n2 (fun h=>hc52))
      .
       exact at_ n (uF bg n1 n2 (fun h=>absurd h (by omega)))
     .
      have hnl:n<=xs.length:=by rw[<-hnx];exact Ei _ _ _
      refine ml (v1:=fun hg58=>by simp only[ac];kernel_rfl) J J J J (fun hg58=>?_) (fun hg58=>?_)
      .
       have hnew: ∀h:n<xs.length,bg xs[n] m≠0:=fun h=>absurd h (by omega);obtain⟨ys,hys⟩: ∃ys,ys=xs.take n++m::xs.drop n:=⟨_,rfl⟩;have hin:du bg m xs=ys:=by rw[hys];exact tN bg hnx hnew
       have hyl:ys.length<=xs.length+1:=by rw[hys];simp;omega
       refine s3 n _ J J J J (i9 _) (by rw[hxl];exact hnl) J<|ro J J<|m6 n xs.length _ J J (by rw[hxl]) J (i9 _) hnl (by omega) J<|?_;refine ap _ J J (tk i9 _ _ _) J<|l8 (hv:=by simp only[ac];exact⟨by kernel_rfl,by omega⟩) (ho:=fun _=>⟨uv i9 _ _,by simp⟩) (ys.map eQ) J (by rw[hys,bS,cK,gR,iM,aL (l:=xs.map eQ) (i:=xs.length) (by simp)];rfl) (vm i9 _ _ _ _) J<|?_;exact at_ (ys,0+1) (by dsimp only;exact⟨⟨by rw[uP (by decide),if_neg (by simpa[qm] using hg32),<-g1,<-hm2,hin],by omega⟩,(by omega)⟩)
      .
       refine ix _ J (rF (by omega)) J<|cl J (jm (a:=xs[n]'(by omega)) (b:=m) (ha:=hxb _ (bM (by omega))) (hb:=hmb)) J<|?_;refine br (fu2:=⟨7⟩) J J J (fun hc67=>?_) (fun hc67=>?_)
       .
        have hnew: ∀h:n<xs.length,bg xs[n] m≠0:=fun h=>hc67;obtain⟨ys,hys⟩: ∃ys,ys=xs.take n++m::xs.drop n:=⟨_,rfl⟩;have hin:du bg m xs=ys:=by rw[hys];exact tN bg hnx hnew
        have hyl:ys.length<=xs.length+1:=by rw[hys];simp;omega
        refine s3 n _ J J J J (i9 _) (by rw[hxl];exact hnl) J<|ro J J<|m6 n xs.length _ J J (by rw[hxl]) J (i9 _) hnl (by omega) J<|?_;refine ap _ J J (tk i9 _ _ _) J<|l8 (hv:=by simp only[ac];exact⟨by kernel_rfl,by omega⟩) (ho:=fun _=>⟨uv i9 _ _,by simp⟩) (ys.map eQ) J (by rw[hys,bS,cK,gR,iM,aL (l:=xs.map eQ) (i:=xs.length) (by simp)];rfl) (vm i9 _ _ _ _) J<|?_;exact at_ (ys,0+1) (by dsimp only;exact⟨⟨by rw[uP (by decide),if_neg (by simpa[qm] using hg32),<-g1,<-hm2,hin],by omega⟩,(by omega)⟩)
       .
        have hin:du bg m xs=xs:=Bv bg hnx (by omega) (Decidable.not_not.1 hc67);exact at_ (xs,0+1) (by dsimp only;exact⟨⟨by rw[uP (by decide),if_neg (by simpa[qm] using hg32),<-g1,<-hm2,hin],by omega⟩,(by omega)⟩)
   .
    refine cG (fu:=⟨6⟩) J J J<|cB J J J<|?_;refine bb (fu2:=⟨8⟩) J J J (fun hc39=>?_) (fun hc39=>?_)
    .
     exact at_ (xs,1+1) (by dsimp only;exact⟨⟨by rw[uP (by decide),if_pos (by simpa[qm] using hc39),<-g1],by omega⟩,(by omega)⟩)
    .
     refine mg (fu:=⟨5⟩) (X:=Nat) (fun n=>[(8, .d (vI (n:Nat)))]) (fun n=>[]) (fun n=>jP bg m xs=n) [8] [] rfl ?_ (fun _=>J) (fun n hnx=>?_)
     .
      refine gx J<|?_;refine lp (fu:=⟨6⟩) (X:=Nat) (fun n=>[(8, .d (vI (n:Nat)))]) (fun n=>[]) (fun n=>n<=xs.length/\ ∀j (h:j<xs.length),j<n->bg xs[j] m<0) (fun n=>xs.length-n) 0 J ⟨bV _,fun j _ hj=>absurd hj (by omega)⟩ (fun _=>J) (fun n hk=>?_);obtain⟨n1,n2⟩:=hk;refine ml (v2:=fun hg43=>by simp only[ac];kernel_rfl) J J J J (fun hg43=>?_) (fun hg43=>?_)
      .
       refine ix _ J (rF (by omega)) J<|cl J (jm (a:=xs[n]'(by omega)) (b:=m) (ha:=hxb _ (bM (by omega))) (hb:=hmb)) J<|?_;refine br J J J (fun hc52=>?_) (fun hc52=>?_)
       .
        exact at_ (n+1) ⟨⟨by omega,fun j h hj=>by by_cases q:j=n;(subst q;exact hc52);exact n2 j h (by omega)⟩,(by omega)⟩
       .
        exact at_ n (uF bg n1 n2 (fun h=>hc52))
      .
       exact at_ n (uF bg n1 n2 (fun h=>absurd h (by omega)))
     .
      have hnl:n<=xs.length:=by rw[<-hnx];exact Ei _ _ _
      refine ml (v1:=fun hg58=>by simp only[ac];kernel_rfl) J J J J (fun hg58=>?_) (fun hg58=>?_)
      .
       have hnew: ∀h:n<xs.length,bg xs[n] m≠0:=fun h=>absurd h (by omega);obtain⟨ys,hys⟩: ∃ys,ys=xs.take n++m::xs.drop n:=⟨_,rfl⟩;have hin:du bg m xs=ys:=by rw[hys];exact tN bg hnx hnew
       have hyl:ys.length<=xs.length+1:=by rw[hys];simp;omega
       refine s3 n _ J J J J (i9 _) (by rw[hxl];exact hnl) J<|ro J J<|m6 n xs.length _ J J (by rw[hxl]) J (i9 _) hnl (by omega) J<|?_;refine ap _ J J (tk i9 _ _ _) J<|l8 (hv:=by simp only[ac];exact⟨by kernel_rfl,by omega⟩) (ho:=fun _=>⟨uv i9 _ _,by simp⟩) (ys.map eQ) J (by rw[hys,bS,cK,gR,iM,aL (l:=xs.map eQ) (i:=xs.length) (by simp)];rfl) (vm i9 _ _ _ _) J<|?_;exact at_ (ys,1+1) (by dsimp only;exact⟨⟨by rw[uP (by decide),if_neg (by simpa[qm] using hc39),<-g1,<-hm2,hin],by omega⟩,(by omega)⟩)
      .
       refine ix _ J (rF (by omega)) J<|cl J (jm (a:=xs[n]'(by omega)) (b:=m) (ha:=hxb _ (bM (by omega))) (hb:=hmb)) J<|?_;refine br J J J (fun hc67=>?_) (fun hc67=>?_)
       .
        have hnew: ∀h:n<xs.length,bg xs[n] m≠0:=fun h=>hc67;obtain⟨ys,hys⟩: ∃ys,ys=xs.take n++m::xs.drop n:=⟨_,rfl⟩;have hin:du bg m xs=ys:=by rw[hys];exact tN bg hnx hnew
        have hyl:ys.length<=xs.length+1:=by rw[hys];simp;omega
        refine s3 n _ J J J J (i9 _) (by rw[hxl];exact hnl) J<|ro J J<|m6 n xs.length _ J J (by rw[hxl]) J (i9 _) hnl (by omega) J<|?_;refine ap _ J J (tk i9 _ _ _) J<|l8 (hv:=by simp only[ac];exact⟨by kernel_rfl,by omega⟩) (ho:=fun _=>⟨uv i9 _ _,by simp⟩) (ys.map eQ) J (by rw[hys,bS,cK,gR,iM,aL (l:=xs.map eQ) (i:=xs.length) (by simp)];rfl) (vm i9 _ _ _ _) J<|?_;exact at_ (ys,1+1) (by dsimp only;exact⟨⟨by rw[uP (by decide),if_neg (by simpa[qm] using hc39),<-g1,<-hm2,hin],by omega⟩,(by omega)⟩)
       .
        have hin:du bg m xs=xs:=Bv bg hnx (by omega) (Decidable.not_not.1 hc67);exact at_ (xs,1+1) (by dsimp only;exact⟨⟨by rw[uP (by decide),if_neg (by simpa[qm] using hc39),<-g1,<-hm2,hin],by omega⟩,(by omega)⟩)
  .
   have hj2: ¬j<2:=by have:=hc22;simp only[bX,fU] at this;omega
   exact at_ (xs,k+1) (by dsimp only;exact⟨⟨by rw[Mh hz,<-h1,g1,show j=2 by omega];rfl,by omega⟩,(by omega)⟩)
 .
  have hfin:gG l=o:=by rw[h1,show k=l.length by omega];unfold qh;rw[dJ]
  exact rz J (by rw[hfin];rfl)
def ayq(t:Rat):eV ⟨t,0,false,true⟩= .ag [.v (.bool (decide (t.num<0))),dN t.num.natAbs,dD t.den, .v (.bool false), .sl [], .sl [], .v (.bool false), .v (.bool true)]:=by
 unfold eV dD;simp only[show(0:Rat).num=0 from J,show(0:Rat).den=1 from J,kN,p9];rfl
def UF(t:Rat):eV ⟨0,t,true,false⟩= .ag [.v (.bool false), .sl [], .sl [], .v (.bool (decide (t.num<0))),dN t.num.natAbs,dD t.den, .v (.bool true), .v (.bool false)]:=by
 unfold eV dD;simp only[show(0:Rat).num=0 from J,show(0:Rat).den=1 from J,kN,p9];rfl
def CM(l m:aa)(side:Int):DV:= .tp [.sl ((iF l m side).map eV),vB (ly l m)]
def Ot{l m:aa}(h:crossI l m≠0):ly l m=false:=by unfold ly;rw[decide_eq_false];exact fun e=>h e.1
def L'{l m:aa}(h:crossI l m=0):ly l m=decide ((m.value l.base).num.sign=0):=by unfold ly;simp[h]
def Qi{l m:aa}{side:Int}[hl:LB l][hm:LB m](hlo:l.ok)(hmo:m.ok)(hs:side=1\/side= -1):PF GB prog 238 [eL l,eL m,vI side] (CM l m side):=by
 refine fn func238 J J ntmps238 J J (fun C=>?_);refine cl J (Ov (l:=l) (m:=m)) J<|?_;refine bb J J J (fun hc19=>?_) (fun hc19=>?_)
 .
  have hc:crossI l m=0:=by simpa using hc19
  refine cl J (JD hlo.ne) J<|cl J (EF (l:=m) (p:=l.base)) J<|?_;refine br J J J (fun hc26=>?_) (fun hc26=>?_)
  .
   refine cl J Lm J<|rf J J<|?_;exact rz J (by unfold CM iF;rw[if_pos hc,if_pos hc26,L' hc];rfl)
  .
   exact rz J (by unfold CM iF;rw[if_pos hc,if_neg hc26,L' hc];rfl)
 .
  have hc:crossI l m≠0:=by simpa using hc19
  haveI hpb:=D9 (l:=l) (m:=m) hlo.ne hc;obtain⟨t,ht⟩: ∃t,t=gk l (d9 l m):=⟨_,rfl⟩;refine cl (fu:=⟨0⟩) J (EV (l:=l) (p:=d9 l m) hlo.ne) J<|?_;refine aj 35 (.d (eQ t)) J (by rw[ht]) ?_;rw[<-ht] at hpb;refine gx J<|cl J (ku (n:=1) (by decide) (by decide)) J<|cl J (pE (a:=t) (b:=((1:Int):Rat))) J<|cl J (Pg (l:=l) (t:=t+((1:Int):Rat)) hlo.ne) J<|?_;refine cl J (EF (l:=m) (p:=l.at (t+((1:Int):Rat)))) J<|?_;refine br J J J (fun hc44=>?_) (fun hc44=>?_)
  .
   refine rf J J<|?_;exact rz J (by unfold CM iF;rw[if_neg hc,<-ht,if_pos (show(m.value (l.at (t+1))).num.sign=side from hc44),Ot hc,cK,ayq];rfl)
  .
   refine rf J J<|?_;exact rz J (by unfold CM iF;rw[if_neg hc,<-ht,if_neg (show¬(m.value (l.at (t+1))).num.sign=side from hc44),Ot hc,cK,UF];rfl)
def fe(f:ba):DV:= .ag [.v (.bool (decide (f.l.a<0))),dN f.l.a.natAbs, .v (.bool (decide (f.l.b<0))),dN f.l.b.natAbs, .v (.bool (decide (f.l.c<0))),dN f.l.c.natAbs, .v (.bool (decide (f.v.lo.num<0))),dN f.v.lo.num.natAbs,dD f.v.lo.den, .v (.bool (decide (f.v.hi.num<0))),dN f.v.hi.num.natAbs,dD f.v.hi.den, .v (.bool f.v.nl), .v (.bool f.v.nh)]
def AF(fs:List ba):cP 14 (fs.map fe):=fun d hd=>by
 obtain⟨u,_,rfl⟩:=bQ.1 hd;exact⟨rfl,rfl⟩
theorem Ci{p:ZP}(h:ZP.le 100 p):ay p.q 12:=by
 haveI:BI p.1 11:=ja (by have:=h.1;omega) (by decide);haveI:BI p.2 11:=ja (by have:=h.2;omega) (by decide);exact(inferInstance:ay (iP p.1 p.2) 12)
def auY{v w:ZP}(hv:ZP.le 100 v)(hw:ZP.le 100 w)(h:v≠w):PF GB prog 175 [eP v.q,eP w.q] (.tp [fe (kv v w),vB true]):=by
 have hne: ¬(w.1=v.1/\w.2=v.2):=fun e=>h (Prod.ext e.1.symm e.2.symm);obtain⟨hlb,hlo⟩:=Sn (m:=v.1) (n:=v.2) (p:=w.1) (q:=w.2) (by have:=hv.1;omega) (by have:=hv.2;omega) (by have:=hw.1;omega) (by have:=hw.2;omega) hne;haveI:=hlb;haveI:=Ci hv;haveI:=Ci hw;refine fn func175 J J ntmps175 J J (fun C=>?_);refine cl (fu:=⟨3⟩) J (TZ (m:=v.1) (n:=v.2) (m':=w.1) (n':=w.2) (by have:=hv.1;omega) (by have:=hv.2;omega) (by have:=hw.1;omega) (by have:=hw.2;omega) (fun e=>hne ⟨e.1.symm,e.2.symm⟩)) J<|?_;refine tO 13 J ?_;refine gx J<|cl J (EV (l:=mp v.1 v.2 w.1 w.2) (p:=v.q) hlo.ne) J<|cl J (EV (l:=mp v.1 v.2 w.1 w.2) (p:=w.q) hlo.ne) J<|?_;exact rz J J
def Xc(a b:Bool):eV ⟨0,0,a,b⟩= .ag [.v (.bool false), .sl [], .sl [], .v (.bool false), .sl [], .sl [], .v (.bool a), .v (.bool b)]:=by
 unfold eV dD;simp only[show(0:Rat).num=0 from J,show(0:Rat).den=1 from J,kN,p9];rfl
def Nr(t:Rat)(a b:Bool):eV ⟨t,0,a,b⟩= .ag [.v (.bool (decide (t.num<0))),dN t.num.natAbs,dD t.den, .v (.bool false), .sl [], .sl [], .v (.bool a), .v (.bool b)]:=by
 unfold eV dD;simp only[show(0:Rat).num=0 from J,show(0:Rat).den=1 from J,kN,p9];rfl
def TO(t:Rat)(a b:Bool):eV ⟨0,t,a,b⟩= .ag [.v (.bool false), .sl [], .sl [], .v (.bool (decide (t.num<0))),dN t.num.natAbs,dD t.den, .v (.bool a), .v (.bool b)]:=by
 unfold eV dD;simp only[show(0:Rat).num=0 from J,show(0:Rat).den=1 from J,kN,p9];rfl
def aBe{cuts:List Rat}{i:Nat}(h:i=0)(k: ¬i<cuts.length):dt cuts i=⟨0,0,decide (i=0),decide (i=cuts.length)⟩:=by unfold dt;rw[if_pos h,if_neg k]
def aCN{cuts:List Rat}{i:Nat}{y:Rat}(h:i=0)(k:cuts[i]? =some y):dt cuts i=⟨0,y,decide (i=0),decide (i=cuts.length)⟩:=by
 unfold dt;rw[if_pos h,if_pos (aS.1 k).1,aX,k];rfl
def aCe{cuts:List Rat}{i:Nat}{x:Rat}(h: ¬i=0)(k:cuts[i-1]? =some x)(k2: ¬i<cuts.length):dt cuts i=⟨x,0,decide (i=0),decide (i=cuts.length)⟩:=by
 unfold dt;rw[if_neg h,if_neg k2,aX,k];rfl
def UT{cuts:List Rat}{i:Nat}{x y:Rat}(h: ¬i=0)(k:cuts[i-1]? =some x)(k2:cuts[i]? =some y):dt cuts i=⟨x,y,decide (i=0),decide (i=cuts.length)⟩:=by
 unfold dt;rw[if_neg h,if_pos (aS.1 k2).1,aX,k,aX,k2];rfl
def ZY{cuts:List Rat}{marks:List Bool}{k:Nat}(h:marks[k]? =some false):fC cuts marks (k+1)=fC cuts marks k:=by
 rw[fC,aX,h];rfl
def C0{cuts:List Rat}{marks:List Bool}{k:Nat}(h:marks[k]? =some true)(hp: ¬(0<k/\marks[k-1]? =some true)):fC cuts marks (k+1)=fC cuts marks k++[dt cuts k]:=by
 rw[fC,aX,h];show(if 0<k/\_ then _ else _)=_;rw[if_neg];rintro ⟨h1,h2⟩;rw[aX] at h2
 cases e:marks[k-1]? with
 |none=>rw[e] at h2;cases h2
 |some b=>rw[e] at h2;exact hp ⟨h1,by rw[e];simp at h2;rw[h2]⟩
def TA{cuts:List Rat}{marks:List Bool}{k:Nat}(h:marks[k]? =some true):fC cuts marks (k+1)≠[]:=by
 rw[fC,aX,h];show(if 0<k/\_ then _ else _)≠[];split
 ·split<;>simp
 ·simp
def Mp{cuts:List Rat}{marks:List Bool}{k:Nat}{xs:List ah}{v:ah}(hk:0<k)(h:marks[k]? =some true)(hp:marks[k-1]? =some true)(hx:fC cuts marks k=xs)(hv:xs[xs.length-1]? =some v):fC cuts marks (k+1)=xs.set (xs.length-1) (vf v (dt cuts k)):=by
 rw[fC,aX,h];show(if 0<k/\_ then _ else _)=_;rw[if_pos ⟨hk,by rw[aX,hp];rfl⟩,hx,lS,hv];have hn:0<xs.length:=by
  have:=(aS.1 hv).1;omega
 show xs.dropLast++[_]=_;apply jW;intro i;rw[mW];by_cases hi:i<xs.length-1
 ·rw[cN (by rw[iK];exact hi),rS,if_pos hi,if_neg (by omega)]
 ·by_cases hi2:i=xs.length-1
  ·subst hi2
   rw[fM (by rw[iK];exact aN _),iK,Nat.sub_self,if_pos J,if_pos (by omega)];rfl
  ·rw[cM (by rw[aV,iK];simp;omega),if_neg (by omega),cM (by omega)]
def Ah{α:Type}{f:α->DV}{l:List α}{k:Nat}{x:α}(hk:0<k)(h:l[k-1]? =some x):(l.map f)[(((k:Nat):Int)-1).toNat]? =some (f x):=by
 rw[show(((k:Nat):Int)-1).toNat=k-1 by omega,cV,h];rfl
def sH{k n:Nat}:decide (k=n)=decide (((k:Nat):Int)=((n:Nat):Int)):=decide_eq_decide.2 (by omega)
def aIT(v w:ah):ah:=⟨v.lo,w.hi,v.nl,v.nh⟩
def ZB{cuts:List Rat}{marks:List Bool}(hn:cuts.length<=100000)(hmk:marks.length<=cuts.length+1):PF GB prog 282 [.sl (cuts.map eQ), .sl (marks.map vB)] (.sl ((uC cuts marks).map eV)):=by
 have hm:=gj vB marks;have hmc:=gj eQ cuts;refine fn (fu:=⟨15⟩) func282 J J ntmps282 J J (fun C=>?_);refine aj 11 (.d (vI (marks.length:Nat))) J (by rw[hm]<;>rfl) ?_;refine gx J<|?_;refine nr 5 5 223 8 J J J ?_;refine lp (X:=List ah×Nat) (fun⟨xs,k⟩=>[(12, .d (vI (k:Nat))),(5, .rw 5)]) (fun⟨xs,k⟩=>[(5,some (.b 223 8 (xs.map eV) true))]) (fun⟨xs,k⟩=>xs=fC cuts marks k/\k<=marks.length) (fun⟨xs,k⟩=>marks.length-k) ([],0) J ⟨J,bV _⟩ (fun _=>J) (fun⟨xs,k⟩ hk=>?_);dsimp only at hk⊢;obtain⟨h1,h2⟩:=hk;have hml:=gj eV xs;have hxl:xs.length<=k:=by rw[h1];exact GR
 refine br J J J (fun hc13=>?_) (fun hc13=>?_)
 .
  obtain⟨b,hz⟩: ∃s,marks[k]? =some s:=⟨_,aZ (by omega)⟩;refine ix (fu:=⟨8⟩) _ J (d8 hz) J<|?_
  cases b
  .
   refine cG (fu:=⟨12⟩) J J J<|?_;exact at_ (xs,k+1) (by dsimp only;exact⟨⟨by rw[ZY hz,<-h1],by omega⟩,(by omega)⟩)
  .
   refine cB (fu:=⟨13⟩) J J J<|?_;rcases(show(k=0/\k<cuts.length)\/(k=0/\ ¬k<cuts.length)\/(0<k/\k<cuts.length)\/(0<k/\ ¬k<cuts.length) by omega) with⟨c1,c2⟩|⟨c1,c2⟩|⟨c1,c2⟩|⟨c1,c2⟩
   .
    obtain⟨y,hy⟩: ∃s,cuts[k]? =some s:=⟨_,aZ (by omega)⟩;have hgap:=aCN (cuts:=cuts) (i:=k) c1 hy;have hnp: ¬(0<k/\marks[k-1]? =some true):=fun e=>by omega
    refine aj 23 (.d (vI (cuts.length:Nat))) J (by rw[hmc]<;>rfl) ?_;refine gx (fu:=⟨10⟩) J<|cG (fu:=⟨11⟩) J (by show some (decide _)=some false;rw[decide_eq_false (by omega)]) J<|?_;refine aj 36 (.d (vI (cuts.length:Nat))) J (by rw[hmc]<;>rfl) ?_;refine gx (fu:=⟨0⟩) J<|cB J (by show some (decide _)=some true;rw[decide_eq_true (by omega)]) J<|ix (fu:=⟨10⟩) _ J (d8 hy) J<|?_;refine aj 44 (.d (vI (xs.length:Nat))) J (by rw[hml]<;>rfl) ?_;refine gx (fu:=⟨6⟩) J<|cG (fu:=⟨19⟩) J (by show some (decide _)=some false;rw[decide_eq_false (by omega)]) J<|?_;refine aj 73 (.d (eV (dt cuts k))) J (by rw[hgap,TO,sH (k:=k) (n:=0),sH (k:=k) (n:=cuts.length)]<;>rfl) ?_;refine gx J<|rf J J<|ap (fu:=⟨12⟩) ((xs++[dt cuts k]).map eV) J (by rw[bS];rfl) (yv [dt cuts k]) J<|?_;refine gI 75 5 J ?_;exact at_ (xs++[dt cuts k],k+1) (by dsimp only;exact⟨⟨by rw[C0 hz hnp,<-h1],by omega⟩,(by omega)⟩)
   .
    have hgap:=aBe (cuts:=cuts) (i:=k) c1 c2;have hnp: ¬(0<k/\marks[k-1]? =some true):=fun e=>by omega
    refine aj 23 (.d (vI (cuts.length:Nat))) J (by rw[hmc]<;>rfl) ?_;refine gx (fu:=⟨10⟩) J<|cG (fu:=⟨11⟩) J (by show some (decide _)=some false;rw[decide_eq_false (by omega)]) J<|?_;refine aj 36 (.d (vI (cuts.length:Nat))) J (by rw[hmc]<;>rfl) ?_;refine gx (fu:=⟨0⟩) J<|cG (fu:=⟨10⟩) J (by show some (decide _)=some false;rw[decide_eq_false (by omega)]) J<|?_;refine aj 44 (.d (vI (xs.length:Nat))) J (by rw[hml]<;>rfl) ?_;refine gx (fu:=⟨6⟩) J<|cG (fu:=⟨19⟩) J (by show some (decide _)=some false;rw[decide_eq_false (by omega)]) J<|?_;refine aj 73 (.d (eV (dt cuts k))) J (by rw[hgap,Xc,sH (k:=k) (n:=0),sH (k:=k) (n:=cuts.length)]<;>rfl) ?_;refine gx J<|rf J J<|ap (fu:=⟨12⟩) ((xs++[dt cuts k]).map eV) J (by rw[bS];rfl) (yv [dt cuts k]) J<|?_;refine gI 75 5 J ?_;exact at_ (xs++[dt cuts k],k+1) (by dsimp only;exact⟨⟨by rw[C0 hz hnp,<-h1],by omega⟩,(by omega)⟩)
   .
    obtain⟨x,hx⟩: ∃s,cuts[k-1]? =some s:=⟨_,aZ (by omega)⟩;obtain⟨pb,hpb⟩: ∃s,marks[k-1]? =some s:=⟨_,aZ (by omega)⟩;obtain⟨y,hy⟩: ∃s,cuts[k]? =some s:=⟨_,aZ (by omega)⟩;have hgap:=UT (cuts:=cuts) (i:=k) (by omega) hx hy;refine aj 23 (.d (vI (cuts.length:Nat))) J (by rw[hmc]<;>rfl) ?_;refine gx (fu:=⟨10⟩) J<|cB J (by show some (decide _)=some true;rw[decide_eq_true (by omega)]) J<|ix (fu:=⟨11⟩) _ J (Ah (by omega) hx) J<|?_;refine aj 36 (.d (vI (cuts.length:Nat))) J (by rw[hmc]<;>rfl) ?_;refine gx (fu:=⟨0⟩) J<|cB J (by show some (decide _)=some true;rw[decide_eq_true (by omega)]) J<|ix (fu:=⟨10⟩) _ J (d8 hy) J<|?_;refine aj 44 (.d (vI (xs.length:Nat))) J (by rw[hml]<;>rfl) ?_;refine gx (fu:=⟨6⟩) J<|cB J (by show some (decide _)=some true;rw[decide_eq_true (by omega)]) J<|ix _ J (Ah (by omega) hpb) J<|?_;refine jd (fu1:=⟨1⟩) (fu2:=⟨11⟩) 54 J J J (fun hg54=>?_) (fun hg54=>?_)
    .
     have hpb':marks[k-1]? =some true:=by rw[hpb];congr 1
     have hxn:0<xs.length:=by rw[h1];have:=TA (cuts:=cuts) hpb';rw[show k-1+1=k by omega] at this;exact mM.2 this
     obtain⟨w,hw⟩: ∃s,xs[xs.length-1]? =some s:=⟨_,aZ (by omega)⟩;refine cB J (by show some (decide _)=some true;rw[decide_eq_true (by omega)]) J<|sb (eV w) ((xs.set (xs.length-1) (⟨w.lo,y,w.nl,w.nh⟩:ah)).map eV) J (Ah hxn hw) J (by rw[show(((xs.length:Nat):Int)-1).toNat=xs.length-1 by omega,kL];rfl) J<|?_;refine sb (hv:=by simp only[ac];exact⟨by kernel_rfl,by omega⟩) (eV (⟨w.lo,y,w.nl,w.nh⟩:ah)) ((xs.set (xs.length-1) (vf w (dt cuts k))).map eV) J (by rw[show(((xs.length:Nat):Int)-1).toNat=xs.length-1 by omega,kL,nZ (by rw[hml];omega)]) J (by rw[show(((xs.length:Nat):Int)-1).toNat=xs.length-1 by omega,kL,List.set_set,kL,hgap];unfold vf;dsimp only;rw[sH (k:=k) (n:=cuts.length)]<;>rfl) J<|?_;exact at_ (xs.set (xs.length-1) (vf w (dt cuts k)),k+1) (by dsimp only;exact⟨⟨(Mp (by omega) hz hpb' h1.symm hw).symm,by omega⟩,(by omega)⟩)
    .
     have hnp: ¬(0<k/\marks[k-1]? =some true):=fun e=>by rw[hpb,hg54] at e;simpa using e.2
     refine aj 73 (.d (eV (dt cuts k))) J (by rw[hgap];unfold eV;dsimp only;rw[sH (k:=k) (n:=0),sH (k:=k) (n:=cuts.length)]<;>rfl) ?_;refine gx J<|rf J J<|ap (fu:=⟨12⟩) ((xs++[dt cuts k]).map eV) J (by rw[bS];rfl) (yv [dt cuts k]) J<|?_;refine gI 75 5 J ?_;exact at_ (xs++[dt cuts k],k+1) (by dsimp only;exact⟨⟨by rw[C0 hz hnp,<-h1],by omega⟩,(by omega)⟩)
   .
    obtain⟨x,hx⟩: ∃s,cuts[k-1]? =some s:=⟨_,aZ (by omega)⟩;obtain⟨pb,hpb⟩: ∃s,marks[k-1]? =some s:=⟨_,aZ (by omega)⟩;have hgap:=aCe (cuts:=cuts) (i:=k) (by omega) hx c2;refine aj 23 (.d (vI (cuts.length:Nat))) J (by rw[hmc]<;>rfl) ?_;refine gx (fu:=⟨10⟩) J<|cB J (by show some (decide _)=some true;rw[decide_eq_true (by omega)]) J<|ix (fu:=⟨11⟩) _ J (Ah (by omega) hx) J<|?_;refine aj 36 (.d (vI (cuts.length:Nat))) J (by rw[hmc]<;>rfl) ?_;refine gx (fu:=⟨0⟩) J<|cG (fu:=⟨10⟩) J (by show some (decide _)=some false;rw[decide_eq_false (by omega)]) J<|?_;refine aj 44 (.d (vI (xs.length:Nat))) J (by rw[hml]<;>rfl) ?_;refine gx (fu:=⟨6⟩) J<|cB J (by show some (decide _)=some true;rw[decide_eq_true (by omega)]) J<|ix _ J (Ah (by omega) hpb) J<|?_;refine jd (fu1:=⟨1⟩) (fu2:=⟨11⟩) 54 J J J (fun hg54=>?_) (fun hg54=>?_)
    .
     have hpb':marks[k-1]? =some true:=by rw[hpb];congr 1
     have hxn:0<xs.length:=by rw[h1];have:=TA (cuts:=cuts) hpb';rw[show k-1+1=k by omega] at this;exact mM.2 this
     obtain⟨w,hw⟩: ∃s,xs[xs.length-1]? =some s:=⟨_,aZ (by omega)⟩;refine cB J (by show some (decide _)=some true;rw[decide_eq_true (by omega)]) J<|sb (eV w) ((xs.set (xs.length-1) (⟨w.lo,0,w.nl,w.nh⟩:ah)).map eV) J (Ah hxn hw) J (by rw[show(((xs.length:Nat):Int)-1).toNat=xs.length-1 by omega,kL,Nr];rfl) J<|?_;refine sb (hv:=by simp only[ac];exact⟨by kernel_rfl,by omega⟩) (eV (⟨w.lo,0,w.nl,w.nh⟩:ah)) ((xs.set (xs.length-1) (vf w (dt cuts k))).map eV) J (by rw[show(((xs.length:Nat):Int)-1).toNat=xs.length-1 by omega,kL,nZ (by rw[hml];omega)]) J (by rw[show(((xs.length:Nat):Int)-1).toNat=xs.length-1 by omega,kL,List.set_set,kL,hgap];unfold vf;dsimp only;rw[sH (k:=k) (n:=cuts.length)]<;>rfl) J<|?_;exact at_ (xs.set (xs.length-1) (vf w (dt cuts k)),k+1) (by dsimp only;exact⟨⟨(Mp (by omega) hz hpb' h1.symm hw).symm,by omega⟩,(by omega)⟩)
    .
     have hnp: ¬(0<k/\marks[k-1]? =some true):=fun e=>by rw[hpb,hg54] at e;simpa using e.2
     refine aj 73 (.d (eV (dt cuts k))) J (by rw[hgap,Nr,sH (k:=k) (n:=0),sH (k:=k) (n:=cuts.length)]<;>rfl) ?_;refine gx J<|rf J J<|ap ((xs++[dt cuts k]).map eV) J (by rw[bS];rfl) (yv [dt cuts k]) J<|?_;refine gI 75 5 J ?_;exact at_ (xs++[dt cuts k],k+1) (by dsimp only;exact⟨⟨by rw[C0 hz hnp,<-h1],by omega⟩,(by omega)⟩)
 .
  have hfin:uC cuts marks=xs:=by rw[h1,uC,show k=marks.length by omega]
  refine iE 5 J ?_;exact rz J (by rw[hfin];rfl)
def QW{g:Rat}: ∀{l:List Rat},g∈iI l-> ∃a∈l,∃b∈l,g=(a+b)/2
 |[],h=>by cases h
 |[_],h=>by cases h
 |a::b::t,h=>by
  rw[iI] at h;rcases aW.1 h with rfl|h
  ·exact⟨a,aQ,b,aJ _ aQ,J⟩
  ·obtain⟨c,hc,d,hd,e⟩:=QW h
   exact⟨c,aJ _ hc,d,aJ _ hd,e⟩
theorem aCs{l:List Rat}(h: ∀q∈l,BQ q 1200): ∀g∈e7 l,BQ g 2500:=fun g hg=>by
 cases l with
 |nil=>
  rw[e7,aU] at hg;subst hg;exact BQ.mono (k:=1) ⟨by decide,by decide⟩ (by decide)
 |cons a t=>
  rw[e7] at hg;rcases aW.1 hg with rfl|hg
  ·haveI:=h a aQ
   exact BQ.mono (inferInstance:BQ (a-1) _) (by omega)
  ·rcases bK.1 hg with hg|hg
   ·obtain⟨c,hc,d,hd,rfl⟩:=QW hg
    haveI:=h c hc;haveI:=h d hd;exact BQ.mono (inferInstance:BQ ((c+d)/2) _) (by omega)
   ·rw[aU] at hg
    haveI:=h _ (List.getLast_mem (l:=a::t) (by simp));subst hg;exact BQ.mono (inferInstance:BQ ((a::t).getLast (by simp)+1) _) (by omega)
def PG(l:List ah):qh l l.length=gG l:=by unfold qh;rw[dJ]
theorem Yg{l:List ah}(h: ∀v∈l,od v): ∀y∈gG l,BQ y 1200:=by rw[<-PG];exact To h
def Gb(l:List ah):(gG l).length<=2*l.length:=by rw[<-PG];exact FQ l _
def od.app{a b:List ah}(ha: ∀v∈a,od v)(hb: ∀v∈b,od v): ∀v∈a++b,od v:=fun v hv=>(bK.1 hv).elim (ha v) (hb v)
def Oc{a b:List ah}(ha: ∀v∈a,od v)(hb: ∀v∈b,od v)(hna:a.length<=100)(hnb:b.length<=100):PF GB prog 239 [vI 2, .sl (a.map eV), .sl (b.map eV)] (.sl ((oq 2 a b).map eV)):=by
 obtain⟨cuts,hcu⟩: ∃c,c=gG (a++b):=⟨_,rfl⟩;have hab:=od.app ha hb;have hcb: ∀q∈cuts,BQ q 1200:=by rw[hcu];exact Yg hab
 have hcl:cuts.length<=2*(a.length+b.length):=by rw[hcu];have:=Gb (a++b);rw[aV] at this;exact this
 have hgb:=aCs hcb;have hgl:=A9 (l:=cuts);have hmp:=gj eQ (e7 cuts);refine fn func239 J J ntmps239 J J (fun C=>?_);refine rp J J<|ap (a.map eV) J J (yv _) J<|l8 ((a++b).map eV) J (by rw[bS]) (yv b) J<|cl (fu:=⟨0⟩) J (UW (l:=a++b) hab (by rw[aV];omega)) J<|?_;refine aj 19 (.d (.sl (cuts.map eQ))) J (by rw[hcu]) ?_;refine gx J<|cl (fu:=⟨1⟩) J (aw0 (cuts:=cuts) hcb (by omega)) J<|?_;refine aj 22 (.d (vI ((cuts.length+1:Nat):Int))) J (by rw[hmp,hgl]<;>rfl) ?_;refine gx J<|?_;refine nr 8 8 4 1 J J J ?_;refine lp (X:=Nat) (fun k=>[(23, .d (vI (k:Nat))),(8, .rw 8)]) (fun k=>[(8,some (.b 4 1 ((((e7 cuts).map (fun t=>nI 2 (fA a t) (fA b t))).take k).map vB) true))]) (fun k=>k<=cuts.length+1) (fun k=>cuts.length+1-k) 0 J (bV _) (fun _=>J) (fun k hk=>?_);have hml:(((((e7 cuts).map (fun t=>nI 2 (fA a t) (fA b t))).take k).map vB)).length=k:=by rw[aK,cW,aK,hgl];omega
 refine br (fu2:=⟨0⟩) J J J (fun hc24=>?_) (fun hc24=>?_)
 .
  obtain⟨t,hz⟩: ∃s,(e7 cuts)[k]? =some s:=⟨_,aZ (by omega)⟩;haveI:=hgb t (aT hz);have hz2:((e7 cuts).map (fun t=>nI 2 (fA a t) (fA b t)))[k]? =some (nI 2 (fA a t) (fA b t)):=by rw[cV,hz];rfl
  refine ix _ J (d8 hz) J<|cl J (Ok (l:=a) (t:=t) ha (by omega)) J<|cl (fu:=⟨6⟩) J (Ok (l:=b) (t:=t) hb (by omega)) J<|?_
  cases hx:fA a t
  .
   refine cG (fu:=⟨15⟩) J J J<|cB (fu:=⟨5⟩) J J J<|cG J J J<|rf J J<|ap (fu:=⟨8⟩) ((((e7 cuts).map (fun t=>nI 2 (fA a t) (fA b t))).take (k+1)).map vB) J (by rw[<-uO hz2,hx];rfl) (O8 [false]) J<|?_;refine gI 59 8 J ?_;exact at_ (k+1) ⟨(by omega),(by omega)⟩
  .
   refine cB (fu:=⟨15⟩) J J J<|cB (fu:=⟨5⟩) J J J<|cB J J J<|rf J J<|ap ((((e7 cuts).map (fun t=>nI 2 (fA a t) (fA b t))).take (k+1)).map vB) J (by rw[<-uO hz2,hx];rfl) (O8 [_]) J<|?_;refine gI 59 8 J ?_;exact at_ (k+1) ⟨(by omega),(by omega)⟩
 .
  obtain rfl:k=cuts.length+1:=by omega
  have htk:((e7 cuts).map (fun t=>nI 2 (fA a t) (fA b t))).take (cuts.length+1)=(e7 cuts).map (fun t=>nI 2 (fA a t) (fA b t)):=aL (by rw[aK,hgl];exact aN _);rw[htk];refine z7 8 J ?_;refine gx J<|cl J (ZB (cuts:=cuts) (marks:=(e7 cuts).map (fun t=>nI 2 (fA a t) (fA b t))) (by omega) (by rw[aK,hgl];exact aN _)) J<|?_;exact rz J (by unfold oq;rw[<-hcu];rfl)
section
variable {GB:Gh} {C:aB} {n:Nat} {Q0:Exit->Act->World->Prop} {fr fr':az} {own own':aC} {cf cf':Cf} {vc:List Prop}
def TM{lk:LK}{bk:BM}{dst:Option Nat}{t ty':TypeId}{pos:String}{af:Array Edge}{gd:Option (Nat×Bool)}{x y:Operand}{e len s nm off:Nat}{k:IntKind}{i:Nat}(hu:prog.underlying t=some (.array len e))(hs:(prog.info? e).map (·.size)=some s)
  (e1:aF lk x=some (.ov nm off))(e2:aF lk y=some (.d (.v (.int k (i:Nat)))))(hi:i<len):bD prog GB C n lk bk ⟨dst, .indexAddr t x y,ty',pos,af,gd⟩ (.ov nm (off+i*s)) [] []:= .yd fun ρ G ov a w r=>by
 obtain⟨p,h1,h2⟩:=r.ev e1;obtain⟨q,h3,h4⟩:=r.ev e2;rw[c8] at h4;subst h4;obtain⟨b,hb,rfl⟩:=h2;refine⟨_,⟨b,hb,J⟩,?_⟩;obtain⟨j,hj,hjs⟩: ∃j,prog.info? e=some j/\j.size=s:=by
  cases h:prog.info? e with
  |none=>rw[h] at hs;cases hs
  |some j=>rw[h] at hs;exact⟨j,J,by simpa using hs⟩
 intro a' w' hf hh;simp only[execOp,bc hf h1,bc hf h3];have:(Instr.indexAt t (.pointer (some ⟨b,off,none⟩)) (.int k (i:Nat))).run prog w'= .ok (.pointer (some ⟨b,off+i*s,none⟩)) w':=by
  unfold Instr.indexAt;show(underlying t>>=_).run prog w'=_;rw[aG (pI hu w')];show(underlying t>>=_).run prog w'=_;rw[aG (pI hu w')];have h0:0<=((i:Nat):Int):=rX i;have h1:((i:Nat):Int)<((len:Nat):Int):=by omega
  simp only[h0,h1,and_self,if_true];show(sizeOf e>>=_).run prog w'=_;rw[aG (uS hj w'),pz,hjs,bJ];rfl
 exact cO this
def Lr(fr:az)(cf:Cf):Option (TypeId×Nat×Nat×Int):=match cx fr cf with
 |some ⟨_, .indexAddr t x y,_,_,_,_⟩=>match aF (bC fr cf) x with
  |some (.ov nm off)=>match aF (bC fr cf) y with
   |some (.d (.v (.int _ i)))=>some (t,nm,off,i)
   |_=>none
  |_=>none
 |_=>none
def jH[fu:Fu](i:Nat){t nm off e len s:Nat}(h:Lr fr cf=some (t,nm,off,((i:Nat):Int)))(hu:prog.underlying t=some (.array len e))(hs:(prog.info? e).map (·.size)=some s)(hi:i<len)
  (hgo:cF tt n fu.n fr own cf (.ov nm (off+i*s)) [] []=⟨vc,fr',own',cf'⟩)(k:ak prog GB C n Q0 fr' own' cf')
  (hv:ac vc:=by first|exact trivial|(simp only[ac];kernel_rfl)|(simp only[ac];omega)):ak prog GB C n Q0 fr own cf:=by
 unfold Lr at h;split at h<;>try (cases h;done)
 rename_i hh;split at h<;>try (cases h;done)
 rename_i hx;split at h<;>cases h;rename_i hy;exact us hh (TM hu hs hx hy hi) hgo hv k
def VH{lk:LK}{bk:BM}{d s:Nat}{e t ty':TypeId}{pos:String}{af:Array Edge}{gd:Option (Nat×Bool)}{ps:List (Nat×Operand)}{fo:List (Nat×Nat×Nat)}{i:TI}{z zx:List FX}{k:Nat}{pre post:List DV}(hi:eO prog t=some i)(hk:i.k= .st fo)(hz:i.z=some z)
  (hb:tB lk fo z ps=some zx)(h0:zx[k]? =some .nl)(h1:ji (zx.take k)=some pre)(h2:ji (zx.drop (k+1))=some post):bD prog GB C n lk bk ⟨some d, .build t ⟨ps⟩,ty',pos,af,gd⟩ (.bx false pre d post) [(d,some (.b e s [] true))] [d]:=by
 intro hd tl tb K' s1 s2 hf hk';refine⟨fun ρ G ov a w r Q=>?_⟩;obtain⟨v,hv,hv'⟩:=Bg hi hz;have:=Nm hi hk;have hsp:zx=zx.take k++ .nl::zx.drop (k+1):=by
  obtain⟨hk1,hk2⟩:=aS.1 h0
  conv=>lhs;rw[<-jN k zx,bZ hk1,hk2]
 obtain⟨l,h1',h2'⟩:=Fh (r.mono s1 s2) (fo:=fo) ps _ _ _ hb (hv' ρ G);rw[hsp] at h2';obtain⟨m1,m2',rfl,k1,y,m2,rfl,k2,k3⟩:=OX h2'
 cases (show y= .slice none 0 0 from k2)
 have hy:Yd prog C (cH a) ov G ⟨some d, .build t ⟨ps⟩,ty',pos,af,gd⟩ (.agg ⟨m1++Value.slice none 0 0::m2⟩):=Jn h1';have r3:=r.new' (x:=⟨none,0,0⟩) (B':= .b e s [] true) (os:=[]) (ov':=ov) (f:= .bx false pre d post) (y:= .agg ⟨m1++Value.slice none 0 0::m2⟩) hf (bp.refl G) r.h
  ⟨[],by simp only[if_true];exact .inl ⟨J,J,J⟩, .nil,by simp,fun _ o ho=>by cases ho⟩ (fun o ho=>by cases ho) (fun m B _ _ o ho _=>⟨ho,by simp⟩)
  ⟨m1,m2,by simp,rO k1 h1,rO k3 h2⟩ (r.putA _ hd)
 exact kA (hy a w (c6 a) r.h) (hk'.run _ G ov _ w r3)
def R7(fr:az)(cf:Cf):Option (Nat×List FX):=match cx fr cf with
 |some ⟨some d, .build t ⟨ps⟩,_,_,_,_⟩=>match dl tt t with
  |some ⟨.st fo,_,some zx,_⟩=>match tB (bC fr cf) fo zx ps with
   |some l=>some (d,l)
   |none=>none
  |_=>none
 |_=>none
def bzp[fu:Fu]{d:Nat}{zx:List FX}(e s kk:Nat)(pre post:List DV)(h:R7 fr cf=some (d,zx))(h0:zx[kk]? =some .nl)(h1:ji (zx.take kk)=some pre)(h2:ji (zx.drop (kk+1))=some post)(hgo:cF tt n fu.n fr own cf (.bx false pre d post) [(d,some (.b e s [] true))] [d]=⟨vc,fr',own',cf'⟩)(k:ak prog GB C n Q0 fr' own' cf')
  (hv:ac vc:=by first|exact trivial|(simp only[ac];kernel_rfl)|(simp only[ac];omega)):ak prog GB C n Q0 fr own cf:=by
 unfold R7 at h;split at h<;>try (cases h;done)
 rename_i hh;split at h<;>try (cases h;done)
 rename_i hT;split at h<;>cases h;rename_i hb;exact us hh (VH (dP _ _ hT) J J hb h0 h1 h2) hgo hv k
end
def sp1(f:ba)(m:aa)(k:Nat):List ba:=if k=0 then [] else et f m 1
def sp2(f:ba)(m:aa)(k:Nat):List ba:=if k<=1 then [] else et f m (-1)
def MI{l m:aa}(hl:LB l)(hm:LB m)(hlo:l.ok){side:Int}: ∀v∈iF l m side,od v:=fun v hv=>⟨(F8 hl hm hlo v hv).2.1,(F8 hl hm hlo v hv).2.2⟩
def Bl{l m:aa}{side:Int}:(iF l m side).length<=1:=by
 unfold iF;split
 ·split<;>simp
 ·split<;>simp
def LH(op:Int)(a b:List ah):(oq op a b).length<=2*(a.length+b.length)+1:=by
 unfold oq uC;refine cR GR ?_;rw[aK,A9];have:=Gb (a++b);rw[aV] at this;omega
def WL{f:ba}{m:aa}(h:nA f)[hm:LB m](hmo:m.ok):PF GB prog 177 [fe f,eL m] (.tp [.sl ((et f m 1).map fe), .sl ((et f m (-1)).map fe)]):=by
 haveI:=h.lb;refine fn func177 J J ntmps177 J J (fun C=>?_);refine rf (fu:=⟨1⟩) J J<|?_;refine aj 14 (.d (vI (2:Nat))) J J ?_;refine gx J<|?_;refine Tx 6 0 60 225 14 J J J J J ?_;refine Tx 6 1 61 225 14 J J J J J ?_;refine lp (X:=Nat) (fun k=>[(15, .d (vI (k:Nat))),(6, .ov 6 0)]) (fun k=>[(6,some (.o 347 [.rw 60, .rw 61] true)),(60,some (.b 225 14 ((sp1 f m k).map fe) true)),(61,some (.b 225 14 ((sp2 f m k).map fe) true))]) (fun k=>k<=2) (fun k=>2-k) 0 J (by omega) (fun _=>J) (fun k hk=>?_);refine br J J J (fun hc16=>?_) (fun hc16=>?_)
 .
  rcases(show k=0\/k=1 by omega) with rfl|rfl
  .
   refine ix _ J J J<|cl (fu:=⟨0⟩) J (Qi (l:=f.l) (m:=m) (side:=1) h.ok hmo (.inl J)) J<|?_;obtain⟨cs,hcs⟩: ∃c,c=oq 2 [f.v] (iF f.l m 1):=⟨_,rfl⟩;have hcl:cs.length<=5:=by rw[hcs];have h1:=LH 2 [f.v] (iF f.l m 1);have h2:=Bl (l:=f.l) (m:=m) (side:=1);simp only[iZ] at h1;omega
   refine aj 25 (.d (.tp [.sl ((iF f.l m 1).map eV),vB (ly f.l m)])) J J ?_;refine gx J<|?_;refine bb J J J (fun hc28=>?_) (fun hc28=>?_)
   .
    have hon:ly f.l m=true:=hc28;exact rz J (by first|(unfold et;rw[if_pos hon,if_pos hon];rfl)|rfl)
   .
    have hon:ly f.l m=false:=by simpa using hc28
    refine rf J J<|cl (fu:=⟨0⟩) J (Oc (a:=[f.v]) (b:=iF f.l m 1) (fun v hv=>by rw[aU] at hv;subst hv;exact⟨h.lo,h.hi⟩) (MI h.lb hm h.ok) (by show 1<=100;decide) (by have:=Bl (l:=f.l) (m:=m) (side:=1);omega)) J<|?_;refine aj 33 (.d (.sl (cs.map eV))) J (by rw[hcs]) ?_;refine gx (fu:=⟨1⟩) J<|?_;refine aj 34 (.d (vI (cs.length:Nat))) J (by rw[gj eV cs]<;>rfl) ?_;refine gx J<|?_;refine lp (X:=Nat) (fun j=>[(35, .d (vI (j:Nat)))]) (fun j=>[(60,some (.b 225 14 (((cs.take j).map fun v=>(⟨f.l,v⟩:ba)).map fe) true))]) (fun j=>j<=cs.length) (fun j=>cs.length-j) 0 J (bV _) (fun _=>J) (fun j hk=>?_);have hml:(((cs.take j).map fun v=>(⟨f.l,v⟩:ba)).map fe).length<=j:=by rw[aK,aK,cW];omega
    refine br J J J (fun hc36=>?_) (fun hc36=>?_)
    .
     obtain⟨z,hz⟩: ∃s,cs[j]? =some s:=⟨_,aZ (by omega)⟩;refine ix _ J (d8 hz) J<|jH 0 (e:=218) (len:=2) (s:=1) J (by kernel_rfl) (by kernel_rfl) (by decide) J<|rf J J<|?_;refine ap (((cs.take (j+1)).map fun v=>(⟨f.l,v⟩:ba)).map fe) J (by rw[<-uO hz,bS];rfl) (AF [⟨f.l,z⟩]) J<|jH (hv:=by simp only[ac];exact⟨by kernel_rfl,by omega⟩) 0 (e:=218) (len:=2) (s:=1) J (by kernel_rfl) (by kernel_rfl) (by decide) J<|?_;refine gI 48 60 J ?_;exact at_ (j+1) ⟨(by omega),(by omega)⟩
    .
     obtain rfl:j=cs.length:=by omega
     rw[show(cs.take cs.length).map (fun v=>(⟨f.l,v⟩:ba))=et f m 1 from by rw[dJ];unfold et;rw[if_neg (by rw[hon];decide),<-hcs]];exact at_ (0+1) ⟨(by omega),(by omega)⟩
  .
   refine ix _ J J J<|cl (fu:=⟨0⟩) J (Qi (l:=f.l) (m:=m) (side:= -1) h.ok hmo (.inr J)) J<|?_;obtain⟨cs,hcs⟩: ∃c,c=oq 2 [f.v] (iF f.l m (-1)):=⟨_,rfl⟩;have hcl:cs.length<=5:=by rw[hcs];have h1:=LH 2 [f.v] (iF f.l m (-1));have h2:=Bl (l:=f.l) (m:=m) (side:=(-1));simp only[iZ] at h1;omega
   refine aj 25 (.d (.tp [.sl ((iF f.l m (-1)).map eV),vB (ly f.l m)])) J J ?_;refine gx J<|?_;refine bb J J J (fun hc28=>?_) (fun hc28=>?_)
   .
    have hon:ly f.l m=true:=hc28;exact rz J (by first|(unfold et;rw[if_pos hon,if_pos hon];rfl)|rfl)
   .
    have hon:ly f.l m=false:=by simpa using hc28
    refine rf J J<|cl (fu:=⟨0⟩) J (Oc (a:=[f.v]) (b:=iF f.l m (-1)) (fun v hv=>by rw[aU] at hv;subst hv;exact⟨h.lo,h.hi⟩) (MI h.lb hm h.ok) (by show 1<=100;decide) (by have:=Bl (l:=f.l) (m:=m) (side:=(-1));omega)) J<|?_;refine aj 33 (.d (.sl (cs.map eV))) J (by rw[hcs]) ?_;refine gx (fu:=⟨1⟩) J<|?_;refine aj 34 (.d (vI (cs.length:Nat))) J (by rw[gj eV cs]<;>rfl) ?_;refine gx J<|?_;refine lp (X:=Nat) (fun j=>[(35, .d (vI (j:Nat)))]) (fun j=>[(61,some (.b 225 14 (((cs.take j).map fun v=>(⟨f.l,v⟩:ba)).map fe) true))]) (fun j=>j<=cs.length) (fun j=>cs.length-j) 0 J (bV _) (fun _=>J) (fun j hk=>?_);have hml:(((cs.take j).map fun v=>(⟨f.l,v⟩:ba)).map fe).length<=j:=by rw[aK,aK,cW];omega
    refine br J J J (fun hc36=>?_) (fun hc36=>?_)
    .
     obtain⟨z,hz⟩: ∃s,cs[j]? =some s:=⟨_,aZ (by omega)⟩;refine ix _ J (d8 hz) J<|jH 1 (e:=218) (len:=2) (s:=1) J (by kernel_rfl) (by kernel_rfl) (by decide) J<|rf J J<|?_;refine ap (((cs.take (j+1)).map fun v=>(⟨f.l,v⟩:ba)).map fe) J (by rw[<-uO hz,bS];rfl) (AF [⟨f.l,z⟩]) J<|jH (hv:=by simp only[ac];exact⟨by kernel_rfl,by omega⟩) 1 (e:=218) (len:=2) (s:=1) J (by kernel_rfl) (by kernel_rfl) (by decide) J<|?_;refine gI 48 61 J ?_;exact at_ (j+1) ⟨(by omega),(by omega)⟩
    .
     obtain rfl:j=cs.length:=by omega
     rw[show(cs.take cs.length).map (fun v=>(⟨f.l,v⟩:ba))=et f m (-1) from by rw[dJ];unfold et;rw[if_neg (by rw[hon];decide),<-hcs]];exact at_ (1+1) ⟨(by omega),(by omega)⟩
 .
  obtain rfl:k=2:=by omega
  refine jH 0 (e:=218) (len:=2) (s:=1) J (by kernel_rfl) (by kernel_rfl) (by decide) J<|jH 1 (e:=218) (len:=2) (s:=1) J (by kernel_rfl) (by kernel_rfl) (by decide) J<|?_;refine iE 60 J ?_;refine iE 61 J ?_;exact rz J (by first|(unfold et;rw[if_pos hon,if_pos hon];rfl)|rfl)
def il(p:ZP):DV:=eP p.q
def mC(r:List ZP):DV:= .sl (r.map il)
def Hh(l:List ZP):cP 6 (l.map il):=fun d hd=>by
 obtain⟨u,_,rfl⟩:=bQ.1 hd;exact⟨rfl,rfl⟩
def Ni(l:List (List ZP)):cP 1 (l.map mC):=fun d hd=>by
 obtain⟨u,_,rfl⟩:=bQ.1 hd;exact⟨rfl,rfl⟩
def Iv{r:List ZP}{i:Nat}(h:i<r.length):(r.map il)[((i:Nat):Int).toNat]? =some (il (r.getD i (0,0))):=by
 rw[bJ,cV,aX,aZ h];rfl
def Lv{r:List ZP}{i:Nat}(h:i<r.length):(r.map il)[(((i+1)%r.length:Nat):Int).toNat]? =some (il (gn r i)):=Iv (dX _ (by omega))
def aFd(v w p:ab):(qr v w p).natAbs<=1:=by
 unfold qr;split<;>split<;>decide
def CP(r:List ZP)(p:ab): ∀k,(oz r p k).natAbs<=k
 |0=>aN _
 |k+1=>by rw[oz];have:=CP r p k;have:=aFd (r.getD k (0,0)).q (gn r k).q p;omega
def Qa{r:List ZP}(h:d5 r):PF GB prog 116 [.sl (r.map il)] (.sl ((ki r).map fe)):=by
 have hm:=gj il r;have h3:=h.n3;have h6:=h.n6;refine fn (fu:=⟨15⟩) func116 J J ntmps116 J J (fun C=>?_);refine aj 8 (.d (vI (r.length:Nat))) J (by rw[hm]<;>rfl) ?_;refine gx J<|?_;refine nr 3 3 225 14 J J J ?_;refine lp (X:=Nat) (fun k=>[(9, .d (vI (k:Nat))),(3, .rw 3)]) (fun k=>[(3,some (.b 225 14 ((qv r k).map fe) true))]) (fun k=>k<=r.length) (fun k=>r.length-k) 0 J (bV _) (fun _=>J) (fun k hk=>?_);have hel:=fun hh=>(IK (k:=k) h hh).1;refine br J J J (fun hc10=>?_) (fun hc10=>?_)
 .
  have hkr:k<r.length:=by omega
  have hel:=hel (by omega);have hem:=gj fe (qv r k);refine ix (fu:=⟨7⟩) _ J (Iv hkr) J<|?_;refine aj 22 (.d (vI ((k+1)%r.length:Nat))) J (by rw[hm]<;>rfl) ?_;refine gx J<|ix _ J (Lv hkr) J<|cl J (auY (v:=r.getD k (0,0)) (w:=gn r k) (h.le _ (AV hkr)) (h.le _ (Dz hkr)) (h.ne k hkr)) J<|?_;refine rf J J<|ap ((qv r (k+1)).map fe) J (by rw[qv,bS];rfl) (AF [kv (r.getD k (0,0)) (gn r k)]) J<|?_;refine gI 31 3 J ?_;exact at_ (k+1) ⟨(by omega),(by omega)⟩
 .
  obtain rfl:k=r.length:=by omega
  refine iE 3 J ?_;exact rz J J
def Ur{r:List ZP}{p:ab}{i:Nat}[hp:ay p i](h:d5 r)(hi:i<=80000:=by decide):PF GB prog 236 [.sl (r.map il),eP p] (vI (lA r p)):=by
 have hm:=gj il r;have h3:=h.n3;have h6:=h.n6;refine fn (fu:=⟨16⟩) func236 J J ntmps236 J J (fun C=>?_);refine aj 12 (.d (vI (r.length:Nat))) J (by rw[hm]<;>rfl) ?_;refine gx J<|?_;refine lp (X:=Nat×Int) (fun⟨k,c⟩=>[(13, .d (vI (k:Nat))),(5, .d (vI c))]) (fun⟨k,c⟩=>[]) (fun⟨k,c⟩=>c=oz r p k/\k<=r.length) (fun⟨k,c⟩=>r.length-k) (0,0) J ⟨J,bV _⟩ (fun _=>J) (fun⟨k,c⟩ hk=>?_);dsimp only at hk⊢;obtain⟨h1,h2⟩:=hk;have hcl:c.natAbs<=k:=by rw[h1];exact CP r p k
 refine br J J J (fun hc14=>?_) (fun hc14=>?_)
 .
  have hkr:k<r.length:=by omega
  obtain⟨v,hv⟩: ∃v,v=r.getD k (0,0):=⟨_,rfl⟩;obtain⟨w,hw⟩: ∃v,v=gn r k:=⟨_,rfl⟩;haveI hvb:ay v.q 12:=by rw[hv];exact Ci (h.le _ (AV hkr))
  haveI hwb:ay w.q 12:=by rw[hw];exact Ci (h.le _ (Dz hkr))
  refine ix (fu:=⟨1⟩) _ J (Iv hkr) J<|?_;refine aj 19 (.d (eP v.q)) J (by rw[hv];rfl) ?_;refine gx (fu:=⟨6⟩) J<|?_;refine aj 25 (.d (vI ((k+1)%r.length:Nat))) J (by rw[hm]<;>rfl) ?_;refine gx J<|ix (fu:=⟨1⟩) _ J (Lv hkr) J<|?_;refine aj 27 (.d (eP w.q)) J (by rw[hw];rfl) ?_;refine gx J<|cl J (jm (a:=v.q.y) (b:=p.y) (i:=12) (j:=i) (by decide) (by omega)) J<|cl (fu:=⟨9⟩) J (jm (a:=w.q.y) (b:=p.y) (i:=12) (j:=i) (by decide) (by omega)) J<|?_;rcases(show(bg v.q.y p.y<=0/\bg w.q.y p.y<=0)\/(bg v.q.y p.y<=0/\ ¬bg w.q.y p.y<=0)\/(¬bg v.q.y p.y<=0/\bg w.q.y p.y<=0)\/(¬bg v.q.y p.y<=0/\ ¬bg w.q.y p.y<=0) by omega) with⟨ca,cb⟩|⟨ca,cb⟩|⟨ca,cb⟩|⟨ca,cb⟩
  .
   refine cB (fu:=⟨3⟩) J (by show some (decide _)=some true;rw[decide_eq_true (by omega)]) J<|cG (fu:=⟨15⟩) J (by show some (decide _)=some false;rw[decide_eq_false (by omega)]) J<|?_;refine cG (fu:=⟨20⟩) J (by show some (decide _)=some false;rw[decide_eq_false (by omega)]) J<|?_;exact at_ (k+1,c) (by dsimp only;exact⟨⟨by rw[oz,<-h1,<-hv,<-hw];unfold qr;split<;>split<;>omega,by omega⟩,(by omega)⟩)
  .
   refine cB (fu:=⟨3⟩) J (by show some (decide _)=some true;rw[decide_eq_true (by omega)]) J<|cB J (by show some (decide _)=some true;rw[decide_eq_true (by omega)]) J<|?_;refine cl J (Rx (a:=v.q) (b:=w.q) (c:=p) (i:=12) (j:=12) (k:=i) (by decide) (by decide) hi) J<|?_;refine br (fu1:=⟨10⟩) (fu2:=⟨6⟩) J J J (fun hc51=>?_) (fun hc51=>?_)
   .
    refine cG J (by show some (decide _)=some false;rw[decide_eq_false (by omega)]) J<|?_;exact at_ (k+1,c+1) (by dsimp only;exact⟨⟨by rw[oz,<-h1,<-hv,<-hw];unfold qr;split<;>split<;>omega,by omega⟩,(by omega)⟩)
   .
    refine cG (fu:=⟨20⟩) J (by show some (decide _)=some false;rw[decide_eq_false (by omega)]) J<|?_;exact at_ (k+1,c) (by dsimp only;exact⟨⟨by rw[oz,<-h1,<-hv,<-hw];unfold qr;split<;>split<;>omega,by omega⟩,(by omega)⟩)
  .
   refine cG (fu:=⟨19⟩) J (by show some (decide _)=some false;rw[decide_eq_false (by omega)]) J<|cB (fu:=⟨2⟩) J (by show some (decide _)=some true;rw[decide_eq_true (by omega)]) J<|?_;refine cB J (by show some (decide _)=some true;rw[decide_eq_true (by omega)]) J<|cl J (Rx (a:=v.q) (b:=w.q) (c:=p) (i:=12) (j:=12) (k:=i) (by decide) (by decide) hi) J<|?_;refine br (fu2:=⟨8⟩) J J J (fun hc65=>?_) (fun hc65=>?_)
   .
    exact at_ (k+1,c-1) (by dsimp only;exact⟨⟨by rw[oz,<-h1,<-hv,<-hw];unfold qr;split<;>split<;>omega,by omega⟩,(by omega)⟩)
   .
    exact at_ (k+1,c) (by dsimp only;exact⟨⟨by rw[oz,<-h1,<-hv,<-hw];unfold qr;split<;>split<;>omega,by omega⟩,(by omega)⟩)
  .
   refine cG (fu:=⟨19⟩) J (by show some (decide _)=some false;rw[decide_eq_false (by omega)]) J<|cB (fu:=⟨2⟩) J (by show some (decide _)=some true;rw[decide_eq_true (by omega)]) J<|?_;refine cG J (by show some (decide _)=some false;rw[decide_eq_false (by omega)]) J<|?_;exact at_ (k+1,c) (by dsimp only;exact⟨⟨by rw[oz,<-h1,<-hv,<-hw];unfold qr;split<;>split<;>omega,by omega⟩,(by omega)⟩)
 .
  obtain rfl:k=r.length:=by omega
  have hfin:lA r p=c:=h1.symm;exact rz J (by rw[hfin];rfl)
def Vc{fill n:Int}(hn:n.natAbs<=1000):PF GB prog 237 [vI fill,vI n] (vB (tu fill n)):=by
 refine fn func237 J J ntmps237 J J (fun C=>?_);refine cs 7 J J J (fun hg7=>?_) (fun hg7=>?_)
 .
  refine cs 12 J J J (fun hg12=>?_) (fun hg12=>?_)
  .
   exact rz J (by show vB _=vB _;unfold tu;congr 1;simp_all)
  .
   refine cs 15 J J J (fun hg15=>?_) (fun hg15=>?_)
   .
    exact rz J (by show vB _=vB _;unfold tu;congr 1;simp_all)
   .
    exact rz J (by show vB _=vB _;unfold tu;congr 1;simp_all)
 .
  refine cs 15 J J J (fun hg15=>?_) (fun hg15=>?_)
  .
   exact rz J (by show vB _=vB _;unfold tu;congr 1;simp_all)
  .
   exact rz J (by show vB _=vB _;unfold tu;congr 1;simp_all)
def KI(rs:List (List ZP)):List aa:=(iw rs).map ba.l
def vW(rs:List (List ZP))(fill:Int):DV:= .ag [.sl (rs.map mC), .v (.int .i64 fill), .sl ((wo (KI rs)).map eL)]
def aDZ{rs:List (List ZP)}{p:ab}(h: ∀r∈rs,d5 r)(k:Nat):((rs.take k).foldl (fun n r=>n+lA r p) 0).natAbs<=6*k:=by
 induction k with
 |zero=>rw[rY];exact bV _
 |succ k ih=>
  rw[iQ,pL]
  cases e:rs[k]? with
  |none=>exact cR ih (by omega)
  |some r=>
   have h1:(lA r p).natAbs<=r.length:=CP r p r.length;have h2:=(h r (aT e)).n6;show(List.foldl _ 0 (rs.take k)+lA r p).natAbs<=_;omega
def Xp{rs:List (List ZP)}{fill:Int}{p:ab}{i:Nat}[hp:ay p i](h: ∀r∈rs,d5 r)(hn:rs.length<=100)(hi:i<=80000:=by decide):PF GB prog 176 [vW rs fill,eP p] (vB (mn rs fill p)):=by
 have hm:=gj mC rs;refine fn (fu:=⟨18⟩) func176 J J ntmps176 J J (fun C=>?_);refine aj 10 (.d (vI (rs.length:Nat))) J (by rw[hm]<;>rfl) ?_;refine gx J<|?_;refine lp (X:=Nat×Int) (fun⟨k,c⟩=>[(11, .d (vI (k:Nat))),(5, .d (vI c))]) (fun⟨k,c⟩=>[]) (fun⟨k,c⟩=>c=(rs.take k).foldl (fun n r=>n+lA r p) 0/\k<=rs.length) (fun⟨k,c⟩=>rs.length-k) (0,0) J ⟨by rw[rY];rfl,bV _⟩ (fun _=>J) (fun⟨k,c⟩ hk=>?_);dsimp only at hk⊢;obtain⟨h1,h2⟩:=hk;have hcl:c.natAbs<=6*k:=by rw[h1];exact aDZ h k
 refine br J J J (fun hc12=>?_) (fun hc12=>?_)
 .
  obtain⟨r,hz⟩: ∃s,rs[k]? =some s:=⟨_,aZ (by omega)⟩;have hr:=h r (aT hz);have hnz:(lA r p).natAbs<=6:=cR (CP r p r.length) hr.n6;refine ix _ J (d8 hz) J<|cl J (Ur (r:=r) (p:=p) hr hi) J<|?_;exact at_ (k+1,c+lA r p) (by dsimp only;exact⟨⟨by rw[iQ,hz,pL,<-h1];rfl,by omega⟩,(by omega)⟩)
 .
  obtain rfl:k=rs.length:=by omega
  rw[dJ] at h1;refine cl J (Vc (fill:=fill) (n:=c) (by omega)) J<|?_;exact rz J (by unfold mn;rw[<-h1];rfl)
def vL(r:List ZP):DV:= .sl ((r.map ZP.q).map jG)
def V0(l:List (List ZP)):cP 1 (l.map vL):=fun d hd=>by
 obtain⟨u,_,rfl⟩:=bQ.1 hd;exact⟨rfl,rfl⟩
theorem Ki{r:List ZP}(h: ∀p∈r,ZP.le 100 p): ∀p∈r.map ZP.q,ay p 1200:=fun p hp=>by
 obtain⟨z,hz,rfl⟩:=bQ.1 hp;have:=Ci (h z hz);exact⟨BQ.mono this.x (by decide),BQ.mono this.y (by decide)⟩
def Ss(r:List ZP):DV.sl ((r.map ZP.q).map eP)=mC r:=by unfold mC;rw[pU];rfl
def Lj{rs:List (List ZP)}{k:Nat}{r:List ZP}(h:rs[k]? =some r):iw (rs.take (k+1))=iw (rs.take k)++ki r:=by
 unfold iw;rw[iQ,h,mN];simp
def R5{rs:List (List ZP)}(h: ∀r∈rs,d5 r)(k:Nat):(iw (rs.take k)).length<=6*k:=by
 have:=(uh (rs:=rs.take k) (fun r hr=>h r (dZ hr))).1;have h2:(rs.take k).length<=k:=by rw[cW];omega
 omega
def Tv{rs:List (List ZP)}{fill:Int}(h: ∀r∈rs,d5 r)(hn:rs.length<=100):PF GB prog 55 [.sl (rs.map vL), .v (.int .i64 fill)] (vW rs fill):=by
 have hm:=gj vL rs;refine fn (fu:=⟨8⟩) func55 J J ntmps55 J J (fun C=>?_);refine bzp (fu:=⟨14⟩) 130 1 0 [] [.v (.int .i64 fill), .sl []] J J J J J<|?_;refine aj 15 (.d (vI (rs.length:Nat))) J (by rw[hm]<;>rfl) ?_;refine gx J<|?_;refine nr 6 6 175 6 J J J ?_;refine lp (X:=Nat) (fun k=>[(16, .d (vI (k:Nat))),(6, .rw 6),(5, .ov 5 0)]) (fun k=>[(5,some (.o 126 [.rw 13, .d (.v (.int .i64 fill)), .d (.sl [])] true)),(13,some (.b 130 1 ((rs.take k).map mC) true)),(6,some (.b 175 6 (((iw (rs.take k)).map ba.l).map eL) true))]) (fun k=>k<=rs.length) (fun k=>rs.length-k) 0 J (bV _) (fun _=>J) (fun k hk=>?_);refine br (fu2:=⟨0⟩) J J J (fun hc17=>?_) (fun hc17=>?_)
 .
  obtain⟨r,hz⟩: ∃s,rs[k]? =some s:=⟨_,aZ (by omega)⟩;have hr:=h r (aT hz);have hel:(ki r).length<=6:=by have:=(CW hr).1;have:=hr.n6;omega
  have het:=R5 h k;have hrl:((rs.take k).map mC).length=k:=by rw[aK,cW];omega
  refine ix _ J (d8 hz) J<|cl (fu:=⟨0⟩) J (ZE (ps:=r.map ZP.q) (Ki hr.le) (by rw[aK];have:=hr.n6;omega)) J<|?_;refine aj 21 (.d (mC r)) J (by rw[Ss]) ?_;refine gx J<|rf J J<|ap ((rs.take (k+1)).map mC) J (uO hz) (Ni [r]) J<|cl (fu:=⟨1⟩) J (Qa (r:=r) hr) J<|?_;refine aj 30 (.d (vI ((ki r).length:Nat))) J (by rw[gj fe (ki r)]<;>rfl) ?_;refine gx J<|?_;rw[<-mS (iw (rs.take k)),<-rY (l:=ki r)];refine lp (X:=Nat) (fun j=>[(31, .d (vI (j:Nat))),(6, .rw 6)]) (fun j=>[(6,some (.b 175 6 (((iw (rs.take k)++(ki r).take j).map ba.l).map eL) true))]) (fun j=>j<=(ki r).length) (fun j=>(ki r).length-j) 0 J (bV _) (fun _=>J) (fun j hk=>?_);have hml:(((iw (rs.take k)++(ki r).take j).map ba.l).map eL).length<=6*k+6:=by rw[aK,aK,aV,cW];omega
  refine br J J J (fun hc32=>?_) (fun hc32=>?_)
  .
   obtain⟨e,he⟩: ∃s,(ki r)[j]? =some s:=⟨_,aZ (by omega)⟩;refine ix _ J (d8 he) J<|rf J J<|ap (((iw (rs.take k)++(ki r).take (j+1)).map ba.l).map eL) J (by rw[iQ,he];simp only[bS,gW];rfl) (gm [e.l]) J<|?_;refine gI 39 6 J ?_;exact at_ (j+1) ⟨(by omega),(by omega)⟩
  .
   obtain rfl:j=(ki r).length:=by omega
   rw[dJ,<-Lj hz];refine gI 26 13 J ?_;exact at_ (k+1) ⟨(by omega),(by omega)⟩
 .
  obtain rfl:k=rs.length:=by omega
  rw[dJ];refine z7 6 J ?_;refine z7 13 J ?_;refine gx rfl<|cl rfl (YT (ls:=KI rs) (fun l hl=>by obtain⟨f,hf,rfl⟩:=bQ.1 hl;exact((uh h).2 f hf).lb) (by unfold KI;rw[aK];have:=(uh h).1;omega)) rfl<|?_;exact rz J J
def Wx{rs:List (List ZP)}(h: ∀r∈rs,d5 r)(hn:rs.length<=100):PF GB prog 95 [.sl (rs.map mC)] (.sl (rs.map vL)):=by
 have hm:=gj mC rs;refine fn (fu:=⟨15⟩) func95 J J ntmps95 J J (fun C=>?_);refine aj 7 (.d (vI (rs.length:Nat))) J (by rw[hm]<;>rfl) ?_;refine gx J<|?_;refine nr 3 3 160 1 J J J ?_;refine lp (X:=Nat) (fun k=>[(8, .d (vI (k:Nat))),(3, .rw 3)]) (fun k=>[(3,some (.b 160 1 ((rs.take k).map vL) true))]) (fun k=>k<=rs.length) (fun k=>rs.length-k) 0 J (bV _) (fun _=>J) (fun k hk=>?_);have hml:((rs.take k).map vL).length<=k:=by rw[aK,cW];omega
 refine br J J J (fun hc9=>?_) (fun hc9=>?_)
 .
  obtain⟨r,hz⟩: ∃s,rs[k]? =some s:=⟨_,aZ (by omega)⟩;have hr:=h r (aT hz);refine ix (fu:=⟨1⟩) _ J (d8 hz) J<|?_;refine aj 11 (.d (.sl ((r.map ZP.q).map eP))) J (by rw[Ss]) ?_;refine gx J<|cl J (Pj (ps:=r.map ZP.q) (Ki hr.le) (by rw[aK];have:=hr.n6;omega)) J<|rf J J<|ap ((rs.take (k+1)).map vL) J (uO hz) (V0 [r]) J<|?_;refine gI 16 3 J ?_;exact at_ (k+1) ⟨(by omega),(by omega)⟩
 .
  obtain rfl:k=rs.length:=by omega
  refine iE 3 J ?_;exact rz J (by rw[dJ];rfl)
def VV(out:List aa)(l:aa):(pw out l).length<=out.length+1:=by
 unfold pw;split
 ·omega
 ·simp;omega
def Mt(c:List aa): ∀(t out:List aa),(nH c t out).length<=out.length+t.length
 |[],out=>by simp[nH]
 |l::t,out=>by
  rw[nH];refine cR (Mt c t _) ?_;have:=VV out l;split<;>simp<;>omega
def C9(c:List aa):(e8 c).length<=c.length:=cR (Mt c c []) (by simp)
theorem Fg{c:List aa}(h: ∀m∈c,LB m): ∀m∈e8 c,LB m:=fun m hm=>h m (pc.1 hm).1
def EY{c:List aa}(h: ∀m∈c,m.ok): ∀m∈e8 c,m.ok:=fun m hm=>h m (pc.1 hm).1
def D3{c:List aa}{l:aa}(hc: ∀m∈c,LB m)(hok: ∀m∈c,m.ok)(hn:c.length<=900)(hl:LB l)(hlo:l.ok):PF GB prog 92 [.sl (c.map eL),eL l] (.sl ((e8 (c++[l])).map eL)):=by
 have hcl:=wU c;refine fn func92 J J ntmps92 J J (fun C=>?_);refine rp J J<|ap (c.map eL) J J (gm _) J<|rf J J<|l8 ((c++[l]).map eL) J (by rw[bS];rfl) (gm [l]) J<|?_;refine cl J (UG (c:=c++[l]) (tI hc hl) (iv hok hlo) (by simp;omega)) J<|?_;exact rz J J
def Ue{l l1:aa}{x y u:Tr}:PF GB prog 91 [eL l,eT (.node l1 x y),eT u] (eT (.node l (.node l1 x y) u)):=by
 refine fn (fu:=⟨12⟩) func91 J J ntmps91 J J (fun C=>?_);refine cG J J J<|?_;refine iE 33 J ?_;exact rz J J
def UV{l l1:aa}{x y:Tr}{p:Bool}:PF GB prog 91 [eL l,eT (.leaf p),eT (.node l1 x y)] (eT (.node l (.leaf p) (.node l1 x y))):=by
 refine fn (fu:=⟨12⟩) func91 J J ntmps91 J J (fun C=>?_);refine cB (fu:=⟨4⟩) J J J<|cG J J J<|?_;refine iE 33 J ?_;exact rz J J
def X1{l:aa}{p q:Bool}:PF GB prog 91 [eL l,eT (.leaf p),eT (.leaf q)] (eT (Tr.joinQ l (.leaf p) (.leaf q))):=by
 refine fn (fu:=⟨12⟩) func91 J J ntmps91 J J (fun C=>?_);refine cB (fu:=⟨4⟩) J J J<|cB J J J<|?_;refine bd J J J (fun hc27=>?_) (fun hc27=>?_)
 .
  exact rz J (by rw[show Tr.joinQ l (.leaf p) (.leaf q)= .leaf p by simp[Tr.joinQ,Tr.isLeaf,Tr.code,hc27]];rfl)
 .
  refine iE 33 J ?_;exact rz J (by rw[show Tr.joinQ l (.leaf p) (.leaf q)= .node l (.leaf p) (.leaf q) by simp[Tr.joinQ,Tr.isLeaf,Tr.code,hc27]];rfl)
def N1{l:aa}: ∀{x y:Tr},PF GB prog 91 [eL l,eT x,eT y] (eT (Tr.joinQ l x y))
 | .leaf _, .leaf _=>X1
 | .leaf _, .node .. =>UV
 | .node ..,_=>Ue
def aiK{b:Bool}{c:List aa}:PF GB prog 87 [eT (.leaf b), .sl (c.map eL)] (eT (Tr.restrictL (.leaf b) c)):=by
 refine fn (fu:=⟨11⟩) func87 J J ntmps87 J J (fun C=>?_);refine cB J J J<|?_;exact rz J J
def aiF{l:aa}{x y:Tr}{c:List aa}(hl:LB l)(hlo:l.ok)(hc: ∀m∈c,LB m)(hok: ∀m∈c,m.ok)(hn:c.length+(Tr.node l x y).depth<=900)(ihx: ∀{c:List aa},(∀m∈c,LB m)->(∀m∈c,m.ok)->c.length+x.depth<=900->PF GB prog 87 [eT x, .sl (c.map eL)] (eT (Tr.restrictL x c)))(ihy: ∀{c:List aa},(∀m∈c,LB m)->(∀m∈c,m.ok)->c.length+y.depth<=900->PF GB prog 87 [eT y, .sl (c.map eL)] (eT (Tr.restrictL y c))):PF GB prog 87 [eT (.node l x y), .sl (c.map eL)] (eT (Tr.restrictL (.node l x y) c)):=by
 have hdp:(Tr.node l x y).depth=1+Nat.max x.depth y.depth:=J;have hdx:x.depth<=Nat.max x.depth y.depth:=sM _ _;have hdy:y.depth<=Nat.max x.depth y.depth:=sJ _ _;have hca:=C9 (c++[l]);have hcb:=C9 (c++[l.rev]);rw[aV,iZ] at hca hcb;refine fn (fu:=⟨11⟩) func87 J J ntmps87 J J (fun C=>?_);refine cG J J J<|cl J (MQ (c:=c) (l:=l) hc hok (by omega) hl hlo) J<|?_;refine br J J J (fun hc16=>?_) (fun hc16=>?_)
 .
  refine cl J (ihx hc hok (by omega)) J<|?_;exact rz J (by rw[Tr.restrictL,if_pos hc16];rfl)
 .
  refine br J J J (fun hc24=>?_) (fun hc24=>?_)
  .
   refine cl J (ihy hc hok (by omega)) J<|?_;exact rz J (by rw[Tr.restrictL,if_neg hc16,if_pos hc24];rfl)
  .
   refine cl J (D3 (c:=c) (l:=l) hc hok (by omega) hl hlo) J<|cl J (ihx (c:=e8 (c++[l])) (Fg (tI hc hl)) (EY (iv hok hlo)) (by omega)) J<|?_;refine cl J (An (l:=l)) J<|cl J (D3 (c:=c) (l:=l.rev) hc hok (by omega) hl.rev hlo.rev) J<|cl J (ihy (c:=e8 (c++[l.rev])) (Fg (tI hc hl.rev)) (EY (iv hok hlo.rev)) (by omega)) J<|?_;refine cl J N1 J<|?_;exact rz J (by rw[Tr.restrictL,if_neg hc16,if_neg hc24];rfl)
def DE: ∀{t:Tr} {c:List aa},t.all LB->t.all aa.ok->(∀m∈c,LB m)->(∀m∈c,m.ok)->c.length+t.depth<=900->PF GB prog 87 [eT t, .sl (c.map eL)] (eT (Tr.restrictL t c))
 | .leaf _,_,_,_,_,_,_=>aiK
 | .node l x y,c,hb,ho,hc,hok,hn=>aiF hb.1 ho.1 hc hok hn (fun h1 h2 h3=>DE hb.2.1 ho.2.1 h1 h2 h3) (fun h1 h2 h3=>DE hb.2.2 ho.2.2 h1 h2 h3)
def p7:ab:=⟨mkRat 1 7,mkRat 1 5⟩
structure LP (l:aa):Prop where
 s:LS l
 p:0<l.value p7
def Ir(es:List Int):Nat->Nat->List aa×Nat
 |0,a=>([],a)
 |i+1,a=>((lF es a).1::(Ir es i (lF es a).2).1,(Ir es i (lF es a).2).2)
def Rr(es:List Int)(most a:Nat):List aa×Nat:=Ir es (ao es ((most:Int)+1) a).1 (ao es ((most:Int)+1) a).2
def Sd(l:aa):aa:=if(l.value p7).num.sign<0 then l.rev else l
def aJc(xs:List aa)(i:Nat):List aa:=(xs.take i).map Sd++xs.drop i
def aI7(es:List Int)(a:Nat):List aa×Nat:=((Rr es 3 a).1.map Sd,(Rr es 3 a).2)
def V2{n d:Nat}(hn:n<=1000)(hd:0<d)(hd1:d<=1000):PF GB prog 62 [.v (.int .i64 (n:Int)), .v (.int .i64 (d:Nat))] (eQ (mkRat n d)):=by
 haveI:BI (n:Int) 10:=y7 (by rw[iL];omega);haveI:BN d 10:=⟨by omega⟩;refine fn func62 J J ntmps62 J J (fun C=>?_);refine cl J (HX (n:=(n:Int)) (by omega) (by omega)) J<|cl J (sG (u:=d) (by omega)) J<|cl J (uT (x:=(n:Int)) (d:=d) hd) J<|?_;exact rz J J
section
variable {GB:Gh} {C:aB} {n:Nat} {Q0:Exit->Act->World->Prop} {fr fr':az} {own own':aC} {cf cf':Cf} {vc:List Prop}
def PR(GB:Gh)(P:Program)(f:FuncId)(ds:List DV)(s:Nat)(ty:TypeId)(rows:List DV):Prop:=
 ∀G vs,bp GB G->IsLs G ds vs->mz P f vs [] G (fun v own' G'=> ∃w:SV,v= .slice w.a w.n w.c/\di G' ⟨w,s,ty,rows,true⟩ own')
def NH: ∀(l:List av),(∀o∈l,o.lo=true)->l.map (relo (gu []))=l
 |[],_=>rfl
 |a::t,h=>by
  have h1:=h a aQ;rw[cK,NH t fun o ho=>h o (aJ _ ho)];congr 1
  cases a
  simp[relo,gu] at*;exact h1
def axu{lk:LK}{bk:BM}{fo:Operand}{args:Array Operand}{tys:Array TypeId}{f:FuncId}{d s:Nat}{ds rows:List DV}{ty ty2:TypeId}{pos:String}{af:Array Edge}{gd:Option (Nat×Bool)}
  (ha:uj lk fo args=some (f,ds))(hF:PR GB prog f ds s ty2 rows):bD prog GB C n lk bk ⟨some d, .call ⟨.value fo,args,tys⟩,ty,pos,af,gd⟩ (.rw d) [(d,some (.b ty2 s rows true))] [d]:=by
 intro hd tl tb K' s1 s2 hf hk;refine⟨fun ρ G ov a w r Q=>?_⟩;have r1:=r.mono s1 s2;obtain⟨h1,h2⟩:=EA ha;obtain⟨y,hy,hy'⟩:=r1.ev h1;rw[(aI (G:=G)).1 hy'] at hy;obtain⟨vs,h3,h4⟩:=r1.evDs h2;refine vt (M:=[]) (rest:=ov) hy h3 (List.Perm.refl _) (hF G vs r.gb h4) hd (fun v own1 G' hG hK a' w' rl=>?_) a w Q ⟨r.h,r.sz,c6 a,r.df⟩;obtain⟨z,rfl,vs',k1,k2,k3,k4⟩:=hK;rw[NH _ (k4 J)] at rl;have rl':gg C n (Sx.put (cH a) (some d) (.slice z.a z.n z.c)) (own1++ov) G' a' w':=rl;have hdis:=(gX.1 rl'.h.nd).2.2;have r3:=r.new' (x:=z) (B':= .b ty2 s rows true) (os:=own1) (ov':=own1++ov) (f:= .rw d) (y:= .slice z.a z.n z.c) hf hG.le rl'.h ⟨vs',by simpa using k1,k2,k3,k4⟩ (fun o ho=>bT _ ho)
  (fun q B0 hq e o ho hbq=>⟨cJ _ ho,fun hc=>by
   have hx: ∃o1∈own1,o1.b=o.b:=by
    rcases k1 with⟨_,h,_⟩|⟨b0,rest0,lo0,h,hB,_⟩
    ·rw[show z=_ from h] at hc;cases hc
    ·rw[show z=_ from h] at hc;cases hc;exact⟨⟨_,aA vs'++rest0,_,lo0⟩,by rw[hB];exact aQ,J⟩
   obtain⟨o1,ho1,he1⟩:=hx;exact hdis o1 ho1 o ho he1⟩) (by simp[bE]) (jI rl')
 exact hk.run _ G' _ a' w' r3
def QK(fr:az)(cf:Cf):Option (FuncId×List DV×Nat):=match cx fr cf with
 |some ⟨some d, .call ⟨.value fo,args,_⟩,_,_,_,_⟩=>match uj (bC fr cf) fo args with
  |some (f,ds)=>some (f,ds,d)
  |none=>none
 |_=>none
def cr[fu:Fu]{f:FuncId}{d s:Nat}{ds rows:List DV}{ty:TypeId}(ha:QK fr cf=some (f,ds,d))(hF:PR GB prog f ds s ty rows)
  (hgo:cF tt n fu.n fr own cf (.rw d) [(d,some (.b ty s rows true))] [d]=⟨vc,fr',own',cf'⟩)(k:ak prog GB C n Q0 fr' own' cf')
  (hv:ac vc:=by first|exact trivial|(simp only[ac];kernel_rfl)|(simp only[ac];omega)|(simp only[ac,aK,aM,aY];omega)):ak prog GB C n Q0 fr own cf:=by
 unfold QK at ha;split at ha<;>try (cases ha;done)
 rename_i hh;split at ha<;>cases ha;rename_i h1;exact us hh (axu h1 hF) hgo hv k
def aIN(C:aB)(s:Nat)(ty:TypeId)(rows:List DV):Ending->World->Prop:=tY C (fun v own' G'=> ∃w:SV,v= .slice w.a w.n w.c/\di G' ⟨w,s,ty,rows,true⟩ own')
end
end Go.Sx
end
