import Derived.Test.YtbllnkhngjedjaaGreatDoorPt9
set_option linter.all false
set_option maxHeartbeats 2000000
set_option maxRecDepth 100000
section
namespace Go.Sx
open Go Go.Proofs Tryz
def aGH{V n:Nat}(h1:4294967296^(n-1)<=V)(h2:V<4294967296^n)(hn:0<n):(dg V).length=n:=by
 obtain⟨e,hk,hr⟩:=ew V;have hne:dg V≠[]:=fun h=>by
  rw[h] at e;have:0<4294967296^(n-1):=fU (by decide);simp[dv] at e;omega
 have h3:=rI hr hne;have h4:=jx hk;rw[e] at h3 h4;have h5:=(oU (a:=4294967296) (by decide)).1 (fR h3 h2);have h6:=(oU (a:=4294967296) (by decide)).1 (fR h1 h4);omega
def XX{t s:Nat}(h0:0<t)(ht:t<4294967296)(hs:s=32-bl t):s<32/\2147483648<=t*2^s/\(t+1)*2^s<=4294967296:=by
 have h1:bl t<=32:=o8.2 ht;have h2:bl t≠0:=fun h=>by
  have:=CO t;rw[h] at this;omega
 have h3:=CO t;have h4: ¬t<2^(bl t-1):=fun h=>by
  have:=o8.2 h;omega
 have e1:2^(bl t-1)*2^s=2147483648:=by rw[<-fK,show bl t-1+s=31 by omega]
 have e2:2^bl t*2^s=4294967296:=by rw[<-fK,show bl t+s=32 by omega]
 refine⟨by omega,?_,?_⟩
 .rw[<-e1];exact bW _ (by omega)
 .rw[<-e2];exact bW _ h3
def aIm{us:List Nat}(h:bi us)(i:Nat)(hd:us.length=i+1):dv us=us.getD i 0*4294967296^i+dv (us.take i):=by
 have h0:dv (us.drop (i+1))=0:=by rw[fW (by omega)];rfl
 rw[xD us i,xZ us i,h0,kJ,bN];rfl
def KT{b:List Nat}(h:eo b)(i:Nat)(hi:b.length=i+1):0<b.getD i 0:=by
 rcases fT (b.getD i 0) with h0|h0
 .exfalso
  apply h;rw[mQ,hi,show i+1-1=i from J];rw[List.getD,aQ (by omega)] at h0;rw[aQ (by omega)];simpa using h0
 .exact h0
def Wv(a:List Nat)(k:Nat):dv (a++List.replicate k 0)=dv a:=by rw[xS,yx];simp
structure YS where
 us:List Nat
 qs:List Nat
 j:Nat
structure axn where
 g:Nat
 r:Nat
structure Rb where
 ws:List Nat
 k:Nat
 bo:Nat
 c:Nat
def ayK{P:Program}{t:TypeId}(c:Nat)(h:c<18446744073709551616)(w:World):(binOp .and t (.int .u64 (c:Int)) (.int .u64 4294967295)).run P w= .ok (.int .u64 ((c%4294967296:Nat):Int)) w:=by
 have h1:(BitVec.ofInt 64 (c:Int) &&& BitVec.ofInt 64 4294967295).toNat=c%4294967296:=by
  rw[BitVec.toNat_and,BitVec.ofInt_natCast,BitVec.toNat_ofNat,dV (by omega),show(BitVec.ofInt 64 4294967295).toNat=2^32-1 from J,Nat.and_two_pow_sub_one_eq_mod]
 have h2:IntKind.u64.wrap ((c%4294967296:Nat):Int)=((c%4294967296:Nat):Int):=by rw[n7];omega
 simp only[binOp];show(Op.intBits .and .u64 (c:Int) 4294967295).run P w=_;unfold Op.intBits;show(pure (Value.int .u64 (IntKind.u64.wrap ((BitVec.ofInt 64 (c:Int) &&& BitVec.ofInt 64 4294967295).toNat:Int))):Sem Value).run P w=_;rw[h1,h2,run_pure]
def tk(u m bo:Nat):Nat:=if m+bo<=u then u-(m+bo) else u+18446744073709551616-(m+bo)
def sub2(u m bo:Nat)(hu:u<4294967296)(hm:m<4294967296)(hb:bo<=1):IntKind.u64.wrap (IntKind.u64.wrap ((u:Int)-(m:Int))-(bo:Int))=((tk u m bo:Nat):Int):=by
 rw[n7,n7];unfold tk;split<;>omega
def PS(u m bo:Nat)(hu:u<4294967296)(hm:m<4294967296)(hb:bo<=1):tk u m bo%4294967296+(m+bo)=u+tk u m bo/9223372036854775808*4294967296/\tk u m bo/9223372036854775808<=1/\tk u m bo<18446744073709551616:=by
 unfold tk;split<;>omega
def TS{A B G:Gh}{x y:SV}{a b:List Nat}{k1 k2:Nat}(hx:cv A x a)(hy:cv B y b)[GL A G][GL B G](hna:eo a)(hnb:eo b)(hb2:2<=b.length)(hle:dv b<=dv a)
  (hq:dv a/dv b<2^k1)(hr:dv a%dv b<2^k2)(hl:a.length<=112589990684):
  Fn prog 190 [x.v,y.v] G (fun v G'=> ∃z r:SV,v= .tuple #[z.v,r.v]/\gg k1 G' z (dv a/dv b)/\gg k2 G' r (dv a%dv b)):=by
 have hxl:=hx.len;have hyl:=hy.len;obtain⟨n,hn⟩: ∃n,b.length=n+2:=⟨b.length-2,by omega⟩;have hbp:0<dv b:=iY fun h=>by
  rw[Vb hnb] at h;rw[h] at hn;simp at hn
 have hnm:b.length<=a.length:=by
  rcases iL a.length b.length with h|h
  .have:=ud hx.ok hnb h
   omega
  .exact h
 have htp:=KT hnb (n+1) hn;have htl:=hy.ok.get (n+1);have hbv:=aIm hy.ok (n+1) hn;have hbt:=CM hy.ok (n+1);obtain⟨s,hs⟩: ∃s,s=32-bl (b.getD (n+1) 0):=⟨_,rfl⟩;obtain⟨hs32,hs1,hs2⟩:=XX htp htl hs;have hble:bl (b.getD (n+1) 0)<=32:=o8.2 htl;have hpn:0<4294967296^(n+1):=fU (by decide);have hps:0<2^s:=fU (by decide);have hV1:2147483648*4294967296^(n+1)<=dv b*2^s:=by
  refine cY (bW _ hs1) ?_;rw[cX,bN (2^s),<-cX];exact bW _ (by omega)
 have hV2:dv b*2^s<4294967296^(n+2):=by
  refine dY (lV (k:=2^s) (m:=(b.getD (n+1) 0+1)*4294967296^(n+1)) (by rw[cM,oJ];omega) hps) ?_;rw[cX,bN (4294967296^(n+1)),<-cX,uI (n+1),bN _ 4294967296];exact bW _ hs2
 have hVl:(dg (dv b*2^s)).length=n+2:=aGH (by show 4294967296^(n+1)<=_;omega) hV2 (by omega);have hal:=jx hx.ok;have hU2:dv a*2^s<4294967296^(a.length+1):=by
  rw[uI];exact pX hal (dY (sL (by decide) hs32) (by decide))
 have hUl1:(dg (dv a*2^s)).length<=a.length+1:=by
  have h1:=Ko (ew (dv a*2^s)).2.2 (k:=32*(a.length+1)) (by rw[(ew _).1,pL];exact hU2);omega
 have hUl0:a.length<=(dg (dv a*2^s)).length:=by
  have hane:a≠[]:=fun h=>by
   have:=congrArg List.length h;simp only[fV] at this;omega
  have h1:=rI hna hane;have h2:=jx (ew (dv a*2^s)).2.1;rw[(ew _).1] at h2;have h3:dv a<=dv a*2^s:=rW _ hps;have h4:=(oU (a:=4294967296) (by decide)).1 (fR (cY h1 h3) h2);omega
 have hU3:dv a*2^s<dv b*2^s*4294967296^(a.length-n-1):=by
  have h1:4294967296^(n+1)*4294967296^(a.length-n-1)=4294967296^a.length:=by rw[<-fK,show n+1+(a.length-n-1)=a.length by omega]
  refine dY (lV hal hps) (cY (fJ _ (bU (by decide) (show s<=31 by omega))) ?_);rw[<-h1,bN,<-cX];exact bW _ hV1
 have hta:=Rw hna;have htb:=Rw hnb;refine Fn.intro func190 J J ntmps190 J ?_;intro C _ _;refine sR<|sa J J<|sa J J<|zE<|Vz<|sR<|sm J J<|sm J J<|c6 J J<|sy (ki J J) J<|?_;refine sy (iD hy J J) J<|?_;rw[show((y.n:Int)-1).toNat=n+1 by omega];refine sy (iF hy J) J<|?_;refine sc (zC J J (FC htl) J ?_);rintro _ G1 _ rfl;refine sy (gF J) J<|?_;rw[show(32-(bl (b.getD (n+1) 0):Int))=(s:Int) by omega];refine sa J J<|zE<|sR<|sm J J<|sm J J<|?_;refine sc (zC J J (Ls (kk:=32*(a.length+1)) hx hs32 (by rw[pL];exact hU2)) J ?_);rintro _ G2 _ ⟨u,rfl,hu,huc⟩;have hul:=hu.len;rw[hta] at huc;refine sc (HQ (by rfl) (by rfl) (by rfl) (by rfl) J ?_);intro b3;refine sc (C9 (z:= .int .u32 0) (m:=2) J J (Po hu.d) (AL inferInstance J) (by omega) (by decide) (by omega) J ?_);intro b4 cap h1;have ecs:(dg (dv a*2^s)).map dI++[Value.int .u32 0, .int .u32 0]++dw (.int .u32 0) (cap-(u.n+2))=(dg (dv a*2^s)++List.replicate (cap-u.n) 0).map dI:=by
  rw[vn,show cap-u.n=(cap-(u.n+2))+1+1 by omega,jQ,jQ];simp[dI]
 rw[ecs];clear ecs;have hus:dv (dg (dv a*2^s)++List.replicate (cap-u.n) 0)=dv a*2^s:=by rw[Wv,(ew _).1]
 have huo:bi (dg (dv a*2^s)++List.replicate (cap-u.n) 0):=(ew _).2.1.append (.replicate _);have hulen:(dg (dv a*2^s)++List.replicate (cap-u.n) 0).length=cap:=by simp;omega
 generalize dg (dv a*2^s)++List.replicate (cap-u.n) 0=us0 at hus huo hulen⊢;refine sm J J<|c6 J J<|sy (d5 J J) J<|sy (yl J J) J<|sa J J<|zE<|sR<|sm J J<|?_;refine sm J J<|?_;refine sc (zC J J (Ls (kk:=32*(n+2)) hy hs32 (by rw[pL];exact hV2)) J ?_);rintro _ G4 _ ⟨v,rfl,hv,_⟩;have hvl:=hv.len;obtain⟨hvv,hvo,hvn⟩:=ew (dv b*2^s);replace hv:=hv.d;rw[hVl] at hvl;generalize hvs:dg (dv b*2^s)=vs at*;refine sa J J<|zE<|sR<|sm J J<|c6 J J<|sa J J<|zE<|bw<|dr (fun _=>false) [(0,true),(1,true),(2,true),(3,true),(4,true),(5,true),(6,true),(7,true),(8,true),(9,true),(10,true),(11,true),(12,true),(13,true)] follows (by kernel_rfl)<|?_;refine dM J J J<|dM J J J<|dy J (fun _=>ki J J (by omega) (by omega)) J J<|dy J (fun _=>iD hv J J) J J<|?_;rw[show((v.n:Int)-1).toNat=n+1 by omega];have hvt:=hvo.get (n+1);have hv2:=hvo.get n;refine dy J (fun _=>iF hv J) J J<|dy J (fun _=>gF J (by omega) (by omega)) J J<|dM J J J<|dM J J J<|?_;refine dy J (fun _=>ki J J (by omega) (by omega)) J J<|dy J (fun _=>iD hv J J) J J<|?_;rw[show((v.n:Int)-2).toNat=n by omega];refine dy J (fun _=>iF hv J) J J<|?_;refine dy J (fun _=>gF J (by omega) (by omega)) J J<|dA J J J<|dA J J J<|dn<|sR<|sm J J<|?_;refine c6 J J<|sm J J<|sy (ki J J) J<|?_;obtain⟨l,hlq⟩: ∃l,a.length=n+1+l:=⟨a.length-n-1,by omega⟩;rw[show a.length-n-1=l by omega] at hU3;rw[show(((x.n:Int)+1).toNat:Int)-v.n=(l:Nat) by omega,show((x.n:Int)+1).toNat=a.length+1 by omega]
 refine sc (um J J (by omega) (by omega) (by omega) (by rfl) J ?_);intro b5;rw[vn,bV];refine aDv [_,_] (.cons_cons _ (.cons_cons _ (.cons _ .slnil))) ?_;refine sa J J<|zE<|bw<|U2<|bw<|sR<|sm J J<|c6 J J<|sy (ki J J) J<|sa J J<|zE<|d9<|?_;refine l8 (X:=YS) (fun q=>[(13, .int .i64 ((q.j:Int)-1)),(7, .slice (some ⟨b4,0,none⟩) (a.length+1) cap),(9, .int .i64 v.n),(10, .int .u64 (vs.getD (n+1) 0:Nat)),(11, .int .u64 (vs.getD n 0:Nat)),(8, .slice v.a v.n v.c),(12, .slice (some ⟨b5,0,none⟩) l l),(6, .int .u64 s)])
  (fun q=>[⟨b5,q.qs.map dI,182,true⟩,⟨b4,q.us.map dI,182,true⟩])
  (fun q _=>q.us.length=cap/\bi q.us/\q.qs.length=l/\bi q.qs/\q.j<=l/\(∀i,i<q.j->q.qs.getD i 0=0)/\dv a*2^s=dv q.us+dv vs*dv q.qs/\dv q.us<dv vs*4294967296^q.j) (fun q=>q.j) ⟨us0,List.replicate l 0,l⟩
  ⟨hulen,huo,by simp, .replicate _,aM _,fun i _=>by simp[List.getD,List.getElem?_replicate];split<;>rfl,by simp only[yx];omega,by simp only[hus,hvv];exact hU3⟩ (.cons J (.cons J (.cons J (.cons J (.cons J (.cons J (.cons J (.cons J .nil)))))))) J ?_
 rintro ⟨us,qs,j⟩ Gx _ ⟨hul2,huo2,hql,hqo,hjl,hq0,hinv,hlt⟩;simp only[] at hul2 huo2 hql hqo hjl hq0 hinv hlt⊢;refine bw<|sR<|sm J J<|sy (uJ J J) J<|zE<|?_;refine mA J (fun hc=>?_) (fun hc=>?_) -- slot 68
 .have hj0:j=0:=by omega
  subst hj0;refine jO<|e7<|e7<|jw<|bw<|?_;refine sE b5 (.hd ..) (fun G5 _ hgb5=>?_);refine sE b4 (.hd ..) (fun G6 _ hgb4=>?_);refine dr (fun _=>false) [(0,true),(2,true),(3,true),(4,true),(5,true),(1,false),(6,false),(7,true),(8,true)] follows (by kernel_rfl)<|?_;have hDq:cv G6 ⟨some ⟨b5,0,none⟩,l,l⟩ qs:= .of_block hqo (hgb5.up (G:=G6)) hql.symm (aM _) (by rw[aS (by simp)]);have hut:dv (us.take (n+2))=dv us:=by
   have h0:=xD us (n+2);rw[Dv (by rw[rS,iU,hvv] at hlt;omega)] at h0;omega
  have hDu:cv G6 ⟨some ⟨b4,0,none⟩,n+2,cap⟩ (us.take (n+2)):= .of_block (huo2.take _) hgb4.h (by simp;omega) (by omega) (by rw[gR,cJ,gK (by omega)]);have hV0:0<dv vs:=by rw[hvv];exact iT hbp hps
  rw[rS,iU] at hlt;have hdq:dv a/dv b=dv qs:=by
   rw[<-Nat.mul_div_mul_right _ _ hps,hinv,<-hvv,mU _ _ hV0,jN hlt,eK]
  have hdr:dv a%dv b=dv (us.take (n+2))/2^s:=by
   have:dv us=dv a%dv b*2^s:=by
    rw[<-sX,hinv,<-hvv,nM,dV hlt]
   rw[hut,this,Nat.mul_div_cancel _ hps]
  refine dM J J J<|dM J J J<|dM J J J<|dy J (fun _=>yl J J) J J<|?_;rw[show(v.n:Int).toNat=n+2 by omega];refine dM J J J<|?_;refine dc J J (zC J J (jt hDq) J ?_);rintro _ G7 _ rfl;refine wQ<|?_;refine dc J J (zC J J (Yt (kk:=k2) hDu hs32 (by rw[<-hdr];exact hr) (by simp;omega)) J ?_);rintro _ G8 _ ⟨r,rfl,hr8⟩;refine wQ<|dA J J J<|dA J J J<|dn<|du<|?_;refine zD (.tmp J (.tmp J .nil)) ⟨⟨some ⟨b5,0,none⟩,(trimD qs).length,l⟩,r,J,?_,?_⟩
  .rw[hdq]
   refine⟨?_,by rw[<-hdq];exact hq⟩;rw[qc hqo];exact hDq.trim.up
  .rw[hdr];exact hr8
 obtain⟨i,rfl⟩: ∃i,j=i+1:=⟨j-1,by omega⟩;rw[show(((i+1:Nat):Int)-1)=i by omega];have hpi:0<4294967296^i:=fU (by decide)
 -- the digits that the guess looks at
 obtain⟨p,hp⟩: ∃p,p=4294967296^(i+n):=⟨_,rfl⟩;obtain⟨V,hV⟩: ∃V,V=dv vs*4294967296^i:=⟨_,rfl⟩;have hvB:dv vs<4294967296^(n+2):=by rw[hvv];exact hV2
 have hvh:=aIL hvo n hvB;have hltV:dv us<V*4294967296:=by rw[hV,cX,<-uI];exact hlt
 have hV0:0<V:=by rw[hV];exact iT (by rw[hvv];exact iT hbp hps) hpi
 have hT0:0<vs.getD (n+1) 0:=KT hvn (n+1) hVl;have hVp:V=(vs.getD (n+1) 0*4294967296+vs.getD n 0)*p+dv (vs.take n)*4294967296^i:=by
  rw[hV,hvh,cM,hp,fK,bN (4294967296^i),cX]
 have hv0:dv (vs.take n)*4294967296^i<p:=by
  rw[hp,fK,bN];exact Nat.mul_lt_mul_of_pos_left (CM hvo n) hpi
 have hM:dv us<4294967296^(i+n+3):=by
  refine dY hlt ?_;rw[show i+n+3=(n+2)+(i+1) by omega,fK 4294967296 (n+2) (i+1)];exact bW _ (mW hvB)
 have huh:=aI7 huo2 (i+n) hM;rw[<-hp] at huh;have hu0:=CM huo2 (i+n);rw[<-hp] at hu0;have hg0:=huo2.get (i+n);have hg1:=huo2.get (i+n+1);have hg2:=huo2.get (i+n+2);refine zK<|bw<|d9<|bw<|dr (fun _=>false) [(0,true),(1,true),(2,true),(3,true),(4,true),(5,true),(6,true),(7,true),(8,true),(9,true),(10,true),(11,true),(12,true),(13,true),(14,true),(15,true),(16,true),(17,true)] follows (by kernel_rfl)<|?_;refine dM J J J<|dM J J J<|dM J J J<|dy J (fun _=>d5 J J (by omega) (by omega)) J J<|?_;refine dy J (fun _=>gi J J) J J<|?_;rw[show((i:Int)+(v.n:Int)).toNat=i+n+2 by omega];refine dy J (fun _=>sj J) J J<|dy J (fun _=>gF J (by omega) (by omega)) J J<|dy J (fun _=>wU J J) J J<|?_;rw[sd (us.getD (i+n+2) 0) 32 (by decide) (by omega) J];refine dM J J J<|dM J J J<|dM J J J<|dy J (fun _=>d5 J J (by omega) (by omega)) J J<|?_;refine dy J (fun _=>ki J J (by omega) (by omega)) J J<|dy J (fun _=>gi J J) J J<|?_;rw[show((i:Int)+(v.n:Int)-1).toNat=i+n+1 by omega];refine dy J (fun _=>sj J) J J<|?_;refine dy J (fun _=>gF J (by omega) (by omega)) J J<|dy J (fun _=>ja J J (IS (us.getD (i+n+1) 0) (us.getD (i+n+2) 0) 32 (by omega) (by omega))) J J<|dA J J J<|dn<|bw<|?_;obtain⟨f,hf⟩: ∃f,f=us.getD (i+n+2) 0*4294967296+us.getD (i+n+1) 0:=⟨_,rfl⟩;rw[show us.getD (i+n+1) 0+us.getD (i+n+2) 0*2^32=f by omega];rw[<-hf] at huh;have hfB:f<18446744073709551616:=by omega
 refine dr (fun _=>false) [(0,true),(1,true),(2,true),(3,true),(4,true),(5,true),(6,true),(7,true)] follows (by kernel_rfl)<|?_;refine dM J J J<|dM J J J<|dy J (fun _=>yk J J) J J<|dM J J J<|dM J J J<|?_;refine dy J (fun _=>xW J J) J J<|dA J J J<|dA J J J<|dn<|?_;rw[show((f:Int)/((vs.getD (n+1) 0:Nat):Int))=((f/vs.getD (n+1) 0:Nat):Int) by rfl,show((f:Int)%((vs.getD (n+1) 0:Nat):Int))=((f%vs.getD (n+1) 0:Nat):Int) by rfl]
 -- GUESS
 have hUle:(f*4294967296+us.getD (i+n) 0)*p<=dv us:=by omega
 have hUlt:dv us<(f*4294967296+us.getD (i+n) 0+1)*p:=by rw[cM _ 1,oJ];omega
 have hVle:(vs.getD (n+1) 0*4294967296+vs.getD n 0)*p<=V:=by rw[hVp];exact nY _ _
 have hfT:f<=vs.getD (n+1) 0*4294967296+vs.getD n 0:=YO hUle hVp hv0 hltV;refine Ao Nat (fun g=>[(15, .int .u64 (g:Nat)),(13, .int .i64 i),(7, .slice (some ⟨b4,0,none⟩) (a.length+1) cap),(9, .int .i64 v.n),(10, .int .u64 (vs.getD (n+1) 0:Nat)),(11, .int .u64 (vs.getD n 0:Nat)),(8, .slice v.a v.n v.c),(12, .slice (some ⟨b5,0,none⟩) l l),(6, .int .u64 s)]) (fun _=>[⟨b5,qs.map dI,182,true⟩,⟨b4,us.map dI,182,true⟩]) (fun g _=>g<4294967296/\dv us<(g+1)*V/\g*V<dv us+V) ?_ ?_
 .refine d9<|?_
  refine l8 (X:=axn) (fun q=>[(15, .int .u64 q.g),(16, .int .u64 q.r),(13, .int .i64 i),(7, .slice (some ⟨b4,0,none⟩) (a.length+1) cap),(9, .int .i64 v.n),(10, .int .u64 (vs.getD (n+1) 0:Nat)),(11, .int .u64 (vs.getD n 0:Nat)),(8, .slice v.a v.n v.c),(12, .slice (some ⟨b5,0,none⟩) l l),(6, .int .u64 s)]) (fun _=>[⟨b5,qs.map dI,182,true⟩,⟨b4,us.map dI,182,true⟩]) (fun q _=>f=q.g*vs.getD (n+1) 0+q.r/\q.r<4294967296/\dv us<(q.g+1)*V) (fun q=>q.g) ⟨f/vs.getD (n+1) 0,f%vs.getD (n+1) 0⟩
   ⟨(Nat.div_add_mod' ..).symm,qZ (cS _ hT0) hvt,UG hUlt hg0 hVle hT0⟩ (.cons J (.cons J (.cons J (.cons J (.cons J (.cons J (.cons J (.cons J (.cons J (.cons J .nil)))))))))) J ?_
  rintro ⟨g,r⟩ Gy _ ⟨hfg,hrB,hlo⟩;simp only[] at hfg hrB hlo⊢;have hgT:g*1<=g*vs.getD (n+1) 0:=fJ _ hT0;refine bw<|sR<|sm J J<|sy (nA J J) J<|?_;rw[ti g 32 (by decide) J];refine sy (vt J J) J<|sm J J<|?_;refine oI 97 J (fun hg=>?_) (fun hg=>?_)
  .have hgB:4294967296<=g:=by omega
   have hdec:dv us<g*V:=dY hltV (by rw[bN];exact bW _ hgB);refine ss J J J J<|ss J J J J<|ss J J J J<|ss J J J J<|ss J J J J<|ss J J J J<|ss J J J J<|ss J J J J<|ss J J J J<|?_;refine ss J J J J<|ss J J J J<|ss J J J J<|ss J J J J<|ss J J J J<|ss J J J J<|sy (rG J J) J<|zE<|rP J<|?_;refine zK<|d9<|?_;obtain⟨g',rfl⟩: ∃g',g=g'+1:=⟨g-1,by rcases fT g with h|h;(rw[h,mK] at hdec;omega);omega⟩;refine sR<|sm J J<|sy (O4 J J) J<|sa J J<|zE<|sR<|sm J J<|sm J J<|sy (rH J J) J<|?_;refine sa J J<|zE<|sR<|sm J J<|sy (nA J J) J<|?_;rw[show((g'+1:Nat):Int)-1=(g':Nat) by omega,show((r:Int)+((vs.getD (n+1) 0:Nat):Int))=((r+vs.getD (n+1) 0:Nat):Int) from J,ti (r+vs.getD (n+1) 0) 32 (by decide) J];have hfg':f=g'*vs.getD (n+1) 0+(r+vs.getD (n+1) 0):=by rw[hfg,cM,oJ];omega
   refine sy (vt J J) J<|zE<|?_;refine gm J (fun hc3=>?_) (fun hc3=>?_) -- slot 121
   .have hr3:4294967296<=r+vs.getD (n+1) 0:=by omega
    have hgB:g'<4294967296:=by
     rcases iL g' 4294967296 with h|h
     .exact h
     .have:=bW (vs.getD (n+1) 0) h
      omega
    have hgS:g'*vs.getD n 0<=(r+vs.getD (n+1) 0)*4294967296+us.getD (i+n) 0:=by
     have h1:=iW (mW hgB) (mW hv2);omega
    refine jO<|L3 J<|e7<|jw<|?_;exact qI g' ⟨hgB,hdec,Jo hUle hVp hv0 hT0 hfg' hgB hgS⟩ (.cons J (.cons J (.cons J (.cons J (.cons J (.cons J (.cons J (.cons J (.cons J .nil))))))))) J
   refine zK<|?_;exact jD ⟨g',r+vs.getD (n+1) 0⟩ ⟨hfg',by show r+vs.getD (n+1) 0<_;omega,hdec⟩ (by show g'<g'+1;omega) (.cons J (.cons J (.cons J (.cons J (.cons J (.cons J (.cons J (.cons J (.cons J (.cons J .nil)))))))))) J
  have hgB:g<4294967296:=by omega
  have hgS:g*vs.getD n 0<4294967296*4294967296:=pX hgB hv2;have e2:(g:Int)*((vs.getD n 0:Nat):Int)=((g*vs.getD n 0:Nat):Int):=J;refine bC J J (f7 J) J<|bC J J (f7 J) J<|bC J J (Iy J J (by rw[e2];omega) (by rw[e2];omega)) J<|bC J J (f7 J) J<|bC J J (wU J J) J<|?_;rw[sd r 32 (by decide) (by omega) J];refine bC J J (f7 J) J<|bC J J (f7 J) J<|bC J J (f7 J) J<|bC J J (d5 J J) J<|bC J J (ki J J) J<|?_;refine bC J J (gi J J) J<|?_;rw[show((i:Int)+(v.n:Int)-2).toNat=i+n by omega];refine bC J J (sj J) J<|bC J J (gF J) J<|bC J J (ja J J (IS (us.getD (i+n) 0) r 32 (by omega) (by omega))) J<|?_;refine bC J J (tP J J) J<|sy (mp J J) J<|zE<|?_;rw[e2];refine mA J (fun hc2=>?_) (fun hc2=>?_) -- slot 113
  .refine jO<|e7<|e7<|jw<|?_
   exact qI g ⟨hgB,hlo,Jo hUle hVp hv0 hT0 hfg hgB (by omega)⟩ (.cons J (.cons J (.cons J (.cons J (.cons J (.cons J (.cons J (.cons J (.cons J .nil))))))))) J
  have hdec:dv us<g*V:=WT hUlt hVle hfg (by omega);refine zK<|d9<|?_;obtain⟨g',rfl⟩: ∃g',g=g'+1:=⟨g-1,by rcases fT g with h|h;(rw[h,mK] at hdec;omega);omega⟩;refine sR<|sm J J<|sy (O4 J J) J<|sa J J<|zE<|sR<|sm J J<|sm J J<|sy (rH J J) J<|?_;refine sa J J<|zE<|sR<|sm J J<|sy (nA J J) J<|?_;rw[show((g'+1:Nat):Int)-1=(g':Nat) by omega,show((r:Int)+((vs.getD (n+1) 0:Nat):Int))=((r+vs.getD (n+1) 0:Nat):Int) from J,ti (r+vs.getD (n+1) 0) 32 (by decide) J];have hfg':f=g'*vs.getD (n+1) 0+(r+vs.getD (n+1) 0):=by rw[hfg,cM,oJ];omega
  refine sy (vt J J) J<|zE<|?_;refine gm J (fun hc3=>?_) (fun hc3=>?_) -- slot 121
  .have hr3:4294967296<=r+vs.getD (n+1) 0:=by omega
   have hgB:g'<4294967296:=by
    rcases iL g' 4294967296 with h|h
    .exact h
    .have:=bW (vs.getD (n+1) 0) h
     omega
   have hgS:g'*vs.getD n 0<=(r+vs.getD (n+1) 0)*4294967296+us.getD (i+n) 0:=by
    have h1:=iW (mW hgB) (mW hv2);omega
   refine jO<|L3 J<|e7<|jw<|?_;exact qI g' ⟨hgB,hdec,Jo hUle hVp hv0 hT0 hfg' hgB hgS⟩ (.cons J (.cons J (.cons J (.cons J (.cons J (.cons J (.cons J (.cons J (.cons J .nil))))))))) J
  refine zK<|?_;exact jD ⟨g',r+vs.getD (n+1) 0⟩ ⟨hfg',by show r+vs.getD (n+1) 0<_;omega,hdec⟩ (by show g'<g'+1;omega) (.cons J (.cons J (.cons J (.cons J (.cons J (.cons J (.cons J (.cons J (.cons J (.cons J .nil)))))))))) J
 rintro g Gz _ ⟨hgB,hlo,hhi⟩
 -- SUB
 refine sR<|sa J J<|sa J J<|zE<|bw<|sR<|sm J J<|c6 J J<|sm J J<|zE<|d9<|?_;refine l8 (X:=Rb) (fun q=>[(18, .int .u64 q.c),(17, .int .u64 q.bo),(124, .int .i64 q.k),(123, .int .i64 v.n),(122, .slice v.a v.n v.c),(15, .int .u64 (g:Nat)),(13, .int .i64 i),(7, .slice (some ⟨b4,0,none⟩) (a.length+1) cap),(9, .int .i64 v.n),(10, .int .u64 (vs.getD (n+1) 0:Nat)),(11, .int .u64 (vs.getD n 0:Nat)),(8, .slice v.a v.n v.c),(12, .slice (some ⟨b5,0,none⟩) l l),(6, .int .u64 s)]) (fun q=>[⟨b5,qs.map dI,182,true⟩,⟨b4,q.ws.map dI,182,true⟩])
  (fun q _=>q.ws.length=cap/\bi q.ws/\q.k<=n+2/\q.bo<=1/\q.c<4294967296/\dv q.ws<4294967296^(i+n+3)/\dv q.ws+g*(dv (vs.take q.k)*4294967296^i)=dv us+(q.bo+q.c)*4294967296^(i+q.k)) (fun q=>n+2-q.k) ⟨us,0,0,0⟩
  ⟨hul2,huo2,aN _,aN _,by show(0:Nat)<4294967296;decide,hM,by simp[dv]⟩ (.cons J (.cons J (.cons J (.cons J (.cons J (.cons J (.cons J (.cons J (.cons J (.cons J (.cons J (.cons J (.cons J (.cons J .nil)))))))))))))) J ?_
 rintro ⟨ws,k,bo,c⟩ Gy _ ⟨hwl,hwo,hk,hbo,hc4,hwM,hw⟩;simp only[] at hwl hwo hk hbo hc4 hwM hw⊢;refine sR<|sy (ju J J) J<|zE<|bw<|?_;refine mA J (fun hkc=>?_) (fun hkc=>?_) -- slot 125
 .have hkn:k=n+2:=by omega
  subst hkn;rw[aS (by omega),<-hV] at hw;refine jO<|e7<|e7<|jw<|sR<|sm J J<|sm J J<|sm J J<|sy (d5 J J) J<|sy (gi J J) J<|?_;rw[show((i:Int)+(v.n:Int)).toNat=i+n+2 by omega];have hwg:=hwo.get (i+n+2);refine sy (sj J) J<|sy (gF J) J<|sm J J<|sy (wK J J) J<|sm J J<|sy (wK J J) J<|?_;rw[sub2 _ _ _ hwg hc4 hbo];obtain⟨hx1,hx2,hx3⟩:=PS (ws.getD (i+n+2) 0) c bo hwg hc4 hbo;generalize tk (ws.getD (i+n+2) 0) c bo=xx at hx1 hx2 hx3⊢;refine sa J J<|zE<|sR<|sm J J<|sm J J<|sm J J<|sy (d5 J J) J<|sm J J<|sy (kH J) J<|sy (gi J J) J<|?_;rw[show((i:Int)+(v.n:Int)).toNat=i+n+2 by omega];refine sc (my (d:=xx%4294967296) J J (by rw[pZ];rfl) (.tl _ _ _ _ _ _ _ _ (.hd ..)) (by omega) J ?_);have hs2:=qi ws (i+n+2) (xx%4294967296) (by omega);have hl2:=aCb hs2 hw hx1;rw[<-uI] at hl2;have hM2:=BR (i:=i+n+2) (d:=xx%4294967296) hwo (cS _ (by decide)) hwM;have ho2:=hwo.set (i+n+2) (d:=xx%4294967296) (cS _ (by decide));have hn2:(ws.set (i+n+2) (xx%4294967296)).length=cap:=by rw[bZ];exact hwl
  generalize ws.set (i+n+2) (xx%4294967296)=ws2 at hl2 hM2 ho2 hn2⊢;replace hl2:dv ws2+g*V=dv us+xx/9223372036854775808*4294967296^(i+n+3):=hl2;have hqset: ∀d,dv (qs.set i d)=dv qs+4294967296^i*d:=fun d=>by
   have:=qi qs i d (by omega);rw[hq0 i (by omega)] at this;simpa using this
  have hqz: ∀d i',i'<i->(qs.set i d).getD i' 0=0:=fun d i' h=>by
   have:=hq0 i' (by omega);simpa[List.getD,mR,show¬i=i' by omega] using this
  have hinv2: ∀d R,R+d*V=dv us->dv a*2^s=R+dv vs*dv (qs.set i d):=fun d R h=>by
   rw[hinv,<-h,hqset,dT,<-cX,<-hV,bN d];omega
  refine zE<|sR<|sm J J<|sm J J<|sm J J<|sy (kH J) J<|sy (gi J J) J<|?_;rw[bV];refine sc (my (d:=g) J J (NI g hgB) (.hd ..) (by omega) J ?_);refine zE<|bw<|sR<|sm J J<|sy (nA J J) J<|?_;rw[ti xx 63 (by decide) J];refine sy (i9 J J) J<|zE<|?_;refine gm J (fun ht=>?_) (fun ht=>?_) -- slot 184
  .have ht0:xx/2^63=0:=by omega
   rw[show xx/9223372036854775808=xx/2^63 from J,ht0,mK,fX] at hl2;refine jO<|e7<|jw<|d6<|sm J J<|sy (ki J J) J<|sa J J<|zE<|?_;exact jD ⟨ws2,qs.set i g,i⟩ ⟨hn2,ho2,by simpa using hql,hqo.set _ hgB,by show i<=l;omega,hqz g,hinv2 g _ hl2,by show dv ws2<_;rw[<-hV];exact Xh hlo hl2⟩ (by show i<i+1;omega) (.cons J (.cons J (.cons J (.cons J (.cons J (.cons J (.cons J (.cons J .nil)))))))) J
  have ht1:xx/9223372036854775808=1:=by
   have:xx/9223372036854775808≠0:=fun h=>ht (by rw[show xx/2^63=xx/9223372036854775808 from J,h];rfl);omega
  rw[ht1,oJ] at hl2;obtain⟨g',rfl⟩: ∃g',g=g'+1:=⟨g-1,by rcases fT g with h|h;(rw[h,mK] at hl2;omega);omega⟩;refine zK<|sR<|sm J J<|sm J J<|sy (gi J J) J<|?_;rw[bV];refine sy (sj J (by simp;omega)) J<|?_;rw[show(qs.set i (g'+1)).getD i 0=g'+1 by simp[List.getD,mR,show i<qs.length by omega]];refine sy (wK J J) J<|sy (gi J J) J<|?_;rw[bV];refine sc (my (d:=g') J J (by rw[qA];omega) (.hd ..) (by simp;omega) J ?_);rw[List.set_set];refine zE<|sR<|sa J J<|zE<|bw<|sR<|sm J J<|c6 J J<|sm J J<|zE<|d9<|?_;refine l8 (X:=Rb) (fun q=>[(18, .int .u64 q.c),(193, .int .i64 q.k),(192, .int .i64 v.n),(191, .slice v.a v.n v.c),(13, .int .i64 i),(7, .slice (some ⟨b4,0,none⟩) (a.length+1) cap),(9, .int .i64 v.n),(10, .int .u64 (vs.getD (n+1) 0:Nat)),(11, .int .u64 (vs.getD n 0:Nat)),(8, .slice v.a v.n v.c),(12, .slice (some ⟨b5,0,none⟩) l l),(6, .int .u64 s)]) (fun q=>[⟨b5,(qs.set i g').map dI,182,true⟩,⟨b4,q.ws.map dI,182,true⟩])
   (fun q _=>q.ws.length=cap/\bi q.ws/\q.k<=n+2/\q.c<=1/\dv q.ws<4294967296^(i+n+3)/\dv q.ws+q.c*4294967296^(i+q.k)=dv ws2+dv (vs.take q.k)*4294967296^i) (fun q=>n+2-q.k) ⟨ws2,0,0,0⟩
   ⟨hn2,ho2,aN _,aN _,hM2,by simp[dv]⟩ (.cons J (.cons J (.cons J (.cons J (.cons J (.cons J (.cons J (.cons J (.cons J (.cons J (.cons J (.cons J .nil)))))))))))) J ?_
  rintro ⟨wa,k,_,ca⟩ Gz _ ⟨hal2,hao,hak,hac,haM,ha⟩;simp only[] at hal2 hao hak hac haM ha⊢;refine sR<|sy (ju J J) J<|zE<|bw<|?_;refine mA J (fun hkd=>?_) (fun hkd=>?_) -- slot 194
  .have hkn:k=n+2:=by omega
   subst hkn;rw[aS (by omega),<-hV] at ha;have hag:=hao.get (i+n+2);refine jO<|e7<|e7<|jw<|d6<|sm J J<|sm J J<|sm J J<|sy (d5 J J) J<|sy (gi J J) J<|?_;rw[show((i:Int)+(v.n:Int)).toNat=i+n+2 by omega];refine sy (sj J) J<|sm J J<|sy (kH J) J<|sy (Z5 J J) J<|sy (gi J J) J<|?_;rw[show((i:Int)+(v.n:Int)).toNat=i+n+2 by omega];refine sc (my (d:=(wa.getD (i+n+2) 0+ca)%4294967296) J J (by rw[qA];omega) (.tl _ _ _ _ _ _ _ _ (.hd ..)) (by omega) J ?_);have hs4:=qi wa (i+n+2) ((wa.getD (i+n+2) 0+ca)%4294967296) (by omega);have hl4:=YC hs4 ha;rw[<-uI] at hl4;have hM4:=BR (i:=i+n+2) (d:=(wa.getD (i+n+2) 0+ca)%4294967296) hao (cS _ (by decide)) haM;obtain⟨hR1,hR2⟩:=VX hhi hl2 hl4 hM2 hM4 (by omega) (Nat.succ_pos _);refine zE<|d6<|sm J J<|sy (ki J J) J<|sa J J<|zE<|?_;exact jD ⟨wa.set (i+n+2) ((wa.getD (i+n+2) 0+ca)%4294967296),qs.set i g',i⟩ ⟨by simpa using hal2,hao.set _ (cS _ (by decide)),by simpa using hql,hqo.set _ (by omega),by show i<=l;omega,hqz g',hinv2 g' _ hR1,by show dv _<_;rw[<-hV];exact hR2⟩ (by show i<i+1;omega) (.cons J (.cons J (.cons J (.cons J (.cons J (.cons J (.cons J (.cons J .nil)))))))) J
  have hvk:=hvo.get k;have hag:=hao.get (i+k);refine zK<|bw<|d9<|sR<|sm J J<|sy (iD hv J J) J<|?_;rw[bV];refine sy (iF hv J) J<|sa J J<|sa J J<|zE<|bw<|?_;refine d6<|sm J J<|sm J J<|sm J J<|sm J J<|sy (d5 J J) J<|sy (gi J J) J<|?_;rw[show((i:Int)+(k:Int)).toNat=i+k by omega];refine sy (sj J) J<|sy (gF J) J<|sm J J<|sy (gF J) J<|sy (rH J J) J<|sy (rH J J) J<|?_;rw[show(ca:Int)+(((wa.getD (i+k) 0:Nat):Int)+((vs.getD k 0:Nat):Int))=((ca+(wa.getD (i+k) 0+vs.getD k 0):Nat):Int) from J];refine sa J J<|zE<|sR<|sm J J<|sm J J<|sm J J<|sy (d5 J J) J<|sm J J<|sy (kH J) J<|sy (gi J J) J<|?_;rw[show((i:Int)+(k:Int)).toNat=i+k by omega];refine sc (my (d:=(ca+(wa.getD (i+k) 0+vs.getD k 0))%4294967296) J J (by rw[pZ];rfl) (.tl _ _ _ _ _ _ _ _ (.hd ..)) (by omega) J ?_);refine zE<|d6<|sm J J<|sy (nA J J) J<|?_;rw[ti (ca+(wa.getD (i+k) 0+vs.getD k 0)) 32 (by decide) J];refine sa J J<|zE<|d6<|sy (d5 J J) J<|sm J J<|zE<|?_;refine jD ⟨wa.set (i+k) ((ca+(wa.getD (i+k) 0+vs.getD k 0))%4294967296),k+1,0,(ca+(wa.getD (i+k) 0+vs.getD k 0))/2^32⟩ ⟨by simpa using hal2,hao.set _ (cS _ (by decide)),by show k+1<=_;omega,by show(ca+(wa.getD (i+k) 0+vs.getD k 0))/4294967296<=1;omega,BR hao (cS _ (by decide)) haM,?_⟩ (by show n+2-(k+1)<n+2-k;omega) (.cons J (.cons J (.cons J (.cons J (.cons J (.cons J (.cons J (.cons J (.cons J (.cons J (.cons J (.cons J .nil)))))))))))) J;show dv (wa.set (i+k) ((ca+(wa.getD (i+k) 0+vs.getD k 0))%4294967296))+((ca+(wa.getD (i+k) 0+vs.getD k 0))/4294967296)*4294967296^(i+k+1)=dv ws2+dv (vs.take (k+1))*4294967296^i
  rw[jq,cM (dv (vs.take k)),uI,show 4294967296^k*vs.getD k 0*4294967296^i=vs.getD k 0*4294967296^(i+k) by rw[fK,bN (4294967296^k),cX,bN (4294967296^k)]];exact Vl (qi wa (i+k) _ (by omega)) ha
 have hvk:=hvo.get k;have hwg:=hwo.get (i+k);refine zK<|bw<|d9<|sR<|sm J J<|sy (iD hv J J) J<|?_;rw[bV];refine sy (iF hv J) J<|sa J J<|sa J J<|zE<|bw<|?_;have hgd:g*vs.getD k 0<=4294967295*4294967295:=iW (by omega) (by omega);have e3:(g:Int)*((vs.getD k 0:Nat):Int)=((g*vs.getD k 0:Nat):Int):=J;refine d6<|sm J J<|sm J J<|sm J J<|sy (gF J) J<|sy (Iy J J (by rw[e3];omega) (by rw[e3];omega)) J<|?_;rw[e3];refine sy (rH J J) J<|?_;rw[show(c:Int)+((g*vs.getD k 0:Nat):Int)=((c+g*vs.getD k 0:Nat):Int) from J];obtain⟨c1,hc1⟩: ∃c1,c1=c+g*vs.getD k 0:=⟨_,rfl⟩;rw[<-hc1];have hc1m:c1%4294967296<4294967296:=cS _ (by decide);refine sa J J<|zE<|sR<|sm J J<|sm J J<|sm J J<|sy (d5 J J) J<|sy (gi J J) J<|?_;rw[show((i:Int)+(k:Int)).toNat=i+k by omega];refine sy (sj J) J<|sy (gF J) J<|sm J J<|sy (ja J J (ayK c1 (by omega))) J<|sy (wK J J) J<|sm J J<|sy (wK J J) J<|?_;rw[sub2 _ _ _ hwg hc1m hbo];obtain⟨hx1,hx2,hx3⟩:=PS (ws.getD (i+k) 0) (c1%4294967296) bo hwg hc1m hbo;generalize tk (ws.getD (i+k) 0) (c1%4294967296) bo=xx at hx1 hx2 hx3⊢;refine sa J J<|?_;refine zE<|sR<|sm J J<|sm J J<|sm J J<|sy (d5 J J) J<|sm J J<|sy (kH J) J<|sy (gi J J) J<|?_;rw[show((i:Int)+(k:Int)).toNat=i+k by omega];refine sc (my (d:=xx%4294967296) J J (by rw[pZ];rfl) (.tl _ _ _ _ _ _ _ _ (.hd ..)) (by omega) J ?_);refine zE<|sR<|sm J J<|sy (nA J J) J<|?_;rw[ti xx 63 (by decide) J];refine sa J J<|zE<|d6<|sm J J<|sy (nA J J) J<|?_
 rw[ti c1 32 (by decide) J];refine sa J J<|?_;refine zE<|d6<|sy (d5 J J) J<|sm J J<|zE<|?_;refine jD ⟨ws.set (i+k) (xx%4294967296),k+1,xx/2^63,c1/2^32⟩ ⟨by simpa using hwl,hwo.set _ (cS _ (by decide)),by show k+1<=_;omega,hx2,by show c1/4294967296<_;omega,BR hwo (cS _ (by decide)) hwM,?_⟩ (by show n+2-(k+1)<n+2-k;omega) (.cons J (.cons J (.cons J (.cons J (.cons J (.cons J (.cons J (.cons J (.cons J (.cons J (.cons J (.cons J (.cons J (.cons J .nil)))))))))))))) J;show dv (ws.set (i+k) (xx%4294967296))+g*(dv (vs.take (k+1))*4294967296^i)=dv us+(xx/9223372036854775808+c1/4294967296)*4294967296^(i+k+1);rw[jq,cM (dv (vs.take k)),uI,show 4294967296^k*vs.getD k 0*4294967296^i=vs.getD k 0*4294967296^(i+k) by rw[fK,bN (4294967296^k),cX,bN (4294967296^k)],dT,<-cX g (vs.getD k 0)];exact aCS (qi ws (i+k) _ (by omega)) hw hc1 hx1
def Ht{A B G:Gh}{x y:SV}{a b:List Nat}{k1 k2:Nat}(hx:cv A x a)(hy:cv B y b)[GL A G][GL B G](hb0:0<dv b)
  (hq:dv a/dv b<2^k1)(hr:dv a%dv b<2^k2)(hl:a.length<=112589990684:=by omega)(hl2:b.length<=112589990684:=by omega):
  Fn prog 129 [x.v,y.v] G (fun v G'=> ∃z r:SV,v= .tuple #[z.v,r.v, .bool true]/\gg k1 G' z (dv a/dv b)/\gg k2 G' r (dv a%dv b)):=by
 have hla:=oh a;have hlb:=oh b;have hca:=fun G1 (_:GL A G1)=>jt (G:=G1) hx;have hcb:=fun G1 (_:GL B G1)=>jt (G:=G1) hy;have hxt:=hx.trim;have hyt:=hy.trim;have hna:=eo.trimD a;have hnb:=eo.trimD b;rw[<-kh a,<-kh b] at hq hr⊢;rw[<-kh b] at hb0;generalize trimD a=a' at*;generalize trimD b=b' at*;refine Fn.intro func129 J J ntmps129 J ?_;intro C _ _;refine sR<|sa J J<|sa J J<|sa J J<|zE<|sR<|sm J J<|?_;refine sc (zC J J (hca _ inferInstance) J ?_);rintro _ G1 _ rfl;refine sm J J<|?_;refine sc (zC J J (hcb _ inferInstance) J ?_);rintro _ G2 _ rfl;refine sa J J<|sa J J<|zE<|bw<|d9<|sR<|sm J J<|c6 J J<|sy (i9 J J) J<|sa J J<|zE<|?_;refine gm J (fun hc=>?_) (fun hc=>?_) -- slot 15
 .exfalso
  have:b'=[]:=bS (by omega);rw[this] at hb0;exact absurd hb0 (by simp[dv])
 refine sR<|sm J J<|sm J J<|?_;refine sc (zC J J (SL hxt hyt) J ?_);rintro _ G3 _ rfl;refine sy (ju J J) J<|sa J J<|zE<|?_;refine gm J (fun hc2=>?_) (fun hc2=>?_) -- slot 19
 .have hlt:dv a'<dv b':=by
   unfold gO at hc2;split at hc2
   .assumption
   .split at hc2<;>omega
  refine sR<|sm J J<|?_;refine sc (zC J J (P1 hxt) J ?_);rintro _ G4 _ ⟨z,rfl,hz⟩;refine sa J J<|sa J J<|sa J J<|zE<|du<|?_;refine zD (.tmp J (.tmp J (.tmp J .nil))) ⟨⟨none,0,0⟩,z,J,?_,?_⟩
  .rw[jN hlt]
   exact⟨by unfold dg;exact .nil _,fU (by decide)⟩
  .rw[dV hlt] at hr⊢
   exact⟨by rw[x9 hxt.ok hna];exact hz,hr⟩
 have hle:dv b'<=dv a':=by
  unfold gO at hc2;split at hc2
  .omega
  .omega
 refine sR<|sm J J<|c6 J J<|sy (i9 J J) J<|sa J J<|zE<|?_;refine gm J (fun hc3=>?_) (fun hc3=>?_) -- slot 26
 .have hb1:b'.length=1:=by omega
  obtain⟨d,rfl⟩:=List.length_eq_one_iff.1 hb1;have hdv:dv [d]=d:=by simp[dv]
  have hdB:=hyt.ok.head;rw[hdv] at hb0 hq hr⊢;refine sR<|sm J J<|sm J J<|sy (iD (z:=⟨y.a,1,y.c⟩) hyt J J (by omega) (by show(0:Int)<((1:Nat):Int);omega)) J<|sy (iF (i:=0) hyt J (by simp)) J<|?_;rw[show [d].getD 0 0=d from J];refine sc (zC J J (awh (x:=⟨x.a,a'.length,x.c⟩) hxt hb0 hdB hq (by omega)) J ?_);rintro _ G5 _ ⟨z,rfl,hz⟩;have hmB:dv a'%d<4294967296:=qZ (cS _ hb0) hdB;refine sm J J<|sx J J J<|sx J J J<|sa J J<|sa J J<|zE<|sR<|sm J J<|sm J J<|sy (gF J) J<|?_;refine sc (zC J J (Ia (by omega)) J ?_);rintro _ G6 _ ⟨r,rfl,hr6⟩;refine sa J J<|sa J J<|sa J J<|zE<|du<|?_;exact zD (.tmp J (.tmp J (.tmp J .nil))) ⟨z,r,J,hz.up,hr6.mono hr⟩
 have hb2:2<=b'.length:=by omega
 refine zK<|sR<|sm J J<|sm J J<|?_;refine sc (zC J J (TS (x:=⟨x.a,a'.length,x.c⟩) (y:=⟨y.a,b'.length,y.c⟩) hxt hyt hna hnb hb2 hle hq hr (by omega)) J ?_);rintro _ G7 _ ⟨z,r,rfl,hz,hr7⟩;refine sm J J<|sx J J J<|sx J J J<|sa J J<|sa J J<|zE<|sR<|sm J J<|sm J J<|sa J J<|sa J J<|sa J J<|zE<|?_;refine du<|?_;exact zD (.tmp J (.tmp J (.tmp J .nil))) ⟨z,r,J,hz,hr7⟩
def lm{u k:Nat}(h:u<2^k):32*(dg u).length<=k+31:=Ko (ew u).2.2 (by rw[(ew u).1];exact h)
def gg.dvl{k:Nat}{G:Gh}{x:SV}{v:Nat}(_:gg k G x v):dv (dg v)=v:=(ew v).1
structure Xk where
 a:SV
 b:SV
 u:Nat
 v:Nat
def aBO{A B G:Gh}{x y:SV}{a b:List Nat}{k k0:Nat}(hx:cv A x a)(hy:cv B y b)[GL A G][GL B G](ha:dv a<2^k0)(hb:dv b<2^k0)(hk0:k0<=1099511627776)
  (hg0:Nat.gcd (dv a) (dv b)<2^k)(hl:a.length<=112589990684)(hl2:b.length<=112589990684):
  Fn prog 128 [x.v,y.v] G (fun v G'=> ∃z:SV,v=z.v/\gg k G' z (Nat.gcd (dv a) (dv b))):=by
 refine Fn.intro func128 J J ntmps128 J ?_;intro C _ _;refine sR<|sa J J<|zE<|sR<|sm J J<|?_;refine sc (zC J J (HB hx ha) J ?_);rintro _ G1 _ ⟨x1,rfl,hx1⟩;refine sm J J<|?_;refine sc (zC J J (HB hy hb) J ?_);rintro _ G2 _ ⟨y1,rfl,hy1⟩;generalize dv a=ua at*;generalize dv b=ub at*;refine sa J J<|sa J J<|zE<|bw<|d9<|?_;refine l8 (X:=Xk) (fun q=>[(0, .slice q.a.a q.a.n q.a.c),(1, .slice q.b.a q.b.n q.b.c)]) (fun _=>[]) (fun q G=>gg k0 G q.a q.u/\gg k0 G q.b q.v/\Nat.gcd q.u q.v=Nat.gcd ua ub) (fun q=>q.v) ⟨x1,y1,ua,ub⟩
  ⟨hx1.up,hy1,J⟩ (.cons J (.cons J .nil)) J ?_
 rintro ⟨p,q,u,v⟩ Gx _ ⟨hp,hq,hgc⟩;simp only[] at hp hq hgc⊢;have hpl:=hp.len;have hql:=hq.len;have hpb:=lm hp.lt;have hqb:=lm hq.lt;refine bw<|sR<|sm J J<|c6 J J<|sy (tP J J) J<|sm J J<|?_;refine oI 19 J (fun hg=>?_) (fun hg=>?_)
 .refine ss J J J J<|ss J J J J<|ss J J J J<|sy (rG J J) J<|zE<|rP J<|zK<|d9<|bw<|sR<|sm J J<|?_
  refine c6 J J<|sy (i9 J J) J<|zE<|?_;refine gm J (fun hc1=>?_) (fun hc1=>?_) -- slot 26
  .refine sR<|sm J J<|sa J J<|zE<|du<|?_
   have hv0:v=0:=by
    have:dg v=[]:=bS (by omega);have h2:=hq.dvl;rw[this] at h2;exact h2.symm
   have hue:u=Nat.gcd ua ub:=by rw[<-hgc,hv0,nR]
   exact zD (.tmp J .nil) ⟨p,J,by rw[<-hue] at hg0⊢;exact hp.mono hg0⟩
  have hv0:0<v:=iY fun h=>by
   have h1:dg v=[]:=by rw[h];unfold dg;rfl
   rw[h1] at hql;simp only[fV] at hql;omega
  have hm:=cS u hv0;refine zK<|sR<|sm J J<|sm J J<|?_;refine sc (zC J J (Ht (k1:=k0) (k2:=k0) hp.d hq.d (by rw[hq.dvl];exact hv0) (by rw[hp.dvl];exact fR (kN _ _) hp.lt) (by rw[hp.dvl,hq.dvl];exact qZ hm hq.lt)) J ?_);rintro _ G3 _ ⟨z,r,rfl,hz,hr⟩;rw[hp.dvl,hq.dvl] at hr;refine sm J J<|sx J J J<|sx J J J<|sx J J J<|sa J J<|sa J J<|sa J J<|zE<|d6<|sm J J<|sm J J<|sa J J<|sa J J<|?_;refine zE<|?_;exact jD ⟨q,r,v,u%v⟩ ⟨hq.up,hr,by show Nat.gcd v (u%v)=_;rw[<-hgc,jZ u,tM v u,jZ]⟩ hm (.cons J (.cons J .nil)) J
 refine bC J J (f7 J) J<|bC J J (o4 J) J<|bC J J (tP J J) J<|sy (mp J J) J<|zE<|?_;refine mA J (fun hc=>?_) (fun hc=>?_) -- slot 23
 .have small: ∀{w:Nat},(dg w).length<=2->w<18446744073709551616:=fun{w} h=>by
   have h1:=jx (ew w).2.1;rw[(ew w).1] at h1;exact dY h1 (cY (bU (by decide) h) (by decide))
  have hu64:u<18446744073709551616:=small (by omega);have hv64:v<18446744073709551616:=small (by omega);refine jO<|e7<|e7<|jw<|sR<|sm J J<|?_;refine sc (zC J J (Fw hp.d) J ?_);rintro _ G4 _ rfl;rw[hp.dvl,if_pos hu64];refine sm J J<|sx J J J<|sx J J J<|sa J J<|sa J J<|zE<|sR<|sm J J<|?_;refine sc (zC J J (Fw hq.d) J ?_);rintro _ G5 _ rfl;rw[hq.dvl,if_pos hv64];refine sm J J<|sx J J J<|sx J J J<|sa J J<|sa J J<|zE<|bw<|d9<|?_;refine l8 (X:=Nat×Nat) (fun q=>[(8, .int .u64 (q.1:Nat)),(10, .int .u64 (q.2:Nat))]) (fun _=>[]) (fun q _=>q.1<18446744073709551616/\q.2<18446744073709551616/\Nat.gcd q.1 q.2=Nat.gcd ua ub) (fun q=>q.2) (u,v)
   ⟨hu64,hv64,hgc⟩ (.cons J (.cons J .nil)) J ?_
  rintro ⟨u1,v1⟩ Gy _ ⟨hu1,hv1,hgc1⟩;simp only[] at hu1 hv1 hgc1⊢;refine bw<|sR<|sm J J<|sy (vt J J) J<|zE<|?_;refine mA J (fun hc5=>?_) (fun hc5=>?_) -- slot 48
  .refine jO<|e7<|e7<|jw<|sR<|sm J J<|?_
   refine sc (zC J J (Ia hu1) J ?_);rintro _ G6 _ ⟨z,rfl,hz⟩;refine sa J J<|zE<|du<|?_;have hv0:v1=0:=by omega
   have hue:u1=Nat.gcd ua ub:=by rw[<-hgc1,hv0,nR]
   exact zD (.tmp J .nil) ⟨z,J,by rw[<-hue] at hg0⊢;exact hz.mono hg0⟩
  have hv0:0<v1:=by omega
  refine zK<|d9<|dr (fun _=>false) [(0,true),(1,true),(2,true),(3,true),(4,true),(5,true)] follows (by kernel_rfl)<|dM J J J<|dM J J J<|?_;refine dM J J J<|dy J (fun _=>xW J J) J J<|dA J J J<|dA J J J<|dn<|?_;exact jD (v1,u1%v1) ⟨hv1,qZ (cS _ hv0) hv1,by show Nat.gcd v1 (u1%v1)=_;rw[<-hgc1,jZ u1,tM v1 u1,jZ]⟩ (by show u1%v1<v1;exact cS _ hv0) (.cons J (.cons J .nil)) J
 refine zK<|d9<|bw<|sR<|sm J J<|?_;refine c6 J J<|sy (i9 J J) J<|zE<|?_;refine gm J (fun hc1=>?_) (fun hc1=>?_) -- slot 26
 .refine sR<|sm J J<|sa J J<|zE<|du<|?_
  have hv0:v=0:=by
   have:dg v=[]:=bS (by omega);have h2:=hq.dvl;rw[this] at h2;exact h2.symm
  have hue:u=Nat.gcd ua ub:=by rw[<-hgc,hv0,nR]
  exact zD (.tmp J .nil) ⟨p,J,by rw[<-hue] at hg0⊢;exact hp.mono hg0⟩
 have hv0:0<v:=iY fun h=>by
  have h1:dg v=[]:=by rw[h];unfold dg;rfl
  rw[h1] at hql;simp only[fV] at hql;omega
 have hm:=cS u hv0;refine zK<|sR<|sm J J<|sm J J<|?_;refine sc (zC J J (Ht (k1:=k0) (k2:=k0) hp.d hq.d (by rw[hq.dvl];exact hv0) (by rw[hp.dvl];exact fR (kN _ _) hp.lt) (by rw[hp.dvl,hq.dvl];exact qZ hm hq.lt)) J ?_);rintro _ G3 _ ⟨z,r,rfl,hz,hr⟩;rw[hp.dvl,hq.dvl] at hr;refine sm J J<|sx J J J<|sx J J J<|sx J J J<|sa J J<|sa J J<|sa J J<|zE<|d6<|sm J J<|sm J J<|sa J J<|sa J J<|?_;refine zE<|?_;exact jD ⟨q,r,v,u%v⟩ ⟨hq.up,hr,by show Nat.gcd v (u%v)=_;rw[<-hgc,jZ u,tM v u,jZ]⟩ hm (.cons J (.cons J .nil)) J
structure IV where
 neg:Bool
 a:SV
def IV.v(z:IV):Value:= .agg ⟨[.bool z.neg, .slice z.a.a z.a.n z.a.c]⟩
def zv(neg:Bool)(u:Nat):Int:=if neg then-(u:Int) else u
def rx(neg:Bool)(u:Nat):(zv neg u).natAbs=u:=by cases neg<;>simp[zv]
def Vp(neg:Bool)(u:Nat):zv (!neg) u= -zv neg u:=by cases neg<;>simp[zv]
def OM(n m:Bool)(u w:Nat):zv (n !=m) (u*w)=zv n u*zv m w:=by cases n<;>cases m<;>simp[zv,Int.neg_mul,sM]
def QR(neg:Bool)(u:Nat):decide (zv neg u<0)=(neg&&decide (0<u)):=by
 cases neg<;>simp[zv]
def ml(m:Int):zv (decide (m<0)) m.natAbs=m:=by
 unfold zv;by_cases h:m<0<;>simp[h]<;>omega
structure wl (k:Nat) (G:Gh) (z:IV) (m:Int):Prop where
 neg:z.neg=decide (m<0)
 abs:gg k G z.a m.natAbs
def apa(n:Bool)(u w:Nat):zv n (u+w)=zv n u+zv n w:=by cases n<;>simp[zv]<;>omega
def HM(p:Int):IntKind.i64.wrap p=(p+9223372036854775808)%18446744073709551616-9223372036854775808:=by
 have e:IntKind.i64.wrap p=if(true&&decide (p%2^64>=2^(64-1)))=true then p%2^64-2^64 else p%2^64:=J
 rw[e,show(2:Int)^64=18446744073709551616 by decide,show(2:Int)^(64-1)=9223372036854775808 by decide,Bool.true_and];by_cases h:p%18446744073709551616>=9223372036854775808
 .rw[decide_eq_true h,if_pos J];omega
 .rw[decide_eq_false h,if_neg (by decide)];omega
structure RV where
 n:Int
 d:Int
 p:Option Addr
def RV.v(z:RV):Value:= .agg ⟨[.int .i64 z.n, .int .i64 z.d, .pointer z.p]⟩
structure T9 (z:RV) (q:Rat):Prop where
 p:z.p=none
 n:z.n=q.num
 d:z.d=(q.den:Int)-1
 b1:q.num.natAbs<4611686018427387904
 b2:q.den<4611686018427387904
structure Wl (k:Nat) (G:Gh) (z:RV) (q:Rat):Prop where
 n:z.n=0
 d:z.d=0
 ex: ∃(b:Nat) (x:IV) (y:SV),z.p=some ⟨b,0,none⟩/\G b=some [.bool x.neg, .slice x.a.a x.a.n x.a.c, .slice y.a y.n y.c]/\wl k G x q.num/\gg k G y q.den
 no: ¬(q.num.natAbs<4611686018427387904/\q.den<4611686018427387904)
def wC(k:Nat)(G:Gh)(z:RV)(q:Rat):Prop:=q.num.natAbs<2^k/\q.den<2^k/\(T9 z q\/Wl k G z q)
def XC{neg:Bool}{u g:Nat}(h:g∣u):zv neg (u/g)=zv neg u/(g:Int):=by
 cases neg
 .simp[zv]
 .simp only[zv,if_true]
  rw[Int.neg_ediv_of_dvd (rY.2 h),qJ]
def MV{m:Int}{e:Nat}(he:0<e):(mkRat m e).num=m/((Nat.gcd m.natAbs e:Nat):Int)/\(mkRat m e).den=e/Nat.gcd m.natAbs e:=by
 rw[Rat.num_mkRat,Rat.den_mkRat,if_neg (by omega),if_neg (by omega),jZ];exact⟨J,J⟩
def TE{x:Nat}:(((bl x:Nat):Int)<=62)↔x<4611686018427387904:=by
 have:bl x<=62↔x<2^62:=o8;omega
structure aJe where
 x:SV
 y:SV
 ds:List Nat
 es:List Nat

def X2{G:Gh}{x y:Nat}(hx:x<18446744073709551616)(hy:y<18446744073709551616):Fn prog 117 [.int .u64 (x:Nat), .int .u64 (y:Nat)] G (fun v _=>v= .tuple #[.int .u64 ((x*y/18446744073709551616:Nat):Int), .int .u64 ((x*y%18446744073709551616:Nat):Int)]):=
 Fn.of_calls (G:=G) (NP func117 J J) (fun w=>Tryz.bits_Mul64 x y hx hy w)
def Q4(a b:Int):a*b=if(a<0)↔(b<0) then((a.natAbs*b.natAbs:Nat):Int) else-((a.natAbs*b.natAbs:Nat):Int):=by
 rcases(by omega:a<0\/0<=a) with h|h<;>rcases(by omega:b<0\/0<=b) with h2|h2
 .rw[if_pos (by simp[h,h2]),jJ,lU (qX h),lU (qX h2),Int.neg_mul_neg]
 .rw[if_neg (by simp[h];omega),jJ,lU (qX h),oK h2,Int.neg_mul,Int.neg_neg]
 .rw[if_neg (by simp[h2];omega),jJ,oK h,lU (qX h2),sM,Int.neg_neg]
 .rw[if_pos (by constructor<;>intro<;>omega),jJ,oK h,oK h2]
def TP{p:Int}(h:p.natAbs<9223372036854775808):IntKind.i64.wrap p=p:=by rw[HM];omega

def Y1{n:Int}{d:Nat}(h:n<0):mkRat (-(d:Int)) n.natAbs=Rat.divInt (d:Int) n:=by
 rw[<-Rat.divInt_ofNat,lU (qX h),Rat.neg_divInt_neg]
def Pe{q:Rat}(h:q.num<0):(q⁻¹).num= -(q.den:Int)/\(q⁻¹).den=q.num.natAbs:=by
 rw[Rat.num_inv,Rat.den_inv,if_neg (by omega),eJ h];omega
def N3{q:Rat}(h:0<q.num):(q⁻¹).num=(q.den:Int)/\(q⁻¹).den=q.num.natAbs:=by
 rw[Rat.num_inv,Rat.den_inv,if_neg (by omega),dS h];omega
def B6{q:Rat}(h:q.den=1:=by omega):q=(q.num:Int):=by
 conv=>lhs;rw[<-tY q,h,sY]
def bg(a b:Rat):Int:=if a<b then-1 else if b<a then 1 else 0
def FU(a b:Rat):(a-b).num<0↔a<b:=by
 rw[<-tU,Rat.le_iff_sub_nonneg,<-tT];omega
def Ln(a b:Rat):0<(a-b).num↔b<a:=by
 have h:=FU b a;have h2:(b-a).num= -(a-b).num:=by rw[<-nK,Rat.neg_sub]
 rw[h2] at h;rw[<-h];omega
def Ck(a b:Rat):Int.sign (a-b).num=bg a b:=by
 unfold bg;split
 .rename_i h;exact eJ ((FU a b).2 h)
 .rename_i h
  split
  .rename_i h2;exact dS ((Ln a b).2 h2)
  .rename_i h2
   rw[<-FU] at h;rw[<-Ln] at h2;rw[show(a-b).num=0 by omega];rfl
def MG{a b:Rat}(h:a.den=b.den:=by omega):a<b↔a.num<b.num:=by
 rw[Rat.lt_iff,h];have:(0:Int)<b.den:=by have:=b.den_pos;omega
 exact⟨fun h2=>Int.lt_of_mul_lt_mul_right h2 (qX this),fun h2=>Int.mul_lt_mul_of_pos_right h2 this⟩
def tc(a b:Rat):bg a b=0↔a=b:=by
 unfold bg;constructor
 .intro h
  split at h
  .omega
  .rename_i h1
   split at h
   .omega
   .rename_i h2
    exact Rat.le_antisymm (tL.1 h2) (tL.1 h1)
 .intro h
  subst h;rw[if_neg (tL.2 fN),if_neg (tL.2 fN)]
def R2(a b:Rat):0<bg a b↔b<a:=by
 unfold bg;constructor
 .intro h
  split at h
  .omega
  .split at h
   .assumption
   .omega
 .intro h
  rw[if_neg (fun h2=>tL.2 (dQ h) h2),if_pos h];decide
def SH(a b:Rat):bg a b<0↔a<b:=by
 unfold bg;constructor
 .intro h
  split at h
  .assumption
  .split at h<;>omega
 .intro h
  rw[if_pos h];decide
def rgcd(a b:Rat):Rat:=mkRat ((Nat.gcd (a.num.natAbs*b.den) (b.num.natAbs*a.den):Nat):Int) (a.den*b.den)
def Ar(a b:Int):rgcd a b=((Nat.gcd a.natAbs b.natAbs:Nat):Int):=by
 unfold rgcd;show mkRat ((Nat.gcd (a.natAbs*1) (b.natAbs*1):Nat):Int) (1*1)=_;rw[iU,iU,iU,sY]
def aGm{a b m:Nat}(ha:a<m)(hb:b<m):Nat.gcd a b<m:=by
 rcases fT a with h|h
 .rw[h,Nat.gcd_zero_left];exact hb
 .exact fR (Nat.gcd_le_left _ h) ha
structure LV where
 a:RV
 b:RV
 c:RV
def LV.v(z:LV):Value:= .agg ⟨[.int .i64 z.a.n, .int .i64 z.a.d, .pointer z.a.p, .int .i64 z.b.n, .int .i64 z.b.d, .pointer z.b.p, .int .i64 z.c.n, .int .i64 z.c.d, .pointer z.c.p]⟩
structure ab where
 a:Int
 b:Int
 c:Int
structure FY (k:Nat) (G:Gh) (z:LV) (l:ab):Prop where
 a:wC k G z.a (l.a:Rat)
 b:wC k G z.b (l.b:Rat)
 c:wC k G z.c (l.c:Rat)
def ab.ok(l:ab):Prop:= ¬(l.a=0/\l.b=0)/\Nat.gcd (Nat.gcd l.a.natAbs l.b.natAbs) l.c.natAbs=1
def okI(neg:Bool)(ds:List Nat):Prop:=eo ds/\(neg=true->ds≠[])
structure PV where
 x:RV
 y:RV
def PV.v(z:PV):Value:= .agg ⟨[.int .i64 z.x.n, .int .i64 z.x.d, .pointer z.x.p, .int .i64 z.y.n, .int .i64 z.y.d, .pointer z.y.p]⟩
structure aa where
 x:Rat
 y:Rat
structure IsP (k:Nat) (G:Gh) (z:PV) (p:aa):Prop where
 x:wC k G z.x p.x
 y:wC k G z.y p.y
def F0(a:Int): -(a:Rat)=((-a:Int):Rat):=rfl
def ab.rev(l:ab):ab:=⟨-l.a, -l.b, -l.c⟩
def ab.nor(l:ab):aa:=⟨l.a,l.b⟩
def ab.dir(l:ab):aa:=⟨l.b, -(l.a:Rat)⟩
def aa.dot(p q:aa):Rat:=p.x*q.x+p.y*q.y
def aa.cross(p q:aa):Rat:=p.x*q.y-p.y*q.x
def aa.scale(p:aa)(c:Rat):aa:=⟨p.x*c,p.y*c⟩
def aa.add(p q:aa):aa:=⟨p.x+q.x,p.y+q.y⟩
def ab.value(l:ab)(p:aa):Rat:=l.nor.dot p+(l.c:Rat)
def ab.base(l:ab):aa:=l.nor.scale (-(l.c:Rat)/l.nor.dot l.nor)
def ab.at(l:ab)(t:Rat):aa:=l.base.add (l.dir.scale t)
end Go.Sx
end
section
namespace Go.Sx
open Go
def dU(d:Nat):DV:= .v (.int .u32 (d:Int))
def fC(ds:List Nat):DV:= .sl (ds.map dU)
def dN(n:Nat):DV:= .sl ((dg n).map dU)
def dD(n:Nat):DV:= .sl (if n=1 then [] else(dg n).map dU)
def eI(m:Int):DV:= .ag [.v (.bool (decide (m<0))),dN m.natAbs]
def eQ(q:Rat):DV:= .ag [.v (.bool (decide (q.num<0))),dN q.num.natAbs,dD q.den]
def eP(p:aa):DV:= .ag [.v (.bool (decide (p.x.num<0))),dN p.x.num.natAbs,dD p.x.den, .v (.bool (decide (p.y.num<0))),dN p.y.num.natAbs,dD p.y.den]
def eL(l:ab):DV:= .ag [.v (.bool (decide (l.a<0))),dN l.a.natAbs, .v (.bool (decide (l.b<0))),dN l.b.natAbs, .v (.bool (decide (l.c<0))),dN l.c.natAbs]
def eR(q:Rat):DV:= .ag [.v (.bool (decide (q.num<0))),dN q.num.natAbs,dN q.den]
def jr(p:aa):DV:= .ag [.v (.bool (decide (p.x.num<0))),dN p.x.num.natAbs,dN p.x.den, .v (.bool (decide (p.y.num<0))),dN p.y.num.natAbs,dN p.y.den]
def vI(n:Int):DV:= .v (.int .i64 n)
def vB(b:Bool):DV:= .v (.bool b)
def Gl(n:Nat):dN n=fC (dg n):=rfl
def TC{ds:List Nat}(h:bi ds):fC (trimD ds)=dN (dv ds):=by unfold fC dN;rw[qc h]
def azI{ds:List Nat}{i:Nat}(h:i<ds.length):(ds.map dU)[i]? =some (dU (ds.getD i 0)):=by
 rw[cK,aQ h,aX,aQ h];rfl
def nn{ds:List Nat}{i:Nat}(h:i<ds.length:=by omega):(ds.map dU)[(i:Int).toNat]? =some (dU (ds.getD i 0)):=by rw[bV];exact azI h
def uO(ds:List Nat)(i d:Nat):(ds.map dU).set i (.v (.int .u32 (d:Int)))=(ds.set i d).map dU:=by rw[kM];rfl
def xm(n:Nat):List.replicate n (DV.v (.int .u32 0))=(List.replicate n 0).map dU:=by rw[List.map_replicate];rfl
def uD(ds:List Nat):cF 1 (ds.map dU):=fun d hd=>by
 obtain⟨n,_,rfl⟩:=bQ.1 hd;exact⟨rfl,rfl⟩
def iu(n:Nat)(i:Nat):(dg n).getD i 0<4294967296:=(ew n).2.1.get i
def yc:dg 0=[]:=by rw[dg,dif_pos J]
def zb:dg 1=[1]:=by rw[dg,dif_neg (by decide)];simp[yc]
def vJ{n:Nat}:(dg n).length=0↔n=0:=by
 constructor
 .intro h
  have:=(ew n).1;rw[bS h] at this;exact this.symm
 .rintro rfl;rw[yc];rfl
def p6:dN 0= .sl []:=by unfold dN;rw[yc];rfl
def D9{G:Gh}: ∀{ds:List Nat} {es:List Value},IsLs G (ds.map dU) es↔es=ds.map dI
 |[],es=>fh
 |d::t,es=>by
  rw[cV,bu];constructor
  .rintro ⟨y,n,rfl,h1,h2⟩
   rw[bc.1 h1,D9.1 h2];rfl
  .rintro rfl
   exact⟨_,_,J,bc.2 J,D9.2 J⟩
def QM{G:Gh}{ds:List Nat}{v:Value}:Is G (fC ds) v↔ ∃x:SV,v= .slice x.a x.n x.c/\fe G 1 x (ds.map dI):=by
 unfold fC;rw[iG];constructor
 .rintro ⟨s,x,es,rfl,h1,h2⟩
  have:=D9.1 h2;subst this;refine⟨x,J,?_⟩;rcases A7 (s:=1) h1 h2 (uD ds) with h|h
  .rw[h] at h1⊢
   exact⟨h1.len,h1.cap, .inl J⟩
  .subst h;exact h1
 .rintro ⟨x,rfl,h⟩
  exact⟨1,x,_,J,h,D9.2 J⟩
def aH0{G:Gh}{n k:Nat}{v:Value}(hk:n<2^k):Is G (dN n) v↔ ∃x:SV,v= .slice x.a x.n x.c/\gg k G x n:=by
 rw[Gl,QM];constructor
 .rintro ⟨x,rfl,h⟩
  exact⟨x,J,⟨(ew n).2.1,h⟩,hk⟩
 .rintro ⟨x,rfl,h⟩
  exact⟨x,J,h.d.sl⟩
def gP{ds:List Nat}{i:Int}{k:Nat}(hi:i=k:=by omega)(h:k<ds.length:=by omega):(ds.map dU)[i.toNat]? =some (dU (ds.getD k 0)):=by subst hi;exact nn h
class BN (n:Nat) (k:outParam Nat):Prop where h:n<2^k
class BI (m:Int) (k:outParam Nat):Prop where h:m.natAbs<2^k
class BQ (q:Rat) (k:outParam Nat):Prop where
 hn:q.num.natAbs<2^k
 hd:q.den<2^k
theorem BN.mono{n k k':Nat}(h:BN n k)(hk:k<=k'):BN n k':=⟨dY h.h (bU (by decide) hk)⟩
def qe{a b i j:Nat}(h:a<2^i)(k:b<2^j):a*b<2^(i+j):=by rw[fK];exact pX h k
def Dt{a b i j:Nat}(h:a<2^i)(k:b<2^j):a+b<2^(i+j+1):=by
 have h1:2^i<=2^(i+j):=bU (by decide) (by omega);have h2:2^j<=2^(i+j):=bU (by decide) (by omega);rw[fL];omega
instance BN.mul (a b i j:Nat) [h:BN a i] [k:BN b j]:BN (a*b) (i+j):=⟨qe h.h k.h⟩
instance BN.add (a b i j:Nat) [h:BN a i] [k:BN b j]:BN (a+b) (i+j+1):=⟨Dt h.h k.h⟩
instance BN.sub (a b i:Nat) [h:BN a i]:BN (a-b) i:=⟨by have:=h.h;omega⟩
instance BN.div (a b i:Nat) [h:BN a i]:BN (a/b) i:=⟨fR (kN _ _) h.h⟩
instance BN.abs (m:Int) (i:Nat) [h:BI m i]:BN m.natAbs i:=⟨h.h⟩
instance BN.den (q:Rat) (i:Nat) [h:BQ q i]:BN q.den i:=⟨h.hd⟩
def FJ{a b i j:Nat}(h:a<2^i)(k:b<2^j):Nat.gcd a b<2^(i+j):=by
 have h1:2^i<=2^(i+j):=bU (by decide) (by omega);have h2:2^j<=2^(i+j):=bU (by decide) (by omega);rcases fT a with h0|h0
 .subst h0;rw[Nat.gcd_zero_left];omega
 .have:=Nat.gcd_le_left b h0;omega
instance BN.gcd (a b i j:Nat) [h:BN a i] [k:BN b j]:BN (Nat.gcd a b) (i+j):=⟨FJ h.h k.h⟩
instance BN.one:BN 1 1:=⟨by decide⟩
instance BN.zero:BN 0 0:=⟨by decide⟩
instance BI.mul (a b:Int) (i j:Nat) [h:BI a i] [k:BI b j]:BI (a*b) (i+j):=⟨by rw[jV];exact qe h.h k.h⟩
instance BI.add (a b:Int) (i j:Nat) [h:BI a i] [k:BI b j]:BI (a+b) (i+j+1):=⟨fR (Int.natAbs_add_le a b) (Dt h.h k.h)⟩
instance BI.sub (a b:Int) (i j:Nat) [h:BI a i] [k:BI b j]:BI (a-b) (i+j+1):=⟨fR (Int.natAbs_sub_le a b) (Dt h.h k.h)⟩
instance BI.neg (a:Int) (i:Nat) [h:BI a i]:BI (-a) i:=⟨by rw[iX];exact h.h⟩
instance BI.num (q:Rat) (i:Nat) [h:BQ q i]:BI q.num i:=⟨h.hn⟩
instance BI.nat (n:Nat) (i:Nat) [h:BN n i]:BI (n:Int) i:=⟨by rw[jR];exact h.h⟩
def mO(q:Rat):0<q.den:=iY q.den_nz
theorem wG{m:Int}{d i:Nat}(hd:0<d)(h:m.natAbs<2^i)(k:d<2^i:=by decide):BQ (mkRat m d) i:=by
 refine⟨?_,?_⟩
 .rw[Rat.num_mkRat,if_neg (by omega)]
  have:=nN m (d.gcd m.natAbs:Nat);omega
 .rw[Rat.den_mkRat,if_neg (by omega)]
  have:=kN d (d.gcd m.natAbs);omega
theorem BQ.mono{q:Rat}{k k':Nat}(h:BQ q k)(hk:k<=k':=by decide):BQ q k':=⟨dY h.hn (bU (by decide) hk),dY h.hd (bU (by decide) hk)⟩
def AY(p q:Rat):p*q=mkRat (p.num*q.num) (p.den*q.den):=by rw[Rat.mul_def,Rat.normalize_eq_mkRat]
def Br(p q:Rat):p+q=mkRat (p.num*q.den+q.num*p.den) (p.den*q.den):=by rw[Rat.add_def,Rat.normalize_eq_mkRat]
instance BQ.mul (p q:Rat) (i j:Nat) [h:BQ p i] [k:BQ q j]:BQ (p*q) (i+j):=by
 rw[AY];exact wG (iT (mO p) (mO q)) (BI.mul p.num q.num i j).h (qe h.hd k.hd)
instance BQ.add (p q:Rat) (i j:Nat) [h:BQ p i] [k:BQ q j]:BQ (p+q) (i+j+1):=by
 rw[Br];refine wG (iT (mO p) (mO q)) ?_ ?_
 .have h1:=qe h.hn k.hd
  have h2:=qe k.hn h.hd;have h3:(p.num*q.den+q.num*p.den).natAbs<=(p.num*q.den).natAbs+(q.num*p.den).natAbs:=Int.natAbs_add_le ..;rw[jV,jV,jR,jR] at h3;rw[kJ j i] at h2;rw[fL];omega
 .have h1:=qe h.hd k.hd
  rw[fL];omega
instance BQ.neg (p:Rat) (i:Nat) [h:BQ p i]:BQ (-p) i:=⟨by rw[nK,iX];exact h.hn,by rw[pM];exact h.hd⟩
instance BQ.sub (p q:Rat) (i j:Nat) [h:BQ p i] [k:BQ q j]:BQ (p-q) (i+j+1):=by
 rw[Rat.sub_eq_add_neg];exact BQ.add p (-q) i j
instance BQ.ofInt (m:Int) (i:Nat) [h:BI m i]:BQ (m:Rat) (i+1):=by
 refine⟨?_,?_⟩
 .rw[rQ];have:=h.h;rw[fL];omega
 .rw[rZ];have:0<2^i:=fU (by decide);rw[fL];omega
end Go.Sx
end
section
namespace Go.Sx
open Go Go.Proofs Tryz
variable {GB:Gh}
def Cm(p q:Int):Nat:=(BitVec.ofInt 32 p &&& BitVec.ofInt 32 q).toNat
def Hf(p q:Int):Nat:=(BitVec.ofInt 32 p ||| BitVec.ofInt 32 q).toNat
def z8(p q:Int):Nat:=(BitVec.ofInt 32 p^^^BitVec.ofInt 32 q).toNat
def X4{ds:List Nat}{n:Nat}(h:0<n/\n<=ds.length)(hz:ds.getD (n-1) 0=0):trimD (ds.take n)=trimD (ds.take (n-1)):=by
 obtain⟨m,rfl⟩: ∃m,n=m+1:=⟨n-1,by omega⟩;rw[gJ (by omega),lZ];rw[lZ,aX,aQ (by omega)] at hz;simp only[iK] at hz;rw[hz,QO]
def atz{ds:List Nat}{n:Nat}(h:n<=ds.length)(hz:0<n->ds.getD (n-1) 0≠0):trimD (ds.take n)=ds.take n:=by
 rcases fT n with h0|h0
 .subst h0;simp[trimD]
 .obtain⟨m,rfl⟩: ∃m,n=m+1:=⟨n-1,by omega⟩
  have hz:=hz h0;rw[gJ (by omega)];rw[lZ,aX,aQ (by omega)] at hz;exact JO (by simpa using hz)
def Tn{x y c:Nat}(hx:x<4294967296)(hy:y<4294967296)(hc:c<=1):PF GB prog 273 [.v (.int .u32 (x:Int)), .v (.int .u32 (y:Int)), .v (.int .u32 (c:Int))] (.tp [.v (.int .u32 (((x+y+c)%4294967296:Nat):Int)), .v (.int .u32 (((x+y+c)/4294967296:Nat):Int))]):=by
 refine fn (hv:=by simp only[ah];exact⟨⟨⟨⟨⟨by omega,by omega⟩,by omega⟩,by omega⟩,by omega⟩,(by decide)⟩) func273 J J ntmps273 J J (fun C=>?_);exact rz J (by
  have e1:((x:Int)+y+c)%4294967296=(((x+y+c)%4294967296:Nat):Int):=by omega
  have e2:((x:Int)+y+c).fdiv (2^min (32:Int).toNat IntKind.u64.bits)%4294967296=(((x+y+c)/4294967296:Nat):Int):=by
   rw[show(2:Int)^min (32:Int).toNat IntKind.u64.bits=((4294967296:Nat):Int) from J,gM _ (by decide)];omega
  show DV.tp [.v (.int _ _), .v (.int _ _)]=_;rw[e1,e2])
def Im(n:Nat)(h:n<4294967296):(BitVec.ofInt 32 (n:Int)).msb=decide (2147483648<=n):=by
 rw[show BitVec.ofInt 32 (n:Int)=BitVec.ofNat 32 n from BitVec.ofInt_natCast ..];rw[BitVec.msb_eq_decide,BitVec.toNat_ofNat,dV (by simpa using h)]
def Uo(b:BitVec 32):b.toNat/2147483648=if b.msb then 1 else 0:=by
 have:=b.isLt;rw[BitVec.msb_eq_decide];simp only[decide_eq_true_eq,Nat.reduceSub,Nat.reducePow] at*;split<;>omega
def akL(b:BitVec 32):BitVec.ofInt 32 (b.toNat:Int)=b:=by rw[BitVec.ofInt_natCast,BitVec.ofNat_toNat,BitVec.setWidth_eq]
def UM{x y c:Nat}(hx:x<4294967296)(hy:y<4294967296)(hc:c<=1):
  ((Hf (Cm (z8 IntKind.u32.max x:Nat) y:Nat) (Cm (z8 IntKind.u32.max (z8 x y:Nat):Nat) (IntKind.u32.wrap (IntKind.u32.wrap ((x:Int)-y)-c)):Nat):Nat):Int).fdiv (2^min (31:Int).toNat IntKind.u32.bits)=(((if x<y+c then 1 else 0):Nat):Int):=by
 rw[show((2:Int)^min (31:Int).toNat IntKind.u32.bits)=((2147483648:Nat):Int) from J,gM _ (by decide),<-qJ];congr 1;have hd: ∃d:Nat,d<4294967296/\IntKind.u32.wrap (IntKind.u32.wrap ((x:Int)-y)-c)=(d:Int)/\((x>=y+c/\d=x-(y+c))\/(x<y+c/\d=x+4294967296-(y+c))):=by
  rw[qA,qA];refine⟨((((x:Int)-y)%4294967296-c)%4294967296).toNat,by omega,by omega,by omega⟩
 obtain⟨d,hd1,hd2,hd3⟩:=hd;rw[hd2];unfold Hf Cm z8;simp only[akL];rw[Uo];simp only[BitVec.msb_or,BitVec.msb_and,BitVec.msb_xor,Im x hx,Im y hy,Im d hd1];have h1:(BitVec.ofInt 32 IntKind.u32.max).msb=true:=by decide
 rw[h1];rcases iL x 2147483648 with a|a<;>rcases iL y 2147483648 with b|b<;>rcases iL d 2147483648 with e|e<;>
  simp[Nat.not_le.2, *]<;>(first|omega|(split<;>omega))
def VU{x y c:Nat}(hx:x<4294967296)(hy:y<4294967296)(hc:c<=1):IntKind.u32.wrap (IntKind.u32.wrap ((x:Int)-y)-c)=(((if x<y+c then x+4294967296-(y+c) else x-(y+c)):Nat):Int):=by
 rw[qA,qA];split<;>omega
def aEl{x y c:Nat}(hx:x<4294967296)(hy:y<4294967296)(hc:c<=1):PF GB prog 274 [.v (.int .u32 (x:Int)), .v (.int .u32 (y:Int)), .v (.int .u32 (c:Int))] (.tp [.v (.int .u32 (((if x<y+c then x+4294967296-(y+c) else x-(y+c)):Nat):Int)), .v (.int .u32 (((if x<y+c then 1 else 0):Nat):Int))]):=by
 refine fn (fu:=⟨10⟩) func274 J J ntmps274 J J (fun C=>?_);refine sw (fu:=⟨1⟩) _ J (qA _).symm J<|sw (fu:=⟨6⟩) _ J (qA _).symm J<|nt (fu:=⟨4⟩) _ J J J<|xr (fu:=⟨0⟩) _ J J J<|nt _ J J J<|?_;exact rz J (by have h1:=UM hx hy hc;unfold Hf Cm z8 at h1;show DV.tp [.v (.int _ _), .v (.int _ _)]=_;rw[h1,VU hx hy hc])
def rE{ds:List Nat}(hl:ds.length<=1125899906842624:=by omega):PF GB prog 175 [fC ds] (fC (trimD ds)):=by
 refine fn func175 J J ntmps175 J J (fun C=>?_);refine lp (X:=Nat) (fun n=>[(0, .d (fC ds)),(3, .d (vI (n:Nat)))]) (fun n=>[]) (fun n=>n<=ds.length/\trimD ds=trimD (ds.take n)) (fun n=>n) ds.length J ⟨aM _,by rw[dW]⟩ (fun _=>J) (fun n hk=>?_);obtain⟨h1,h2⟩:=hk;refine cs 8 J J J (fun hg8=>?_) (fun hg8=>?_)
 .
  refine ix _ J (gP (k:=n-1)) J<|?_;refine br J J J (fun hc15=>?_) (fun hc15=>?_)
  .
   have hz:ds.getD (n-1) 0=0:=by omega
   exact at_ (n-1) ⟨⟨by omega,by rw[h2,X4 (by omega) hz]⟩,(by omega)⟩
  .
   refine ni 0 n _ J J J J (uD _) (by omega) (by simp;omega) J<|?_;exact rz J (by have:=atz h1 (fun _ h=>hc15 (by omega));rw[<-h2] at this;show DV.sl _=_;simp[fC,this])
 .
  refine ni 0 n _ J J J J (uD _) (by omega) (by simp;omega) J<|?_;exact rz rfl (by obtain rfl:n=0:=(by omega);show DV.sl _=_;simp[fC,h2,trimD])
def vD{a k:Nat}(h:a<2^k)(hk:k<=1000000000):(dg a).length<=100000000:=by have:=lm h;omega
def cj(a:Nat):dv (dg a)=a:=(ew a).1
def lc(a:Nat):bi (dg a):=(ew a).2.1
def fp(ds:List Nat):(ds.map dU).length=ds.length:=aJ ..
def pA{ds:List Nat}{n:Nat}(h:ds.length<=n:=by omega):ds.take n=ds:=aS h
def uU{ds:List Nat}{i:Nat}(h:ds.length<=i:=by omega):ds.getD i 0=0:=by
 rw[aX,dX h];rfl
def t7{ds:List Nat}{n:Nat}(h:bi ds)(e:dv ds=n):fC (trimD ds)=dN n:=by rw[TC h,e]
def IN{a b:Nat}(h:a<b):gO a b= -1:=by unfold gO;rw[if_pos h]
def HN{a b:Nat}(h:b<a):gO a b=1:=by unfold gO;rw[if_neg (by omega),if_neg (by omega)]
def Ux{a b:Nat}(h:a=b):gO a b=0:=by unfold gO;rw[if_neg (by omega),if_pos h]
def T7(m n:Nat):Int.sign ((m:Int)-n)=gO m n:=by
 unfold gO;split
 .exact eJ (by omega)
 .split
  .rw[show(m:Int)-n=0 by omega];rfl
  .exact dS (by omega)
def azT{a b:Nat}(h:(dg a).length≠(dg b).length):gO (dg a).length (dg b).length=gO a b:=by
 rcases Nat.lt_or_gt_of_ne h with h|h
 .have:=ud (lc a) (ew b).2.2 h
  rw[cj,cj] at this;rw[IN h,IN this]
 .have:=ud (lc b) (ew a).2.2 h
  rw[cj,cj] at this;rw[HN h,HN this]
def JY{a b i:Nat}(hl:(dg a).length=(dg b).length)(hi:i<(dg a).length)(hs:(dg a).drop (i+1)=(dg b).drop (i+1)):
  ((dg a).getD i 0<(dg b).getD i 0->a<b)/\((dg b).getD i 0<(dg a).getD i 0->b<a)/\((dg a).getD i 0=(dg b).getD i 0->(dg a).drop i=(dg b).drop i):=by
 refine⟨fun h=>?_,fun h=>?_,fun h=>?_⟩
 .have:=CH (lc a) (lc b) i hi (by omega) hl hs h
  rwa [cj,cj] at this
 .have:=CH (lc b) (lc a) i (by omega) hi hl.symm hs.symm h
  rwa [cj,cj] at this
 .rw[bX hi,bX (by omega:i<(dg b).length),hs]
  rw[aX,aX,aQ hi,aQ (by omega:i<(dg b).length)] at h;simp only[iK] at h;rw[h]
def aGz{z:Int}:PF GB prog 222 [vI z] (vI z.sign):=by
 refine fn func222 J J ntmps222 J J (fun C=>?_);refine br J J J (fun hc4=>?_) (fun hc4=>?_)
 .
  exact rz J (by show DV.v (.int _ 1)=DV.v (.int _ _);rw[dS (by omega)])
 .
  refine br J J J (fun hc6=>?_) (fun hc6=>?_)
  .
   exact rz J (by show DV.v (.int _ (-1))=DV.v (.int _ _);rw[eJ (by omega)])
  .
   exact rz J (by show DV.v (.int _ 0)=DV.v (.int _ _);rw[show z=0 by omega];rfl)
def Z4(u:Nat):dv [u%4294967296,u/4294967296]=u:=by simp only[dv];omega
def Ze{u:Nat}(h:u<18446744073709551616):bi [u%4294967296,u/4294967296]:= .cons (by omega) (.cons (by omega) .nil)
def Gu(u:Nat):(u:Int).fdiv (2^min (32:Int).toNat IntKind.u64.bits)=((u/4294967296:Nat):Int):=by
 rw[show(2:Int)^min (32:Int).toNat IntKind.u64.bits=((4294967296:Nat):Int) from J,gM _ (by decide)];rfl
def ut{u:Nat}(hu:u<18446744073709551616:=by omega):PF GB prog 104 [.v (.int .u64 (u:Int))] (dN u):=by
 refine fn (fu:=⟨11⟩) (hv:=by simp only[ah];exact(by decide)) func104 J J ntmps104 J J (fun C=>?_);refine ak 6 (.d (.v (.int .u64 (u/4294967296:Nat)))) J (by rw[Gu]) ?_;refine gx J<|rf (fu:=⟨0⟩) J J<|?_;refine ak 8 (.d (fC [u%4294967296,u/4294967296])) J (by show FX.d (.sl [.v (.int _ _), .v (.int _ _)])= .d (.sl [.v (.int _ _), .v (.int _ _)]);congr 6;omega) ?_;refine gx J<|cl J (rE (ds:=[u%4294967296,u/4294967296]) (by simp)) J<|?_;exact rz J (t7 (Ze hu) (Z4 u))
def E9:PF GB prog 101 [] (dN 1):=by
 refine fn func101 J J ntmps101 J J (fun C=>?_);refine rf J J<|?_;exact rz J (by unfold dN;rw[zb];rfl)
def Au{a b:Nat}(ha:(dg a).length<=100000000:=by omega)(hb:(dg b).length<=100000000:=by omega):PF GB prog 173 [dN a,dN b] (vI (gO a b)):=by
 have hla:=fp (dg a);have hlb:=fp (dg b);refine fn func173 J J ntmps173 J J (fun C=>?_);refine br J J J (fun hc10=>?_) (fun hc10=>?_)
 .
  refine cl J aGz J<|?_;exact rz J (by show DV.v (.int _ _)=DV.v (.int _ _);rw[hla,hlb,T7,azT (by omega)])
 .
  have hl:(dg a).length=(dg b).length:=by omega
  refine lp (X:=Nat) (fun k=>[(0, .d (dN a)),(1, .d (dN b)),(5, .d (vI ((k:Nat)-1)))]) (fun k=>[]) (fun k=>k<=(dg a).length/\(dg a).drop k=(dg b).drop k) (fun k=>k) (dg a).length J ⟨aM _,by rw[fY,hl,fY]⟩ (fun _=>J) (fun k hk=>?_);obtain⟨h1,h2⟩:=hk;refine br J J J (fun hc21=>?_) (fun hc21=>?_)
  .
   obtain⟨k,rfl⟩: ∃m,k=m+1:=⟨k-1,by omega⟩;refine ix _ J (gP (k:=k)) J<|ix _ J (gP (k:=k)) J<|?_;refine br J J J (fun hc32=>?_) (fun hc32=>?_)
   .
    exact rz J (by show DV.v (.int _ 1)=DV.v (.int _ _);rw[HN ((JY hl (by omega) h2).2.1 (by omega))])
   .
    refine ix _ J (gP (k:=k)) J<|ix _ J (gP (k:=k)) J<|?_;refine br J J J (fun hc41=>?_) (fun hc41=>?_)
    .
     exact rz J (by show DV.v (.int _ (-1))=DV.v (.int _ _);rw[IN ((JY hl (by omega) h2).1 (by omega))])
    .
     exact at_ k ⟨⟨by omega,(JY (i:=k) hl (by omega) h2).2.2 (by omega)⟩,(by omega)⟩
  .
   exact rz rfl (by show DV.v (.int _ 0)=DV.v (.int _ _);rw[Ux];obtain rfl:k=0:=(by omega);rw[iZ,iZ] at h2;rw[<-cj a,h2,cj])
def XB{A B W:List Nat}{i c:Nat}(hi:i<W.length)(h:dv (W.take i)+4294967296^i*c=dv (A.take i)+dv (B.take i)):
  dv ((W.set i ((A.getD i 0+B.getD i 0+c)%4294967296)).take (i+1))+4294967296^(i+1)*((A.getD i 0+B.getD i 0+c)/4294967296)=dv (A.take (i+1))+dv (B.take (i+1)):=by
 rw[qx hi,jq A,jq B,fL,show A.getD i 0+B.getD i 0+c=c+A.getD i 0+B.getD i 0 by omega];exact KU h
def Uf{a b n:Nat}{W:List Nat}{c:Nat}(hn:n=max (dg a).length (dg b).length)(hl:W.length=n+1)(h:dv (W.take n)+4294967296^n*c=dv ((dg a).take n)+dv ((dg b).take n)):dv (W.set n c)=a+b:=by
 have e:=qx (ws:=W) (k:=n) (d:=c);rw[pA (by rw[bZ];omega)] at e;rw[e,h,pA,pA,cj,cj]
def XG{a b ia ib:Nat}[ha:BN a ia][hb:BN b ib](hi:ia<=1000000000:=by decide)(hj:ib<=1000000000:=by decide):PF GB prog 253 [dN a,dN b] (dN (a+b)):=by
 have hla:=fp (dg a);have hlb:=fp (dg b);have hba:=vD ha.h hi;have hbb:=vD hb.h hj;refine fn (fu:=⟨12⟩) func253 J J ntmps253 J J (fun C=>?_);obtain⟨n,hn⟩: ∃n,n=max (dg a).length (dg b).length:=⟨_,rfl⟩;refine ak 15 (.d (vI (n:Nat))) J (by show FX.d (.v (.int _ _))= .d (.v (.int _ _));congr 3;split<;>omega) ?_;refine gx J<|mk ((List.replicate (n+1) 0).map dU) J J (by rw[<-xm];rfl) J<|?_;refine lp (X:=List Nat×Nat×Nat) (fun⟨W,c,i⟩=>[(0, .d (dN a)),(1, .d (dN b)),(5, .d (vI (n:Nat))),(6, .rw 18),(7, .d (.v (.int .u32 (c:Nat)))),(8, .d (vI (i:Nat)))]) (fun⟨W,c,i⟩=>[(18,some (.b 182 1 (W.map dU) true))]) (fun⟨W,c,i⟩=>W.length=n+1/\bi W/\c<=1/\i<=n/\dv (W.take i)+4294967296^i*c=dv ((dg a).take i)+dv ((dg b).take i)) (fun⟨W,c,i⟩=>n-i) ⟨List.replicate (n+1) 0,0,0⟩ J ⟨by simp, .replicate _,by omega,by omega,by simp[dv]⟩ (fun _=>J) (fun⟨W,c,i⟩ hk=>?_);dsimp only at hk⊢;obtain⟨h1,h2,h3,h4,h5⟩:=hk;have hlw:=fp W;have hda:=iu a i;have hdb:=iu b i;refine br (fu1:=⟨11⟩) J J J (fun hc21=>?_) (fun hc21=>?_)
 .
  refine mg (fu:=⟨1⟩) (X:=Unit) (fun _=>[(0, .d (dN a)),(1, .d (dN b)),(5, .d (vI (n:Nat))),(6, .rw 18),(7, .d (.v (.int .u32 (c:Nat)))),(8, .d (vI (i:Nat))),(9, .d (dU ((dg a).getD i 0))),(10, .d (.v (.int .u32 0)))]) (fun _=>[(18,some (.b 182 1 (W.map dU) true))]) (fun _=>True) [0,1,5,6,7,8,9,10] [18] rfl ?_ (fun _=>J) (fun _ hm=>?_)
  .
   refine gx J<|?_;refine br J J J (fun hc27=>?_) (fun hc27=>?_)
   .
    refine ix _ J (nn) J<|?_;exact at_ () trivial
   .
    refine ak 9 (.d (dU ((dg a).getD i 0))) J (by rw[uU];rfl) ?_;exact at_ () trivial
  .
   refine mg (X:=Unit) (fun _=>[(0, .d (dN a)),(1, .d (dN b)),(5, .d (vI (n:Nat))),(6, .rw 18),(7, .d (.v (.int .u32 (c:Nat)))),(8, .d (vI (i:Nat))),(9, .d (dU ((dg a).getD i 0))),(10, .d (dU ((dg b).getD i 0)))]) (fun _=>[(18,some (.b 182 1 (W.map dU) true))]) (fun _=>True) [0,1,5,6,7,8,9,10] [18] rfl ?_ (fun _=>J) (fun _ hm=>?_)
   .
    refine gx J<|?_;refine br J J J (fun hc35=>?_) (fun hc35=>?_)
    .
     refine ix _ J (nn) J<|?_;exact at_ () trivial
    .
     refine ak 10 (.d (dU ((dg b).getD i 0))) J (by rw[uU];rfl) ?_;exact at_ () trivial
   .
    refine cl J (Tn (by omega) (by omega) (by omega)) J<|sb _ ((W.set i (((dg a).getD i 0+(dg b).getD i 0+c)%4294967296)).map dU) J (nn) J (by rw[<-uO];rfl) J<|?_;exact at_ ⟨W.set i (((dg a).getD i 0+(dg b).getD i 0+c)%4294967296),((dg a).getD i 0+(dg b).getD i 0+c)/4294967296,i+1⟩ (by dsimp only;exact⟨⟨by simpa using h1,h2.set _ (by omega),by omega,by omega,XB (by omega) h5⟩,(by omega)⟩)
 .
  obtain rfl:i=n:=by omega
  refine sb _ ((W.set i c).map dU) J (nn) J (by rw[<-uO];rfl) J<|fz 18 J J<|cl J (rE (ds:=W.set i c) (by simp;omega)) J<|?_;exact rz J (t7 (h2.set _ (by omega)) (Uf hn h1 h5))
def aze{A B W:List Nat}{i c d c2:Nat}(hA:bi A)(hB:bi B)(hi:i<W.length)(hc:c<=1)(h:dv (W.take i)+dv (B.take i)=dv (A.take i)+4294967296^i*c)
  (hd:d=if A.getD i 0<B.getD i 0+c then A.getD i 0+4294967296-(B.getD i 0+c) else A.getD i 0-(B.getD i 0+c))(hc2:c2=if A.getD i 0<B.getD i 0+c then 1 else 0):
  dv ((W.set i d).take (i+1))+dv (B.take (i+1))=dv (A.take (i+1))+4294967296^(i+1)*c2:=by
 have h1:=hA.get i;have h2:=hB.get i;rw[qx hi,jq A,jq B,fL];split at hd
 .rename_i q
  rw[if_pos q] at hc2;subst hc2 hd;rw[kJ (B.getD i 0) c];exact Rf h
 .rename_i q
  rw[if_neg q] at hc2;subst hc2 hd;rw[kJ (B.getD i 0) c];exact QA h
def az2{a b c:Nat}{W:List Nat}(hw:bi W)(hl:W.length=(dg a).length)(hb:b<=a)(h:dv (W.take (dg a).length)+dv ((dg b).take (dg a).length)=dv ((dg a).take (dg a).length)+4294967296^(dg a).length*c):dv W=a-b:=by
 have hlb:(dg b).length<=(dg a).length:=by
  rcases iL (dg a).length (dg b).length with q|q
  .have:=ud (lc a) (ew b).2.2 q
   rw[cj,cj] at this;omega
  .exact q
 rw[pA,pA hlb,pA (aM _),cj,cj] at h;have h2:=jx hw;rw[hl] at h2;rcases fT c with q|q
 .subst q;omega
 .have:4294967296^(dg a).length*1<=4294967296^(dg a).length*c:=fJ _ q
  omega
def Fz{a b ia:Nat}[ha:BN a ia](hb:b<=a)(hi:ia<=1000000000:=by decide):PF GB prog 254 [dN a,dN b] (dN (a-b)):=by
 have hla:=fp (dg a);have hlb:=fp (dg b);have hba:=vD ha.h hi;refine fn (fu:=⟨9⟩) func254 J J ntmps254 J J (fun C=>?_);refine ak 10 (.d (vI ((dg a).length:Nat))) J (by rw[hla];rfl) ?_;refine gx J<|mk (fu:=⟨13⟩) ((List.replicate (dg a).length 0).map dU) J J (by rw[<-xm];rfl) J<|?_;refine ak 13 (.d (vI ((dg a).length:Nat))) J (by rw[hla];rfl) ?_;refine gx J<|?_;refine lp (X:=List Nat×Nat×Nat) (fun⟨W,c,i⟩=>[(0, .d (dN a)),(1, .d (dN b)),(5, .rw 11),(6, .d (.v (.int .u32 (c:Nat)))),(13, .d (vI ((dg a).length:Nat))),(14, .d (vI (i:Nat)))]) (fun⟨W,c,i⟩=>[(11,some (.b 182 1 (W.map dU) true))]) (fun⟨W,c,i⟩=>W.length=(dg a).length/\bi W/\c<=1/\i<=(dg a).length/\dv (W.take i)+dv ((dg b).take i)=dv ((dg a).take i)+4294967296^i*c) (fun⟨W,c,i⟩=>(dg a).length-i) ⟨List.replicate (dg a).length 0,0,0⟩ J ⟨by simp, .replicate _,by omega,by omega,by simp[dv]⟩ (fun _=>J) (fun⟨W,c,i⟩ hk=>?_);dsimp only at hk⊢;obtain⟨h1,h2,h3,h4,h5⟩:=hk;have hlw:=fp W;have hda:=iu a i;have hdb:=iu b i;refine br (fu1:=⟨16⟩) J J J (fun hc15=>?_) (fun hc15=>?_)
 .
  refine mg (X:=Unit) (fun _=>[(0, .d (dN a)),(1, .d (dN b)),(5, .rw 11),(6, .d (.v (.int .u32 (c:Nat)))),(13, .d (vI ((dg a).length:Nat))),(14, .d (vI (i:Nat))),(7, .d (vI (i:Nat))),(8, .d (dU ((dg b).getD i 0)))]) (fun _=>[(11,some (.b 182 1 (W.map dU) true))]) (fun _=>True) [0,1,5,6,13,14,7,8] [11] rfl ?_ (fun _=>J) (fun _ hm=>?_)
  .
   refine gx J<|?_;refine br J J J (fun hc20=>?_) (fun hc20=>?_)
   .
    refine ix _ J (nn) J<|?_;exact at_ () trivial
   .
    refine ak 8 (.d (dU ((dg b).getD i 0))) J (by rw[uU];rfl) ?_;exact at_ () trivial
  .
   refine ix _ J (nn) J<|cl J (aEl (by omega) (by omega) (by omega)) J<|sb _ ((W.set i (if(dg a).getD i 0<(dg b).getD i 0+c then(dg a).getD i 0+4294967296-((dg b).getD i 0+c) else(dg a).getD i 0-((dg b).getD i 0+c))).map dU) J (nn) J (by rw[<-uO];rfl) J<|?_;exact at_ ⟨W.set i (if(dg a).getD i 0<(dg b).getD i 0+c then(dg a).getD i 0+4294967296-((dg b).getD i 0+c) else(dg a).getD i 0-((dg b).getD i 0+c)),(if(dg a).getD i 0<(dg b).getD i 0+c then 1 else 0),i+1⟩ (by dsimp only;exact⟨⟨by simpa using h1,h2.set _ (by split<;>omega),by split<;>omega,by omega,aze (lc a) (lc b) (by omega) h3 h5 J J⟩,(by omega)⟩)
 .
  obtain rfl:i=(dg a).length:=by omega
  refine fz 11 J J<|cl J (rE (ds:=W)) J<|?_;exact rz J (t7 h2 (az2 h2 h1 hb h5))
end Go.Sx
end
