import Derived.Test.YtbllnkhngjedjaaGreatDoorPt8
set_option linter.all false
set_option maxHeartbeats 1000000
set_option maxRecDepth 100000
section
namespace Go.Sx
open Go Go.Proofs Tryz
def CG{ds:List Nat}{k:Nat}(h:ds.length<=k:=by omega):ds.getD k 0=0:=by
 rw[aX,dX h];rfl
def GG(n k:Nat):(List.replicate n 0).getD k 0=0:=by
 rw[aX];by_cases h:k<n
 .simp[h]
 .rw[dX (by simpa using h)];rfl
def Wq{a b c:Nat}(ha:a<4294967296)(hb:b<4294967296)(hc:c<=1):(c+a+b)/4294967296<=1:=by omega
structure aEO where
 ws:List Nat
 k:Nat
 c:Nat
def Xs{A B G:Gh}{x y:SV}{ds es:List Nat}{kk:Nat}(hx:cv A x ds)(hy:cv B y es)[GL A G][GL B G](hk:dv ds+dv es<2^kk)(hb:ds.length<=1125899906842)(hb2:es.length<=1125899906842):
  Fn prog 121 [x.v,y.v] G (fun v G'=> ∃z:SV,v=z.v/\gg kk G' z (dv ds+dv es)):=by
 have hlen:=hx.len;have hlen2:=hy.len;refine Fn.intro func121 J J ntmps121 J ?_;intro C _ _;refine sR<|sa J J<|zE<|?_;refine Ao ((SV×List Nat)×(SV×List Nat)) (fun q=>[(0, .slice q.1.1.a q.1.1.n q.1.1.c),(1, .slice q.2.1.a q.2.1.n q.2.1.c)]) (fun _=>[])
  (fun q G=>cv G q.1.1 q.1.2/\cv G q.2.1 q.2.2/\dv q.1.2+dv q.2.2=dv ds+dv es/\q.2.2.length<=q.1.2.length/\q.1.2.length<=1125899906842) ?_ ?_
 .refine sR<|sm J J<|c6 J J<|sm J J<|c6 J J<|sy (ju J J) J<|zE<|?_
  refine gm J (fun hc=>?_) (fun hc=>?_) -- slot 13
  .refine d6<|sm J J<|sm J J<|sa J J<|sa J J<|zE<|?_
   exact qI ((y,es),(x,ds)) ⟨hy.up,hx.up,by simp;omega,by simp;omega,by simp;omega⟩ (.cons J (.cons J .nil)) J
  refine zK<|?_;exact qI ((x,ds),(y,es)) ⟨hx.up,hy.up,J,by simp;omega,by simp;omega⟩ (.cons J (.cons J .nil)) J
 rintro ⟨⟨x,a⟩,⟨y,b⟩⟩ Gx _ ⟨hx,hy,hsum,hle,hba⟩;rw[<-hsum] at hk⊢;clear hlen hlen2 hsum;have hlen:=hx.len;have hlen2:=hy.len;simp only[] at hx hy hle hba hlen hlen2 hk⊢;refine sR<|sm J J<|c6 J J<|sy (d5 J J) J<|?_;refine sc (um J J (by omega) (by omega) (by omega) (by rfl) J ?_);intro b1;rw[vn,show((x.n:Int)+1).toNat=a.length+1 by omega];refine sa J J<|zE<|sR<|sa J J<|zE<|bw<|sR<|sm J J<|c6 J J<|sm J J<|zE<|d9<|?_;refine l8 (X:=aEO) (fun q=>[(22, .int .i64 q.k),(21, .int .i64 x.n),(20, .slice x.a x.n x.c),(6, .int .u64 q.c),(0, .slice x.a x.n x.c),(1, .slice y.a y.n y.c),(5, .slice (some ⟨b1,0,none⟩) (a.length+1) (a.length+1))])
  (fun q=>[⟨b1,q.ws.map dI,182,true⟩])
  (fun q _=>q.k<=a.length/\q.ws.length=a.length+1/\bi q.ws/\q.c<=1/\dv (q.ws.take q.k)+4294967296^q.k*q.c=dv (a.take q.k)+dv (b.take q.k)) (fun q=>a.length-q.k) ⟨List.replicate (a.length+1) 0,0,0⟩
  ⟨aN _,by simp, .replicate _,aN _,by simp[dv]⟩ (.cons J (.cons J (.cons J (.cons J (.cons J (.cons J (.cons J .nil))))))) J ?_
 rintro ⟨ws,k,c⟩ Gy _ ⟨hka,hwl,hwo,hc1,hinv⟩;simp only[] at hka hwl hwo hc1 hinv⊢;refine sR<|sy (ju J J) J<|zE<|bw<|?_;refine mA J (fun hc=>?_) (fun hc=>?_) -- slot 23
 .have hkn:k=a.length:=by omega
  refine jO<|e7<|e7<|jw<|sR<|sm J J<|sm J J<|c6 J J<|sm J J<|sy (kH J) J<|?_;refine sy (gi J J) J<|?_;refine sc (my (d:=c) J J (by omega) (.hd ..) (by omega) J ?_);rw[show(x.n:Int).toNat=a.length by omega];refine zE<|sR<|sm J J<|?_;refine sE b1 (.hd ..) (fun G1 _ hgb=>?_);have hwo2:bi (ws.set a.length c):=hwo.set _ (by omega);have hD:cv G1 ⟨some ⟨b1,0,none⟩,a.length+1,a.length+1⟩ (ws.set a.length c):= .of_block hwo2 hgb.h (by simp[hwl]) (aM _) (by rw[aS (by simp)]);have hdv:dv (ws.set a.length c)=dv a+dv b:=by
   have h1:=qx (ws:=ws) (k:=a.length) (d:=c);rw[aS (by simp;omega)] at h1;rw[h1,<-hkn,hinv,hkn,aS (aM _),aS hle]
  refine sc (zC J J (jt hD (by simp;omega)) J ?_);rintro _ G2 _ rfl;refine sa J J<|zE<|du<|?_;refine zD (.tmp J .nil) ⟨⟨some ⟨b1,0,none⟩,(trimD (ws.set a.length c)).length,a.length+1⟩,J,?_⟩;have h3:=hD.trim.up (G:=G2);rw[<-hdv] at hk⊢;exact⟨by rw[qc hwo2];exact h3,hk⟩
 have hka':k<a.length:=by omega
 have hga:=hx.ok.get k;have hgb:=hy.ok.get k;refine zK<|bw<|d9<|sR<|sm J J<|sy (iD hx J J) J<|sy (iF hx J) J<|sa J J<|sa J J<|zE<|bw<|?_;refine d6<|sm J J<|sm J J<|sy (gF J (by omega) (by rw[bV];omega)) J<|sy (rH J J (by omega) (by rw[bV];omega)) J<|sa J J<|zE<|?_;rw[bV];refine Ao Unit (fun _=>[(22, .int .i64 k),(7, .int .i64 k),(21, .int .i64 x.n),(20, .slice x.a x.n x.c),(6, .int .u64 ((c+a.getD k 0+b.getD k 0:Nat):Int)),(0, .slice x.a x.n x.c),(1, .slice y.a y.n y.c),(5, .slice (some ⟨b1,0,none⟩) (a.length+1) (a.length+1))]) (fun _=>[⟨b1,ws.map dI,182,true⟩]) (fun _ _=>True) ?_ ?_
 .refine sR<|sm J J<|sm J J<|c6 J J<|sy (ju J J) J<|zE<|?_
  refine gm J (fun hc2=>?_) (fun hc2=>?_) -- slot 34
  .refine d6<|sm J J<|sm J J<|sm J J<|sy (iD hy J J) J<|sy (iF hy J) J<|sy (gF J (by omega) (by rw[bV];omega)) J<|?_
   rw[bV];refine sy (rH J J) J<|sa J J<|zE<|?_;exact qI () trivial (.cons J (.cons J (.cons J (.cons J (.cons (by rw[tQ,tQ];rfl) (.cons J (.cons J (.cons J .nil)))))))) J
  refine zK<|?_;have h0:b.getD k 0=0:=CG;exact qI () trivial (.cons J (.cons J (.cons J (.cons J (.cons (by rw[h0,fX,tQ];rfl) (.cons J (.cons J (.cons J .nil)))))))) J
 rintro _ Gz _ _;generalize hcc:c+a.getD k 0+b.getD k 0=cc;have hcb:cc/4294967296<=1:=by rw[<-hcc];exact Wq hga hgb hc1
 refine sR<|sm J J<|sm J J<|sm J J<|sy (kH J) J<|sy (gi J J) J<|?_;rw[bV];refine sc (my (d:=cc%4294967296) J J (by omega) (.hd ..) (by omega) J ?_);refine zE<|d6<|sm J J<|sy (nA J J) J<|sa J J<|zE<|d6<|sy (d5 J J) J<|sm J J<|zE<|?_;have hsh:((cc:Int).fdiv (2^min (32:Int).toNat IntKind.u64.bits))=((cc/4294967296:Nat):Int):=by
  have:(2^min (32:Int).toNat IntKind.u64.bits:Int)=4294967296:=by decide
  rw[this,gM _ (by omega)];rfl
 rw[hsh];refine jD ⟨ws.set k (cc%4294967296),k+1,cc/4294967296⟩ ⟨by show k+1<=_;omega,by simp[hwl],hwo.set _ (by omega),hcb,?_⟩ (by show a.length-(k+1)<a.length-k;omega) (.cons J (.cons J (.cons J (.cons J (.cons J (.cons J (.cons J .nil))))))) J;show dv ((ws.set k (cc%4294967296)).take (k+1))+4294967296^(k+1)*(cc/4294967296)=dv (a.take (k+1))+dv (b.take (k+1));rw[qx,jq a,jq b,<-hcc,fL];exact KU hinv
structure aHw where
 ws:List Nat
 k:Nat
 c:Nat
def Mu(p:Int)(h0:0<=p:=by omega):p.fdiv (2^min (63:Int).toNat IntKind.u64.bits)=p/9223372036854775808:=by
 have:(2^min (63:Int).toNat IntKind.u64.bits:Int)=9223372036854775808:=by decide
 rw[this,gM _ (by omega)]
def QX(p:Nat):((p:Int).fdiv (2^min (32:Int).toNat IntKind.u64.bits))=((p/4294967296:Nat):Int):=by
 have:(2^min (32:Int).toNat IntKind.u64.bits:Int)=4294967296:=by decide
 rw[this,gM _ (by omega)];rfl
def Yk{A B G:Gh}{x y:SV}{a b:List Nat}{kk:Nat}(hx:cv A x a)(hy:cv B y b)[GL A G][GL B G](hle:b.length<=a.length)(hge:dv b<=dv a)(hk:dv a<2^kk)(hba:a.length<=1125899906842):
  Fn prog 186 [x.v,y.v] G (fun v G'=> ∃z:SV,v=z.v/\gg kk G' z (dv a-dv b)):=by
 have hlen:=hx.len;have hlen2:=hy.len;refine Fn.intro func186 J J ntmps186 J ?_;intro C _ _;refine sR<|sa J J<|zE<|sR<|sm J J<|c6 J J<|?_;refine sc (um J J (by omega) (by omega) (by omega) (by rfl) J ?_);intro b1;rw[vn,show(x.n:Int).toNat=a.length by omega];refine sa J J<|zE<|sR<|sa J J<|zE<|bw<|sR<|sm J J<|c6 J J<|sm J J<|zE<|d9<|?_;refine l8 (X:=aHw) (fun q=>[(16, .int .i64 q.k),(15, .int .i64 x.n),(14, .slice x.a x.n x.c),(6, .int .u64 q.c),(1, .slice y.a y.n y.c),(5, .slice (some ⟨b1,0,none⟩) a.length a.length)])
  (fun q=>[⟨b1,q.ws.map dI,182,true⟩])
  (fun q _=>q.k<=a.length/\q.ws.length=a.length/\bi q.ws/\q.c<=1/\dv (q.ws.take q.k)+dv (b.take q.k)=dv (a.take q.k)+4294967296^q.k*q.c) (fun q=>a.length-q.k) ⟨List.replicate a.length 0,0,0⟩
  ⟨aN _,by simp, .replicate _,aN _,by simp[dv]⟩ (.cons J (.cons J (.cons J (.cons J (.cons J (.cons J .nil)))))) J ?_
 rintro ⟨ws,k,c⟩ Gy _ ⟨hka,hwl,hwo,hc1,hinv⟩;simp only[] at hka hwl hwo hc1 hinv⊢;refine sR<|sy (ju J J) J<|zE<|bw<|?_;refine mA J (fun hc=>?_) (fun hc=>?_) -- slot 17
 .have hkn:k=a.length:=by omega
  refine jO<|e7<|e7<|jw<|sR<|sm J J<|?_;refine sE b1 (.hd ..) (fun G1 _ hgb=>?_);have hD:cv G1 ⟨some ⟨b1,0,none⟩,a.length,a.length⟩ ws:= .of_block hwo hgb.h hwl.symm (aM _) (by rw[aS (by simp)]);have hdv:dv ws=dv a-dv b:=by
   rw[hkn,aS (by omega),aS hle,aS (aM _)] at hinv;have h2:=jx hwo;rw[hwl] at h2;rcases fT c with h0|h0
   .subst h0;omega
   .have:c=1:=by omega
    subst this;omega
  refine sc (zC J J (jt hD) J ?_);rintro _ G2 _ rfl;refine sa J J<|zE<|du<|?_;refine zD (.tmp J .nil) ⟨⟨some ⟨b1,0,none⟩,(trimD ws).length,a.length⟩,J,?_⟩;have h3:=hD.trim.up (G:=G2);rw[<-hdv];exact⟨by rw[qc hwo];exact h3,by omega⟩
 have hka':k<a.length:=by omega
 have hga:=hx.ok.get k;have hgb:=hy.ok.get k;refine zK<|bw<|d9<|sR<|sm J J<|sy (iD hx J J) J<|sy (iF hx J) J<|sa J J<|sa J J<|zE<|bw<|?_;rw[bV];refine d6<|sm J J<|sa J J<|zE<|?_;refine Ao Unit (fun _=>[(16, .int .i64 k),(7, .int .i64 k),(15, .int .i64 x.n),(14, .slice x.a x.n x.c),(8, .int .u32 ((a.getD k 0:Nat):Int)),(9, .int .u64 ((c+b.getD k 0:Nat):Int)),(1, .slice y.a y.n y.c),(5, .slice (some ⟨b1,0,none⟩) a.length a.length)]) (fun _=>[⟨b1,ws.map dI,182,true⟩]) (fun _ _=>True) ?_ ?_
 .refine sR<|sm J J<|sm J J<|c6 J J<|sy (ju J J) J<|zE<|?_
  refine gm J (fun hc2=>?_) (fun hc2=>?_) -- slot 25
  .refine d6<|sm J J<|sm J J<|sm J J<|sy (iD hy J J) J<|sy (iF hy J) J<|sy (gF J (by omega) (by rw[bV];omega)) J<|?_
   rw[bV];refine sy (rH J J) J<|sa J J<|zE<|?_;exact qI () trivial (.cons J (.cons J (.cons J (.cons J (.cons J (.cons (by rw[tQ];rfl) (.cons J (.cons J .nil)))))))) J
  refine zK<|?_;have h0:b.getD k 0=0:=CG;exact qI () trivial (.cons J (.cons J (.cons J (.cons J (.cons J (.cons (by rw[h0,fX];rfl) (.cons J (.cons J .nil)))))))) J
 rintro _ Gz _ _;generalize htt:c+b.getD k 0=tt;have htb:tt<=4294967296:=by omega
 refine sR<|sm J J<|sy (gF J) J<|sm J J<|sy (wK J J) J<|sa J J<|zE<|sR<|sm J J<|sm J J<|sm J J<|?_;rw[n7];refine sy (kH J) J<|sy (gi J J) J<|?_;rw[bV];by_cases hno:tt<=a.getD k 0
 .refine sc (my (d:=a.getD k 0-tt) J J (by omega) (.hd ..) (by omega) J ?_)
  refine zE<|d6<|sm J J<|sy (nA J J) J<|sa J J<|zE<|d6<|sy (d5 J J) J<|sm J J<|zE<|?_;rw[Mu _,show(((a.getD k 0:Nat):Int)-(tt:Int))%18446744073709551616/9223372036854775808=((0:Nat):Int) by omega];refine jD ⟨ws.set k (a.getD k 0-tt),k+1,0⟩ ⟨by show k+1<=_;omega,by simp[hwl],hwo.set _ (by omega),aN _,?_⟩ (by show a.length-(k+1)<a.length-k;omega) (.cons J (.cons J (.cons J (.cons J (.cons J (.cons J .nil)))))) J;show dv ((ws.set k (a.getD k 0-tt)).take (k+1))+dv (b.take (k+1))=dv (a.take (k+1))+4294967296^(k+1)*0;rw[qx,jq a,jq b,<-htt,fL];exact QA hinv
 .refine sc (my (d:=a.getD k 0+4294967296-tt) J J (by omega) (.hd ..) (by omega) J ?_)
  refine zE<|d6<|sm J J<|sy (nA J J) J<|sa J J<|zE<|d6<|sy (d5 J J) J<|sm J J<|zE<|?_;rw[Mu _,show(((a.getD k 0:Nat):Int)-(tt:Int))%18446744073709551616/9223372036854775808=((1:Nat):Int) by omega];refine jD ⟨ws.set k (a.getD k 0+4294967296-tt),k+1,1⟩ ⟨by show k+1<=_;omega,by simp[hwl],hwo.set _ (by omega),aM _,?_⟩ (by show a.length-(k+1)<a.length-k;omega) (.cons J (.cons J (.cons J (.cons J (.cons J (.cons J .nil)))))) J;show dv ((ws.set k (a.getD k 0+4294967296-tt)).take (k+1))+dv (b.take (k+1))=dv (a.take (k+1))+4294967296^(k+1)*1;rw[qx,jq a,jq b,<-htt,fL];exact Rf hinv
def aBR{A B G:Gh}{x y:SV}{ds es:List Nat}{kk:Nat}(hx:cv A x ds)(hy:cv B y es)[GL A G][GL B G](hk:dv ds<2^kk)(hb:ds.length<=1125899906842)(hb2:es.length<=1125899906842):
  Fn prog 122 [x.v,y.v] G (fun v G'=> ∃z:SV,v= .tuple #[z.v, .bool (decide (dv es<=dv ds))]/\gg kk G' z (dv ds-dv es)):=by
 refine Fn.intro func122 J J ntmps122 J ?_;intro C _ _;refine sR<|sa J J<|sa J J<|zE<|bw<|sR<|sm J J<|sm J J<|?_;refine sc (zC J J (SL hx hy) J ?_);rintro _ G1 _ rfl;refine sy (ju J J) J<|zE<|?_;refine gm J (fun hc=>?_) (fun hc=>?_) -- slot 9
 .have hlt:dv ds<dv es:=by
   unfold gO at hc;split at hc
   .assumption
   .split at hc<;>omega
  refine sR<|sa J J<|sa J J<|zE<|du<|?_;refine zD (.tmp J (.tmp J .nil)) ⟨⟨none,0,0⟩,?_,?_⟩
  .have: ¬dv es<=dv ds:=by omega
   simp[iv,SV.v,this]
  .rw[Nat.sub_eq_zero_of_le (by omega)]
   exact⟨by unfold dg;exact .nil _,fU (by omega)⟩
 have hge:dv es<=dv ds:=by
  unfold gO at hc;split at hc
  .omega
  .omega
 have htl:=oh ds;have htl2:=oh es;refine zK<|sR<|sm J J<|?_;refine sc (zC J J (jt hx) J ?_);rintro _ G2 _ rfl;refine sm J J<|?_;refine sc (zC J J (jt hy) J ?_);rintro _ G3 _ rfl;have hl:(trimD es).length<=(trimD ds).length:=by
  rcases iL (trimD ds).length (trimD es).length with h|h
  .have:=ud hx.ok.trimD (eo.trimD es) h
   rw[kh,kh] at this;omega
  .exact h
 refine sc (zC J J (Yk (kk:=kk) hx.trim hy.trim hl (by rw[kh,kh];exact hge) (by rw[kh];exact hk) (by omega)) J ?_);rintro _ G4 _ ⟨z,rfl,hz⟩;refine sa J J<|sa J J<|zE<|du<|?_;refine zD (.tmp J (.tmp J .nil)) ⟨z,by simp[iv,hge],?_⟩;rw[kh,kh] at hz;exact hz
structure Ve where
 ws:List Nat
 i:Nat
structure Vx where
 ws:List Nat
 k:Nat
 c:Nat
def UU{x y w c:Nat}(hx:x<4294967296)(hy:y<4294967296)(hw:w<4294967296)(hc:c<4294967296):c+x*y+w<18446744073709551616:=by
 have:x*y<=4294967295*4294967295:=iW (by omega) (by omega);omega
def zz{ws:List Nat}{i j d:Nat}(h:i≠j:=by omega):(ws.set i d).getD j 0=ws.getD j 0:=by
 rw[aX,aX,List.getElem?_set_ne h]
def ZM{A B G:Gh}{x y:SV}{ds es:List Nat}{kk:Nat}(hx:cv A x ds)(hy:cv B y es)[GL A G][GL B G](hk:dv ds*dv es<2^kk)(hb:ds.length<=562949953421)(hb2:es.length<=562949953421):
  Fn prog 71 [x.v,y.v] G (fun v G'=> ∃z:SV,v=z.v/\gg kk G' z (dv ds*dv es)):=by
 have htl:=oh ds;have htl2:=oh es;have hcall:=fun G1 (_:GL A G1)=>jt (G:=G1) hx;have hcall2:=fun G1 (_:GL B G1)=>jt (G:=G1) hy;have hxt:=hx.trim;have hyt:=hy.trim;rw[<-kh ds,<-kh es] at hk⊢;generalize trimD ds=a at*;generalize trimD es=b at*;have hok:=hxt.ok;have hok2:=hyt.ok;refine Fn.intro func71 J J ntmps71 J ?_;intro C _ _;refine sR<|sa J J<|zE<|sR<|sm J J<|?_;refine sc (zC J J (hcall _ inferInstance) J ?_);rintro _ G1 _ rfl;refine sm J J<|?_;refine sc (zC J J (hcall2 _ inferInstance) J ?_);rintro _ G2 _ rfl;refine sa J J<|sa J J<|zE<|sR<|sm J J<|c6 J J<|sm J J<|c6 J J<|sy (d5 J J) J<|?_;refine sc (um J J (by omega) (by omega) (by omega) (by rfl) J ?_);intro b3;rw[vn,show((a.length:Int)+(b.length:Int)).toNat=a.length+b.length by omega];refine sa J J<|zE<|bw<|sR<|sm J J<|c6 J J<|sm J J<|zE<|d9<|?_;refine l8 (X:=Ve) (fun q=>[(23, .int .i64 q.i),(22, .int .i64 a.length),(21, .slice x.a a.length x.c),(1, .slice y.a b.length y.c),(5, .slice (some ⟨b3,0,none⟩) (a.length+b.length) (a.length+b.length))])
  (fun q=>[⟨b3,q.ws.map dI,182,true⟩])
  (fun q _=>q.i<=a.length/\q.ws.length=a.length+b.length/\bi q.ws/\(∀j,q.i+b.length<=j->q.ws.getD j 0=0)/\dv q.ws=dv (a.take q.i)*dv b) (fun q=>a.length-q.i) ⟨List.replicate (a.length+b.length) 0,0⟩
  ⟨aN _,by simp, .replicate _,fun j _=>GG _ _,by simp[dv,yx]⟩ (.cons J (.cons J (.cons J (.cons J (.cons J .nil))))) J ?_
 rintro ⟨ws,i⟩ Gy _ ⟨hia,hwl,hwo,hz,hinv⟩;simp only[] at hia hwl hwo hz hinv⊢;refine sR<|sy (ju J J) J<|zE<|bw<|?_;refine mA J (fun hc=>?_) (fun hc=>?_) -- slot 24
 .have hin:i=a.length:=by omega
  refine jO<|e7<|e7<|jw<|sR<|sm J J<|?_;refine sE b3 (.hd ..) (fun G3 _ hgb=>?_);have hD:cv G3 ⟨some ⟨b3,0,none⟩,a.length+b.length,a.length+b.length⟩ ws:= .of_block hwo hgb.h hwl.symm (aM _) (by rw[aS (by simp)]);have hdv:dv ws=dv a*dv b:=by rw[hinv,hin,aS (aM _)]
  refine sc (zC J J (jt hD) J ?_);rintro _ G4 _ rfl;refine sa J J<|zE<|du<|?_;refine zD (.tmp J .nil) ⟨⟨some ⟨b3,0,none⟩,(trimD ws).length,a.length+b.length⟩,J,?_⟩;have h3:=hD.trim.up (G:=G4);rw[<-hdv] at hk⊢;exact⟨by rw[qc hwo];exact h3,hk⟩
 have hia':i<a.length:=by omega
 have hga:=hok.get i;refine zK<|bw<|d9<|sR<|sm J J<|sy (iD (z:=⟨x.a,a.length,x.c⟩) hxt J J (by omega) (by show(i:Int)<(a.length:Nat);omega)) J<|sy (iF hxt J) J<|sa J J<|sa J J<|zE<|bw<|?_;rw[bV];refine d6<|sa J J<|zE<|bw<|sR<|sm J J<|c6 J J<|sm J J<|zE<|d9<|?_;refine l8 (X:=Vx) (fun q=>[(30, .int .i64 q.k),(29, .int .i64 b.length),(28, .slice y.a b.length y.c),(8, .int .u64 q.c),(7, .int .u32 ((a.getD i 0:Nat):Int)),(5, .slice (some ⟨b3,0,none⟩) (a.length+b.length) (a.length+b.length)),(6, .int .i64 i),(23, .int .i64 i),(22, .int .i64 a.length),(21, .slice x.a a.length x.c),(1, .slice y.a b.length y.c)])
  (fun q=>[⟨b3,q.ws.map dI,182,true⟩])
  (fun q _=>q.k<=b.length/\q.ws.length=a.length+b.length/\bi q.ws/\q.c<4294967296/\(∀j,i+b.length<=j->q.ws.getD j 0=0)/\dv q.ws+4294967296^(i+q.k)*q.c=dv (a.take i)*dv b+4294967296^i*(a.getD i 0*dv (b.take q.k))) (fun q=>b.length-q.k) ⟨ws,0,0⟩
  ⟨aN _,hwl,hwo,Nat.zero_lt_succ _,hz,by simp[dv,hinv]⟩ (.cons J (.cons J (.cons J (.cons J (.cons J (.cons J (.cons J (.cons J (.cons J (.cons J (.cons J .nil))))))))))) J ?_
 clear hz hwl hwo hinv ws;rintro ⟨ws,k,c⟩ Gz _ ⟨hkb,hwl,hwo,hcc,hz,hinv⟩;simp only[] at hkb hwl hwo hcc hz hinv⊢;refine sR<|sy (ju J J) J<|zE<|bw<|?_;refine mA J (fun hc2=>?_) (fun hc2=>?_) -- slot 31
 .have hkn:k=b.length:=by omega
  have e1:((i:Int)+(b.length:Int)).toNat=i+b.length:=by omega
  refine jO<|e7<|e7<|jw<|d6<|sm J J<|sm J J<|sm J J<|c6 J J<|sy (d5 J J) J<|sm J J<|sy (kH J) J<|?_;refine sy (gi J J) J<|?_;rw[e1];refine sc (my (d:=c) J J (by omega) (.hd ..) (by omega) J ?_);refine zE<|d6<|sy (d5 J J) J<|sm J J<|zE<|?_;refine jD ⟨ws.set (i+b.length) c,i+1⟩ ⟨by show i+1<=_;omega,by simp[hwl],hwo.set _ hcc,fun j hj=>?_,?_⟩ (by show a.length-(i+1)<a.length-i;omega) (.cons J (.cons J (.cons J (.cons J (.cons J .nil))))) J
  .have hj':i+1+b.length<=j:=hj
   show(ws.set (i+b.length) c).getD j 0=0;rw[zz];exact hz j (by omega)
  .show dv (ws.set (i+b.length) c)=dv (a.take (i+1))*dv b
   have h1:=qi ws (i+b.length) c (by omega);rw[hz (i+b.length) (aM _),pN,fX] at h1;rw[h1,<-hkn,hinv,hkn,aS (aM _),jq,cM,cX]
 have hkb':k<b.length:=by omega
 have hgb:=hok2.get k;have hgw:=hwo.get (i+k);have hm:=UU hga hgb hgw hcc;have e1:((i:Int)+(k:Int)).toNat=i+k:=by omega
 have e2:((a.getD i 0:Nat):Int)*((b.getD k 0:Nat):Int)=((a.getD i 0*b.getD k 0:Nat):Int):=by rw[jJ]
 refine zK<|bw<|d9<|sR<|sm J J<|sy (iD (z:=⟨y.a,b.length,y.c⟩) hyt J J (by omega) (by show(k:Int)<(b.length:Nat);omega)) J<|sy (iF hyt J) J<|sa J J<|sa J J<|zE<|bw<|?_;rw[bV];refine d6<|sm J J<|sm J J<|sy (gF J) J<|sm J J<|sy (gF J) J<|sy (Iy J J (by rw[e2];omega) (by rw[e2];omega)) J<|?_;rw[e2];refine sm J J<|sm J J<|sm J J<|sy (d5 J J) J<|sy (gi J J) J<|?_;rw[e1];refine sy (sj J) J<|sy (gF J) J<|?_;refine sy (rH J J) J<|sy (rH J J) J<|sa J J<|zE<|sR<|sm J J<|sm J J<|sm J J<|?_;rw[show(c:Int)+(((a.getD i 0*b.getD k 0:Nat):Int)+((ws.getD (i+k) 0:Nat):Int))=((c+a.getD i 0*b.getD k 0+ws.getD (i+k) 0:Nat):Int) by omega];generalize hcc2:c+a.getD i 0*b.getD k 0+ws.getD (i+k) 0=cc;rw[hcc2] at hm;refine sy (d5 J J) J<|sm J J<|sy (kH J) J<|sy (gi J J) J<|?_;rw[e1];refine sc (my (d:=cc%4294967296) J J (by omega) (.hd ..) (by omega) J ?_);refine zE<|d6<|sm J J<|sy (nA J J) J<|sa J J<|zE<|d6<|sy (d5 J J) J<|sm J J<|zE<|?_;rw[QX];refine jD ⟨ws.set (i+k) (cc%4294967296),k+1,cc/4294967296⟩ ⟨by show k+1<=_;omega,by simp[hwl],hwo.set _ (by omega),by show cc/4294967296<_;omega,fun j hj=>?_,?_⟩ (by show b.length-(k+1)<b.length-k;omega) (.cons J (.cons J (.cons J (.cons J (.cons J (.cons J (.cons J (.cons J (.cons J (.cons J (.cons J .nil))))))))))) J
 .show(ws.set (i+k) (cc%4294967296)).getD j 0=0
  rw[zz];exact hz j hj
 .show dv (ws.set (i+k) (cc%4294967296))+4294967296^(i+(k+1))*(cc/4294967296)=dv (a.take i)*dv b+4294967296^i*(a.getD i 0*dv (b.take (k+1)))
  have h1:=qi ws (i+k) (cc%4294967296) (by omega);rw[<-hcc2] at h1⊢;have h2:=Mb h1 hinv;rw[<-kW,fL,h2,jq,dT,dT,fK];have:4294967296^i*(a.getD i 0*(4294967296^k*b.getD k 0))=4294967296^i*4294967296^k*(a.getD i 0*b.getD k 0):=by
   rw[lY (a.getD i 0),<-cX]
  rw[this,kW]
def IS{P:Program}{t:TypeId}(a b k:Nat)(ha:a<2^k)(h:a+b*2^k<18446744073709551616)(w:World):(binOp .or t (.int .u64 ((b*2^k:Nat):Int)) (.int .u64 (a:Int))).run P w= .ok (.int .u64 ((a+b*2^k:Nat):Int)) w:=by
 have h1:(BitVec.ofInt 64 ((b*2^k:Nat):Int) ||| BitVec.ofInt 64 (a:Int)).toNat=a+b*2^k:=by
  rw[BitVec.toNat_or,BitVec.ofInt_natCast,BitVec.ofInt_natCast,BitVec.toNat_ofNat,BitVec.toNat_ofNat,dV (by omega),dV (by omega)];rw[<-mX,<-mY ha,mX];omega
 have h2:IntKind.u64.wrap ((a+b*2^k:Nat):Int)=((a+b*2^k:Nat):Int):=by rw[n7];omega
 simp only[binOp];show(Op.intBits .or .u64 ((b*2^k:Nat):Int) (a:Int)).run P w=_;unfold Op.intBits;show(pure (Value.int .u64 (IntKind.u64.wrap ((BitVec.ofInt 64 ((b*2^k:Nat):Int) ||| BitVec.ofInt 64 (a:Int)).toNat:Int))):Sem Value).run P w=_;rw[h1,h2,run_pure]
def axI{P:Program}{t:TypeId}(a b k:Nat)(ha:a<2^k)(h:a+b*2^k<4294967296)(w:World):(binOp .or t (.int .u32 (a:Int)) (.int .u32 ((b*2^k:Nat):Int))).run P w= .ok (.int .u32 ((a+b*2^k:Nat):Int)) w:=by
 have h1:(BitVec.ofInt 32 (a:Int) ||| BitVec.ofInt 32 ((b*2^k:Nat):Int)).toNat=a+b*2^k:=by
  rw[BitVec.toNat_or,BitVec.ofInt_natCast,BitVec.ofInt_natCast,BitVec.toNat_ofNat,BitVec.toNat_ofNat,dV (by omega),dV (by omega)];rw[<-mX,Nat.or_comm,<-mY ha,mX];omega
 have h2:IntKind.u32.wrap ((a+b*2^k:Nat):Int)=((a+b*2^k:Nat):Int):=by rw[qA];omega
 simp only[binOp];show(Op.intBits .or .u32 (a:Int) ((b*2^k:Nat):Int)).run P w=_;unfold Op.intBits;show(pure (Value.int .u32 (IntKind.u32.wrap ((BitVec.ofInt 32 (a:Int) ||| BitVec.ofInt 32 ((b*2^k:Nat):Int)).toNat:Int))):Sem Value).run P w=_;rw[h1,h2,run_pure]
def sd(d k:Nat)(hk:k<64)(h:d*2^k<18446744073709551616){q:Int}(hq:q.toNat=k):IntKind.u64.wrap ((d:Int)*2^min q.toNat IntKind.u64.bits)=((d*2^k:Nat):Int):=by
 rw[hq,gK (by show k<=64;omega),n7];have e2:(d:Int)*2^k=((d*2^k:Nat):Int):=by push_cast;rfl
 rw[e2];omega
def ti(d k:Nat)(hk:k<64){q:Int}(hq:q.toNat=k):(d:Int).fdiv (2^min q.toNat IntKind.u64.bits)=((d/2^k:Nat):Int):=by
 rw[hq,gK (by show k<=64;omega),gM _ (qX (Int.pow_pos (by decide)))];push_cast;rfl
def NI(q:Nat)(h:q<4294967296):(q:Int)%4294967296=q:=by omega
structure ayS where
 ws:List Nat
 k:Nat
 r:Nat
def awh{A G:Gh}{x:SV}{a:List Nat}{d kk:Nat}(hx:cv A x a)[GL A G](hd0:0<d)(hd:d<4294967296)(hk:dv a/d<2^kk)(hb:a.length<=1125899906842):
  Fn prog 189 [x.v, .int .u32 (d:Int)] G (fun v G'=> ∃z:SV,v= .tuple #[z.v, .int .u32 ((dv a%d:Nat):Int)]/\gg kk G' z (dv a/d)):=by
 have hlen:=hx.len;refine Fn.intro func189 J J ntmps189 J ?_;intro C _ _;refine sR<|sa J J<|sa J J<|zE<|sR<|sm J J<|c6 J J<|?_;refine sc (um J J (by omega) (by omega) (by omega) (by rfl) J ?_);intro b1;rw[vn,show(x.n:Int).toNat=a.length by omega];refine sa J J<|zE<|sR<|sa J J<|zE<|bw<|sR<|sm J J<|c6 J J<|sy (ki J J) J<|?_;refine sa J J<|zE<|d9<|?_;refine l8 (X:=ayS) (fun q=>[(8, .int .i64 (q.k-1)),(7, .int .u64 q.r),(0, .slice x.a x.n x.c),(6, .slice (some ⟨b1,0,none⟩) a.length a.length),(1, .int .u32 d)])
  (fun q=>[⟨b1,q.ws.map dI,182,true⟩])
  (fun q _=>q.k<=a.length/\q.ws.length=a.length/\bi q.ws/\q.r<d/\dv (a.drop q.k)=d*dv (q.ws.drop q.k)+q.r) (fun q=>q.k) ⟨List.replicate a.length 0,a.length,0⟩
  ⟨aM _,by simp, .replicate _,hd0,by simp[dv]⟩ (.cons (by rw[hlen];rfl) (.cons J (.cons J (.cons J (.cons J .nil))))) J ?_
 rintro ⟨ws,k,r⟩ Gy _ ⟨hka,hwl,hwo,hr,hinv⟩;simp only[] at hka hwl hwo hr hinv⊢;refine bw<|sR<|sm J J<|sy (uJ J J) J<|zE<|?_;refine mA J (fun hc=>?_) (fun hc=>?_) -- slot 17
 .have hk0:k=0:=by omega
  refine jO<|e7<|e7<|jw<|sR<|sm J J<|?_;refine sE b1 (.hd ..) (fun G1 _ hgb=>?_);have hD:cv G1 ⟨some ⟨b1,0,none⟩,a.length,a.length⟩ ws:= .of_block hwo hgb.h hwl.symm (aM _) (by rw[aS (by simp)]);subst hk0;simp only[iZ] at hinv;have hdv:dv a/d=dv ws:=by rw[hinv,Nat.mul_add_div hd0,jN hr,fX]
  have hdm:dv a%d=r:=by rw[hinv,Nat.mul_add_mod,dV hr]
  refine sc (zC J J (jt hD) J ?_);rintro _ G2 _ rfl;refine sm J J<|sy (kH J) J<|sa J J<|sa J J<|zE<|du<|?_;refine zD (.tmp J (.tmp J .nil)) ⟨⟨some ⟨b1,0,none⟩,(trimD ws).length,a.length⟩,?_,?_⟩
  .rw[hdm,show(r:Int)%4294967296=r by omega];rfl
  have h3:=hD.trim.up (G:=G2);exact⟨by rw[hdv,qc hwo];exact h3,hk⟩
 have hk1:0<k:=by omega
 have hkt:((k:Int)-1).toNat=k-1:=by omega
 have hga:=hx.ok.get (k-1);have hv:a.getD (k-1) 0+r*2^32<d*4294967296:=by
  have:(r+1)*4294967296<=d*4294967296:=bW _ hr;rw[cM] at this;omega
 have hv2:a.getD (k-1) 0+r*2^32<18446744073709551616:=by omega
 refine zK<|bw<|d9<|sR<|sm J J<|sy (wU J J) J<|sm J J<|sm J J<|sy (iD hx J J) J<|?_;rw[sd r 32 (by decide) (by omega) J];refine sy (iF hx J) J<|sy (gF J (by omega) (by rw[hkt];omega)) J<|?_;rw[hkt];refine sy (ja J J (IS (a.getD (k-1) 0) r 32 (by omega) hv2)) J<|?_;generalize hvv:a.getD (k-1) 0+r*2^32=vv at*;have hq:vv/d<4294967296:=sS hv;have hrr:=cS vv hd0;refine sa J J<|zE<|sR<|sm J J<|sm J J<|sm J J<|sm J J<|?_;refine sy (gF J) J<|sy (yk J J) J<|sy (kH J) J<|sy (gi J J) J<|?_;rw[hkt];have e1:(vv:Int)/(d:Int)%4294967296=((vv/d:Nat):Int):=by
  have e0:(vv:Int)/(d:Int)=((vv/d:Nat):Int):=(qJ vv d).symm;rw[e0];exact NI _ hq
 refine sc (my (d:=vv/d) J J e1 (.hd ..) (by omega) J ?_);refine zE<|d6<|sm J J<|sm J J<|sy (gF J) J<|sy (xW J J) J<|sa J J<|zE<|d6<|sm J J<|?_;refine sy (ki J J) J<|sa J J<|zE<|?_;refine jD ⟨ws.set (k-1) (vv/d),k-1,vv%d⟩ ⟨by show k-1<=_;omega,by simp[hwl],hwo.set _ hq,hrr,?_⟩ (by show k-1<k;omega) (.cons (by rw[show((k-1:Nat):Int)=(k:Int)-1 by omega];rfl) (.cons (by rw[pZ];rfl) (.cons J (.cons J (.cons J .nil))))) J;show dv (a.drop (k-1))=d*dv ((ws.set (k-1) (vv/d)).drop (k-1))+vv%d;have hk2:k-1+1=k:=by omega
 rw[bX (by omega:k-1<a.length),bX (by simp;omega:k-1<(ws.set (k-1) (vv/d)).length),hk2,List.getElem_set_self,qU (by omega)];have e3:a[k-1]'(by omega)=a.getD (k-1) 0:=by rw[aX,aQ (by omega)];rfl
 simp only[dv,e3,hinv];have h1:=qN vv d;have h2:d*(vv/d+4294967296*dv (ws.drop k))=d*(vv/d)+4294967296*(d*dv (ws.drop k)):=by rw[dT,lY]
 rw[h2,dT];omega
section
variable {P:Program} {C:aD} {n:Nat} {fr:Fr} {own:List aw} {G:Gh} {dst:Option Nat} {t t1 t2 ty':TypeId} {pos:String} {af:Array Edge} {gd:Option (Nat×Bool)} {x y:Operand}
def Xx{k:IntKind}{p q:Int}(hx:aA fr x=some (.int k p))(hy:aA fr y=some (.int k q)):
  Yd P C fr own G ⟨dst, .call ⟨.builtin .min, #[x,y], #[t1,t2]⟩,ty',pos,af,gd⟩ (.int k (if q<p then q else p)):=by
 intro a w hf hh;simp only[execOp,resolve,gN,cV,kX,bh hf hx,bh hf hy];have h1:(Builtin.min_ #[t1,t2] ty' #[.int k p, .int k q]).run P w= .ok (.int k (if q<p then q else p)) w:=by
  simp[Builtin.min_,Builtin.min2,run_pure]
 exact c7 h1
end
structure M1 where
 ws:List Nat
 i:Nat
def Ls{A G:Gh}{x:SV}{ds:List Nat}{k kk:Nat}(hx:cv A x ds)[GL A G](hk32:k<32)(hk:dv ds*2^k<2^kk)(hb:ds.length<=1125899906842:=by omega):
  Fn prog 232 [x.v, .int .u64 (k:Int)] G (fun v G'=> ∃z:SV,v=z.v/\gg kk G' z (dv ds*2^k)/\z.c<=(trimD ds).length+1):=by
 have htl:=oh ds;have hcall:=fun G1 (_:GL A G1)=>jt (G:=G1) hx;have hxt:=hx.trim;rw[<-kh ds] at hk⊢;generalize trimD ds=a at*;have hok:=hxt.ok;refine Fn.intro func232 J J ntmps232 J ?_;intro C _ _;refine sR<|sa J J<|zE<|sR<|sm J J<|?_;refine sc (zC J J (hcall _ inferInstance) J ?_);rintro _ G1 _ rfl;refine sm J J<|sy (Xx J J) J<|?_;rw[if_neg (by omega: ¬(1048576:Int)<(k:Int))];refine sa J J<|sa J J<|zE<|bw<|sR<|sm J J<|c6 J J<|sy (i9 J J) J<|zE<|?_;refine gm J (fun hc=>?_) (fun hc=>?_) -- slot 17
 .refine sR<|sa J J<|zE<|du<|?_
  have:a=[]:=bS (by omega);subst this;refine zD (.tmp J .nil) ⟨⟨none,0,0⟩,J,?_⟩;have e0:dv []*2^k=0:=by simp[dv]
  rw[e0];exact⟨⟨by unfold dg;exact .nil _,fU (by omega)⟩,aN _⟩
 refine zK<|sR<|sm J J<|sy (yk J J (by omega) (by omega) (by decide)) J<|sy (NZ J) J<|sm J J<|sy (xW J J (by omega) (by decide)) J<|?_;rw[show(k:Int)/32=0 by omega,show(k:Int)%32=k by omega];refine sa J J<|sa J J<|zE<|sR<|sm J J<|c6 J J<|sm J J<|sy (d5 J J) J<|sy (d5 J J) J<|?_;refine sc (um J J (by omega) (by omega) (by omega) (by rfl) J ?_);intro b2;rw[vn,show((a.length:Int)+0+1).toNat=a.length+1 by omega];refine sa J J<|zE<|bw<|sR<|sm J J<|c6 J J<|sm J J<|zE<|d9<|?_;refine l8 (X:=M1) (fun q=>[(31, .int .i64 q.i),(30, .int .i64 a.length),(29, .slice x.a a.length x.c),(6, .int .u64 k),(7, .slice (some ⟨b2,0,none⟩) (a.length+1) (a.length+1)),(5, .int .i64 0)])
  (fun q=>[⟨b2,q.ws.map dI,182,true⟩])
  (fun q _=>q.i<=a.length/\q.ws.length=a.length+1/\bi q.ws/\(∀j,q.i<j->q.ws.getD j 0=0)/\q.ws.getD q.i 0<2^k/\dv q.ws=dv (a.take q.i)*2^k) (fun q=>a.length-q.i) ⟨List.replicate (a.length+1) 0,0⟩
  ⟨aN _,by simp, .replicate _,fun j _=>GG _ _,by rw[GG];exact fU (by omega),by simp[dv,yx]⟩ (.cons J (.cons J (.cons J (.cons J (.cons J (.cons J .nil)))))) J ?_
 rintro ⟨ws,i⟩ Gy _ ⟨hia,hwl,hwo,hz,hwi,hinv⟩;simp only[] at hia hwl hwo hz hwi hinv⊢;refine sR<|sy (ju J J) J<|zE<|bw<|?_;refine mA J (fun hc=>?_) (fun hc=>?_) -- slot 32
 .have hin:i=a.length:=by omega
  refine jO<|e7<|e7<|jw<|sR<|sm J J<|?_;refine sE b2 (.hd ..) (fun G3 _ hgb=>?_);have hD:cv G3 ⟨some ⟨b2,0,none⟩,a.length+1,a.length+1⟩ ws:= .of_block hwo hgb.h hwl.symm (aM _) (by rw[aS (by simp)]);have hdv:dv a*2^k=dv ws:=by rw[hinv,hin,aS (aM _)]
  refine sc (zC J J (jt hD) J ?_);rintro _ G4 _ rfl;refine sa J J<|zE<|du<|?_;refine zD (.tmp J .nil) ⟨⟨some ⟨b2,0,none⟩,(trimD ws).length,a.length+1⟩,J,?_⟩;have h3:=hD.trim.up (G:=G4);rw[hdv] at hk⊢;exact⟨⟨by rw[qc hwo];exact h3,hk⟩,aM _⟩
 have hia':i<a.length:=by omega
 have hga:=hok.get i;have hp32:(2:Nat)^k<=2^31:=bU (by omega) (by omega);have hp0:0<(2:Nat)^k:=fU (by omega);have hvb:a.getD i 0*2^k<4294967296*2^k:=lV hga hp0;have hv64:a.getD i 0*2^k<18446744073709551616:=by omega
 refine zK<|bw<|d9<|sR<|sm J J<|sy (iD (z:=⟨x.a,a.length,x.c⟩) hxt J J (by omega) (by show(i:Int)<(a.length:Nat);omega)) J<|sy (iF hxt J) J<|sa J J<|sa J J<|zE<|bw<|?_;rw[bV];refine d6<|sm J J<|sy (gF J) J<|sm J J<|sy (wU J J (by omega)) J<|?_;rw[sd (a.getD i 0) k (by omega) hv64 (bV k)]
 -- the low digit is a multiple of 2^k
 have hlow:a.getD i 0*2^k%4294967296=a.getD i 0%2^(32-k)*2^k:=by
  have:4294967296=2^(32-k)*2^k:=by rw[<-fK,show 32-k+k=32 by omega]
  rw[this,sX]
 have hlt:a.getD i 0*2^k%4294967296<4294967296:=cS _ (by decide);have hsum:ws.getD i 0+a.getD i 0%2^(32-k)*2^k<4294967296:=by
  have h1:a.getD i 0%2^(32-k)<2^(32-k):=cS _ (fU (by omega));have h2:(a.getD i 0%2^(32-k)+1)*2^k<=2^(32-k)*2^k:=bW _ h1;rw[<-fK,show 32-k+k=32 by omega,cM] at h2;omega
 refine sa J J<|zE<|sR<|sm J J<|?_;refine sm J J<|sm J J<|sy (d5 J J) J<|sy (gi J J) J<|?_;rw[show((i:Int)+0).toNat=i by omega];refine sy (sj J) J<|sm J J<|sy (kH J) J<|?_;rw[show((a.getD i 0*2^k:Nat):Int)%4294967296=((a.getD i 0%2^(32-k)*2^k:Nat):Int) by rw[<-hlow];rfl];refine sy (ja J J (axI (ws.getD i 0) (a.getD i 0%2^(32-k)) k hwi hsum)) J<|sy (gi J J) J<|?_;rw[show((i:Int)+0).toNat=i by omega];refine sc (my (d:=ws.getD i 0+a.getD i 0%2^(32-k)*2^k) J J J (.hd ..) (by omega) J ?_);refine zE<|d6<|sm J J<|sm J J<|sm J J<|sy (d5 J J) J<|sy (d5 J J) J<|sm J J<|sy (nA J J) J<|?_;rw[QX];have hhi:a.getD i 0*2^k/4294967296<2^k:=sS hvb;refine sy (kH J) J<|sy (gi J J) J<|?_;rw[show((i:Int)+0+1).toNat=i+1 by omega];refine sc (my (d:=a.getD i 0*2^k/4294967296) J J (by omega) (.hd ..) (by simp;omega) J ?_);refine zE<|d6<|sy (d5 J J) J<|sm J J<|zE<|?_;refine jD ⟨(ws.set i (ws.getD i 0+a.getD i 0%2^(32-k)*2^k)).set (i+1) (a.getD i 0*2^k/4294967296),i+1⟩ ⟨by show i+1<=_;omega,by simp[hwl],(hwo.set _ hsum).set _ (by omega),fun j hj=>?_,?_,?_⟩ (by show a.length-(i+1)<a.length-i;omega) (.cons J (.cons J (.cons J (.cons J (.cons J (.cons J .nil)))))) J
 .have hj':i+1<j:=hj
  show((ws.set i _).set (i+1) _).getD j 0=0;rw[zz,zz];exact hz j (by omega)
 .show((ws.set i _).set (i+1) (a.getD i 0*2^k/4294967296)).getD (i+1) 0<2^k
  rw[aX,nX (by simp;omega)];exact hhi
 .show dv ((ws.set i (ws.getD i 0+a.getD i 0%2^(32-k)*2^k)).set (i+1) (a.getD i 0*2^k/4294967296))=dv (a.take (i+1))*2^k
  have h1:=qi (ws.set i (ws.getD i 0+a.getD i 0%2^(32-k)*2^k)) (i+1) (a.getD i 0*2^k/4294967296) (by simp;omega);rw[zz,hz (i+1) (by omega),pN,fX] at h1;have h2:=qi ws i (ws.getD i 0+a.getD i 0%2^(32-k)*2^k) (by omega);rw[dT] at h2;rw[h1,jq,cM,<-hinv,cX,JC (4294967296^i) (a.getD i 0*2^k),<-hlow] at*;rw[fL];omega
end Go.Sx
end
section
namespace Go.Sx
def uI(i:Nat):(4294967296:Nat)^(i+1)=4294967296^i*4294967296:=fL ..
def UG{U p V T S first third:Nat}(hU:U<(first*4294967296+third+1)*p)(h3:third<4294967296)(hV:(T*4294967296+S)*p<=V)(hT:0<T):
  U<(first/T+1)*V:=by
 have h1:first+1<=(first/T+1)*T:=by
  have:=Nat.lt_mul_div_succ first hT
  rw[bN];omega
 calc U<(first*4294967296+third+1)*p:=hU
  _<=((first+1)*4294967296)*p:=bW _ (by omega)
  _<=(((first/T+1)*T)*4294967296)*p:=bW _ (bW _ h1)
  _=(first/T+1)*((T*4294967296)*p):=by rw[cX (first/T+1),cX (first/T+1)]
  _<=(first/T+1)*V:=fJ _ (cY (bW _ (nY _ _)) hV)
def YO{U p V T S first third v0:Nat}(hU:(first*4294967296+third)*p<=U)(hV:V=(T*4294967296+S)*p+v0)(hv:v0<p)(hlt:U<V*4294967296):first<=T*4294967296+S:=by
 rcases iL (T*4294967296+S) first with h|h
 .exfalso
  have h1:(T*4294967296+S+1)*p<=first*p:=bW p h
  rw[cM _ 1,oJ] at h1;rw[cM,rK] at hU;have:0<=third*p:=aN _;omega
 .exact h
def WT{U p V T S first third g r:Nat}(hU:U<(first*4294967296+third+1)*p)(hV:(T*4294967296+S)*p<=V)(hg:first=g*T+r)(hc:r*4294967296+third<g*S):U<g*V:=by
 refine dY hU (cY (bW p (m:=g*(T*4294967296+S)) ?_) ?_)
 .rw[dT,<-cX,hg,cM];omega
 .rw[cX];exact fJ _ hV
def Jo{U p V T S first third g r v0:Nat}(hU:(first*4294967296+third)*p<=U)(hV:V=(T*4294967296+S)*p+v0)(hv:v0<p)(hT:0<T)(hg:first=g*T+r)(hgB:g<4294967296)(hc:g*S<=r*4294967296+third):g*V<U+V:=by
 have h1:g*((T*4294967296+S)*p)<=U:=by
  rw[<-cX];refine cY (bW p ?_) hU;rw[dT,<-cX,hg,cM];omega
 have h2:g*v0<=4294967295*v0:=bW _ (by omega);have h3:4294967296*p<=V:=by
  rw[hV];refine cY (bW p ?_) (nY _ _);omega
 have h4:g*V=g*((T*4294967296+S)*p)+g*v0:=by rw[<-dT,<-hV]
 omega
def Xh{U V R g:Nat}(h:U<(g+1)*V)(hr:R+g*V=U):R<V:=by
 rw[cM,oJ] at h;omega
def VX{U V R R' g w M:Nat}(h2:g*V<U+V)(hr:R+g*V=U+M)(hb:R'+w*M=R+V)(hR:R<M)(hR':R'<M)(hw:w<=1)(hg:0<g):R'+(g-1)*V=U/\R'<V:=by
 have hgv:g*V=(g-1)*V+V:=by
  conv=>lhs;rw[show g=(g-1)+1 by omega,cM,oJ]
 have:w=1:=by
  rcases iL w 1 with h|h
  .have:w=0:=by omega
   subst this;omega
  .omega
 subst this;omega
def xZ(us:List Nat)(i:Nat):dv (us.drop i)=us.getD i 0+4294967296*dv (us.drop (i+1)):=by
 rcases iL i us.length with h|h
 .rw[bX h];simp[dv,List.getD,aQ h]
 .rw[fW h,fW (by omega)]
  simp[dv,dX h,List.getD]
def xD(us:List Nat)(i:Nat):dv us=dv (us.take i)+4294967296^i*dv (us.drop i):=by
 rcases iL us.length i with h|h
 .rw[aS (by omega),fW (by omega)];simp[dv]
 .exact Cs us i h
def CM{us:List Nat}(h:bi us)(i:Nat):dv (us.take i)<4294967296^i:=by
 refine dY (jx (h.take i)) (bU (by decide) ?_);simp[cJ];omega
def Dv{us:List Nat}{i:Nat}(hd:dv us<4294967296^i):dv (us.drop i)=0:=by
 have h:=xD us i;rcases fT (dv (us.drop i)) with h0|h0
 .exact h0
 .have:=fJ (4294967296^i) h0
  omega
def aCS{W W' U E p u x bo b c c1 g d:Nat}(hs:W'+p*u=W+p*x)(hw:W+E=U+(bo+c)*p)(hc:c1=c+g*d)(hx:x+(c1%4294967296+bo)=u+b*4294967296):
  W'+(E+g*d*p)=U+(b+c1/4294967296)*(p*4294967296):=by
 have h1:=congrArg (p* ·) hx;simp only[dT] at h1;have h2:p*c1=p*(c1%4294967296)+p*(c1/4294967296)*4294967296:=by
  rw[cX,<-dT,Nat.mod_add_div']
 have h3:p*c1=p*c+p*(g*d):=by rw[hc,dT]
 rw[cM,bN bo,bN c] at hw;rw[bN (g*d),cM,<-cX b,<-cX (c1/4294967296),bN b,bN (c1/4294967296)];rw[<-cX] at h1;omega
def aCb{W W' U E p u x bo b c:Nat}(hs:W'+p*u=W+p*x)(hw:W+E=U+(bo+c)*p)(hx:x+(c+bo)=u+b*4294967296):W'+E=U+b*(p*4294967296):=by
 have h1:=congrArg (p* ·) hx;simp only[dT] at h1;rw[cM,bN bo,bN c] at hw;rw[<-cX b,bN b];rw[<-cX] at h1;omega
def Vl{W W' R E p u d c:Nat}(hs:W'+p*u=W+p*((c+(u+d))%4294967296))(hw:W+c*p=R+E):W'+(c+(u+d))/4294967296*(p*4294967296)=R+(E+d*p):=by
 have h2:p*(c+(u+d))=p*((c+(u+d))%4294967296)+p*((c+(u+d))/4294967296)*4294967296:=by
  rw[cX,<-dT,Nat.mod_add_div']
 rw[dT p c,dT p u] at h2;rw[bN c] at hw;rw[bN d,<-cX,bN _ p];omega
def YC{W W' R p u c:Nat}(hs:W'+p*u=W+p*((u+c)%4294967296))(hw:W+c*p=R):W'+(u+c)/4294967296*(p*4294967296)=R:=by
 have h2:p*(u+c)=p*((u+c)%4294967296)+p*((u+c)/4294967296)*4294967296:=by
  rw[cX,<-dT,Nat.mod_add_div']
 rw[dT p u] at h2;rw[bN c] at hw;rw[<-cX,bN _ p];omega
def aI7{us:List Nat}(h:bi us)(i:Nat)(hd:dv us<4294967296^(i+3)):
  dv us=((us.getD (i+2) 0*4294967296+us.getD (i+1) 0)*4294967296+us.getD i 0)*4294967296^i+dv (us.take i):=by
 have h0:=Dv hd;rw[xD us i,xZ us i,xZ us (i+1),xZ us (i+2),h0,kJ,bN];congr 2;omega
def aIL{us:List Nat}(h:bi us)(i:Nat)(hd:dv us<4294967296^(i+2)):
  dv us=(us.getD (i+1) 0*4294967296+us.getD i 0)*4294967296^i+dv (us.take i):=by
 have h0:=Dv hd;rw[xD us i,xZ us i,xZ us (i+1),h0,kJ,bN];congr 2;omega
def BR{us:List Nat}{k i d:Nat}(h:bi us)(hd:d<4294967296)(hk:dv us<4294967296^k)(hi:i<k:=by omega):dv (us.set i d)<4294967296^k:=by
 rw[xD _ k,List.drop_set,if_pos hi,Dv hk,pN,fX];exact CM (h.set i hd) k
end Go.Sx
end
section
namespace Go.Sx
open Go Go.Proofs Tryz
def U3(p k a1 a2 E:Nat)(hk:k<32)(h1:a1<4294967296)(hp:p=2^k):(a1+4294967296*(a2+4294967296*E))/p=(a1+a2*4294967296)/p%4294967296+4294967296*((a2+4294967296*E)/p):=by
 subst hp;have hp0:0<(2:Nat)^k:=fU (by omega);have hB:4294967296=2^(32-k)*2^k:=by rw[<-fK,show 32-k+k=32 by omega]
 -- the quotient and the rest of the quotient by the base
 have hq:(a1+4294967296*(a2+4294967296*E))/2^k/4294967296=(a2+4294967296*E)/2^k:=by
  rw[nJ,bN (2^k),<-nJ,mU _ _ (by decide),jN h1,eK]
 have hr:(a1+4294967296*(a2+4294967296*E))/2^k%4294967296=(a1+a2*4294967296)/2^k%4294967296:=by
  have e1:a1+4294967296*(a2+4294967296*E)=(a1+a2*4294967296)+2^k*(2^(32-k)*(4294967296*E)):=by
   rw[<-cX (2^k),bN (2^k) (2^(32-k)),<-hB];omega
  rw[e1,mU _ _ hp0];rw[show 2^(32-k)*(4294967296*E)=4294967296*(2^(32-k)*E) by rw[lY]];rw[nM]
 have h:=Nat.mod_add_div ((a1+4294967296*(a2+4294967296*E))/2^k) 4294967296;rw[hq,hr] at h;exact h.symm
def S6(a:List Nat)(i:Nat):dv (a.drop i)=a.getD i 0+4294967296*dv (a.drop (i+1)):=by
 by_cases h:i<a.length
 .rw[bX h,aX,aQ h];rfl
 .rw[fW (by omega),fW (by omega),CG];rfl
def YB{a:List Nat}(ha:bi a)(k i:Nat)(hk:k<32):dv (a.drop i)/2^k=(a.getD i 0+a.getD (i+1) 0*4294967296)/2^k%4294967296+4294967296*(dv (a.drop (i+1))/2^k):=by
 rw[S6 a i,S6 a (i+1)];exact U3 _ k _ _ _ hk (ha.get i) J
def Yt{A G:Gh}{x:SV}{ds:List Nat}{k kk:Nat}(hx:cv A x ds)[GL A G](hk32:k<32)(hk:dv ds/2^k<2^kk)(hb:ds.length<=1125899906842):
  Fn prog 233 [x.v, .int .u64 (k:Int)] G (fun v G'=> ∃z:SV,v=z.v/\gg kk G' z (dv ds/2^k)):=by
 have htl:=oh ds;have hcall:=fun G1 (_:GL A G1)=>jt (G:=G1) hx;have hxt:=hx.trim;rw[<-kh ds] at hk⊢;generalize trimD ds=a at*;have hok:=hxt.ok;refine Fn.intro func233 J J ntmps233 J ?_;intro C _ _;refine sR<|sa J J<|zE<|sR<|sm J J<|?_;refine sc (zC J J (hcall _ inferInstance) J ?_);rintro _ G1 _ rfl;refine sa J J<|zE<|bw<|sR<|sm J J<|sy (yk J J (by omega) (by omega) (by decide)) J<|sm J J<|c6 J J<|sy (gF J) J<|?_;rw[show(k:Int)/32=0 by omega];refine sy (uJ J J) J<|zE<|?_;refine gm J (fun hc=>?_) (fun hc=>?_) -- slot 17
 .refine sR<|sa J J<|zE<|du<|?_
  have:a=[]:=bS (by omega);subst this;refine zD (.tmp J .nil) ⟨⟨none,0,0⟩,J,?_⟩;have e0:dv []/2^k=0:=by simp[dv]
  rw[e0];exact⟨by unfold dg;exact .nil _,fU (by omega)⟩
 refine zK<|sR<|sm J J<|sy (yk J J (by omega) (by omega) (by decide)) J<|sy (NZ J) J<|sm J J<|sy (xW J J (by omega) (by decide)) J<|?_;rw[show(k:Int)/32=0 by omega,show(k:Int)%32=k by omega];refine sa J J<|sa J J<|zE<|sR<|sm J J<|c6 J J<|sm J J<|sy (ki J J) J<|?_;refine sc (um J J (by omega) (by omega) (by omega) (by rfl) J ?_);intro b2;rw[vn,show((a.length:Int)-0).toNat=a.length by omega];refine sa J J<|zE<|bw<|sR<|sm J J<|c6 J J<|sm J J<|zE<|d9<|?_;refine l8 (X:=M1) (fun q=>[(30, .int .i64 q.i),(29, .int .i64 a.length),(0, .slice x.a a.length x.c),(5, .int .i64 0),(7, .slice (some ⟨b2,0,none⟩) a.length a.length),(6, .int .u64 k)])
  (fun q=>[⟨b2,q.ws.map dI,182,true⟩])
  (fun q _=>q.i<=a.length/\q.ws.length=a.length/\bi q.ws/\dv a/2^k=dv (q.ws.take q.i)+4294967296^q.i*(dv (a.drop q.i)/2^k)) (fun q=>a.length-q.i) ⟨List.replicate a.length 0,0⟩
  ⟨aN _,by simp, .replicate _,by simp[dv]⟩ (.cons J (.cons J (.cons J (.cons J (.cons J (.cons J .nil)))))) J ?_
 rintro ⟨ws,i⟩ Gy _ ⟨hia,hwl,hwo,hinv⟩;simp only[] at hia hwl hwo hinv⊢;refine sR<|sy (ju J J) J<|zE<|bw<|?_;refine mA J (fun hc=>?_) (fun hc=>?_) -- slot 31
 .have hin:i=a.length:=by omega
  refine jO<|e7<|e7<|jw<|sR<|sm J J<|?_;refine sE b2 (.hd ..) (fun G3 _ hgb=>?_);have hD:cv G3 ⟨some ⟨b2,0,none⟩,a.length,a.length⟩ ws:= .of_block hwo hgb.h hwl.symm (aM _) (by rw[aS (by simp)]);have hdv:dv a/2^k=dv ws:=by
   rw[hinv,hin,aS (by omega),fY];simp[dv]
  refine sc (zC J J (jt hD) J ?_);rintro _ G4 _ rfl;refine sa J J<|zE<|du<|?_;refine zD (.tmp J .nil) ⟨⟨some ⟨b2,0,none⟩,(trimD ws).length,a.length⟩,J,?_⟩;have h3:=hD.trim.up (G:=G4);rw[hdv] at hk⊢;exact⟨by rw[qc hwo];exact h3,hk⟩
 have hia':i<a.length:=by omega
 have hga:=hok.get i;have hga2:=hok.get (i+1);refine zK<|bw<|d9<|sR<|sm J J<|sa J J<|zE<|sR<|sm J J<|sm J J<|sm J J<|sy (d5 J J) J<|?_;refine sy (iD (z:=⟨x.a,a.length,x.c⟩) hxt J J (by omega) (by show((i:Int)+0)<(a.length:Nat);omega)) J<|?_;rw[show((i:Int)+0).toNat=i by omega];refine sy (iF hxt J) J<|sy (gF J) J<|sa J J<|zE<|?_;refine Ao Unit (fun _=>[(30, .int .i64 i),(8, .int .i64 i),(29, .int .i64 a.length),(0, .slice x.a a.length x.c),(5, .int .i64 0),(7, .slice (some ⟨b2,0,none⟩) a.length a.length),(6, .int .u64 k),(9, .int .u64 ((a.getD i 0+a.getD (i+1) 0*2^32:Nat):Int))]) (fun _=>[⟨b2,ws.map dI,182,true⟩]) (fun _ _=>True) ?_ ?_
 .refine sR<|sm J J<|sm J J<|sy (d5 J J) J<|sy (d5 J J) J<|sm J J<|c6 J J<|sy (ju J J) J<|?_
  refine zE<|?_;refine gm J (fun hc2=>?_) (fun hc2=>?_) -- slot 46
  .refine d6<|sm J J<|sm J J<|sm J J<|sm J J<|sy (d5 J J) J<|sy (d5 J J) J<|sy (iD (z:=⟨x.a,a.length,x.c⟩) hxt J J (by omega) (by show((i:Int)+0+1)<(a.length:Nat);omega)) J<|?_
   rw[show((i:Int)+0+1).toNat=i+1 by omega];refine sy (iF hxt J) J<|sy (gF J) J<|sy (wU J J) J<|?_;rw[sd (a.getD (i+1) 0) 32 (by decide) (by omega) J];refine sy (ja J J (OW (a.getD i 0) (a.getD (i+1) 0) 32 (by omega) (by omega))) J<|sa J J<|zE<|?_;exact qI () trivial (.cons J (.cons J (.cons J (.cons J (.cons J (.cons J (.cons J (.cons J .nil)))))))) J
  refine zK<|?_;have h0:a.getD (i+1) 0=0:=CG;exact qI () trivial (.cons J (.cons J (.cons J (.cons J (.cons J (.cons J (.cons J (.cons (by rw[h0,mK,fX];rfl) .nil)))))))) J
 rintro _ Gz _ _;refine d6<|sm J J<|sm J J<|sm J J<|sm J J<|sy (nA J J (by omega)) J<|?_;rw[ti _ k (by omega) (bV k)];refine sy (kH J) J<|sy (gi J J) J<|?_;rw[bV];refine sc (my (d:=(a.getD i 0+a.getD (i+1) 0*2^32)/2^k%4294967296) J J (by rw[pZ];rfl) (.hd ..) (by omega) J ?_);refine zE<|d6<|sy (d5 J J) J<|sm J J<|zE<|?_;refine jD ⟨ws.set i ((a.getD i 0+a.getD (i+1) 0*2^32)/2^k%4294967296),i+1⟩ ⟨by show i+1<=_;omega,by simp[hwl],hwo.set _ (cS _ (by decide)),?_⟩ (by show a.length-(i+1)<a.length-i;omega) (.cons J (.cons J (.cons J (.cons J (.cons J (.cons J .nil)))))) J;show dv a/2^k=dv ((ws.set i ((a.getD i 0+a.getD (i+1) 0*2^32)/2^k%4294967296)).take (i+1))+4294967296^(i+1)*(dv (a.drop (i+1))/2^k);rw[hinv,qx,YB hok k i hk32,uI i,dT,cX,kW]
end Go.Sx
end
