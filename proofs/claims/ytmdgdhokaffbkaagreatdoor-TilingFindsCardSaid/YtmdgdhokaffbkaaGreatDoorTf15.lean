import Derived.Test.YtmdgdhokaffbkaaGreatDoorTf14
set_option linter.all false
set_option maxHeartbeats 4000000
set_option maxRecDepth 100000
section
namespace Go.Sx
open Go Go.Proofs Tryz
variable {GB:Gh}{α β:Type}{k s i e j n len nm off d:Nat}{x y a b R t z:Rat}{l xs:List ak}{u v w q p:ab}{r:List ZP}{cuts o:List Rat}{m:aa}{marks:List Bool}{lk:LK}{bk:BM}{ty':TypeId}{pos:String}{af:Array Edge}{zx:List FX}
def o6(c:β->β->Int)(g:α->β)(l:List α)(k:Nat):List β:=td c ((l.take k).map g)
section
variable {c:β->β->Int}{g:α->β}{l:List α}
def vZ{x:α}(h:l[k]? =some x):o6 c g l (k+1)=eG c (g x) (o6 c g l k):=by
 unfold o6 td;rw[eM,h,Option.toList_some,bQ,rX];rfl
def IR(h:k=l.length:=by omega):o6 c g l k=td c (l.map g):=by unfold o6;rw[h,cS]
def Io:(o6 c g l k).length<=k:=by
 have:=K5 c ((l.take k).map g) [];have h2:((l.take k).map g).length<=k:=by rw[aX,bR];omega
 rw[iQ] at this;unfold o6 td;omega
def Ps{y:β}(h:y∈o6 c g l k): ∃x∈l,y=g x:=by
 rcases Nz c h with h|h
 .obtain⟨x,hx,rfl⟩:=aN.1 h
  exact⟨x,dW hx,J⟩
 .cases h
end
def rP{f:α->DV}(ok: ∀l:List α,cd s (l.map f))(xs:List α)(n:Nat):cd s ((xs.map f).take n):=fun d hd=>ok xs d (dW hd)
def qP{f:α->DV}(ok: ∀l:List α,cd s (l.map f))(xs:List α)(n m:Nat):cd s (((xs.map f).take n).drop m):=fun d hd=>ok xs d (dW (gK hd))
def sr{f:α->DV}(ok: ∀l:List α,cd s (l.map f))(xs:List α)(n m:Nat)(x:α):cd s ([f x]++((xs.map f).take n).drop m):=fun d hd=>by
 rcases bJ.1 hd with h|h
 .exact ok [x] d h
 .exact qP ok xs n m d h
def pH{f:α->DV}{l:List α}(h:i<l.length:=by omega):(l.map f)[(i:Int).toNat]? =some (f l[i]):=by
 rw[dQ,cY,aQ h];rfl
theorem omR{p:Prop}(h:p:=by dsimp only;exact⟨⟨by rw[vZ hz,<-hS];exact hin.symm,pb⟩,pb⟩):p:=h
theorem omX{p:Prop}(h:p:=by rw[hfin];rfl):p:=h
theorem okR{p:Prop}(h:p:=by rw[hys,bQ,cZ,gT,iW,bK (l:=xs.map eP) (i:=xs.length) v8];rfl):p:=h
def Yl{ps:List ab}(hb: ∀p∈ps,aE p 1200)(hn:ps.length<=100000):PF GB prog 169 [.sl (ps.map eP)] (.sl ((td fC ps).map eP)):=by
 have hm':=fp eP ps;refine fn (fu:=⟨15⟩) func169 J J ntmps169 J J (fun C=>?_);refine ah 8 (.d (vI (ps.length:Nat))) J (by rw[hm'];rfl)<|gx J<|AI 3 J<|lp (X:=List ab×Nat) (fun⟨xs,k⟩=>[(9, .d (vI (k:Nat))),(8, .d (vI (ps.length:Nat))),(7, .d (.sl (ps.map eP))),(0, .d (.sl (ps.map eP))),(3, .d (.sl (xs.map eP)))]) (fun⟨xs,k⟩=>[]) (fun⟨xs,k⟩=>xs=o6 fC id ps k/\k<=ps.length) (fun⟨xs,k⟩=>ps.length-k) ⟨[],0⟩ J ⟨J,aL _⟩ (fun _=>J) (fun⟨xs,k⟩ hk=>?_)
 try dsimp only at hk⊢
 obtain⟨hS,hkl⟩:=hk;refine br J J J (fun hc10=>?_) (fun hc10=>?_)
 .
  have hk:k<ps.length:=by omega
  obtain⟨m,hm⟩: ∃m,m=ps[k]:=⟨_,rfl⟩;have hz:ps[k]? =some m:=by rw[hm];exact aQ hk
  haveI hmb:aE m 1200:=hm▸hb _ (bL hk);have hxl:=fp eP xs;have hxn:xs.length<=k:=by rw[hS];exact Io
  have hxb: ∀q∈xs,aE q 1200:=fun q hq=>by rw[hS] at hq;obtain⟨z,hz,he⟩:=Ps hq;rw[he];exact hb z hz
  refine ix (fu:=⟨1⟩) _ J (pH hk) J<|ah 12 (.d (eP m)) J okW<|gx (fu:=⟨10⟩) J<|mg (fu:=⟨5⟩) (X:=Unit) (fun _=>[(9, .d (vI (k:Nat))),(8, .d (vI (ps.length:Nat))),(7, .d (.sl (ps.map eP))),(0, .d (.sl (ps.map eP))),(3, .d (.sl (xs.map eP))),(5, .ov 5 0),(6, .d (vI (jj fC m xs:Nat)))]) (fun _=>[(5,some (.o 36 [.d ((.v (.bool (decide (m.x.num<0))))), .d (dN m.x.num.natAbs), .d (dD m.x.den), .d ((.v (.bool (decide (m.y.num<0))))), .d (dN m.y.num.natAbs), .d (dD m.y.den)] true))]) (fun _=>True) [9,8,7,0,3,5,6] [5] rfl ?_ (fun _=>J) (fun _ _=>?_)
  .
   refine gx J<|lp (fu:=⟨6⟩) (X:=Nat) (fun n=>[(9, .d (vI (k:Nat))),(8, .d (vI (ps.length:Nat))),(7, .d (.sl (ps.map eP))),(0, .d (.sl (ps.map eP))),(3, .d (.sl (xs.map eP))),(5, .ov 5 0),(6, .d (vI (n:Nat)))]) (fun n=>[(5,some (.o 36 [.d ((.v (.bool (decide (m.x.num<0))))), .d (dN m.x.num.natAbs), .d (dD m.x.den), .d ((.v (.bool (decide (m.y.num<0))))), .d (dN m.y.num.natAbs), .d (dD m.y.den)] true))]) (fun n=>n<=xs.length/\ ∀j (h:j<xs.length),j<n->fC xs[j] m<0) (fun n=>xs.length-n) 0 J ⟨aL _,fun j _ hj=>absurd hj pb⟩ (fun _=>J) (fun n hk=>?_);obtain⟨n1,n2⟩:=hk;refine jk (v2:=fun hg16=>by simp only[aj];kernel_rfl) J J J J (fun hg16=>?_) (fun hg16=>?_)
   .
    refine ix _ J (pH) J<|cl J (Lf (p:=xs[n]' pb) (q:=m) (hp:=hxb _ (bL pb)) (hq:=hmb)) J<|br J J J (fun hc25=>?_) (fun hc25=>?_)
    .
     exact at_ (n+1) ⟨⟨pb,fun j h hj=>by by_cases q:j=n;(subst q;exact hc25);exact n2 j h pb⟩,pb⟩
    .
     have hidx:jj fC m xs=n:=sB fC n1 n2 (fun h=>hc25);exact at_ () trivial
   .
    have hidx:jj fC m xs=n:=sB fC n1 n2 (fun h=>absurd h pb);exact at_ () trivial
  .
   obtain⟨n,hnx⟩: ∃n,jj fC m xs=n:=⟨_,rfl⟩;rw[hnx];have hnl:n<=xs.length:=by rw[<-hnx];exact A6 _ _ _
   refine jk (v1:=fun hg31=>by simp only[aj];kernel_rfl) J J J J (fun hg31=>?_) (fun hg31=>?_)
   .
    have hnew: ∀h:n<xs.length,fC xs[n] m≠0:=fun h=>absurd h pb;obtain⟨ys,hys⟩: ∃ys,ys=xs.take n++m::xs.drop n:=⟨_,rfl⟩;have hin:eG fC m xs=ys:=by rw[hys];exact qt fC hnx hnew
    have hyl:ys.length<=xs.length+1:=by rw[hys];simp;omega
    refine s3 n _ J J J J (ol _) omE J<|ro J J<|js n xs.length _ J J okx J (ol _) hnl pb J<|ap _ J J (qP ol _ _ _) J<|jo (hv:=by simp only[aj];exact⟨we,pb⟩) (ho:=fun _=>⟨rP ol _ _,v8⟩) (ys.map eP) J okR (sr ol _ _ _ _) J<|at_ ⟨ys,k+1⟩ omR
   .
    refine ix _ J (pH) J<|cl J (Lf (p:=xs[n]' pb) (q:=m) (hp:=hxb _ (bL pb)) (hq:=hmb)) J<|br J J J (fun hc40=>?_) (fun hc40=>?_)
    .
     have hnew: ∀h:n<xs.length,fC xs[n] m≠0:=fun h=>hc40;obtain⟨ys,hys⟩: ∃ys,ys=xs.take n++m::xs.drop n:=⟨_,rfl⟩;have hin:eG fC m xs=ys:=by rw[hys];exact qt fC hnx hnew
     have hyl:ys.length<=xs.length+1:=by rw[hys];simp;omega
     refine s3 n _ J J J J (ol _) omE J<|ro J J<|js n xs.length _ J J okx J (ol _) hnl pb J<|ap _ J J (qP ol _ _ _) J<|jo (hv:=by simp only[aj];exact⟨we,pb⟩) (ho:=fun _=>⟨rP ol _ _,v8⟩) (ys.map eP) J okR (sr ol _ _ _ _) J<|at_ ⟨ys,k+1⟩ omR
    .
     have hin:eG fC m xs=xs:=xt fC hnx pb (Decidable.not_not.1 hc40);exact at_ ⟨xs,k+1⟩ omR
 .
  have hfin:td fC ps=xs:=by rw[hS,IR,List.map_id]
  exact rz J omX
def HD(ls:List aa):List aa:=td gE (ls.map aa.canon)
theorem omN{p:Prop}(h:p:=by dsimp only;exact⟨⟨by rw[vZ hz,<-hS,<-hmc];exact hin.symm,pb⟩,pb⟩):p:=h
def Uc{ls:List aa}(hb: ∀p∈ls,LB p)(hn:ls.length<=100000):PF GB prog 86 [.sl (ls.map eL)] (.sl ((HD ls).map eL)):=by
 have hm':=fp eL ls;refine fn (fu:=⟨15⟩) func86 J J ntmps86 J J (fun C=>?_);refine ah 8 (.d (vI (ls.length:Nat))) J (by rw[hm'];rfl)<|gx J<|AI 3 J<|lp (X:=List aa×Nat) (fun⟨xs,k⟩=>[(9, .d (vI (k:Nat))),(8, .d (vI (ls.length:Nat))),(7, .d (.sl (ls.map eL))),(0, .d (.sl (ls.map eL))),(3, .d (.sl (xs.map eL)))]) (fun⟨xs,k⟩=>[]) (fun⟨xs,k⟩=>xs=o6 gE aa.canon ls k/\k<=ls.length) (fun⟨xs,k⟩=>ls.length-k) ⟨[],0⟩ J ⟨J,aL _⟩ (fun _=>J) (fun⟨xs,k⟩ hk=>?_)
 try dsimp only at hk⊢
 obtain⟨hS,hkl⟩:=hk;refine br J J J (fun hc10=>?_) (fun hc10=>?_)
 .
  have hk:k<ls.length:=by omega
  obtain⟨z,hm⟩: ∃m,m=ls[k]:=⟨_,rfl⟩;have hz:ls[k]? =some z:=by rw[hm];exact aQ hk
  haveI hzb:LB z:=hm▸hb _ (bL hk);obtain⟨m,hmc⟩: ∃m,m=z.canon:=⟨_,rfl⟩;haveI hmb:LB m:=by rw[hmc];infer_instance
  have hxl:=fp eL xs;have hxn:xs.length<=k:=by rw[hS];exact Io
  have hxb: ∀q∈xs,LB q:=fun q hq=>by rw[hS] at hq;obtain⟨z,hz,rfl⟩:=Ps hq;haveI:=hb z hz;infer_instance
  refine ix (fu:=⟨1⟩) _ J (pH hk) J<|ah 12 (.d (eL z)) J okW<|gx J<|cl (fu:=⟨2⟩) J (Tv (l:=z)) J<|ah 16 (.d (eL m)) J (by rw[hmc])<|gx (fu:=⟨10⟩) J<|mg (fu:=⟨5⟩) (X:=Unit) (fun _=>[(9, .d (vI (k:Nat))),(8, .d (vI (ls.length:Nat))),(7, .d (.sl (ls.map eL))),(0, .d (.sl (ls.map eL))),(3, .d (.sl (xs.map eL))),(5, .ov 5 0),(6, .d (vI (jj gE m xs:Nat)))]) (fun _=>[(5,some (.o 136 [.d ((.v (.bool (decide (m.a<0))))), .d (dN m.a.natAbs), .d ((.v (.bool (decide (m.b<0))))), .d (dN m.b.natAbs), .d ((.v (.bool (decide (m.c<0))))), .d (dN m.c.natAbs)] true))]) (fun _=>True) [9,8,7,0,3,5,6] [5] rfl ?_ (fun _=>J) (fun _ _=>?_)
  .
   refine gx J<|lp (fu:=⟨6⟩) (X:=Nat) (fun n=>[(9, .d (vI (k:Nat))),(8, .d (vI (ls.length:Nat))),(7, .d (.sl (ls.map eL))),(0, .d (.sl (ls.map eL))),(3, .d (.sl (xs.map eL))),(5, .ov 5 0),(6, .d (vI (n:Nat)))]) (fun n=>[(5,some (.o 136 [.d ((.v (.bool (decide (m.a<0))))), .d (dN m.a.natAbs), .d ((.v (.bool (decide (m.b<0))))), .d (dN m.b.natAbs), .d ((.v (.bool (decide (m.c<0))))), .d (dN m.c.natAbs)] true))]) (fun n=>n<=xs.length/\ ∀j (h:j<xs.length),j<n->gE xs[j] m<0) (fun n=>xs.length-n) 0 J ⟨aL _,fun j _ hj=>absurd hj pb⟩ (fun _=>J) (fun n hk=>?_);obtain⟨n1,n2⟩:=hk;refine jk (v2:=fun hg21=>by simp only[aj];kernel_rfl) J J J J (fun hg21=>?_) (fun hg21=>?_)
   .
    refine ix _ J (pH) J<|cl J (As (l:=xs[n]' pb) (m:=m) (hl:=hxb _ (bL pb)) (hm:=hmb)) J<|br J J J (fun hc30=>?_) (fun hc30=>?_)
    .
     exact at_ (n+1) ⟨⟨pb,fun j h hj=>by by_cases q:j=n;(subst q;exact hc30);exact n2 j h pb⟩,pb⟩
    .
     have hidx:jj gE m xs=n:=sB gE n1 n2 (fun h=>hc30);exact at_ () trivial
   .
    have hidx:jj gE m xs=n:=sB gE n1 n2 (fun h=>absurd h pb);exact at_ () trivial
  .
   obtain⟨n,hnx⟩: ∃n,jj gE m xs=n:=⟨_,rfl⟩;rw[hnx];have hnl:n<=xs.length:=by rw[<-hnx];exact A6 _ _ _
   refine jk (v1:=fun hg36=>by simp only[aj];kernel_rfl) J J J J (fun hg36=>?_) (fun hg36=>?_)
   .
    have hnew: ∀h:n<xs.length,gE xs[n] m≠0:=fun h=>absurd h pb;obtain⟨ys,hys⟩: ∃ys,ys=xs.take n++m::xs.drop n:=⟨_,rfl⟩;have hin:eG gE m xs=ys:=by rw[hys];exact qt gE hnx hnew
    have hyl:ys.length<=xs.length+1:=by rw[hys];simp;omega
    refine s3 n _ J J J J (e8 _) omE J<|ro J J<|js n xs.length _ J J okx J (e8 _) hnl pb J<|ap _ J J (qP e8 _ _ _) J<|jo (hv:=by simp only[aj];exact⟨we,pb⟩) (ho:=fun _=>⟨rP e8 _ _,v8⟩) (ys.map eL) J omx (sr e8 _ _ _ _) J<|at_ ⟨ys,k+1⟩ omN
   .
    refine ix _ J (pH) J<|cl J (As (l:=xs[n]' pb) (m:=m) (hl:=hxb _ (bL pb)) (hm:=hmb)) J<|br J J J (fun hc45=>?_) (fun hc45=>?_)
    .
     have hnew: ∀h:n<xs.length,gE xs[n] m≠0:=fun h=>hc45;obtain⟨ys,hys⟩: ∃ys,ys=xs.take n++m::xs.drop n:=⟨_,rfl⟩;have hin:eG gE m xs=ys:=by rw[hys];exact qt gE hnx hnew
     have hyl:ys.length<=xs.length+1:=by rw[hys];simp;omega
     refine s3 n _ J J J J (e8 _) omE J<|ro J J<|js n xs.length _ J J okx J (e8 _) hnl pb J<|ap _ J J (qP e8 _ _ _) J<|jo (hv:=by simp only[aj];exact⟨we,pb⟩) (ho:=fun _=>⟨rP e8 _ _,v8⟩) (ys.map eL) J omx (sr e8 _ _ _ _) J<|at_ ⟨ys,k+1⟩ omN
    .
     have hin:eG gE m xs=xs:=xt gE hnx pb (Decidable.not_not.1 hc45);exact at_ ⟨xs,k+1⟩ omN
 .
  have hfin:HD ls=xs:=by rw[hS,IR];rfl
  exact rz J omX

def dC.trans{u v w:ab}(hu:u.half≠0)(hv:v.half≠0)(hw:w.half≠0)(h:dC u v)(k:dC v w):dC u w:=by
 rcases h with h|⟨h,h'⟩<;>rcases k with k|⟨k,k'⟩
 .exact .inl pb
 .exact .inl pb
 .exact .inl pb
 .refine .inr ⟨h.trans k,?_⟩
  have id1:u.cross w*v.y=u.cross v*w.y+v.cross w*u.y:=by unfold ab.cross;grind
  rcases rG v with⟨x,q⟩|⟨x,q⟩|⟨x,q⟩
  .rw[x] at h k
   have qu:=mr.1 h;have qw:=mr.1 k.symm;rcases q with q|⟨q,q'⟩
   .rw[<-im q,id1]
    have wy:0<=w.y:=by grind
    have uy:0<=u.y:=by grind
    have a1:=cB (cM h') wy;rcases qu with qu|⟨qu,qu'⟩
    .have:=eE k' qu;grind
    .rcases qw with qw|⟨qw,qw'⟩
     .have:=eE h' qw;rw[qu];grind
     .exfalso
      have hx:v.cross w= -(w.x*v.y):=by unfold ab.cross;rw[qw];grind
      have:=eE qw' q;grind
   .exfalso
    have hx:u.cross v= -(v.x*u.y):=by unfold ab.cross;rw[q];grind
    have:=cB (a:=v.x) (b:=u.y) (cM q') v7;grind
  .rw[x] at h k
   have qu:=rC.1 h;have qw:=rC.1 k.symm;rcases q with q|⟨q,q'⟩
   .have e1:u.cross w* -v.y=u.cross v* -w.y+v.cross w* -u.y:=by grind
    rw[<-im (k:= -v.y) v7,e1];have a1:=cB (a:=u.cross v) (b:= -w.y) (cM h') v7;rcases qu with qu|⟨qu,qu'⟩
    .have:=eE (a:=v.cross w) (b:= -u.y) k' v7;grind
    .rcases qw with qw|⟨qw,qw'⟩
     .have:=eE (a:=u.cross v) (b:= -w.y) h' v7;rw[qu];grind
     .exfalso
      have hx:v.cross w= -(-w.x* -v.y):=by unfold ab.cross;rw[qw];grind
      have:=eE (a:= -w.x) (b:= -v.y) v7 v7;grind
   .exfalso
    have hx:u.cross v= -(-v.x* -u.y):=by unfold ab.cross;rw[q];grind
    have:=cB (a:= -v.x) (b:= -u.y) v7 v7;grind
  .exact absurd x hv
def E9{l:aa}(h:l.ok):l.dir.half≠0:=fun e=>by
 have hn:=h.ne;unfold aa.Ne at hn;rcases rG l.dir with⟨k,_⟩|⟨k,_⟩|⟨_,k1,k2⟩
 .rw[k] at e;cases e
 .rw[k] at e;cases e
 .unfold aa.dir at k1 k2
  simp only at k1 k2;apply hn;refine⟨?_,dK.1 k2⟩;have:(l.a:Rat)=0:=by grind
  exact dK.1 this
def QN:fq u v=0↔u.half=v.half/\u.cross v=0:=by
 unfold fq;split
 .constructor
  .intro h;exact absurd h v6
  .intro h;omega
 .split
  .constructor
   .intro h;exact absurd h v6
   .intro h;omega
  .constructor
   .intro h
    exact⟨pb,(lC _).1 pb⟩
   .intro h
    rw[(lC _).2 h.2];rfl
def yw(h:dC u v)(k:dC v w):dC u w:=by
 by_cases hu:u.half=0
 .by_cases hw:w.half=0
  .have z: ∀x y:ab,x.half=0->x.cross y=0:=fun x y hx=>by
    rcases rG x with⟨e,_⟩|⟨e,_⟩|⟨_,e1,e2⟩
    .rw[hx] at e;exact absurd e v6
    .rw[hx] at e;exact absurd e v6
    .unfold ab.cross;rw[e1,e2];grind
   rcases h with h|⟨h,h'⟩
   .rcases k with k|⟨k,k'⟩
    .omega
    .have hv:v.half≠0:=by omega
     omega
   .rw[z u v hu] at h';exact absurd h' v6
  .refine .inl ?_
   have h1:=l9 hw;omega
 .have hv:v.half≠0:=by
   intro e;rcases h with h|⟨h,_⟩
   .have:=l9 hu;omega
   .omega
  have hw:w.half≠0:=by
   intro e;rcases k with k|⟨k,_⟩
   .have:=l9 hv;omega
   .omega
  exact dC.trans hu hv hw h k
section
variable (c:α->α->Int)
end
def uO(u:ab): ¬dC u u:=by
 rintro (h|⟨_,h⟩)
 .omega
 .have:u.cross u=0:=by unfold ab.cross;grind
  rw[this] at h;exact absurd h v6
def y7(h:dC u v)(k:dC v u):False:=uO u (yw h k)
def OM{x y:ab}(h: ¬dC x y)(k: ¬dC y x):fq x y=0:=by
 rw[<-vH] at h k;unfold fq at*;split at h<;>try omega
 split at h<;>try omega
 split at k<;>try omega
 rw[show y.cross x= -(x.cross y) by unfold ab.cross;grind,mM,Int.sign_neg] at k;omega
def MF(l:List ab):cd 6 (l.map eZ):=fun d hd=>by
 obtain⟨x,_,rfl⟩:=aN.1 hd;exact⟨J,J⟩
def II{q:Rat}[h:BQ q i](hi:i<=400000000:=by decide):PF GB prog 102 [eR q] (eF q):=by
 haveI:BN q.num.natAbs i:=⟨h.hn⟩;haveI:BN q.den i:=⟨h.hd⟩;refine fn func102 J J ntmps102 J J (fun C=>?_);refine cl (fu:=⟨0⟩) J (rD (n:=decide (q.num<0)) (a:=q.num.natAbs) (d:=q.den) (i:=i) (j:=i) pb pb) J<|ah 7 (.d (eF q)) J (by rw[ku,tZ])<|gx J<|rz J J
def EA[h:aE p i](hi:i<=400000000:=by decide):PF GB prog 43 [fe p] (eZ p):=by
 refine fn func43 J J ntmps43 J J (fun C=>?_);refine cl J (II (q:=p.x) (i:=i) hi) J<|cl J (II (q:=p.y) (i:=i) hi) J<|rz J J
def bc(a b p:ab):Rat:=(b.x-a.x)*(p.y-a.y)-(b.y-a.y)*(p.x-a.x)
def kd(v w p:ab):Int:=(if v.y<=p.y/\ ¬w.y<=p.y/\0<bc v w p then 1 else 0)-(if¬v.y<=p.y/\w.y<=p.y/\bc v w p<0 then 1 else 0)
def r9(v w q p:ab):Prop:= ∀s t:Rat,0<=s->s<=1->0<=t->t<=1->bj v w s≠bj q p t
def yo(h0:0<=a)(h1:a<=b)(hb:0<b):0<=a/b/\a/b<=1/\a/b*b=a:=by
 have e:a/b*b=a:=by grind
 generalize a/b=q at*;refine⟨?_,?_,e⟩
 .exact(jm hb).1 (by rw[e];exact h0)
 .have:=(jm (s:=1-q) hb).1 v7
  grind
def XO{x:ab}(hy:q.y<p.y)(h:bc q p x=0)(h1:q.y<=x.y)(h2:x.y<=p.y): ∃t,0<=t/\t<=1/\x=bj q p t:=by
 obtain⟨a1,a2,a3⟩:=yo (a:=x.y-q.y) (b:=p.y-q.y) v7 v7 v7;refine⟨_,a1,a2,?_⟩;generalize (x.y-q.y)/(p.y-q.y)=t at*;obtain⟨X,Y⟩:=x;unfold bc at h;unfold bj;simp only at*;have e:X=q.x+t*(p.x-q.x):=by
  have h3:(p.y-q.y)*(X-q.x)=(p.y-q.y)*(t*(p.x-q.x)):=by grind
  have h4:p.y-q.y≠0:=by grind
  have:=fS.1 (show(p.y-q.y)*(X-q.x-t*(p.x-q.x))=0 by grind);rcases this with h5|h5
  .exact absurd h5 h4
  .grind
 rw[e];congr 1;grind
def U6(q p v w:ab)(e:Rat):bc q p (bj v w e)=bc q p v+e*(bc q p w-bc q p v):=by
 unfold bc bj;grind
def Ib(v w:ab)(a b e:Rat):bj (bj v w a) (bj v w b) e=bj v w (a+e*(b-a)):=by
 unfold bj;simp only[ab.mk.injEq];constructor<;>grind
def CH(v w:ab)(e:Rat):(bj v w e).y=v.y+e*(w.y-v.y):=rfl
def EK{e lo hi:Rat}(h0:0<=e)(h1:e<=1)(ha:lo<=a)(hb:lo<=b)(ha2:a<=hi)(hb2:b<=hi):lo<=a+e*(b-a)/\a+e*(b-a)<=hi:=by
 have k1:=cB h0 (show 0<=b-lo by grind);have k2:=cB (show 0<=1-e by grind) (show 0<=a-lo by grind);have k3:=cB h0 (show 0<=hi-b by grind);have k4:=cB (show 0<=1-e by grind) (show 0<=hi-a by grind);constructor<;>grind
def Vl(hn:r9 v w q p)(hy:q.y<p.y)(a0:0<=a)(a1:a<=1)(b0:0<=b)(b1:b<=1)(ha:q.y<=(bj v w a).y/\(bj v w a).y<=p.y)(hb:q.y<=(bj v w b).y/\(bj v w b).y<=p.y)(h:bc q p (bj v w a)<0):bc q p (bj v w b)<0:=by
 by_cases k:bc q p (bj v w b)<0
 .exact k
 .exfalso
  obtain⟨e0,e1,e2⟩:=yo (a:= -(bc q p (bj v w a))) (b:=bc q p (bj v w b)-bc q p (bj v w a)) v7 v7 v7;generalize-(bc q p (bj v w a))/(bc q p (bj v w b)-bc q p (bj v w a))=e at*;have hz:bc q p (bj v w (a+e*(b-a)))=0:=by rw[<-Ib,U6];grind
  have hh:=EK e0 e1 ha.1 hb.1 ha.2 hb.2;rw[<-CH,Ib] at hh;obtain⟨t,t0,t1,ht⟩:=XO hy hz hh.1 hh.2;have h01:=EK e0 e1 a0 b0 a1 b1;exact hn _ t h01.1 h01.2 t0 t1 ht
def P1(hn:r9 v w q p)(hy:q.y<p.y): ∃r:Bool,∀s,0<=s->s<=1->q.y<=(bj v w s).y->(bj v w s).y<=p.y->(bc q p (bj v w s)<0↔r=true):=by
 by_cases h: ∃s,0<=s/\s<=1/\(q.y<=(bj v w s).y/\(bj v w s).y<=p.y)/\bc q p (bj v w s)<0
 .obtain⟨s,s0,s1,s2,s3⟩:=h
  exact⟨true,fun t t0 t1 h1 h2=>⟨fun _=>J,fun _=>Vl hn hy s0 s1 t0 t1 s2 ⟨h1,h2⟩ s3⟩⟩
 .exact⟨false,fun t t0 t1 h1 h2=>⟨fun k=>absurd ⟨t,t0,t1,⟨h1,h2⟩,k⟩ h,fun k=>by cases k⟩⟩
def MX(v w:ab):bj v w 0=v:=by unfold bj;cases v;simp only[ab.mk.injEq];constructor<;>grind
def Jp(v w:ab):bj v w 1=w:=by unfold bj;cases w;simp only[ab.mk.injEq];constructor<;>grind
def Ge(h:(v.y<=y/\ ¬w.y<=y)\/(¬v.y<=y/\w.y<=y)): ∃s,0<=s/\s<=1/\(bj v w s).y=y:=by
 rcases h with⟨h1,h2⟩|⟨h1,h2⟩
 .obtain⟨a1,a2,a3⟩:=yo (a:=y-v.y) (b:=w.y-v.y) v7 v7 v7
  refine⟨_,a1,a2,?_⟩;rw[CH];grind
 .obtain⟨a1,a2,a3⟩:=yo (a:=v.y-y) (b:=v.y-w.y) v7 v7 v7
  refine⟨_,a1,a2,?_⟩;rw[CH];grind
def If{s:Rat}(h:(bj v w s).y=p.y):bc v w p=(w.y-v.y)*((bj v w s).x-p.x):=by
 unfold bc;unfold bj at*;simp only at*;rw[<-h];grind
def vR(ha:0<a):0<a*b↔0<b:=by rw[Rat.mul_comm];exact im ha
def DA(ha:a<0):a*b<0↔0<b:=by
 have:=vR (a:= -a) (b:=b) v7;constructor
 .intro h;exact this.1 v7
 .intro h;have:=this.2 h;grind
def bI(b:Prop)[Decidable b]:Int:=if b then 1 else 0
def yi{r:Prop}[Decidable r](h: ∀s,0<=s->s<=1->(bj v w s).y=p.y->(p.x<(bj v w s).x↔r)):kd v w p=if r then bI (v.y<=p.y)-bI (w.y<=p.y) else 0:=by
 unfold kd bI;by_cases h1:v.y<=p.y<;>by_cases h2:w.y<=p.y
 .simp[h1,h2]
 .obtain⟨s,s0,s1,s2⟩:=Ge (.inl ⟨h1,h2⟩)
  have e:=If s2;have k:=h s s0 s1 s2;have m:=vR (a:=w.y-v.y) (b:=(bj v w s).x-p.x) v7;rw[<-e] at m;have m2:0<bc v w p↔r:=by rw[m,<-k];grind
  simp only[h1,h2,m2];by_cases q:r<;>simp[q]
 .obtain⟨s,s0,s1,s2⟩:=Ge (.inr ⟨h1,h2⟩)
  have e:=If s2;have k:=h s s0 s1 s2;have m:=DA (a:=w.y-v.y) (b:=(bj v w s).x-p.x) v7;rw[<-e] at m;have m2:bc v w p<0↔r:=by rw[m,<-k];grind
  simp only[h1,h2,m2];by_cases q:r<;>simp[q]
 .simp[h1,h2]
def ta(q p u:ab):Int:=if q.y<u.y/\u.y<=p.y/\bc q p u<0 then 1 else 0
def I8(hn:r9 v w q p)(hy:q.y<p.y):kd v w p-kd v w q=ta q p v-ta q p w:=by
 obtain⟨r,hr⟩:=P1 hn hy;have ep:=yi (v:=v) (w:=w) (p:=p) (r:=r=true) fun s s0 s1 s2=>by
  rw[<-hr s s0 s1 v7 v7];have m:=vR (a:=p.y-q.y) (b:=(bj v w s).x-p.x) v7;have:bc q p (bj v w s)= -((p.y-q.y)*((bj v w s).x-p.x)):=by unfold bc;rw[s2];grind
  rw[this];generalize (p.y-q.y)*((bj v w s).x-p.x)=z at*;constructor
  .intro k;have:=m.2 v7;grind
  .intro k;have:=m.1 v7;grind
 have eq:=yi (v:=v) (w:=w) (p:=q) (r:=r=true) fun s s0 s1 s2=>by
  rw[<-hr s s0 s1 v7 v7];have m:=vR (a:=p.y-q.y) (b:=(bj v w s).x-q.x) v7;have:bc q p (bj v w s)= -((p.y-q.y)*((bj v w s).x-q.x)):=by unfold bc;rw[s2];grind
  rw[this];generalize (p.y-q.y)*((bj v w s).x-q.x)=z at*;constructor
  .intro k;have:=m.2 v7;grind
  .intro k;have:=m.1 v7;grind
 have fv:ta q p v=if r=true then bI (v.y<=p.y)-bI (v.y<=q.y) else 0:=by
  have h:=hr 0 v6 v6;rw[MX] at h;unfold ta bI;by_cases h1:v.y<=p.y<;>by_cases h2:v.y<=q.y
  .have: ¬q.y<v.y:=by grind
   simp[h1,h2,this]
  .have h3:q.y<v.y:=by grind
   have:=h v7 h1;simp only[h1,h2,h3,this];by_cases q:r=true<;>simp[q]
  .exfalso;grind
  .simp[h1,h2]
 have fw:ta q p w=if r=true then bI (w.y<=p.y)-bI (w.y<=q.y) else 0:=by
  have h:=hr 1 v6 v6;rw[Jp] at h;unfold ta bI;by_cases h1:w.y<=p.y<;>by_cases h2:w.y<=q.y
  .have: ¬q.y<w.y:=by grind
   simp[h1,h2,this]
  .have h3:q.y<w.y:=by grind
   have:=h v7 h1;simp only[h1,h2,h3,this];by_cases q:r=true<;>simp[q]
  .exfalso;grind
  .simp[h1,h2]
 rw[ep,eq,fv,fw];by_cases q:r=true
 .simp only[if_pos q];omega
 .simp only[if_neg q]
def YF(hn:r9 v w q p)(hy:q.y=p.y):kd v w p=kd v w q:=by
 have key: ∀s,0<=s->s<=1->(bj v w s).y=p.y->(p.x<(bj v w s).x↔q.x<(bj v w s).x):=fun s s0 s1 s2=>by
  have no: ∀a b:Rat,a<=(bj v w s).x->(bj v w s).x<b->((a=q.x/\b=p.x)\/(a=p.x/\b=q.x))->False:=fun a b h1 h2 h3=>by
   obtain⟨a1,a2,a3⟩:=yo (a:=(bj v w s).x-a) (b:=b-a) v7 v7 v7;generalize ((bj v w s).x-a)/(b-a)=t at*;rcases h3 with⟨e1,e2⟩|⟨e1,e2⟩
   .refine hn s t s0 s1 a1 a2 ?_
    generalize hx:bj v w s=x at*;obtain⟨X,Y⟩:=x;unfold bj;simp only[ab.mk.injEq] at*;subst e1 e2;constructor<;>grind
   .refine hn s (1-t) s0 s1 v7 v7 ?_
    generalize hx:bj v w s=x at*;obtain⟨X,Y⟩:=x;unfold bj;simp only[ab.mk.injEq] at*;subst e1 e2;constructor<;>grind
  constructor
  .intro h
   by_cases k:q.x<(bj v w s).x
   .exact k
   .by_cases k2:(bj v w s).x=q.x
    .exfalso
     refine hn s 0 s0 s1 v6 v6 ?_;rw[MX];generalize bj v w s=x at*;obtain⟨X,Y⟩:=x;obtain⟨A,B⟩:=q;simp only[ab.mk.injEq] at*;exact⟨k2,v7⟩
    .exact(no p.x q.x v7 v7 (.inr ⟨J,J⟩)).elim
  .intro h
   by_cases k:p.x<(bj v w s).x
   .exact k
   .by_cases k2:(bj v w s).x=p.x
    .exfalso
     refine hn s 1 s0 s1 v6 v6 ?_;rw[Jp];generalize bj v w s=x at*;obtain⟨X,Y⟩:=x;obtain⟨A,B⟩:=p;simp only[ab.mk.injEq] at*;exact⟨k2,s2⟩
    .exact(no q.x p.x v7 v7 (.inl ⟨J,J⟩)).elim
 by_cases hc:(v.y<=p.y/\ ¬w.y<=p.y)\/(¬v.y<=p.y/\w.y<=p.y)
 .obtain⟨s,s0,s1,s2⟩:=Ge hc
  have uq: ∀t,(bj v w t).y=p.y->t=s:=fun t ht=>by
   rw[CH] at ht s2;have h4:w.y-v.y≠0:=by grind
   have:=fS.1 (show(w.y-v.y)*(t-s)=0 by grind);rcases this with h5|h5
   .exact absurd h5 h4
   .grind
  rw[yi (p:=p) (r:=p.x<(bj v w s).x) fun t _ _ ht=>by rw[uq t ht],yi (p:=q) (r:=p.x<(bj v w s).x) fun t _ _ ht=>by rw[uq t (by rw[ht,hy])];exact(key s s0 s1 s2).symm,hy]
 .unfold kd
  rw[hy];by_cases h1:v.y<=p.y<;>by_cases h2:w.y<=p.y<;>simp[h1,h2] at hc⊢
def Xu(q p:ab)(t:Rat):bj p q t=bj q p (1-t):=by unfold bj;simp only[ab.mk.injEq];constructor<;>grind
def r9.symm(h:r9 v w q p):r9 v w p q:=fun s t s0 s1 t0 t1 e=>h s (1-t) s0 s1 v7 v7 (by rw[e,Xu])
def gi(r:List ZP)(p:ab):Nat->Int
 |0=>0
 |k+1=>gi r p k+kd (r.getD k (0,0)).q (f5 r k).q p
def vG(r:List ZP)(q p:ab):Prop:= ∀k,k<r.length->r9 (r.getD k (0,0)).q (f5 r k).q q p
def Lm{r:List ZP}{q p:ab}(h:vG r q p)(hy:q.y<p.y): ∀k,k<r.length->gi r p k-gi r q k=ta q p (r.getD 0 (0,0)).q-ta q p (r.getD k (0,0)).q
 |0,_=>by simp[gi]
 |k+1,hk=>by
  have ih:=Lm h hy k pb;have e:=I8 (h k pb) hy;rw[wW] at e;rw[gi,gi,wW];omega
def Kk(h:vG r q p)(hy:q.y<p.y):gi r p r.length=gi r q r.length:=by
 cases hr:r.length with
 |zero=>rfl
 |succ n=>
  have ih:=Lm h hy n pb;have e:=I8 (h n pb) hy;rw[yr] at e;rw[gi,gi,yr];omega
def Li{r:List ZP}{q p:ab}(h:vG r q p)(hy:q.y=p.y): ∀k,k<=r.length->gi r p k=gi r q k
 |0,_=>rfl
 |k+1,hk=>by rw[gi,gi,Li h hy k pb,YF (h k pb) hy]
def QA(h:vG r q p):gi r p r.length=gi r q r.length:=by
 by_cases h1:q.y<p.y
 .exact Kk h h1
 .by_cases h2:p.y<q.y
  .exact(Kk (fun k hk=>(h k hk).symm) h2).symm
  .exact Li h v7 _ (bZ _)
def Wi(a b c:ab):mF a b c=(bc a b c).num.sign:=by
 unfold mF bc ab.cross ce;congr 2;grind
def W0(a b:Rat):bm a b<=0↔a<=b:=by
 have:=Ds a b;constructor
 .intro h
  by_cases q:b<a
  .have:=this.2 q;omega
  .grind
 .intro h
  by_cases q:0<bm a b
  .have:=this.1 q;grind
  .omega
def Xr(v w p:ab):oz v w p=kd v w p:=by
 unfold oz kd;simp only[Wi,mc,xv,W0]
def xB(r:List ZP)(p:ab): ∀k,mm r p k=gi r p k
 |0=>rfl
 |k+1=>by rw[mm,gi,xB r p k,Xr]
def TE(h:vG r q p):i0 r p=i0 r q:=by
 unfold i0;rw[xB,xB,QA h]
def Un(h:v.y<=p.y)(k:w.y<=p.y):kd v w p=0:=by unfold kd;simp[h,k]
def Zd(h:p.y<v.y)(k:p.y<w.y):kd v w p=0:=by
 have h': ¬v.y<=p.y:=by grind
 have k': ¬w.y<=p.y:=by grind
 unfold kd;simp[h',k']
def Gi(r:Bool)(h1:p.x<v.x↔r=true)(h2:p.x<w.x↔r=true)(h3:v.x<p.x↔r=false)(h4:w.x<p.x↔r=false):kd v w p=if r=true then bI (v.y<=p.y)-bI (w.y<=p.y) else 0:=by
 refine yi (r:=r=true) fun s s0 s1 _=>?_;have e:(bj v w s).x-p.x=(1-s)*(v.x-p.x)+s*(w.x-p.x):=by unfold bj;grind
 cases r with
 |true=>
  have a:=h1.2 J;have b:=h2.2 J;refine⟨fun _=>J,fun _=>?_⟩;by_cases q:s=0
  .subst q;grind
  .have k1:=eE (show 0<s by grind) (show 0<w.x-p.x by grind)
   have k2:=cB (show 0<=1-s by grind) (show 0<=v.x-p.x by grind);grind
 |false=>
  have a:=h3.2 J;have b:=h4.2 J;refine⟨fun k=>?_,fun k=>(by cases k)⟩;exfalso;have k1:=cB (show 0<=s by grind) (show 0<=p.x-w.x by grind);have k2:=cB (show 0<=1-s by grind) (show 0<=p.x-v.x by grind);grind
def kj(R:Rat)(p:ab):Prop:=p.x< -R\/R<p.x\/p.y< -R\/R<p.y
def UN{P:ZP->Prop}(h: ∀v∈r,P v)(hk:k<r.length):P (r.getD k (0,0)):=h _ (wz hk)
theorem omZ{p:Prop}(h:p:=by have:=hv k pb;constructor<;>grind):p:=h
theorem oka{p:Prop}(h:p:=by have:=hw k pb;constructor<;>grind):p:=h
def HQ(hr: ∀v∈r, -R<=v.q.x/\v.q.x<=R/\ -R<=v.q.y/\v.q.y<=R)(hp:kj R p):gi r p r.length=0:=by
 have hv: ∀k,k<r.length->_:=fun k hk=>UN hr hk;have hw: ∀k,k<r.length->_:=fun k hk=>hr _ (AY hk);have zero:(∀k,k<r.length->kd (r.getD k (0,0)).q (f5 r k).q p=0)-> ∀k,k<=r.length->gi r p k=0:=fun h=>by
  intro k
  induction k with
  |zero=>intro _;rfl
  |succ k ih=>intro hk;rw[gi,ih pb,h k pb];rfl
 rcases hp with h|h|h|h
 .have tele: ∀k,k<r.length->gi r p k=bI ((r.getD 0 (0,0)).q.y<=p.y)-bI ((r.getD k (0,0)).q.y<=p.y):=by
   intro k
   induction k with
   |zero=>intro _;rw[gi];omega
   |succ k ih=>
    intro hk;have e:=Gi (v:=(r.getD k (0,0)).q) (w:=(f5 r k).q) (p:=p) true omZ oka omZ oka;rw[if_pos J,wW] at e;rw[gi,ih pb,wW,e];omega
  cases hr':r.length with
  |zero=>rfl
  |succ n=>
   have e:=Gi (v:=(r.getD n (0,0)).q) (w:=(f5 r n).q) (p:=p) true (by have:=hv n pb;constructor<;>grind) (by have:=hw n pb;constructor<;>grind) (by have:=hv n pb;constructor<;>grind) (by have:=hw n pb;constructor<;>grind);rw[if_pos J,yr] at e;rw[gi,tele n pb,yr,e];omega
 .refine zero (fun k hk=>?_) _ (bZ _)
  have e:=Gi (v:=(r.getD k (0,0)).q) (w:=(f5 r k).q) (p:=p) false omZ oka omZ oka;rw[e,if_neg v6]
 .exact zero (fun k hk=>Zd (by have:=hv k hk;grind) (by have:=hw k hk;grind)) _ (bZ _)
 .exact zero (fun k hk=>Un (by have:=hv k hk;grind) (by have:=hw k hk;grind)) _ (bZ _)
def vr(vs:List ak):cd 8 (vs.map eV):=fun d hd=>by
 obtain⟨u,_,rfl⟩:=aN.1 hd;exact⟨rfl,rfl⟩
def ik(qs:List Rat):cd 3 (qs.map eQ):=fun d hd=>by
 obtain⟨u,_,rfl⟩:=aN.1 hd;exact⟨rfl,rfl⟩
def Iu(bs:List Bool):cd 1 (bs.map vB):=fun d hd=>by
 obtain⟨u,_,rfl⟩:=aN.1 hd;exact⟨rfl,rfl⟩
def UR{v:ak}{a b:Int}(h:l[k]? =some v)(ha:a=if v.nl then 1 else bm t v.lo)(hb:b=if v.nh then-1 else bm t v.hi):
  pk (l.drop k) t=if 0<a/\b<0 then 2 else if(a=0/\b<=0)\/(b=0/\0<=a) then 1 else pk (l.drop (k+1)) t:=by
 obtain⟨hk,rfl⟩:=aS.1 h;rw[bW hk,pk,ha,hb]
structure lE (v:ak):Prop where
 lo:BQ v.lo 1200
 hi:BQ v.hi 1200
theorem omi{p:Prop}(h:p:=by first|(rw[<-h2,fU];rfl)|(rw[<-h2,hst,if_pos pb];rfl)|(rw[<-h2,hst,if_neg pb,if_pos pb];rfl)):p:=h
def Xz[ht:BQ t i](hb: ∀v∈l,lE v)(hn:l.length<=100000)(hi:i<=20000:=by decide):PF GB prog 325 [.sl (l.map eV),eQ t] (vI (pk l t)):=by
 have hm:=fp eV l;refine fn (fu:=⟨11⟩) func325 J J ntmps325 J J (fun C=>?_);refine ah 10 (.d (vI (l.length:Nat))) J omr<|gx J<|lp (X:=Nat) (fun k=>[(11, .d (vI (k:Nat)))]) (fun k=>[]) (fun k=>k<=l.length/\pk (l.drop k) t=pk l t) (fun k=>l.length-k) 0 J ⟨aL _,J⟩ (fun _=>J) (fun k hk=>?_);obtain⟨h1,h2⟩:=hk;refine br J J J (fun hc12=>?_) (fun hc12=>?_)
 .
  obtain⟨v,hz⟩: ∃s,l[k]? =some s:=⟨_,aQ pb⟩;have hv:=hb v (aV hz);haveI:=hv.lo;haveI:=hv.hi;refine ix (fu:=⟨12⟩) _ J (bF hz) J<|mg (fu:=⟨1⟩) (X:=Int) (fun a=>[(7, .d (vI a))]) (fun a=>[]) (fun a=>a=if v.nl then 1 else bm t v.lo) [7] [] rfl ?_ (fun _=>J) (fun a ha=>?_)
  .
   refine gx J<|bb J J J (fun hc17=>?_) (fun hc17=>?_)
   .
    refine cl J (kz (a:=t) (b:=v.lo) (i:=i) pb) J<|at_ (bm t v.lo) (by rw[if_neg (by simpa using hc17)])
   .
    exact at_ 1 (by rw[if_pos (by simpa using hc17)])
  .
   refine mg (X:=Int) (fun b=>[(8, .d (vI b))]) (fun b=>[]) (fun b=>b=if v.nh then-1 else bm t v.hi) [8] [] rfl ?_ (fun _=>J) (fun b hb'=>?_)
   .
    refine gx J<|bb J J J (fun hc24=>?_) (fun hc24=>?_)
    .
     refine cl J (kz (a:=t) (b:=v.hi) (i:=i) pb) J<|at_ (bm t v.hi) (by rw[if_neg (by simpa using hc24)])
    .
     exact at_ (-1) (by rw[if_pos (by simpa using hc24)])
   .
    have hst:=UR hz ha hb';refine cs 31 J J J (fun hg31=>?_) (fun hg31=>?_)
    .
     refine br J J J (fun hc34=>?_) (fun hc34=>?_)
     .
      exact rz J omi
     .
      refine cs 37 J J J (fun hg37=>?_) (fun hg37=>?_)
      .
       refine cs 41 J J J (fun hg41=>?_) (fun hg41=>?_)
       .
        exact rz J omi
       .
        refine cs 44 J J J (fun hg44=>?_) (fun hg44=>?_)
        .
         refine br J J J (fun hc48=>?_) (fun hc48=>?_)
         .
          exact rz J omi
         .
          exact at_ (k+1) ⟨⟨pb,by rw[<-h2,hst,if_neg pb,if_neg pb]⟩,pb⟩
        .
         exact at_ (k+1) ⟨⟨pb,by rw[<-h2,hst,if_neg pb,if_neg pb]⟩,pb⟩
      .
       refine cs 44 J J J (fun hg44=>?_) (fun hg44=>?_)
       .
        refine br J J J (fun hc48=>?_) (fun hc48=>?_)
        .
         exact rz J omi
        .
         exact at_ (k+1) ⟨⟨pb,by rw[<-h2,hst,if_neg pb,if_neg pb]⟩,pb⟩
       .
        exact at_ (k+1) ⟨⟨pb,by rw[<-h2,hst,if_neg pb,if_neg pb]⟩,pb⟩
    .
     refine cs 37 J J J (fun hg37=>?_) (fun hg37=>?_)
     .
      refine cs 41 J J J (fun hg41=>?_) (fun hg41=>?_)
      .
       exact rz J omi
      .
       refine cs 44 J J J (fun hg44=>?_) (fun hg44=>?_)
       .
        refine br J J J (fun hc48=>?_) (fun hc48=>?_)
        .
         exact rz J omi
        .
         exact at_ (k+1) ⟨⟨pb,by rw[<-h2,hst,if_neg pb,if_neg pb]⟩,pb⟩
       .
        exact at_ (k+1) ⟨⟨pb,by rw[<-h2,hst,if_neg pb,if_neg pb]⟩,pb⟩
     .
      refine cs 44 J J J (fun hg44=>?_) (fun hg44=>?_)
      .
       refine br J J J (fun hc48=>?_) (fun hc48=>?_)
       .
        exact rz J omi
       .
        exact at_ (k+1) ⟨⟨pb,by rw[<-h2,hst,if_neg pb,if_neg pb]⟩,pb⟩
      .
       exact at_ (k+1) ⟨⟨pb,by rw[<-h2,hst,if_neg pb,if_neg pb]⟩,pb⟩
 .
  obtain rfl:k=l.length:=by omega
  exact rz J omi
def L4[ht:BQ t i](hb: ∀v∈l,lE v)(hn:l.length<=100000)(hi:i<=20000:=by decide):PF GB prog 299 [.sl (l.map eV),eQ t] (vB (fi l t)):=by
 refine fn func299 J J ntmps299 J J (fun C=>?_);refine cl J (Xz (l:=l) (t:=t) hb hn hi) J<|rz J J
def Ng: ∀{l:List Rat} {i:Nat} {a b:Rat},l[i]? =some a->l[i+1]? =some b->gF (l.take (i+2))=gF (l.take (i+1))++[(a+b)/2]
 |[],i,a,b,h,_=>by simp at h
 |[_],i,a,b,h,k=>by simp at k
 |c::d::t,0,a,b,h,k=>by
  simp at h k;subst h;subst k;simp[gF]
 |c::d::t,i+1,a,b,h,k=>by
  have:=Ng (l:=d::t) (i:=i) omu (by simpa using k);rw[show(c::d::t).take (i+1+2)=c::d::t.take (i+1) by simp,show(c::d::t).take (i+1+1)=c::d::t.take i by simp,gF,gF,iT];congr 1
def Hh: ∀l:List Rat,(gF l).length<=l.length
 |[]=>bZ _
 |[_]=>aL _
 |a::b::t=>by rw[gF,bY,bY];exact Nat.succ_le_succ (Hh (b::t))
def PQ{t:List Rat}(h:(a::t)[t.length]? =some z):fg (a::t)=(a-1)::(gF (a::t)++[z+1]):=by
 rw[fg];have:(a::t).getLast v8=z:=by
  rw[List.getLast_eq_getElem];have:=aS.1 h;obtain⟨h1,h2⟩:=this;rw[<-h2];congr 1
 rw[this]
theorem omH{p:Prop}(h:p:=by rw[hm2]<;>rfl):p:=h
def ZC(hb: ∀q∈cuts,BQ q 1200)(hn:cuts.length<=100000):PF GB prog 298 [.sl (cuts.map eQ)] (.sl ((fg cuts).map eQ)):=by
 have hm:=fp eQ cuts;refine fn (fu:=⟨10⟩) func298 J J ntmps298 J J (fun C=>?_);refine ah 6 (.d (vI (cuts.length:Nat))) J omr<|gx J<|br J J J (fun hc7=>?_) (fun hc7=>?_)
 .
  obtain rfl:cuts=[]:=cV pb;refine rf J J<|rz J (by rw[fg];show DV.sl [_]=DV.sl [_];rw[Kg])
 .
  obtain⟨a,ct,rfl⟩: ∃a t,cuts=a::t:=by cases cuts with|nil=>exact absurd rfl hc7|cons a t=>exact⟨a,t,rfl⟩
  haveI hab:=hb a aZ;have hcl:ct.length+1<=100000:=hn;refine ix _ J J J<|cl J (kc (n:=1)) J<|cl (fu:=⟨0⟩) J (qp (a:=a) (b:=((1:Int):Rat))) J<|ah 14 (.d (eQ (a-1))) J J<|gx J<|ro J J<|lp (fu:=⟨6⟩) (X:=Nat) (fun i=>[(4, .d (vI ((i+1:Nat):Int))),(3, .rw 15)]) (fun i=>[(15,some (.b 34 3 (((a-1)::gF ((a::ct).take (i+1))).map eQ) true))]) (fun i=>i<=ct.length) (fun i=>ct.length-i) 0 J (aL _) (fun _=>J) (fun i hk=>?_);have hm2:=fp eQ (a::ct);have hml:=Hh (a::ct.take i);rw[bY,bR] at hml;have hml2:=Hh (a::ct);rw[bY] at hml2;refine ah 18 (.d (vI ((ct.length+1:Nat):Int))) J omH<|gx J<|br (fu2:=⟨11⟩) J J J (fun hc19=>?_) (fun hc19=>?_)
  .
   obtain⟨u,hu⟩: ∃s,(a::ct)[i]? =some s:=⟨_,aQ omk⟩;obtain⟨w,hw⟩: ∃s,(a::ct)[i+1]? =some s:=⟨_,aQ omk⟩;haveI:=hb u (aV hu);haveI:=hb w (aV hw);refine ix _ J (by rw[show((((i+1:Nat):Int))-1).toNat=i by omega,cY,hu];rfl) J<|ix _ J (by rw[dQ,cY,hw];rfl) J<|?_;refine cl J (HN (a:=u) (b:=w)) J<|rf J J<|ap (hv:=by simp only[aj];exact⟨we,pb⟩) (((a-1)::gF ((a::ct).take (i+1+1))).map eQ) J (by rw[Ng hu hw,<-iT,bQ];rfl) (ik [(u+w)/2]) J<|dq 34 15 J<|at_ (i+1) ⟨pb,pb⟩
  .
   obtain rfl:i=ct.length:=by omega
   obtain⟨z,hz⟩: ∃s,(a::ct)[ct.length]? =some s:=⟨_,aQ v8⟩;haveI:=hb z (aV hz);rw[show(a::ct).take (ct.length+1)=a::ct from cS (l:=a::ct)];refine ah 38 (.d (vI ((ct.length+1:Nat):Int))) J omH<|gx J<|ix _ J (by rw[show((((ct.length+1:Nat):Int))-1).toNat=ct.length by omega,cY,hz];rfl) J<|cl J (kc (n:=1)) J<|?_;refine cl J (ll (a:=z) (b:=((1:Int):Rat))) J<|rf J J<|ap ((fg (a::ct)).map eQ) J (by rw[PQ hz,<-iT,bQ];rfl) (ik [z+1]) J<|fD 45 J<|rz J J
def No(o:List Rat)(s:ak):(jE o s).length<=o.length+2:=by
 unfold jE;have h:=fun(x:Rat) (l:List Rat)=>yv (x:=x) (l:=l)▸Ax bm x l;have h1:=h s.lo o;have h2:=h s.hi o;have h3:=h s.hi (lG s.lo o);split<;>split<;>omega
def om(l:List ak)(k:Nat):List Rat:=f9 (l.take k)
def MA{v:ak}(h:l[k]? =some v):om l (k+1)=jE (om l k) v:=by
 unfold om f9;rw[eM,h,rX];rfl
def B7(l:List ak): ∀k,(om l k).length<=2*k
 |0=>bZ _
 |k+1=>by
  cases h:l[k]? with
  |none=>
   have:=B7 l k;unfold om at*;rw[eM,h];simp;omega
  |some v=>rw[MA h];have:=B7 l k;have:=No (om l k) v;omega
theorem PC(hb: ∀v∈l,lE v): ∀y∈om l k,BQ y 1200:=fun y hy=>by
 obtain⟨s,hs,h⟩:=(Ed _).2 y hy;have:=hb s (dW hs);rcases h with⟨_,rfl⟩|⟨_,rfl⟩
 .exact this.lo
 .exact this.hi
def pE(o:List Rat)(v:ak)(j:Nat):List Rat:=if j=0 then o else if j=1 then(if v.nl then o else lG v.lo o) else jE o v
def y5(v:ak)(j:Nat):Rat:=if j=0 then v.lo else v.hi
def n7(v:ak)(j:Nat):Bool:=if j=0 then v.nl else v.nh
def sG{v:ak}(hj:j<2:=by decide):pE o v (j+1)=if n7 v j then pE o v j else eG bm (y5 v j) (pE o v j):=by
 have:j=0\/j=1:=by omega
 rcases this with rfl|rfl
 .simp[pE,n7,y5,yv]
 .simp[pE,n7,y5,jE,yv]
def Zl{v:ak}(hj:j<=2):(pE o v j).length<=o.length+2:=by
 unfold pE;have:=No o v;have h:=yv (x:=v.lo) (l:=o)▸Ax bm v.lo o;split
 .omega
 .split
  .split<;>omega
  .exact this
theorem Vi(ho: ∀q∈o,BQ q 1200){v:ak}(hv:lE v)(hj:j<=2): ∀q∈pE o v j,BQ q 1200:=fun q hq=>by
 unfold pE jE at hq;have lo:=hv.lo;have hi:=hv.hi;split at hq
 .exact ho q hq
 .split at hq
  .split at hq
   .exact ho q hq
   .rcases ot.1 hq with rfl|hq
    .exact lo
    .exact ho q hq
  .split at hq
   .split at hq
    .exact ho q hq
    .rcases ot.1 hq with rfl|hq
     .exact lo
     .exact ho q hq
   .rcases ot.1 hq with rfl|hq
    .exact hi
    .split at hq
     .exact ho q hq
     .rcases ot.1 hq with rfl|hq
      .exact lo
      .exact ho q hq
theorem omy{p:Prop}(h:p:=by rw[hys,bQ,cZ,gT,iW,bK (l:=xs.map eQ) (i:=xs.length) v8];rfl):p:=h
theorem omC{p:Prop}(h:p:=by dsimp only;exact⟨⟨by rw[sG,if_neg (by simpa[n7] using hg32),<-g1,<-hm2,hin],pb⟩,pb⟩):p:=h
theorem omD{p:Prop}(h:p:=by dsimp only;exact⟨⟨by rw[sG,if_neg (by simpa[n7] using hc39),<-g1,<-hm2,hin],pb⟩,pb⟩):p:=h
def aDJ(hb: ∀v∈l,lE v)(hn:l.length<=10000):PF GB prog 297 [.sl (l.map eV)] (.sl ((f9 l).map eQ)):=by
 have hm:=fp eV l;refine fn (fu:=⟨15⟩) func297 J J ntmps297 J J (fun C=>?_);refine ah 10 (.d (vI (l.length:Nat))) J omr<|gx J<|AI 3 J<|lp (X:=List Rat×Nat) (fun⟨o,k⟩=>[(11, .d (vI (k:Nat))),(3, .d (.sl (o.map eQ)))]) (fun⟨o,k⟩=>[]) (fun⟨o,k⟩=>o=om l k/\k<=l.length) (fun⟨o,k⟩=>l.length-k) ([],0) J ⟨J,aL _⟩ (fun _=>J) (fun⟨o,k⟩ hk=>?_);dsimp only at hk⊢;obtain⟨h1,h2⟩:=hk;refine br J J J (fun hc12=>?_) (fun hc12=>?_)
 .
  obtain⟨v,hz⟩: ∃s,l[k]? =some s:=⟨_,aQ pb⟩;have hv:=hb v (aV hz);haveI:=hv.lo;haveI:=hv.hi;have hob:=PC hb (k:=k);have hol:=B7 l k;rw[<-h1] at hob hol;refine ix _ J (bF hz) J<|rf J J<|lp (X:=List Rat×Nat) (fun⟨xs,j⟩=>[(21, .d (vI (j:Nat))),(3, .d (.sl (xs.map eQ)))]) (fun⟨xs,j⟩=>[]) (fun⟨xs,j⟩=>xs=pE o v j/\j<=2) (fun⟨xs,j⟩=>2-j) (o,0) J ⟨J,pb⟩ (fun _=>J) (fun⟨xs,j⟩ hk=>?_);dsimp only at hk⊢;obtain⟨g1,g2⟩:=hk;refine br J J J (fun hc22=>?_) (fun hc22=>?_)
  .
   have hj2:j<2:=by have:=hc22;simp only[bY,iQ] at this;omega
   obtain⟨m,hm2⟩: ∃m,m=y5 v j:=⟨_,rfl⟩;haveI hmb:BQ m 1200:=by rw[hm2];unfold y5;split;exact hv.lo;exact hv.hi
   have hxl:=fp eQ xs;have hxn:xs.length<=2*k+2:=by rw[g1];have:=Zl (o:=o) (v:=v) (j:=j) g2;omega
   have hxb: ∀q∈xs,BQ q 1200:=by rw[g1];exact Vi hob hv g2
   refine ix (fu:=⟨10⟩) _ rfl (by rw[dQ];exact(show([v.lo,v.hi].map eQ)[j]? =some (eQ m) by rw[hm2];have:j=0\/j=1:=pb;rcases this with rfl|rfl<;>rfl)) rfl<|?_;rcases(show j=0\/j=1 by omega) with rfl|rfl
   .
    refine cj J J J<|ja (fu2:=⟨1⟩) 32 J J J (fun hg32=>?_) (fun hg32=>?_)
    .
     exact at_ (xs,0+1) (by dsimp only;exact⟨⟨by rw[sG,if_pos (by simpa[n7] using hg32),<-g1],pb⟩,pb⟩)
    .
     refine bG (fu:=⟨16⟩) J J J<|mg (fu:=⟨5⟩) (X:=Nat) (fun n=>[(8, .d (vI (n:Nat)))]) (fun n=>[]) (fun n=>jj bm m xs=n) [8] [] rfl ?_ (fun _=>J) (fun n hnx=>?_)
     .
      refine gx J<|lp (fu:=⟨6⟩) (X:=Nat) (fun n=>[(8, .d (vI (n:Nat)))]) (fun n=>[]) (fun n=>n<=xs.length/\ ∀j (h:j<xs.length),j<n->bm xs[j] m<0) (fun n=>xs.length-n) 0 J ⟨aL _,fun j _ hj=>absurd hj pb⟩ (fun _=>J) (fun n hk=>?_);obtain⟨n1,n2⟩:=hk;refine jk (v2:=fun hg43=>by simp only[aj];kernel_rfl) J J J J (fun hg43=>?_) (fun hg43=>?_)
      .
       refine ix _ J (pH) J<|cl J (kz (a:=xs[n]' pb) (b:=m) (ha:=hxb _ (bL pb)) (hb:=hmb)) J<|br J J J (fun hc52=>?_) (fun hc52=>?_)
       .
        exact at_ (n+1) ⟨⟨pb,fun j h hj=>by by_cases q:j=n;(subst q;exact hc52);exact n2 j h pb⟩,pb⟩
       .
        exact at_ n (sB bm n1 n2 (fun h=>hc52))
      .
       exact at_ n (sB bm n1 n2 (fun h=>absurd h pb))
     .
      have hnl:n<=xs.length:=by rw[<-hnx];exact A6 _ _ _
      refine jk (v1:=fun hg58=>by simp only[aj];kernel_rfl) J J J J (fun hg58=>?_) (fun hg58=>?_)
      .
       have hnew: ∀h:n<xs.length,bm xs[n] m≠0:=fun h=>absurd h pb;obtain⟨ys,hys⟩: ∃ys,ys=xs.take n++m::xs.drop n:=⟨_,rfl⟩;have hin:eG bm m xs=ys:=by rw[hys];exact qt bm hnx hnew
       have hyl:ys.length<=xs.length+1:=by rw[hys];simp;omega
       refine s3 n _ J J J J (ik _) omE J<|ro J J<|js n xs.length _ J J okx J (ik _) hnl pb J<|ap _ J J (qP ik _ _ _) J<|jo (hv:=by simp only[aj];exact⟨we,pb⟩) (ho:=fun _=>⟨rP ik _ _,v8⟩) (ys.map eQ) J omy (sr ik _ _ _ _) J<|at_ (ys,0+1) omC
      .
       refine ix _ J (pH) J<|cl J (kz (a:=xs[n]' pb) (b:=m) (ha:=hxb _ (bL pb)) (hb:=hmb)) J<|br (fu2:=⟨7⟩) J J J (fun hc67=>?_) (fun hc67=>?_)
       .
        have hnew: ∀h:n<xs.length,bm xs[n] m≠0:=fun h=>hc67;obtain⟨ys,hys⟩: ∃ys,ys=xs.take n++m::xs.drop n:=⟨_,rfl⟩;have hin:eG bm m xs=ys:=by rw[hys];exact qt bm hnx hnew
        have hyl:ys.length<=xs.length+1:=by rw[hys];simp;omega
        refine s3 n _ J J J J (ik _) omE J<|ro J J<|js n xs.length _ J J okx J (ik _) hnl pb J<|ap _ J J (qP ik _ _ _) J<|jo (hv:=by simp only[aj];exact⟨we,pb⟩) (ho:=fun _=>⟨rP ik _ _,v8⟩) (ys.map eQ) J omy (sr ik _ _ _ _) J<|at_ (ys,0+1) omC
       .
        have hin:eG bm m xs=xs:=xt bm hnx pb (Decidable.not_not.1 hc67);exact at_ (xs,0+1) omC
   .
    refine bG (fu:=⟨6⟩) J J J<|cj J J J<|bb (fu2:=⟨8⟩) J J J (fun hc39=>?_) (fun hc39=>?_)
    .
     exact at_ (xs,1+1) (by dsimp only;exact⟨⟨by rw[sG,if_pos (by simpa[n7] using hc39),<-g1],pb⟩,pb⟩)
    .
     refine mg (fu:=⟨5⟩) (X:=Nat) (fun n=>[(8, .d (vI (n:Nat)))]) (fun n=>[]) (fun n=>jj bm m xs=n) [8] [] rfl ?_ (fun _=>J) (fun n hnx=>?_)
     .
      refine gx J<|lp (fu:=⟨6⟩) (X:=Nat) (fun n=>[(8, .d (vI (n:Nat)))]) (fun n=>[]) (fun n=>n<=xs.length/\ ∀j (h:j<xs.length),j<n->bm xs[j] m<0) (fun n=>xs.length-n) 0 J ⟨aL _,fun j _ hj=>absurd hj pb⟩ (fun _=>J) (fun n hk=>?_);obtain⟨n1,n2⟩:=hk;refine jk (v2:=fun hg43=>by simp only[aj];kernel_rfl) J J J J (fun hg43=>?_) (fun hg43=>?_)
      .
       refine ix _ J (pH) J<|cl J (kz (a:=xs[n]' pb) (b:=m) (ha:=hxb _ (bL pb)) (hb:=hmb)) J<|br J J J (fun hc52=>?_) (fun hc52=>?_)
       .
        exact at_ (n+1) ⟨⟨pb,fun j h hj=>by by_cases q:j=n;(subst q;exact hc52);exact n2 j h pb⟩,pb⟩
       .
        exact at_ n (sB bm n1 n2 (fun h=>hc52))
      .
       exact at_ n (sB bm n1 n2 (fun h=>absurd h pb))
     .
      have hnl:n<=xs.length:=by rw[<-hnx];exact A6 _ _ _
      refine jk (v1:=fun hg58=>by simp only[aj];kernel_rfl) J J J J (fun hg58=>?_) (fun hg58=>?_)
      .
       have hnew: ∀h:n<xs.length,bm xs[n] m≠0:=fun h=>absurd h pb;obtain⟨ys,hys⟩: ∃ys,ys=xs.take n++m::xs.drop n:=⟨_,rfl⟩;have hin:eG bm m xs=ys:=by rw[hys];exact qt bm hnx hnew
       have hyl:ys.length<=xs.length+1:=by rw[hys];simp;omega
       refine s3 n _ J J J J (ik _) omE J<|ro J J<|js n xs.length _ J J okx J (ik _) hnl pb J<|ap _ J J (qP ik _ _ _) J<|jo (hv:=by simp only[aj];exact⟨we,pb⟩) (ho:=fun _=>⟨rP ik _ _,v8⟩) (ys.map eQ) J omy (sr ik _ _ _ _) J<|at_ (ys,1+1) omD
      .
       refine ix _ J (pH) J<|cl J (kz (a:=xs[n]' pb) (b:=m) (ha:=hxb _ (bL pb)) (hb:=hmb)) J<|br J J J (fun hc67=>?_) (fun hc67=>?_)
       .
        have hnew: ∀h:n<xs.length,bm xs[n] m≠0:=fun h=>hc67;obtain⟨ys,hys⟩: ∃ys,ys=xs.take n++m::xs.drop n:=⟨_,rfl⟩;have hin:eG bm m xs=ys:=by rw[hys];exact qt bm hnx hnew
        have hyl:ys.length<=xs.length+1:=by rw[hys];simp;omega
        refine s3 n _ J J J J (ik _) omE J<|ro J J<|js n xs.length _ J J okx J (ik _) hnl pb J<|ap _ J J (qP ik _ _ _) J<|jo (hv:=by simp only[aj];exact⟨we,pb⟩) (ho:=fun _=>⟨rP ik _ _,v8⟩) (ys.map eQ) J omy (sr ik _ _ _ _) J<|at_ (ys,1+1) omD
       .
        have hin:eG bm m xs=xs:=xt bm hnx pb (Decidable.not_not.1 hc67);exact at_ (xs,1+1) omD
  .
   have hj2: ¬j<2:=by have:=hc22;simp only[bY,iQ] at this;omega
   exact at_ (xs,k+1) (by dsimp only;exact⟨⟨by rw[MA hz,<-h1,g1,show j=2 by omega];rfl,pb⟩,pb⟩)
 .
  have hfin:f9 l=o:=by rw[h1,show k=l.length by omega];unfold om;rw[cS]
  exact rz J omX
def QE(t:Rat):eV ⟨t,0,false,true⟩= .ag [.v (.bool (decide (t.num<0))),dN t.num.natAbs,dD t.den, .v (.bool false), .sl [], .sl [], .v (.bool false), .v (.bool true)]:=by
 unfold eV dD;simp only[show(0:Rat).num=0 from J,show(0:Rat).den=1 from J,kV,kr];rfl
def Z3(t:Rat):eV ⟨0,t,true,false⟩= .ag [.v (.bool false), .sl [], .sl [], .v (.bool (decide (t.num<0))),dN t.num.natAbs,dD t.den, .v (.bool true), .v (.bool false)]:=by
 unfold eV dD;simp only[show(0:Rat).num=0 from J,show(0:Rat).den=1 from J,kV,kr];rfl
def xN(l m:aa)(side:Int):DV:= .tp [.sl ((gH l m side).map eV),vB (jH l m)]
def Ki{l:aa}(h:crossI l m≠0):jH l m=false:=by unfold jH;rw[decide_eq_false];exact fun e=>h e.1
def N6{l:aa}(h:crossI l m=0):jH l m=decide ((m.value l.base).num.sign=0):=by unfold jH;simp[h]
def L5{l:aa}{side:Int}[hl:LB l][hm:LB m](hlo:l.ok)(hmo:m.ok)(hs:side=1\/side= -1):PF GB prog 259 [eL l,eL m,vI side] (xN l m side):=by
 refine fn func259 J J ntmps259 J J (fun C=>?_);refine cl J (GJ (l:=l) (m:=m)) J<|bb J J J (fun hc19=>?_) (fun hc19=>?_)
 .
  have hc:crossI l m=0:=by simpa using hc19
  refine cl J (E7 hlo.ne) J<|cl J (An (l:=m) (p:=l.base)) J<|br J J J (fun hc26=>?_) (fun hc26=>?_)
  .
   refine cl J Ke J<|rf J J<|rz J (by unfold xN gH;rw[if_pos hc,if_pos hc26,N6 hc];rfl)
  .
   exact rz J (by unfold xN gH;rw[if_pos hc,if_neg hc26,N6 hc];rfl)
 .
  have hc:crossI l m≠0:=by simpa using hc19
  haveI hpb:=Al (l:=l) (m:=m) hlo.ne hc;obtain⟨t,ht⟩: ∃t,t=fH l (du l m):=⟨_,rfl⟩;refine cl (fu:=⟨0⟩) J (C6 (l:=l) (p:=du l m) hlo.ne) J<|ah 35 (.d (eQ t)) J (by rw[ht]) ?_;rw[<-ht] at hpb;refine gx J<|cl J (kc (n:=1)) J<|cl J (ll (a:=t) (b:=((1:Int):Rat))) J<|cl J (MT (l:=l) (t:=t+((1:Int):Rat)) hlo.ne) J<|cl J (An (l:=m) (p:=l.at (t+((1:Int):Rat)))) J<|br J J J (fun hc44=>?_) (fun hc44=>?_)
  .
   refine rf J J<|rz J (by unfold xN gH;rw[if_neg hc,<-ht,if_pos (show(m.value (l.at (t+1))).num.sign=side from hc44),Ki hc,cZ,QE];rfl)
  .
   refine rf J J<|rz J (by unfold xN gH;rw[if_neg hc,<-ht,if_neg (show¬(m.value (l.at (t+1))).num.sign=side from hc44),Ki hc,cZ,Z3];rfl)
def eh(f:bi):DV:= .ag [.v (.bool (decide (f.l.a<0))),dN f.l.a.natAbs, .v (.bool (decide (f.l.b<0))),dN f.l.b.natAbs, .v (.bool (decide (f.l.c<0))),dN f.l.c.natAbs, .v (.bool (decide (f.v.lo.num<0))),dN f.v.lo.num.natAbs,dD f.v.lo.den, .v (.bool (decide (f.v.hi.num<0))),dN f.v.hi.num.natAbs,dD f.v.hi.den, .v (.bool f.v.nl), .v (.bool f.v.nh)]
def vP(fs:List bi):cd 14 (fs.map eh):=fun d hd=>by
 obtain⟨u,_,rfl⟩:=aN.1 hd;exact⟨rfl,rfl⟩
theorem zh{p:ZP}(h:ZP.le 100 p):aE p.q 12:=by
 haveI:BI p.1 11:=iz (by have:=h.1;omega);haveI:BI p.2 11:=iz (by have:=h.2;omega);exact(inferInstance:aE (iP p.1 p.2) 12)
def ase{v w:ZP}(hv:ZP.le 100 v)(hw:ZP.le 100 w)(h:v≠w):PF GB prog 199 [eP v.q,eP w.q] (.tp [eh (jx v w),vB true]):=by
 have hne: ¬(w.1=v.1/\w.2=v.2):=fun e=>h (Prod.ext e.1.symm e.2.symm);obtain⟨hlb,hlo⟩:=M7 (m:=v.1) (n:=v.2) (p:=w.1) (q:=w.2) ozd oze ozf ozg hne;haveI:=hlb;haveI:=zh hv;haveI:=zh hw;refine fn func199 J J ntmps199 J J (fun C=>?_);refine cl (fu:=⟨3⟩) J (Qa (m:=v.1) (n:=v.2) (m':=w.1) (n':=w.2) ozd oze ozf ozg (fun e=>hne ⟨e.1.symm,e.2.symm⟩)) J<|ii 13 J<|gx J<|cl J (C6 (l:=lh v.1 v.2 w.1 w.2) (p:=v.q) hlo.ne) J<|cl J (C6 (l:=lh v.1 v.2 w.1 w.2) (p:=w.q) hlo.ne) J<|rz J J
def TQ(a b:Bool):eV ⟨0,0,a,b⟩= .ag [.v (.bool false), .sl [], .sl [], .v (.bool false), .sl [], .sl [], .v (.bool a), .v (.bool b)]:=by
 unfold eV dD;simp only[show(0:Rat).num=0 from J,show(0:Rat).den=1 from J,kV,kr];rfl
def NY(t:Rat)(a b:Bool):eV ⟨t,0,a,b⟩= .ag [.v (.bool (decide (t.num<0))),dN t.num.natAbs,dD t.den, .v (.bool false), .sl [], .sl [], .v (.bool a), .v (.bool b)]:=by
 unfold eV dD;simp only[show(0:Rat).num=0 from J,show(0:Rat).den=1 from J,kV,kr];rfl
def Rl(t:Rat)(a b:Bool):eV ⟨0,t,a,b⟩= .ag [.v (.bool false), .sl [], .sl [], .v (.bool (decide (t.num<0))),dN t.num.natAbs,dD t.den, .v (.bool a), .v (.bool b)]:=by
 unfold eV dD;simp only[show(0:Rat).num=0 from J,show(0:Rat).den=1 from J,kV,kr];rfl
def SG(h:i=0)(k: ¬i<cuts.length):c8 cuts i=⟨0,0,decide (i=0),decide (i=cuts.length)⟩:=by unfold c8;rw[if_pos h,if_neg k]
def VB(h:i=0)(k:cuts[i]? =some y):c8 cuts i=⟨0,y,decide (i=0),decide (i=cuts.length)⟩:=by
 unfold c8;rw[if_pos h,if_pos (aS.1 k).1,aJ,k];rfl
def Z1(h: ¬i=0)(k:cuts[i-1]? =some x)(k2: ¬i<cuts.length):c8 cuts i=⟨x,0,decide (i=0),decide (i=cuts.length)⟩:=by
 unfold c8;rw[if_neg h,if_neg k2,aJ,k];rfl
def Xk(h: ¬i=0)(k:cuts[i-1]? =some x)(k2:cuts[i]? =some y):c8 cuts i=⟨x,y,decide (i=0),decide (i=cuts.length)⟩:=by
 unfold c8;rw[if_neg h,if_pos (aS.1 k2).1,aJ,k,aJ,k2];rfl
def Yo(h:marks[k]? =some false):eH cuts marks (k+1)=eH cuts marks k:=by
 rw[eH,aJ,h];rfl
def AN(h:marks[k]? =some true)(hp: ¬(0<k/\marks[k-1]? =some true)):eH cuts marks (k+1)=eH cuts marks k++[c8 cuts k]:=by
 rw[eH,aJ,h];show(if 0<k/\_ then _ else _)=_;rw[if_neg];rintro ⟨h1,h2⟩;rw[aJ] at h2
 cases e:marks[k-1]? with
 |none=>rw[e] at h2;cases h2
 |some b=>rw[e] at h2;exact hp ⟨h1,by rw[e];simp at h2;rw[h2]⟩
def Lj(h:marks[k]? =some true):eH cuts marks (k+1)≠[]:=by
 rw[eH,aJ,h];show(if 0<k/\_ then _ else _)≠[];split
 .split<;>simp
 .simp
def Lu{v:ak}(hk:0<k)(h:marks[k]? =some true)(hp:marks[k-1]? =some true)(hx:eH cuts marks k=xs)(hv:xs[xs.length-1]? =some v):eH cuts marks (k+1)=xs.set (xs.length-1) (rF v (c8 cuts k)):=by
 rw[eH,aJ,h];show(if 0<k/\_ then _ else _)=_;rw[if_pos ⟨hk,by rw[aJ,hp];rfl⟩,hx,lQ,hv];have hn:0<xs.length:=by
  have:=(aS.1 hv).1;omega
 show xs.dropLast++[_]=_;apply lR;intro i;rw[pQ];by_cases hi:i<xs.length-1
 .rw[fV (by rw[gL];exact hi),rZ,if_pos hi,if_neg pb]
 .by_cases hi2:i=xs.length-1
  .subst hi2
   rw[jU (by rw[gL];exact bZ _),gL,Nat.sub_self,if_pos J,if_pos pb];rfl
  .rw[dR (by rw[aU,gL];simp;omega),if_neg pb,dR pb]
def wg{f:α->DV}{l:List α}{x:α}(hk:0<k)(h:l[k-1]? =some x):(l.map f)[(((k:Nat):Int)-1).toNat]? =some (f x):=by
 rw[show(((k:Nat):Int)-1).toNat=k-1 by omega,cY,h];rfl
def qa:decide (k=n)=decide (((k:Nat):Int)=((n:Nat):Int)):=decide_eq_decide.2 pb
theorem omI{p:Prop}(h:p:=by dsimp only;exact⟨⟨by rw[AN hz hnp,<-h1],pb⟩,pb⟩):p:=h
theorem omJ{p:Prop}(h:p:=by rw[show(((xs.length:Nat):Int)-1).toNat=xs.length-1 by omega,jY,List.set_set,jY,hgap];unfold rF;dsimp only;rw[qa (k:=k) (n:=cuts.length)]<;>rfl):p:=h
theorem okd{p:Prop}(h:p:=by rw[hmc]<;>rfl):p:=h
theorem okp{p:Prop}(h:p:=by rw[show(((xs.length:Nat):Int)-1).toNat=xs.length-1 by omega,jY,oJ (by rw[hml];omega)]):p:=h
theorem okU{p:Prop}(h:p:=by dsimp only;exact⟨⟨(Lu pb hz hpb' h1.symm hw).symm,pb⟩,pb⟩):p:=h
def QB(hn:cuts.length<=100000)(hmk:marks.length<=cuts.length+1):PF GB prog 300 [.sl (cuts.map eQ), .sl (marks.map vB)] (.sl ((si cuts marks).map eV)):=by
 have hm:=fp vB marks;have hmc:=fp eQ cuts;refine fn (fu:=⟨15⟩) func300 J J ntmps300 J J (fun C=>?_);refine ah 11 (.d (vI (marks.length:Nat))) J omr<|gx J<|nr 5 5 205 8 J J J<|lp (X:=List ak×Nat) (fun⟨xs,k⟩=>[(12, .d (vI (k:Nat))),(5, .rw 5)]) (fun⟨xs,k⟩=>[(5,some (.b 205 8 (xs.map eV) true))]) (fun⟨xs,k⟩=>xs=eH cuts marks k/\k<=marks.length) (fun⟨xs,k⟩=>marks.length-k) ([],0) J ⟨J,aL _⟩ (fun _=>J) (fun⟨xs,k⟩ hk=>?_);dsimp only at hk⊢;obtain⟨h1,h2⟩:=hk;have hml:=fp eV xs;have hxl:xs.length<=k:=by rw[h1];exact F5
 refine br J J J (fun hc13=>?_) (fun hc13=>?_)
 .
  obtain⟨b,hz⟩: ∃s,marks[k]? =some s:=⟨_,aQ pb⟩;refine ix (fu:=⟨8⟩) _ J (bF hz) J<|?_
  cases b
  .
   refine bG (fu:=⟨12⟩) J J J<|at_ (xs,k+1) (by dsimp only;exact⟨⟨by rw[Yo hz,<-h1],pb⟩,pb⟩)
  .
   refine cj (fu:=⟨13⟩) J J J<|?_;rcases(show(k=0/\k<cuts.length)\/(k=0/\ ¬k<cuts.length)\/(0<k/\k<cuts.length)\/(0<k/\ ¬k<cuts.length) by omega) with⟨c1,c2⟩|⟨c1,c2⟩|⟨c1,c2⟩|⟨c1,c2⟩
   .
    obtain⟨y,hy⟩: ∃s,cuts[k]? =some s:=⟨_,aQ pb⟩;have hgap:=VB (cuts:=cuts) (i:=k) c1 hy;have hnp: ¬(0<k/\marks[k-1]? =some true):=fun e=>by omega
    refine ah 23 (.d (vI (cuts.length:Nat))) J okd<|gx (fu:=⟨10⟩) J<|bG (fu:=⟨11⟩) J (omd pb) J<|ah 36 (.d (vI (cuts.length:Nat))) J okd<|gx (fu:=⟨0⟩) J<|cj J (omc pb) J<|ix (fu:=⟨10⟩) _ J (bF hy) J<|ah 44 (.d (vI (xs.length:Nat))) J omj<|gx (fu:=⟨6⟩) J<|bG (fu:=⟨19⟩) J (omd pb) J<|ah 73 (.d (eV (c8 cuts k))) J (by rw[hgap,Rl,qa (k:=k) (n:=0),qa (k:=k) (n:=cuts.length)]<;>rfl)<|gx J<|rf J J<|ap (fu:=⟨12⟩) ((xs++[c8 cuts k]).map eV) J omO (vr [c8 cuts k]) J<|dq 75 5 J<|at_ (xs++[c8 cuts k],k+1) omI
   .
    have hgap:=SG (cuts:=cuts) (i:=k) c1 c2;have hnp: ¬(0<k/\marks[k-1]? =some true):=fun e=>by omega
    refine ah 23 (.d (vI (cuts.length:Nat))) J okd<|gx (fu:=⟨10⟩) J<|bG (fu:=⟨11⟩) J (omd pb) J<|ah 36 (.d (vI (cuts.length:Nat))) J okd<|gx (fu:=⟨0⟩) J<|bG (fu:=⟨10⟩) J (omd pb) J<|ah 44 (.d (vI (xs.length:Nat))) J omj<|gx (fu:=⟨6⟩) J<|bG (fu:=⟨19⟩) J (omd pb) J<|ah 73 (.d (eV (c8 cuts k))) J (by rw[hgap,TQ,qa (k:=k) (n:=0),qa (k:=k) (n:=cuts.length)]<;>rfl)<|gx J<|rf J J<|ap (fu:=⟨12⟩) ((xs++[c8 cuts k]).map eV) J omO (vr [c8 cuts k]) J<|dq 75 5 J<|at_ (xs++[c8 cuts k],k+1) omI
   .
    obtain⟨x,hx⟩: ∃s,cuts[k-1]? =some s:=⟨_,aQ pb⟩;obtain⟨pqz,hpb⟩: ∃s,marks[k-1]? =some s:=⟨_,aQ pb⟩;obtain⟨y,hy⟩: ∃s,cuts[k]? =some s:=⟨_,aQ pb⟩;have hgap:=Xk (cuts:=cuts) (i:=k) pb hx hy;refine ah 23 (.d (vI (cuts.length:Nat))) J okd<|gx (fu:=⟨10⟩) J<|cj J (omc pb) J<|ix (fu:=⟨11⟩) _ J (wg pb hx) J<|ah 36 (.d (vI (cuts.length:Nat))) J okd<|gx (fu:=⟨0⟩) J<|cj J (omc pb) J<|ix (fu:=⟨10⟩) _ J (bF hy) J<|ah 44 (.d (vI (xs.length:Nat))) J omj<|gx (fu:=⟨6⟩) J<|cj J (omc pb) J<|ix _ J (wg pb hpb) J<|ja (fu1:=⟨1⟩) (fu2:=⟨11⟩) 54 J J J (fun hg54=>?_) (fun hg54=>?_)
    .
     have hpb':marks[k-1]? =some true:=by rw[hpb];congr 1
     have hxn:0<xs.length:=by rw[h1];have:=Lj (cuts:=cuts) hpb';rw[show k-1+1=k by omega] at this;exact mQ.2 this
     obtain⟨w,hw⟩: ∃s,xs[xs.length-1]? =some s:=⟨_,aQ pb⟩;refine cj J (omc pb) J<|sb (eV w) ((xs.set (xs.length-1) (⟨w.lo,y,w.nl,w.nh⟩:ak)).map eV) J (wg hxn hw) J (by rw[show(((xs.length:Nat):Int)-1).toNat=xs.length-1 by omega,jY];rfl) J<|sb (hv:=by simp only[aj];exact⟨we,pb⟩) (eV (⟨w.lo,y,w.nl,w.nh⟩:ak)) ((xs.set (xs.length-1) (rF w (c8 cuts k))).map eV) J okp J omJ J<|?_;exact at_ (xs.set (xs.length-1) (rF w (c8 cuts k)),k+1) okU
    .
     have hnp: ¬(0<k/\marks[k-1]? =some true):=fun e=>by rw[hpb,hg54] at e;simpa using e.2
     refine ah 73 (.d (eV (c8 cuts k))) J (by rw[hgap];unfold eV;dsimp only;rw[qa (k:=k) (n:=0),qa (k:=k) (n:=cuts.length)]<;>rfl)<|gx J<|rf J J<|ap (fu:=⟨12⟩) ((xs++[c8 cuts k]).map eV) J omO (vr [c8 cuts k]) J<|dq 75 5 J<|at_ (xs++[c8 cuts k],k+1) omI
   .
    obtain⟨x,hx⟩: ∃s,cuts[k-1]? =some s:=⟨_,aQ pb⟩;obtain⟨pqz,hpb⟩: ∃s,marks[k-1]? =some s:=⟨_,aQ pb⟩;have hgap:=Z1 (cuts:=cuts) (i:=k) pb hx c2;refine ah 23 (.d (vI (cuts.length:Nat))) J okd<|gx (fu:=⟨10⟩) J<|cj J (omc pb) J<|ix (fu:=⟨11⟩) _ J (wg pb hx) J<|ah 36 (.d (vI (cuts.length:Nat))) J okd<|gx (fu:=⟨0⟩) J<|bG (fu:=⟨10⟩) J (omd pb) J<|ah 44 (.d (vI (xs.length:Nat))) J omj<|gx (fu:=⟨6⟩) J<|cj J (omc pb) J<|ix _ J (wg pb hpb) J<|ja (fu1:=⟨1⟩) (fu2:=⟨11⟩) 54 J J J (fun hg54=>?_) (fun hg54=>?_)
    .
     have hpb':marks[k-1]? =some true:=by rw[hpb];congr 1
     have hxn:0<xs.length:=by rw[h1];have:=Lj (cuts:=cuts) hpb';rw[show k-1+1=k by omega] at this;exact mQ.2 this
     obtain⟨w,hw⟩: ∃s,xs[xs.length-1]? =some s:=⟨_,aQ pb⟩;refine cj J (omc pb) J<|sb (eV w) ((xs.set (xs.length-1) (⟨w.lo,0,w.nl,w.nh⟩:ak)).map eV) J (wg hxn hw) J (by rw[show(((xs.length:Nat):Int)-1).toNat=xs.length-1 by omega,jY,NY];rfl) J<|sb (hv:=by simp only[aj];exact⟨we,pb⟩) (eV (⟨w.lo,0,w.nl,w.nh⟩:ak)) ((xs.set (xs.length-1) (rF w (c8 cuts k))).map eV) J okp J omJ J<|?_;exact at_ (xs.set (xs.length-1) (rF w (c8 cuts k)),k+1) okU
    .
     have hnp: ¬(0<k/\marks[k-1]? =some true):=fun e=>by rw[hpb,hg54] at e;simpa using e.2
     refine ah 73 (.d (eV (c8 cuts k))) J (by rw[hgap,NY,qa (k:=k) (n:=0),qa (k:=k) (n:=cuts.length)]<;>rfl)<|gx J<|rf J J<|ap ((xs++[c8 cuts k]).map eV) J omO (vr [c8 cuts k]) J<|dq 75 5 J<|at_ (xs++[c8 cuts k],k+1) omI
 .
  have hfin:si cuts marks=xs:=by rw[h1,si,show k=marks.length by omega]
  refine fD 5 J<|rz J omX
def LG{g:Rat}: ∀{l:List Rat},g∈gF l-> ∃a∈l,∃b∈l,g=(a+b)/2
 |[],h=>by cases h
 |[_],h=>by cases h
 |a::b::t,h=>by
  rw[gF] at h;rcases aT.1 h with rfl|h
  .exact⟨a,aZ,b,aK _ aZ,J⟩
  .obtain⟨c,hc,d,hd,e⟩:=LG h
   exact⟨c,aK _ hc,d,aK _ hd,e⟩
theorem U7{l:List Rat}(h: ∀q∈l,BQ q 1200): ∀g∈fg l,BQ g 2500:=fun g hg=>by
 cases l with
 |nil=>
  rw[fg,aW] at hg;subst hg;exact BQ.mono (k:=1) ⟨v6,v6⟩
 |cons a t=>
  rw[fg] at hg;rcases aT.1 hg with rfl|hg
  .haveI:=h a aZ
   exact BQ.mono (inferInstance:BQ (a-1) _) pb
  .rcases bJ.1 hg with hg|hg
   .obtain⟨c,hc,d,hd,rfl⟩:=LG hg
    haveI:=h c hc;haveI:=h d hd;exact BQ.mono (inferInstance:BQ ((c+d)/2) _) pb
   .rw[aW] at hg
    haveI:=h _ (List.getLast_mem (l:=a::t) v8);subst hg;exact BQ.mono (inferInstance:BQ ((a::t).getLast v8+1) _) pb
def Om(l:List ak):om l l.length=f9 l:=by unfold om;rw[cS]
theorem WE(h: ∀v∈l,lE v): ∀y∈f9 l,BQ y 1200:=by rw[<-Om];exact PC h
def DU(l:List ak):(f9 l).length<=2*l.length:=by rw[<-Om];exact B7 l _
def lE.app{a b:List ak}(ha: ∀v∈a,lE v)(hb: ∀v∈b,lE v): ∀v∈a++b,lE v:=fun v hv=>(bJ.1 hv).elim (ha v) (hb v)
def Jz{a b:List ak}(ha: ∀v∈a,lE v)(hb: ∀v∈b,lE v)(hna:a.length<=100)(hnb:b.length<=100):PF GB prog 260 [vI 2, .sl (a.map eV), .sl (b.map eV)] (.sl ((mA 2 a b).map eV)):=by
 obtain⟨cuts,hcu⟩: ∃c,c=f9 (a++b):=⟨_,rfl⟩;have hab:=lE.app ha hb;have hcb: ∀q∈cuts,BQ q 1200:=by rw[hcu];exact WE hab
 have hcl:cuts.length<=2*(a.length+b.length):=by rw[hcu];have:=DU (a++b);rw[aU] at this;exact this
 have hgb:=U7 hcb;have hgl:=xq (l:=cuts);have hmp:=fp eQ (fg cuts);refine fn func260 J J ntmps260 J J (fun C=>?_);refine nD J J<|ap (a.map eV) J J (vr _) J<|jo ((a++b).map eV) J (by rw[bQ]) (vr b) J<|cl (fu:=⟨0⟩) J (aDJ (l:=a++b) hab oku) J<|ah 19 (.d (.sl (cuts.map eQ))) J (by rw[hcu])<|gx J<|cl (fu:=⟨1⟩) J (ZC (cuts:=cuts) hcb pb) J<|ah 22 (.d (vI ((cuts.length+1:Nat):Int))) J (by rw[hmp,hgl]<;>rfl)<|gx J<|nr 8 8 4 1 J J J<|lp (X:=Nat) (fun k=>[(23, .d (vI (k:Nat))),(8, .rw 8)]) (fun k=>[(8,some (.b 4 1 ((((fg cuts).map (fun t=>lA 2 (fi a t) (fi b t))).take k).map vB) true))]) (fun k=>k<=cuts.length+1) (fun k=>cuts.length+1-k) 0 J (aL _) (fun _=>J) (fun k hk=>?_);have hml:(((((fg cuts).map (fun t=>lA 2 (fi a t) (fi b t))).take k).map vB)).length=k:=by rw[aX,bR,aX,hgl];omega
 refine br (fu2:=⟨0⟩) J J J (fun hc24=>?_) (fun hc24=>?_)
 .
  obtain⟨t,hz⟩: ∃s,(fg cuts)[k]? =some s:=⟨_,aQ pb⟩;haveI:=hgb t (aV hz);have hz2:((fg cuts).map (fun t=>lA 2 (fi a t) (fi b t)))[k]? =some (lA 2 (fi a t) (fi b t)):=by rw[cY,hz];rfl
  refine ix _ J (bF hz) J<|cl J (L4 (l:=a) (t:=t) ha pb) J<|cl (fu:=⟨6⟩) J (L4 (l:=b) (t:=t) hb pb) J<|?_
  cases hx:fi a t
  .
   refine bG (fu:=⟨15⟩) J J J<|cj (fu:=⟨5⟩) J J J<|bG J J J<|rf J J<|ap (fu:=⟨8⟩) ((((fg cuts).map (fun t=>lA 2 (fi a t) (fi b t))).take (k+1)).map vB) J (by rw[<-oI hz2,hx];rfl) (Iu [false]) J<|dq 59 8 J<|at_ (k+1) ⟨pb,pb⟩
  .
   refine cj (fu:=⟨15⟩) J J J<|cj (fu:=⟨5⟩) J J J<|cj J J J<|rf J J<|ap ((((fg cuts).map (fun t=>lA 2 (fi a t) (fi b t))).take (k+1)).map vB) J (by rw[<-oI hz2,hx];rfl) (Iu [_]) J<|dq 59 8 J<|at_ (k+1) ⟨pb,pb⟩
 .
  obtain rfl:k=cuts.length+1:=by omega
  have htk:((fg cuts).map (fun t=>lA 2 (fi a t) (fi b t))).take (cuts.length+1)=(fg cuts).map (fun t=>lA 2 (fi a t) (fi b t)):=bK (by rw[aX,hgl];exact bZ _);rw[htk];refine lm 8 J<|gx J<|cl J (QB (cuts:=cuts) (marks:=(fg cuts).map (fun t=>lA 2 (fi a t) (fi b t))) pb (by rw[aX,hgl];exact bZ _)) J<|rz J (by unfold mA;rw[<-hcu];rfl)
section
variable {C:aD}{Q0:Exit->Act->World->Prop}{fr fr':aA}{own own':aF}{cf cf':Cf}{vc:List Prop}
def WF{dst:Option Nat}{t:TypeId}{gd:Option (Nat×Bool)}{x y:Operand}{k:IntKind}(hu:prog.underlying t=some (.array len e))(hs:(prog.info? e).map (·.size)=some s)
  (e1:ba lk x=some (.ov nm off))(e2:ba lk y=some (.d (.v (.int k (i:Nat)))))(hi:i<len):bD prog GB C n lk bk ⟨dst, .indexAddr t x y,ty',pos,af,gd⟩ (.ov nm (off+i*s)) [] []:= .yd fun ρ G ov a w r=>by
 obtain⟨p,h1,h2⟩:=r.ev e1;obtain⟨q,h3,h4⟩:=r.ev e2;rw[cC] at h4;subst h4;obtain⟨b,hb,rfl⟩:=h2;refine⟨_,⟨b,hb,J⟩,?_⟩;obtain⟨j,hj,hjs⟩: ∃j,prog.info? e=some j/\j.size=s:=by
  cases h:prog.info? e with
  |none=>rw[h] at hs;cases hs
  |some j=>rw[h] at hs;exact⟨j,J,by simpa using hs⟩
 intro a' w' hf hh;simp only[execOp,bg hf h1,bg hf h3];have:(Instr.indexAt t (.pointer (some ⟨b,off,none⟩)) (.int k (i:Nat))).run prog w'= .ok (.pointer (some ⟨b,off+i*s,none⟩)) w':=by
  unfold Instr.indexAt;show(underlying t>>=_).run prog w'=_;rw[aP (o5 hu w')];show(underlying t>>=_).run prog w'=_;rw[aP (o5 hu w')];have h0:0<=((i:Nat):Int):=Int.natCast_nonneg i;have h1:((i:Nat):Int)<((len:Nat):Int):=by omega
  simp only[h0,h1,and_self,if_true];show(sizeOf e>>=_).run prog w'=_;rw[aP (tk hj w'),qb,hjs,dQ];rfl
 exact cA this
def JW(fr:aA)(cf:Cf):Option (TypeId×Nat×Nat×Int):=match cO fr cf with
 |some ⟨_, .indexAddr t x y,_,_,_,_⟩=>match ba (bH fr cf) x with
  |some (.ov nm off)=>match ba (bH fr cf) y with
   |some (.d (.v (.int _ i)))=>some (t,nm,off,i)
   |_=>none
  |_=>none
 |_=>none
def l8[fu:Fu](i:Nat){t:Nat}(h:JW fr cf=some (t,nm,off,((i:Nat):Int)))(hu:prog.underlying t=some (.array len e))(hs:(prog.info? e).map (·.size)=some s)(hi:i<len)
  (hgo:cv tt n fu.n fr own cf (.ov nm (off+i*s)) [] []=⟨vc,fr',own',cf'⟩)(k:ao prog GB C n Q0 fr' own' cf')
  (hv:autoParam (aj vc) cL._auto_1):ao prog GB C n Q0 fr own cf:=by
 unfold JW at h;split at h<;>try (cases h;done)
 rename_i hh;split at h<;>try (cases h;done)
 rename_i hx;split at h<;>cases h;rename_i hy;exact us hh (WF hu hs hx hy hi) hgo hv k
def Z9{e t:TypeId}{gd:Option (Nat×Bool)}{ps:List (Nat×Operand)}{fo:List (Nat×Nat×Nat)}{i:TI}{z:List FX}{pre post:List DV}(hi:d7 prog t=some i)(hk:i.k= .st fo)(hz:i.z=some z)
  (hb:qf lk fo z ps=some zx)(h0:zx[k]? =some .nl)(h1:gO (zx.take k)=some pre)(h2:gO (zx.drop (k+1))=some post):bD prog GB C n lk bk ⟨some d, .build t ⟨ps⟩,ty',pos,af,gd⟩ (.bx false pre d post) [(d,some (.b e s [] true))] [d]:=by
 intro hd tl tb K' s1 s2 hf hk';refine⟨fun ρ G ov a w r Q=>?_⟩;obtain⟨v,hv,hv'⟩:=y8 hi hz;have:=Nv hi hk;have hsp:zx=zx.take k++ .nl::zx.drop (k+1):=by
  obtain⟨hk1,hk2⟩:=aS.1 h0
  conv=>lhs;rw[<-jK k zx,bW hk1,hk2]
 obtain⟨l,h1',h2'⟩:=CY (r.mono s1 s2) (fo:=fo) ps _ _ _ hb (hv' ρ G);rw[hsp] at h2';obtain⟨m1,m2',rfl,k1,y,m2,rfl,k2,k3⟩:=Nu h2'
 cases (show y= .slice none 0 0 from k2)
 have hy:Yd prog C (b8 a) ov G ⟨some d, .build t ⟨ps⟩,ty',pos,af,gd⟩ (.agg ⟨m1++Value.slice none 0 0::m2⟩):=EX h1';have r3:=r.new' (x:=⟨none,0,0⟩) (B':= .b e s [] true) (os:=[]) (ov':=ov) (f:= .bx false pre d post) (y:= .agg ⟨m1++Value.slice none 0 0::m2⟩) hf (bA.refl G) r.h
  ⟨[],by simp only[if_true];exact .inl ⟨J,J,J⟩, .nil,v8,fun _ o ho=>by cases ho⟩ (fun o ho=>by cases ho) (fun m B _ _ o ho _=>⟨ho,v8⟩)
  ⟨m1,m2,v8,oq k1 h1,oq k3 h2⟩ (r.putA _ hd)
 exact j0 (hy a w (b9 a) r.h) (hk'.run _ G ov _ w r3)
def K0(fr:aA)(cf:Cf):Option (Nat×List FX):=match cO fr cf with
 |some ⟨some d, .build t ⟨ps⟩,_,_,_,_⟩=>match di tt t with
  |some ⟨.st fo,_,some zx,_⟩=>match qf (bH fr cf) fo zx ps with
   |some l=>some (d,l)
   |none=>none
  |_=>none
 |_=>none
def Yz[fu:Fu](e s kk:Nat)(pre post:List DV)(h:K0 fr cf=some (d,zx))(h0:zx[kk]? =some .nl)(h1:gO (zx.take kk)=some pre)(h2:gO (zx.drop (kk+1))=some post)(hgo:cv tt n fu.n fr own cf (.bx false pre d post) [(d,some (.b e s [] true))] [d]=⟨vc,fr',own',cf'⟩)(k:ao prog GB C n Q0 fr' own' cf')
  (hv:autoParam (aj vc) cL._auto_1):ao prog GB C n Q0 fr own cf:=by
 unfold K0 at h;split at h<;>try (cases h;done)
 rename_i hh;split at h<;>try (cases h;done)
 rename_i hT;split at h<;>cases h;rename_i hb;exact us hh (Z9 (dw _ _ hT) J J hb h0 h1 h2) hgo hv k
end
end Go.Sx
end
