import Derived.Test.YtidmgdlbilojcaaGreatDoorMa17
set_option linter.all false
set_option maxHeartbeats 4000000
set_option maxRecDepth 100000
section
namespace Go.Sx
open Go Go.Proofs Tryz
variable {GB:Gh}
def Yf(p r:ZP):(gn p.q r.q<0↔vR p r<0)/\(gn p.q r.q=0↔vR p r=0):=by
 have e1: ∀a b:Int,bm (a:Rat) (b:Rat)<0↔a<b:=fun a b=>by rw[As,Rat.intCast_lt_intCast]
 have e2: ∀a b:Int,bm (a:Rat) (b:Rat)=0↔a=b:=fun a b=>by rw[tw,nW]
 have f1:=e1 p.1 r.1;have f2:=e2 p.1 r.1;have f3:=e1 p.2 r.2;have f4:=e2 p.2 r.2;show(gn ⟨(p.1:Rat),(p.2:Rat)⟩ ⟨(r.1:Rat),(r.2:Rat)⟩<0↔_)/\(gn ⟨(p.1:Rat),(p.2:Rat)⟩ ⟨(r.1:Rat),(r.2:Rat)⟩=0↔_);unfold gn vR;dsimp only;generalize bm (p.1:Rat) (r.1:Rat)=u at*;generalize bm (p.2:Rat) (r.2:Rat)=v at*;by_cases h:p.1<r.1
 ·rw[if_pos (by omega),if_pos h];omega
 ·by_cases h2:r.1<p.1
  ·rw[if_pos (by omega),if_neg h,if_pos h2];omega
  ·rw[if_neg (by omega),if_neg h,if_neg h2]
   by_cases h3:p.2<r.2
   ·rw[if_pos h3];omega
   ·rw[if_neg h3]
    split<;>omega
def NO(x:ZP): ∀l:List ZP,fk gn x.q (l.map ZP.q)=(tc x l).map ZP.q
 |[]=>rfl
 |u::t=>by
  obtain⟨h1,h2⟩:=Yf u x;rw[bT,fk,tc,NO x t];by_cases k1:vR u x<0
  ·rw[if_pos (h1.2 k1),if_pos k1];rfl
  ·rw[if_neg (fun e=>k1 (h1.1 e)),if_neg k1]
   by_cases k2:vR u x=0
   ·rw[if_pos (h2.2 k2),if_pos k2];rfl
   ·rw[if_neg (fun e=>k2 (h2.1 e)),if_neg k2];rfl
def YS(l:List ZP):tT gn (l.map ZP.q)=(uO l).map ZP.q:=by
 have key: ∀(l o:List ZP),(l.map ZP.q).foldl (fun out x=>fk gn x out) (o.map ZP.q)=(l.foldl (fun out x=>tc x out) o).map ZP.q:=by
  intro l
  induction l with
  |nil=>intro o;rfl
  |cons x t ih=>intro o;rw[bT,jU,jU,NO,ih]
 exact key l []
def Np(l:List ZP):(l.map ZP.q).map eP=l.map io:=by rw[rL];rfl
def Ot{l:List ZP}(h: ∀p∈l,ZP.le 100 p)(hn:l.length<=100000):PF GB prog 156 [.sl (l.map io)] (.sl ((uO l).map io)):=by
 have:=axq (GB:=GB) (ps:=l.map ZP.q) (FG h) (by rw[aK];exact hn);rw[YS,Np,Np] at this;exact this
def aCY(u v:ZP):(ab.cross (iP u.1 u.2) (iP v.1 v.2))=((wB u v:Int):Rat):=by
 unfold ab.cross iP wB;push_cast;rfl
def GC(u v:ZP):(ab.cross (iP u.1 u.2) (iP v.1 v.2)).num.sign≠0↔wB u v≠0:=by
 rw[aCY,qN];exact not_congr jW
def asJ{α β:Type}(f:α->β)(l:List α):((l.map f).take (l.length-1)).drop 0=l.dropLast.map f:=by
 rw[iQ,<-gN,List.dropLast_eq_take]
def J1{l:List ZP}(h:0<l.length): ∃u,l.getLast? =some u/\l[l.length-1]? =some u/\l.getD (l.length-1) (0,0)=u:=by
 refine⟨l[l.length-1],?_,aZ (by omega),?_⟩
 ·rw[lW];exact aZ (by omega)
 ·rw[aX,aZ (by omega)];rfl
def aug{l:List ZP}(h:0<l.length): ∃u,l[0]? =some u/\l.getD 0 (0,0)=u:=by
 refine⟨l[0],aZ (by omega),?_⟩;rw[aX,aZ (by omega)];rfl
def Di{u p:ZP}:(u.1=p.1/\u.2=p.2)↔u=p:=⟨fun h=>Prod.ext h.1 h.2,fun h=>by rw[h];exact⟨J,J⟩⟩
def Nb{b:Nat}{es:List Int}(hes:es.length<=400){a:Nat}(ha:a<=es.length):PM GB prog 94 (jj [none] b) b 87 [.sl (es.map vI), .v (.int .i64 (a:Nat))] (mO (fC es a).1) [.sl (es.map vI), .v (.int .i64 ((fC es a).2:Nat))]:=by
 have hk0:=iA (n:=4) ha;refine vZ (fu:=⟨6⟩) func94 J J ntmps94 J J (fun C b m lo hmb=>?_);refine mg (X:=Nat) (fun a2=>[]) (fun a2=>[(1000000,some (.o 87 [.d (.sl (es.map vI)), .d (.v (.int .i64 (a2:Nat)))] false))]) (fun a2=>fC es a=rA es a2/\a2<=es.length) [] [1000000] rfl ?_ (fun _=>J) (fun a2 ⟨hR,ha2⟩=>?_)
 .
  refine gx J<|cm J (fun b=>(pj (n:=4) hes ha (by decide) (by decide))) J<|?_;refine br J J J (fun hc15=>?_) (fun hc15=>?_)
  .
   have hx1:=iA (n:=5) hk0;have hy1:=iA (n:=5) hx1;have hz1:=iA (n:=4) hy1;have hw1:=iA (n:=4) hz1;have hl0:=mn (es:=es) (n:=5) (a:=(aw es 4 a).2) (by decide);have hl1:=mn (es:=es) (n:=5) (a:=(aw es 5 (aw es 4 a).2).2) (by decide);have hl2:=mn (es:=es) (n:=4) (a:=(aw es 5 (aw es 5 (aw es 4 a).2).2).2) (by decide);have hl3:=mn (es:=es) (n:=4) (a:=(aw es 4 (aw es 5 (aw es 5 (aw es 4 a).2).2).2).2) (by decide);refine cm J (fun b=>(pj (n:=5) hes hk0 (by decide) (by decide))) J<|cm J (fun b=>(pj (n:=5) hes hx1 (by decide) (by decide))) J<|?_;refine cm J (fun b=>(pj (n:=4) hes hy1 (by decide) (by decide))) J<|cm J (fun b=>(pj (n:=4) hes hz1 (by decide) (by decide))) J<|?_;refine cl J (lG (m:=(((aw es 5 (aw es 4 a).2).1:Int)-4)) (n:=(((aw es 5 (aw es 5 (aw es 4 a).2).2).1:Int)-4)) (by omega) (by omega)) J<|?_;refine cl J (lG (m:=(((aw es 5 (aw es 4 a).2).1:Int)-4+1+((aw es 4 (aw es 5 (aw es 5 (aw es 4 a).2).2).2).1:Int))) (n:=(((aw es 5 (aw es 5 (aw es 4 a).2).2).1:Int)-4)) (by omega) (by omega)) J<|?_;refine cl J (lG (m:=(((aw es 5 (aw es 4 a).2).1:Int)-4+1+((aw es 4 (aw es 5 (aw es 5 (aw es 4 a).2).2).2).1:Int))) (n:=(((aw es 5 (aw es 5 (aw es 4 a).2).2).1:Int)-4+1+((aw es 4 (aw es 4 (aw es 5 (aw es 5 (aw es 4 a).2).2).2).2).1:Int))) (by omega) (by omega)) J<|?_;refine cl J (lG (m:=(((aw es 5 (aw es 4 a).2).1:Int)-4)) (n:=(((aw es 5 (aw es 5 (aw es 4 a).2).2).1:Int)-4+1+((aw es 4 (aw es 4 (aw es 5 (aw es 5 (aw es 4 a).2).2).2).2).1:Int))) (by omega) (by omega)) J<|?_;refine rf J J<|?_
   exact mj hmb J J (by rw[show fC es a=_ from if_pos hc15];rfl) (by rw[show fC es a=_ from if_pos hc15];rfl)
  .
   refine br J J J (fun hc46=>?_) (fun hc46=>?_)
   .
    obtain⟨hp1,hp2,hp3⟩:=xv hk0;obtain⟨hu1,hu2,hu3,hu4⟩:=Dy hp3;obtain⟨hv1,hv2,hv3,hv4⟩:=Dy hu4;haveI:=je (k:=10) (m:=(vF es (pF es (aw es 4 a).2).2).1.1) (by omega) (by decide);haveI:=je (k:=10) (m:=(vF es (pF es (aw es 4 a).2).2).1.2) (by omega) (by decide);haveI:=je (k:=10) (m:=(vF es (vF es (pF es (aw es 4 a).2).2).2).1.1) (by omega) (by decide);haveI:=je (k:=10) (m:=(vF es (vF es (pF es (aw es 4 a).2).2).2).1.2) (by omega) (by decide);refine cm J (fun b=>(FS hes hk0)) J<|cm J (fun b=>(JK hes hp3)) J<|cm J (fun b=>(JK hes hu4)) J<|cl J (Cx (p:=iP (vF es (pF es (aw es 4 a).2).2).1.1 (vF es (pF es (aw es 4 a).2).2).1.2) (q:=iP (vF es (vF es (pF es (aw es 4 a).2).2).2).1.1 (vF es (vF es (pF es (aw es 4 a).2).2).2).1.2)) J<|?_;refine cl J (qa (q:=ab.cross (iP (vF es (pF es (aw es 4 a).2).2).1.1 (vF es (pF es (aw es 4 a).2).2).1.2) (iP (vF es (vF es (pF es (aw es 4 a).2).2).2).1.1 (vF es (vF es (pF es (aw es 4 a).2).2).2).1.2))) J<|?_;refine br J J J (fun hc58=>?_) (fun hc58=>?_)
    .
     refine cl J (lc (n:=1) (by decide) (by decide)) J<|cl J (I2 (m:=(pF es (aw es 4 a).2).1.1) (n:=(pF es (aw es 4 a).2).1.2) (m':=(vF es (pF es (aw es 4 a).2).2).1.1) (n':=(vF es (pF es (aw es 4 a).2).2).1.2) (k:=1) (by omega) (by omega) (by omega) (by omega) (by decide)) J<|?_;refine cl J (lc (n:=1) (by decide) (by decide)) J<|cl J (I2 (m:=(pF es (aw es 4 a).2).1.1) (n:=(pF es (aw es 4 a).2).1.2) (m':=(vF es (vF es (pF es (aw es 4 a).2).2).2).1.1) (n':=(vF es (vF es (pF es (aw es 4 a).2).2).2).1.2) (k:=1) (by omega) (by omega) (by omega) (by omega) (by decide)) J<|?_;refine rf J J<|?_;exact mj hmb J J (by rw[show fC es a=_ from(if_neg hc15).trans ((if_pos hc46).trans (if_pos ((GC _ _).1 hc58)))];rfl) (by rw[show fC es a=_ from(if_neg hc15).trans ((if_pos hc46).trans (if_pos ((GC _ _).1 hc58)))])
    .
     exact at_ (vF es (vF es (pF es (aw es 4 a).2).2).2).2 ⟨(if_neg hc15).trans ((if_pos hc46).trans (if_neg (fun e=>hc58 ((GC _ _).2 e)))),hv4⟩
   .
    exact at_ (aw es 4 a).2 ⟨(if_neg hc15).trans (if_neg hc46),hk0⟩
 .
  have hj1:=mn (es:=es) (n:=4) (a:=a2) (by decide);have hj2:=iA (n:=4) ha2;refine cm J (fun b=>(pj (n:=4) hes ha2 (by decide) (by decide))) J<|?_;refine nr 10 10 62 6 J J J ?_;refine lp (X:=List ZP×Nat×Nat) (fun⟨r,i,a3⟩=>[(11, .d (vI (i:Nat))),(10, .rw 10)]) (fun⟨r,i,a3⟩=>[(1000000,some (.o 87 [.d (.sl (es.map vI)), .d (.v (.int .i64 (a3:Nat)))] false)),(10,some (.b 62 6 (r.map io) true))]) (fun⟨r,i,a3⟩=>ng es i a3 r=ng es (3+(aw es 4 a2).1) (aw es 4 a2).2 []/\a3<=es.length/\lC r/\r.length+i<=6) (fun⟨r,i,a3⟩=>i) ⟨[],3+(aw es 4 a2).1,(aw es 4 a2).2⟩ J ⟨J,hj2,lC.nil,by simp;omega⟩ (fun _=>J) (fun⟨r,i,a3⟩ hk=>?_)
  try dsimp only at hk⊢
  obtain⟨h1,h2,h3,h4⟩:=hk;have hrl:(r.map io).length=r.length:=by simp
  refine br (fu2:=⟨0⟩) J J J (fun hc73=>?_) (fun hc73=>?_)
  .
   obtain⟨j,rfl⟩: ∃j,i=j+1:=⟨i-1,by omega⟩;obtain⟨hq1,hq2,hq3⟩:=xv h2;refine cm (fu:=⟨8⟩) J (fun b=>(FS hes h2)) J<|?_;refine kG (v1:=fun hg80=>by simp only[ac];kernel_rfl) J J J J (fun hg80=>?_) (fun hg80=>?_)
   .
    have hlast: ¬r.getLast? =some (pF es a3).1:=by rw[bS (l:=r) (by omega)];simp
    refine rf J J<|ap ((r++[(pF es a3).1]).map io) J (by rw[bR];rfl) (Fo [_]) J<|?_;refine iv 95 10 J ?_;exact at_ ⟨r++[(pF es a3).1],j,(pF es a3).2⟩ (by dsimp only;exact⟨⟨by rw[<-h1,ng,if_neg hlast],hq3,h3.snoc ⟨by omega,by omega⟩ hlast,by simp;omega⟩,(by omega)⟩)
   .
    obtain⟨q,hq,hqi,hqd⟩:=J1 (l:=r) (by omega);have hqm:=h3.le q (nT hq);unfold ZP.le at hqm;refine lb (io q) J (by rw[show(((r.map io).length:Nat):Int)-1=((r.length-1:Nat):Int) by omega];exact fe hqi) J<|cl J (DK (m:=q.1) (n:=q.2) (m':=(pF es a3).1.1) (n':=(pF es a3).1.2) (by omega) (by omega) (by omega) (by omega)) J<|?_;refine bb J J J (fun hc91=>?_) (fun hc91=>?_)
    .
     have hlast: ¬r.getLast? =some (pF es a3).1:=by rw[hq];intro e;have:=Di.2 (Option.some.inj e);simp[this] at hc91
     refine rf J J<|ap ((r++[(pF es a3).1]).map io) J (by rw[bR];rfl) (Fo [_]) J<|?_;refine iv 95 10 J ?_;exact at_ ⟨r++[(pF es a3).1],j,(pF es a3).2⟩ (by dsimp only;exact⟨⟨by rw[<-h1,ng,if_neg hlast],hq3,h3.snoc ⟨by omega,by omega⟩ hlast,by simp;omega⟩,(by omega)⟩)
    .
     have hlast:r.getLast? =some (pF es a3).1:=by rw[hq];congr 1;exact Di.1 (by simpa using hc91)
     exact at_ ⟨r,j,(pF es a3).2⟩ (by dsimp only;exact⟨⟨by rw[<-h1,ng,if_pos hlast],hq3,h3,by omega⟩,(by omega)⟩)
  .
   obtain rfl:i=0:=by omega
   have hg:=h1;rw[ng] at hg;refine yl 10 J ?_;refine gx J<|?_;refine lp (fu:=⟨5⟩) (X:=List ZP×Nat) (fun⟨l,m⟩=>[(10, .d (.sl (l.map io)))]) (fun⟨l,m⟩=>[]) (fun⟨l,m⟩=>kz m l=kz 6 r/\l.length<=m+1/\lC l/\l.length<=6) (fun⟨l,m⟩=>m) ⟨r,6⟩ J ⟨J,by omega,h3,by omega⟩ (fun _=>J) (fun⟨l,m⟩ hk=>?_)
   try dsimp only at hk⊢
   obtain⟨t1,t2,t3,t4⟩:=hk;have hll:(l.map io).length=l.length:=by simp
   refine kG (v2:=fun hg98=>by simp only[ac];kernel_rfl) J J J J (fun hg98=>?_) (fun hg98=>?_)
   .
    obtain⟨q,hqi,hqd⟩:=aug (l:=l) (by omega);obtain⟨q2,hq0,hqi2,hqd2⟩:=J1 (l:=l) (by omega);have hqm:=t3.le q (aL hqi);have hqm2:=t3.le q2 (aL hqi2);unfold ZP.le at hqm hqm2;refine ix _ J (fe (i:=0) hqi) J<|ix (io q2) J (by rw[show(((l.map io).length:Nat):Int)-1=((l.length-1:Nat):Int) by omega];exact fe hqi2) J<|?_;refine cl J (DK (m:=q.1) (n:=q.2) (m':=q2.1) (n':=q2.2) (by omega) (by omega) (by omega) (by omega)) J<|?_;refine bd J J J (fun hc110=>?_) (fun hc110=>?_)
    .
     have hcond:1<l.length/\l.getD 0 (0,0)=l.getD (l.length-1) (0,0):=⟨by omega,by rw[hqd,hqd2];exact Di.1 hc110⟩;refine mz 0 (l.length-1) (l.dropLast.map io) J J (by omega) (asJ io l) (Fo l) (bJ _) (by omega) J<|?_;exact at_ ⟨l.dropLast,m-1⟩ (by dsimp only;exact⟨⟨by rw[<-t1];obtain⟨m,rfl⟩: ∃q,m=q+1:=⟨m-1,by omega⟩;rw[kz,if_pos hcond];rfl,by rw[iK];omega,t3.drop,by rw[iK];omega⟩,(by omega)⟩)
    .
     have hcond: ¬(1<l.length/\l.getD 0 (0,0)=l.getD (l.length-1) (0,0)):=fun e=>hc110 (Di.2 (by rw[<-hqd,<-hqd2];exact e.2));refine cl (fu:=⟨1⟩) J (Ot (l:=l) t3.le (by omega)) J<|?_;have hgen:kz 6 r=l:=by rw[<-t1];cases m with|zero=>rfl|succ m=>rw[kz,if_neg hcond]
     refine aj 118 (.d (vI ((uO l).length:Nat))) J (by rw[aK];rfl) ?_;refine gx J<|?_;refine br J J J (fun hc119=>?_) (fun hc119=>?_)
     .
      have hfin:fC es a=(yp,a3):=by rw[hR,rA,<-hg,hgen,if_pos (by omega)]
      refine cl J (lG (m:=0) (n:=0) (by decide) (by decide)) J<|cl J (lG (m:=2) (n:=0) (by decide) (by decide)) J<|cl J (lG (m:=0) (n:=2) (by decide) (by decide)) J<|?_;refine rf J J<|?_;exact mj hmb J J (by rw[hfin];rfl) (by rw[hfin])
     .
      have hfin:fC es a=(l,a3):=by rw[hR,rA,<-hg,hgen,if_neg (by omega)]
      exact mj hmb J J (by rw[hfin];rfl) (by rw[hfin])
   .
    have hcond: ¬(1<l.length/\l.getD 0 (0,0)=l.getD (l.length-1) (0,0)):=fun e=>by omega
    refine cl (fu:=⟨1⟩) J (Ot (l:=l) t3.le (by omega)) J<|?_;have hgen:kz 6 r=l:=by rw[<-t1];cases m with|zero=>rfl|succ m=>rw[kz,if_neg hcond]
    refine aj 118 (.d (vI ((uO l).length:Nat))) J (by rw[aK];rfl) ?_;refine gx J<|?_;refine br J J J (fun hc119=>?_) (fun hc119=>?_)
    .
     have hfin:fC es a=(yp,a3):=by rw[hR,rA,<-hg,hgen,if_pos (by omega)]
     refine cl J (lG (m:=0) (n:=0) (by decide) (by decide)) J<|cl J (lG (m:=2) (n:=0) (by decide) (by decide)) J<|cl J (lG (m:=0) (n:=2) (by decide) (by decide)) J<|?_;refine rf J J<|?_;exact mj hmb J J (by rw[hfin];rfl) (by rw[hfin])
    .
     have hfin:fC es a=(l,a3):=by rw[hR,rA,<-hg,hgen,if_neg (by omega)]
     exact mj hmb J J (by rw[hfin];rfl) (by rw[hfin])
def Jp:DV:= .v (.pointer none)
def U1(l:aa)(p q:DV):List DV:=[.v (.bool false), .v (.bool false), .v (.bool (decide (l.a<0))),dN l.a.natAbs, .v (.bool (decide (l.b<0))),dN l.b.natAbs, .v (.bool (decide (l.c<0))),dN l.c.natAbs,p,q]
inductive RF (ns:List RN):Int->(Nat->Bool)->DV->Bool->(Nat->Bool)->Prop where
 |leaf (b:Bool) (f:Nat->Bool):RF ns (r5 b) f (eT (.leaf b)) true f
 |bad (rt:Int) (f:Nat->Bool) (h1:rt≠ -1) (h2:rt≠ -2) (h:rt<0\/(ns.length:Int)<=rt\/(∃k:Nat,rt=k/\k<ns.length/\f k=true)):RF ns rt f Jp false f
 |line (k:Nat) (n:RN) (f:Nat->Bool) (h:ns[k]? =some n) (hf:f k=false) (hl:n.g.ln=none):RF ns (k:Int) f Jp false (lj f k)
 |left (k:Nat) (n:RN) (l:aa) (f f2:Nat->Bool) (p:DV) (h:ns[k]? =some n) (hf:f k=false) (hl:n.g.ln=some l) (h1:RF ns n.l (lj f k) p false f2):RF ns (k:Int) f Jp false f2
 |node (k:Nat) (n:RN) (l:aa) (f f2 f3:Nat->Bool) (p q:DV) (ok:Bool) (h:ns[k]? =some n) (hf:f k=false) (hl:n.g.ln=some l) (h1:RF ns n.l (lj f k) p true f2) (h2:RF ns n.r f2 q ok f3):RF ns (k:Int) f (.pt (U1 l p q)) ok f3
def aJ9(n:Nat)(f:Nat->Bool):Bool:=(List.range n).all f
def RN.of(n:NQ):RN:=⟨⟨decide (n.l.a<0),dg n.l.a.natAbs,decide (n.l.b<0),dg n.l.b.natAbs,decide (n.l.c<0),dg n.l.c.natAbs⟩,n.a,n.b⟩
def WF(ns:List NQ):ns.map eN=(ns.map RN.of).map RN.d:=by
 rw[rL];rfl
def IF(t:Tr):eA t=tY (t.num 0) ((t.wr 0).map RN.of):=by
 unfold eA tY;rw[WF];rfl
def ZX(a:Int):o4 (decide (a<0)) (dg a.natAbs)=a:=by
 unfold o4;rw[(eo _).1];split
 ·rename_i h;have:=of_decide_eq_true h;omega
 ·rename_i h;have: ¬a<0:=fun e=>h (decide_eq_true e);omega
def HK(a:Int):l9 (decide (a<0)) (dg a.natAbs):=⟨(eo _).2.2,fun h=>xA.2 (by have:=of_decide_eq_true h;omega)⟩
def RN.of_l(n:NQ):(RN.of n).g.l=n.l:=by
 unfold RN.of RL.l;simp only[ZX]
def RN.of_ln{n:NQ}(h:n.l.ok):(RN.of n).g.ln=some n.l:=by
 unfold RL.ln;rw[if_pos ⟨⟨HK _,HK _,HK _⟩,by rw[RN.of_l];exact h⟩,RN.of_l]
def RN.of_sm{n:NQ}(h:LB n.l):(RN.of n).g.sm:=by
 have key: ∀a:Int,a.natAbs<2^96->bp (dg a.natAbs)/\(dg a.natAbs).length<=3:=fun a ha=>⟨(eo _).2.1,by have:=lB ha;omega⟩;exact⟨key _ h.bl.a,key _ h.bl.b,key _ h.bl.c⟩
def Cq(b:Bool)(k:Nat):r5 b≠(k:Int):=by cases b<;>(unfold r5;simp)
def RR.det{ns:List RN}{rt:Int}{s s1:RS}{t1:Tr}(h:RR ns rt s t1 s1): ∀{s2:RS} {t2:Tr},RR ns rt s t2 s2->t1=t2/\s1=s2:=by
 induction h with
 |leaf b s=>
  intro s2 t2 h;generalize hr:r5 b=r at h
  cases h with
  |leaf b' s=>
   have:b=b':=by cases b<;>cases b'<;>first|rfl|(simp[r5] at hr)
   subst this;exact⟨J,J⟩
  |bad rt s h1 h2 h=>cases b<;>simp[r5] at hr<;>omega
  |line k=>exact absurd hr (Cq _ _)
  |node k=>exact absurd hr (Cq _ _)
 |bad rt s h1 h2 h=>
  intro s2 t2 h'
  cases h' with
  |leaf b s=>cases b<;>simp[r5] at h1 h2
  |bad=>exact⟨J,J⟩
  |line k n s hn hf=>
   have:=(aS.1 hn).1;rcases h with h|h|⟨j,e,_,hj⟩
   ·omega
   ·omega
   ·have:j=k:=by omega
    subst this;rw[hf] at hj;cases hj
  |node k n l s s2 s3 x y hn hf=>
   have:=(aS.1 hn).1;rcases h with h|h|⟨j,e,_,hj⟩
   ·omega
   ·omega
   ·have:j=k:=by omega
    subst this;rw[hf] at hj;cases hj
 |line k n s hn hf hl=>
  intro s2 t2 h';generalize hr:(k:Int)=r at h'
  cases h' with
  |leaf b s=>exact absurd hr.symm (Cq _ _)
  |bad rt s h1 h2 h=>
   have:=(aS.1 hn).1;rcases h with h|h|⟨j,e,_,hj⟩
   ·omega
   ·omega
   ·have:j=k:=by omega
    subst this;rw[hf] at hj;cases hj
  |line k' n' s hn' hf' hl'=>
   have:k=k':=by omega
   subst this;exact⟨J,J⟩
  |node k' n' l s s2 s3 x y hn' hf' hl'=>
   have:k=k':=by omega
   subst this;rw[hn] at hn';cases hn';rw[hl] at hl';cases hl'
 |node k n l s s2 s3 x y hn hf hl h1 h2 i1 i2=>
  intro s4 t4 h';generalize hr:(k:Int)=r at h'
  cases h' with
  |leaf b s=>exact absurd hr.symm (Cq _ _)
  |bad rt s h1 h2 h=>
   have:=(aS.1 hn).1;rcases h with h|h|⟨j,e,_,hj⟩
   ·omega
   ·omega
   ·have:j=k:=by omega
    subst this;rw[hf] at hj;cases hj
  |line k' n' s hn' hf' hl'=>
   have:k=k':=by omega
   subst this;rw[hn] at hn';cases hn';rw[hl] at hl';cases hl'
  |node k' n' l' s s2' s3' x' y' hn' hf' hl' h1' h2'=>
   have:k=k':=by omega
   subst this;rw[hn] at hn';cases hn';rw[hl] at hl';cases hl';obtain⟨rfl,rfl⟩:=i1 h1';obtain⟨rfl,rfl⟩:=i2 h2';exact⟨J,J⟩
def p9(ns:List NQ):Tr->Int->List Nat->Prop
 | .leaf b,rt,L=>rt=r5 b/\L=[]
 | .node l x y,rt,L=> ∃(k:Nat) (a b:Int) (L1 L2:List Nat),rt=(k:Int)/\ns[k]? =some ⟨l,a,b⟩/\p9 ns x a L1/\p9 ns y b L2/\L=k::(L1++L2)
def p9.rr{ns:List NQ}: ∀{t:Tr} {rt:Int} {L:List Nat} {s:RS},p9 ns t rt L->t.all aa.ok->L.Nodup->(∀j∈L,s.f j=false)-> ∃f,RR (ns.map RN.of) rt s t ⟨f,s.c+t.size,s.b⟩/\ ∀j,j∉L->f j=s.f j
 | .leaf b,rt,L,s,⟨e,e2⟩,_,_,_=>by
  subst e e2;exact⟨s.f, .leaf b s,fun _ _=>J⟩
 | .node l x y,rt,L,s,⟨k,a,b,L1,L2,e,hk,hx,hy,e2⟩,⟨h0,h1,h2⟩,hnd,hf=>by
  subst e e2;obtain⟨hkn,hnd⟩:=List.nodup_cons.1 hnd;obtain⟨hd1,hd2,hdis⟩:=List.nodup_append.1 hnd;have hfk:=hf k aQ;have hn1: ∀j∈L1,j≠k:=fun j hj e=>hkn (e▸bU _ hj);have hn2: ∀j∈L2,j≠k:=fun j hj e=>hkn (e▸bL _ hj);obtain⟨f1,r1,g1⟩:=p9.rr (s:=⟨lj s.f k,s.c+1,s.b⟩) hx h1 hd1 (fun j hj=>by simp only;rw[An (hn1 j hj)];exact hf j (aJ _ (bU _ hj)));simp only at r1 g1;obtain⟨f2,r2,g2⟩:=p9.rr (s:=⟨f1,s.c+1+x.size,s.b⟩) hy h2 hd2 (fun j hj=>by
   simp only;rw[g1 j (fun h=>hdis _ h _ hj J),An (hn2 j hj)];exact hf j (aJ _ (bL _ hj)))
  simp only at r2 g2;have hc:s.c+(Tr.node l x y).size=s.c+1+x.size+y.size:=by simp only[Tr.size];omega
  rw[hc];refine⟨f2, .node k (RN.of ⟨l,a,b⟩) l s _ _ x y (by rw[cV,hk];rfl) hfk (RN.of_ln h0) r1 r2,fun j hj=>?_⟩;simp only[aY,bW,not_or] at hj;rw[g2 j hj.2.2,g1 j hj.2.1,An hj.1]
def p9.len{ns:List NQ}: ∀{t:Tr} {rt:Int} {L:List Nat},p9 ns t rt L->L.length=t.size
 | .leaf _,_,_,⟨_,h⟩=>by rw[h];rfl
 | .node l x y,_,_,⟨k,a,b,L1,L2,_,_,h1,h2,h⟩=>by
  rw[h,bZ,aV,p9.len h1,p9.len h2];simp only[Tr.size];omega
def W4(ns:List NQ)(t:Tr)(rt:Int):Prop:= ∃L,p9 ns t rt L/\L.Nodup/\L.length=ns.length
def aEI{ns:List NQ}{t:Tr}{rt:Int}(h:W4 ns t rt)(ho:t.all aa.ok):l7 (ns.map RN.of) rt=some t:=by
 obtain⟨L,h1,h2,h3⟩:=h;obtain⟨f,r,_⟩:=h1.rr (s:=oG) ho h2 (fun _ _=>rfl);have hr:=Ae (ns:=ns.map RN.of) (m:=(ns.map RN.of).length+1) (rt:=rt) (s:=oG) (by have:=CS (ns.map RN.of).length oG.f;omega);obtain⟨e1,e2⟩:=hr.1.det r;unfold l7;simp only;rw[e2,e1,if_pos ⟨J,by show oG.c+t.size=_;rw[aK,<-h3,h1.len];show 0+_=_;omega⟩]
def Jt{ns:List NQ}: ∀{t:Tr} {n:Nat},(∀i,i<t.size->ns[n+i]? =(t.wr n)[i]?)->p9 ns t (t.num n) (List.range' n t.size)
 | .leaf b,n,_=>⟨J,J⟩
 | .node l x y,n,h=>by
  have hsz:(Tr.node l x y).size=1+x.size+y.size:=J;have hw:(Tr.node l x y).wr n=⟨l,x.num (n+1),y.num (n+1+x.size)⟩::(x.wr (n+1)++y.wr (n+1+x.size)):=by simp[Tr.wr]
  have hx:=x.wr_len (n+1);have hy:=y.wr_len (n+1+x.size);refine⟨n,x.num (n+1),y.num (n+1+x.size),List.range' (n+1) x.size,List.range' (n+1+x.size) y.size,J,?_,Jt fun i hi=>?_,Jt fun i hi=>?_,?_⟩
  ·have:=h 0 (by omega)
   rw[hw,eY] at this;rw[this];rfl
  ·have:=h (1+i) (by omega)
   rw[hw,jY 1 i,List.getElem?_cons_succ,dR (by omega)] at this;rw[show n+1+i=n+(i+1) by omega];exact this
  ·have:=h (1+x.size+i) (by omega)
   rw[hw,show 1+x.size+i=(x.size+i)+1 by omega,List.getElem?_cons_succ,gU (by omega),hx,Nat.add_sub_cancel_left] at this;rw[show n+1+x.size+i=n+(x.size+i+1) by omega];exact this
  ·rw[hsz,show 1+x.size+y.size=(x.size+y.size)+1 by omega,List.range'_succ,List.range'_append_1]
def Hw{t:Tr}(ho:t.all aa.ok):l7 ((t.wr 0).map RN.of) (t.num 0)=some t:=
 aEI ⟨_,Jt (n:=0) (fun i _=>by rw[dT]),List.nodup_range',by rw[List.length_range',t.wr_len]⟩ ho
def Jq{t:Tr}(hb:t.all LB): ∀n∈(t.wr 0).map RN.of,n.g.sm:=fun n hn=>by
 obtain⟨m,hm,rfl⟩:=bV.1 hn;exact RN.of_sm (Tr.all_wr 0 hb m hm)
def Tr.all_imp{p q:aa->Prop}(h: ∀l,p l->q l): ∀{t:Tr},t.all p->t.all q
 | .leaf _,_=>trivial
 | .node _ _ _,⟨h0,h1,h2⟩=>⟨h _ h0,Tr.all_imp h h1,Tr.all_imp h h2⟩
def Ew{t:Tr}(hs:t.size<=65536):((t.wr 0).map RN.of).length<=65536:=by rw[aK,t.wr_len];exact hs
def Zd{ai al ae:Addr}(hE:EG GB ai al ae){op:Int}{a b:Tr}(ho:1<=op/\op<=4)(ha:a.gd)(hb:b.gd)(hsa:a.size<=65536)(hsb:b.size<=65536):PF GB prog 18 [vI op,eA a,eA b] (Oc (E3 al (kl op a b))):=by
 have:=axv hE (op:=op) (r1:=a.num 0) (Jq ha.lb) (Ew hsa) (r2:=b.num 0) (Jq hb.lb) (Ew hsb);rw[Hw ha.ok,Hw hb.ok,<-IF,<-IF,AW,if_pos ho] at this;exact this
def TQ{ai al ae:Addr}(hE:EG GB ai al ae){op:Int}{a b t:Tr}(ho:1<=op/\op<=4)(ha:a.gd)(hb:b.gd)(hsa:a.size<=65536)(hsb:b.size<=65536)(h:kl op a b=some t):PF GB prog 18 [vI op,eA a,eA b] (.tp [eA t, .v .nilIface]):=by
 have:=Zd hE ho ha hb hsa hsb;rw[h] at this;exact this
def l00:aa:=⟨0,1,0⟩
def t00:Tr:= .node l00 (.leaf true) (.leaf false)
def gi.red_size{k:Nat}{t:Tr}(h:gi k t)(hr:t.Red []):t.size<=k*(1+k):=by
 obtain⟨K,h1,h2,h3⟩:=h.am;exact cY (Tr.size_le h2 hr h.gd.ok bH.nil h3) (gW h1 (by omega))
structure fh (k:Nat) (t:Tr):Prop where
 o:gi k t
 s:t.size<=3000
def fh.gd{k:Nat}{t:Tr}(h:fh k t):t.gd:=h.o.gd
def fh.lb{k:Nat}{t:Tr}(h:fh k t):t.all LB:=h.o.gd.lb
def fh.ok{k:Nat}{t:Tr}(h:fh k t):t.all aa.ok:=h.o.gd.ok
def fh.bl{k:Nat}{t:Tr}(h:fh k t):t.all (fun l=>BL l 96):=Tr.all_imp (fun _ h=>h.bl) h.o.gd.lb
def fh.dp{k:Nat}{t:Tr}(h:fh k t):t.depth<=k:=h.o.dp
def fh.mono{j k:Nat}{t:Tr}(h:fh j t)(hk:j<=k):fh k t:=⟨h.o.mono hk,h.s⟩
def gi.x{k:Nat}{t:Tr}(h:gi k t)(hr:t.Red [])(hk:k<=54):fh k t:=
 ⟨h,cY (h.red_size hr) (cY (gW hk (show 1+k<=55 by omega)) (by decide))⟩
def fh.lim{j k:Nat}{op:Int}{t u:Tr}(h:fh j t)(hu:fh k u)(hk:j+k<=200):kl op t u=some (t.mergeQ op u []):=h.o.lim hu.o hk
def Me(rs:List (List ZP))(fill:Int):(pz rs fill).Red []:=Tr.restrict_red _ _
def NI(es:List Int)(a:Nat):(ki es a).1.Red []:=by
 unfold ki;dsimp only;split<;>exact Me _ _
def aJi(es:List Int)(a:Nat):(Tr×Tr)×Nat:=
 let x:=s8 es 0 a
 let y:=s8 es 0 x.2
 let k:=aw es 3 y.2
 let u:=if(k.1:Int)=0 then m8 es 3 k.2 else(x.1,k.2)
 let j:=aw es 3 u.2
 let v:=if(j.1:Int)=0 then m8 es 3 j.2 else(y.1,j.2)
 ((u.1,v.1),v.2)
def aJx(es:List Int)(a:Nat):(Tr×Tr)×Nat:=
 let x:=s8 es 0 a
 let y:=s8 es 0 x.2
 let k:=aw es 6 y.2
 if(k.1:Int)=0 then((x.1, .node (lF es k.2).1 x.1 x.1),(lF es k.2).2)
 else if(k.1:Int)=1 then((x.1,y.1.mergeQ 1 x.1 []),k.2)
 else if(k.1:Int)=2 then((x.1,y.1.mergeQ 3 x.1 []),k.2)
 else if(k.1:Int)=3 then((x.1,(m8 es 3 k.2).1),(m8 es 3 k.2).2)
 else((x.1,y.1),k.2)
def Kv(es:List Int):Nat->Nat->List Tr×Nat
 |0,a=>([],a)
 |n+1,a=>((s8 es 0 a).1::(Kv es n (s8 es 0 a).2).1,(Kv es n (s8 es 0 a).2).2)
def Xi(r:List ZP)(i k:Nat):Bool:=decide (k=i)||decide (k=(i+1)%r.length)||decide (0<yc (r.getD i (0,0)).q (gv r i).q (r.getD k (0,0)).q)
def aHc(r:List ZP):Bool:=(List.range r.length).all fun i=>(List.range r.length).all fun k=>Xi r i k
def TY{r:List ZP}(h:dO r): ∀x∈[r],dO x:=fun x hx=>by rw[aW] at hx;subst hx;exact h
def aE5{r s:List ZP}(h:dO r)(k:dO s): ∀x∈[r,s],dO x:=fun x hx=>by
 simp only[aY,iT,or_false] at hx;rcases hx with rfl|rfl
 ·exact h
 ·exact k
def QX{b:Nat}{es:List Int}(hes:es.length<=400){a:Nat}(ha:a<=es.length):PM GB prog 37 (jj [none] b) b 87 [.sl (es.map vI), .v (.int .i64 (a:Nat))] (eT (ki es a).1) [.sl (es.map vI), .v (.int .i64 ((ki es a).2:Nat))]:=by
 obtain⟨r1,r2⟩:=x7 ha;have hk3:=iA (n:=3) r2;refine vZ func37 J J ntmps37 J J (fun C b m lo hmb=>?_);refine cm J (fun b=>(Nb hes ha)) J<|ro (fu:=⟨4⟩) J J<|?_;refine mg (X:=List (List ZP)×Nat) (fun⟨rs,a2⟩=>[(3, .rw 6)]) (fun⟨rs,a2⟩=>[(1000000,some (.o 87 [.d (.sl (es.map vI)), .d (.v (.int .i64 (a2:Nat)))] false)),(6,some (.b 130 1 (rs.map mO) true))]) (fun⟨rs,a2⟩=>ki es a=(pz rs (1+((aw es 2 a2).1:Int)),(aw es 2 a2).2)/\a2<=es.length/\(∀r∈rs,dO r)/\rs.length<=2) [3] [1000000,6] rfl ?_ (fun _=>J) (fun⟨rs,a2⟩ ⟨hB,ha2,hrs,hrl⟩=>?_)
 .
  refine gx J<|cm J (fun b=>(pj (n:=3) hes r2 (by decide) (by decide))) J<|?_;refine br J J J (fun hc9=>?_) (fun hc9=>?_)
  .
   obtain⟨s1,s2⟩:=x7 hk3;refine cm J (fun b=>(Nb hes hk3)) J<|rf J J<|ap (hbd:=by simp) ([(fC es a).1,(fC es (aw es 3 (fC es a).2).2).1].map mO) J J (KM [(fC es (aw es 3 (fC es a).2).2).1]) J<|?_;refine iv 14 6 J ?_;exact at_ ⟨[(fC es a).1,(fC es (aw es 3 (fC es a).2).2).1],(fC es (aw es 3 (fC es a).2).2).2⟩ ⟨if_pos hc9,s2,aE5 r1 s1,by simp⟩
  .
   exact at_ ⟨[(fC es a).1],(aw es 3 (fC es a).2).2⟩ ⟨if_neg hc9,hk3,TY r1,by simp⟩
 .
  try dsimp only at hB ha2 hrs hrl⊢
  have hf2:=mn (es:=es) (n:=2) (a:=a2) (by decide);refine fz 6 J J<|cl J (aG6 (rs:=rs) hrs (by omega)) J<|cm J (fun b=>(pj (n:=2) hes ha2 (by decide) (by decide))) J<|cl J (Ns (rs:=rs) (fill:=1+((aw es 2 a2).1:Int)) hrs (by omega)) J<|?_;refine cl J (QC (rs:=rs) (fill:=1+((aw es 2 a2).1:Int)) hrs (by omega)) J<|?_;exact mj hmb J J (by rw[hB];rfl) (by rw[hB])
section
variable {GB:Gh} {C:az} {n:Nat} {Q0:Exit->Act->World->Prop} {fr fr' fr1 fr2:ay} {own own' own1 own2:aE} {cf cf' cf1 cf2:Cf} {vc vc1 vc2:List Prop}
def aKd(fr:ay)(cf:Cf):Option Int:=match cw fr cf with
 |some ⟨_, .binOp .and _ x (.const (.int .i64 3)) _,_,_,_,_⟩=>match aG (bO fr cf) x with
  |some (.d (.v (.int .i64 p)))=>some p
  |_=>none
 |_=>none
end
def XH{es0 es:List Int}(hb:es0.length<=1125899906842624)(he:es=es0.take 400):PN GB prog 8 [.sl (es0.map vI)] 87 Unit (fun _=>[.sl (es.map vI), .v (.int .i64 (0:Nat))]):=by
 subst he;exact VN hb
def Mb{ai al ae:Addr}(hE:EG GB ai al ae){op:Int}{j k:Nat}{a b:Tr}(ho:1<=op/\op<=4)(ha:fh j a)(hb:fh k b)(hk:j+k<=200):PF GB prog 18 [vI op,eA a,eA b] (.tp [eA (a.mergeQ op b []), .v .nilIface]):=
 TQ hE ho ha.gd hb.gd (by have:=ha.s;omega) (by have:=hb.s;omega) (ha.lim hb hk)
def E7{k:Nat}{t:Tr}(h:fh k t):PF GB prog 7 [eT t] (eA t):=Zt h.bl (by have:=h.s;omega)
def aKJ(cs:List RL):Option (List aa):=if cs.all (fun r=>r.ln.isSome) then some (cs.filterMap RL.ln) else none
def aKB:Option (List aa)->DV
 |some ls=> .tp [.sl (ls.map eG),vB true]
 |none=> .tp [.sl [],vB false]
def aKb:Option ao->DV
 |some c=> .tp [.sl (c.map dt),vB true]
 |none=> .tp [.sl [],vB false]
def f5.nil:f5 []:=fun s hs=>by cases hs
def aJH(ai al:Addr)(more:Nat):Option Tr->DV
 |none=> .tp [.v (.pointer none),wv ai]
 |some t=>if 1024<t.depth+more then .tp [.v (.pointer none),wv al] else .tp [eU t, .v .nilIface]
def aKx(ai:Addr)(f:Tr->Tr):Option Tr->Tr ⊕ Addr
 |some t=> .inl (f t)
 |none=> .inr ai
def aJj(ai ae:Addr):Option Tr->Option (List aa)->Tr ⊕ Addr
 |some t,some ls=>(match qg ls [] with
  |some c=> .inl (t.restrict c)
  |none=> .inr ae)
 |_,_=> .inr ai
def aKm(ai:Addr):Option aa->Option Tr->DV
 |some m,some t=> .tp [eA (t.restrict (bg [] m)),eA (t.restrict (bg [] m.rev)), .v .nilIface]
 |_,_=> .tp [I1,I1,wv ai]

section
variable {GB:Gh} {C:az} {n:Nat} {Q0:Exit->Act->World->Prop} {fr fr':ay} {own own':aE} {cf cf':Cf} {vc:List Prop} {ops:Array Oper} {r:List Oper} {K:List Kt}
def Uk(k:Nat){d:DV}(hl:aI fr k=some (.d d))(h: ∀(GB':Gh) (pv:Value),bD GB GB'->Is GB' d pv->av prog GB' C n Q0 ((k, .d (.v pv))::fr) own (.ops ops r K)):av prog GB C n Q0 fr own (.ops ops r K):=by
 refine⟨fun ρ G ov a w r0=>?_⟩;obtain⟨y,hy,hy'⟩:=r0.fx k _ hl;refine(h G y r0.gb hy').run ρ G ov a w ⟨bD.refl _,r0.h,r0.sz,r0.df,fun j f e=>?_,r0.bx,r0.dj,r0.fxd⟩;rw[ke] at e;split at e
 ·rename_i hj
  cases e;subst hj
  exact⟨y,hy,(aD (G:=G)).2 J⟩
 ·exact r0.fx j f e
def aKA(fr:ay)(cf:Cf):Option (FuncId×Value):=match cw fr cf with
 |some ⟨_, .makeFunc (.func f) ⟨[x]⟩ ⟨[]⟩,_,_,_,_⟩=>match aG (bO fr cf) x with
  |some (.d (.v pv))=>some (f,pv)
  |_=>none
 |_=>none
def aKf(fr:ay)(cf:Cf):Option (FuncId×List Value×List DV):=match cw fr cf with
 |some ⟨_, .call ⟨.value fo,args,_⟩,_,_,_,_⟩=>match aG (bO fr cf) fo,evDs (bO fr cf) args.toList with
  |some (.d (.v (.func (.func f) ⟨c1⟩ ⟨[]⟩))),some ds=>some (f,c1,ds)
  |_,_=>none
 |_=>none
def OH:List (Nat×Operand)->Option (List (Nat×Value))
 |[]=>some []
 |(i, .const v)::t=>match OH t with
  |some l=>some ((i,v)::l)
  |none=>none
 |_::_=>none
def aKp(cf:Cf)(fr:ay):Option (TypeId×List (Nat×Value)):=match cw fr cf with
 |some ⟨_, .build t ⟨ps⟩,_,_,_,_⟩=>match OH ps with
  |some vs=>some (t,vs)
  |none=>none
 |_=>none
def Q4(fr:ay)(own:aE)(cf:Cf):Option (TypeId×Nat×Nat×List FX×Bool×FX):=match cw fr cf with
 |some ⟨_, .store t x y,_,_,_,_⟩=>match aG (bO fr cf) x with
  |some (.ov nm 0)=>match ik fr own cf nm with
   |some (.o ty cs lo)=>match aG (bO fr cf) y with
    |some fv=>some (t,nm,ty,cs,lo,fv)
    |_=>none
   |_=>none
  |_=>none
 |_=>none
def F9[fu:Fu]{t nm ty len e:Nat}{cs:List FX}{lo:Bool}{fv:FX}{j:TypeInfo}(h:Q4 fr own cf=some (t,nm,ty,cs,lo,fv))(hu:prog.underlying t=some (.array len e))(hj:prog.info? t=some j)(hc:fv.okc=true/\fv.cells.length=j.size/\j.size=cs.length)
  (hgo:cP tt n fu.n fr own cf .un [(nm,some (.o ty (ww cs 0 fv.cells) lo))] []=⟨vc,fr',own',cf'⟩)(k:av prog GB C n Q0 fr' own' cf')
  (hv:ac vc:=by first|exact trivial|(simp only[ac];kernel_rfl)|(simp only[ac];omega)):av prog GB C n Q0 fr own cf:=by
 unfold Q4 at h;split at h<;>try (cases h;done)
 rename_i hh;split at h<;>try (cases h;done)
 rename_i e1;split at h<;>try (cases h;done)
 rename_i hb;split at h<;>cases h;rename_i e2;obtain⟨c1,c2,c3⟩:=hc;have:kw prog t j.size:=⟨fun w=>zc hu w,fun w=>vx hj w⟩;refine us hh ?_ hgo hv k;intro hd tl tb K s1 s2 hf hk;refine⟨fun ρ G ov a w r Q=>?_⟩;have r1:=r.mono s1 s2;obtain⟨p,h1,h2⟩:=r1.ev e1;obtain⟨q,h3,h4⟩:=r1.ev e2;obtain⟨b,m,rfl,ha,h5,h6⟩:=r1.own h2 hb;obtain⟨h7,h8⟩:=h4.cells c1;obtain⟨own',u1,u2,u3⟩:=f8.of_mem (cs':=cA m 0 (aA q)) h6;exact Ed h1 h3 u1 (by rw[h7.len,c2]) (by rw[h5.len,c3];omega) (fQ.2 h8) hd (fun a' w' rl=>r.wrote (m:=m) (s2 _ _ hb) ha (h5.ov h7) u2 u3 hk rl) a w Q ⟨r.h,r.sz,c7 a,r.df⟩
def aKD(fr:ay)(cf:Cf):Option MC:=match cw fr cf with
 |some ⟨some d, .buildSlice t len parts,_,_,_,_⟩=>match c9 tt t with
  |some ⟨.sl e s _,_,_,_⟩=>match vV (bO fr cf) 0 parts.toList with
   |some ds=>bif Dj s ds&&(Nat.beq parts.toList.length len&&(Nat.ble (len*s) 1000&&Nat.blt 0 (len*s))) then some ⟨d,e,s,ds⟩ else none
   |none=>none
  |_=>none
 |_=>none
def aKF(fr:ay)(cf:Cf):Option (TypeId×List DV):=match cw fr cf with
 |some ⟨_, .load t x,_,_,_,_⟩=>match aG (bO fr cf) x with
  |some (.ep l)=>some (t,l)
  |_=>none
 |_=>none
def aJY:TypeDesc->Bool
 | .struct _=>false
 | .array _ _=>false
 |_=>true
end
def ePr(a b:Tr):DV:= .ag [eU a,eU b]
def prZ:DV:= .ag [.v (.pointer none), .v (.pointer none)]
def Tl{k:Nat}{t:Tr}(h:fh k t):PF GB prog 64 [eA t] (.tp [eU t,vB true]):=by
 have:=CA (GB:=GB) (rt:=t.num 0) (Jq h.lb) (Ew (by have:=h.s;omega)) (Hw h.ok);rw[<-IF] at this;exact this
def mtQ(a:aa)(t:List aa):List Rat:=t.filterMap fun b=>if crossI a b=0 then none else some (dH a b).x
def aKg(l:List aa)(x:Rat):List ab:=(ey (IH (KV l x))).map fun y=>⟨x,y⟩
def Mx:Tr->ab->Bool
 | .leaf _,_=>true
 | .node l x y,p=>if(l.value p).num.sign=1 then Mx x p else if(l.value p).num.sign= -1 then Mx y p else false
structure Two (a b:Tr):Prop where
 ga:a.gd
 gb:b.gd
 sa:a.size<=3000
 sb:b.size<=3000
def f1R(x y:Bool):Bool:=x&&!y
def f2R(x y:Bool):Bool:=y&&!x
def f3R(x y:Bool):Bool:=x&&y
def f4R(x y:Bool):Bool:=!x&&!y
def anK(f:Bool->Bool->Bool)(a b:Tr)(k:Nat):Bool:=((I5 a b).take k).any fun p=>f (uZ a p) (uZ b p)
def Iq{c:List aa}(hok: ∀l∈c,l.ok):r6 c=true↔ ∃p,cF c p:=by
 rw[<-xg hok];unfold r6 i5
 cases c with
 |nil=>simp
 |cons a b=>
  rw[if_neg (by simp;omega)];simp only[decide_eq_true_eq,aK,List.isEmpty_cons,Bool.false_or,jS];constructor
  ·intro h
   obtain⟨m,hm⟩:=List.exists_mem_of_length_pos (l:=fg (a::b)) (by omega);exact⟨m,oz.1 hm⟩
  ·rintro ⟨m,hm⟩
   have:=List.length_pos_of_mem (oz.2 hm);omega
def mB:Tr->List aa->List (List aa×Bool)
 | .leaf b,c=>if r6 c then [(fg c,b)] else []
 | .node l x y,c=>if r6 c then mB x (fg c++[l])++mB y (fg c++[l.rev]) else []
def U7(c:List aa)(p:ab):Bool:=c.all fun l=>decide (0<Int.sign (l.value p).num)
def aKE(c:List aa):Option ab:=(NF (wP c)).find? (U7 c)
def UD{l m:aa}(hl:l.ok)(hm:m.ok)(h:fp l.dir m.dir=0): ∃k e:Rat,0<k/\ ∀p,m.value p=k*l.value p+e:=by
 obtain⟨h1,h2⟩:=awW.1 h;have z1:=Ju hl;have key: ∃k:Rat,0<k/\m.dir.x=k*l.dir.x/\m.dir.y=k*l.dir.y:=by
  unfold ab.cross at h2;rcases uS l.dir with⟨e,k⟩|⟨e,k⟩|⟨e,k⟩
  ·rw[e] at h1
   have k2:=se.1 h1.symm;rcases k with k|⟨k,k'⟩
   ·have y2:0<m.dir.y:=by
     rcases k2 with k2|⟨k2,k3⟩
     ·exact k2
     ·exfalso
      rw[k2] at h2;have:=ge k k3;grind
    refine⟨m.dir.y/l.dir.y,?_,by grind,by grind⟩;have:0<m.dir.y/l.dir.y:=(jv k).1 (by rw[show m.dir.y/l.dir.y*l.dir.y=m.dir.y by grind];exact y2);exact this
   ·rw[k] at h2
    have y2:m.dir.y=0:=by
     rcases gK.1 (show l.dir.x*m.dir.y=0 by grind) with q|q
     ·rw[q] at k';exact absurd k' (by decide)
     ·exact q
    have x2:0<m.dir.x:=by
     rcases k2 with k2|⟨_,k3⟩
     ·rw[y2] at k2;exact absurd k2 (by decide)
     ·exact k3
    refine⟨m.dir.x/l.dir.x,(jv k').1 (by rw[show m.dir.x/l.dir.x*l.dir.x=m.dir.x by grind];exact x2),by grind,by rw[y2,k];grind⟩
  ·rw[e] at h1
   have k2:=uM.1 h1.symm;rcases k with k|⟨k,k'⟩
   ·have y2:m.dir.y<0:=by
     rcases k2 with k2|⟨k2,k3⟩
     ·exact k2
     ·exfalso
      rw[k2] at h2;have:=ge (show 0< -l.dir.y by grind) (show 0< -m.dir.x by grind);grind
    refine⟨m.dir.y/l.dir.y,(jv (show 0< -l.dir.y by grind)).1 (by rw[show m.dir.y/l.dir.y* -l.dir.y= -m.dir.y by grind];grind),by grind,by grind⟩
   ·rw[k] at h2
    have y2:m.dir.y=0:=by
     rcases gK.1 (show l.dir.x*m.dir.y=0 by grind) with q|q
     ·rw[q] at k';exact absurd k' (by decide)
     ·exact q
    have x2:m.dir.x<0:=by
     rcases k2 with k2|⟨_,k3⟩
     ·rw[y2] at k2;exact absurd k2 (by decide)
     ·exact k3
    refine⟨m.dir.x/l.dir.x,(jv (show 0< -l.dir.x by grind)).1 (by rw[show m.dir.x/l.dir.x* -l.dir.x= -m.dir.x by grind];grind),by grind,by rw[y2,k];grind⟩
  ·exact absurd e z1
 obtain⟨k,k0,kx,ky⟩:=key;simp only[aa.dir] at kx ky;refine⟨k,(m.c:Rat)-k*(l.c:Rat),k0,fun p=>?_⟩;rw[jf,jf,kx];have:(m.a:Rat)=k*(l.a:Rat):=by grind
 rw[this];grind
def K4{e:ao}(hne: ∃q,bc e q){l m:aa}(hl:l.ok)(hm:m.ok)(pl: ∀p,bc e p->0<l.value p)(pm: ∀p,bc e p->0<m.value p)(tl: ∃p,pd e p/\l.value p=0)(tm: ∃p,pd e p/\m.value p=0)(ha:fp l.dir m.dir=0):l=m:=by
 obtain⟨k,c,k0,hk⟩:=UD hl hm ha;obtain⟨p,p1,p2⟩:=tl;obtain⟨q,q1,q2⟩:=tm;have g1:=tg hne pm p1;rw[hk,p2] at g1;have g2:=tg hne pl q1;have g3:=di (cM k0) g2;rw[hk] at q2;have c0:c=0:=by grind
 have hz: ∀t,m.value (l.at t)=0:=fun t=>by rw[hk,me hl.ne,c0];grind
 rcases xM hm hl hz with h|h
 ·exact h.symm
 ·exfalso
  obtain⟨u,hu⟩:=hne;have a:=pl u hu;have b:=pm u hu;rw[h,dx] at b;grind
def Ab{c:ao}(hc:bH c){s:bj}(hs:s∈c):pd c (s.l.at s.v.sample)/\s.l.value (s.l.at s.v.sample)=0:=
 ⟨((hc.edge s hs).2 _).1 (pg (hc.edge s hs).1).has,me (hc.ok s hs).ne _⟩
def f9(c:ao):Prop:=(c.map fun s=>s.l.dir).Pairwise d9
def Hd{p:Nat->Bool}{N:Nat}(hm: ∀i j,i<=j->j<N->p j=true->p i=true): ∀(d i j:Nat),j-i<=d->i<=j->j<=N->(∀k,k<i->p k=true)->(∀k,j<=k->k<N->p k=false)->(∀k,k<gg p i j->p k=true)/\ ∀k,gg p i j<=k->k<N->p k=false
 |0,i,j,h,hij,hN,h1,h2=>by
  obtain rfl:i=j:=by omega
  rw[gg,dif_neg (by omega)];exact⟨h1,h2⟩
 |d+1,i,j,h,hij,hN,h1,h2=>by
  by_cases q:i<j
  ·rw[gg,dif_pos q]
   by_cases r:p ((i+j)/2)=true
   ·rw[if_pos r]
    exact Hd hm d _ _ (by omega) (by omega) hN (fun k hk=>hm k ((i+j)/2) (by omega) (by omega) r) h2
   ·rw[if_neg r]
    refine Hd hm d _ _ (by omega) (by omega) (by omega) h1 fun k hk hkN=>?_
    cases hp:p k with
    |false=>rfl
    |true=>exact absurd (hm _ k hk hkN hp) r
  ·obtain rfl:i=j:=by omega
   rw[gg,dif_neg q];exact⟨h1,h2⟩
def OA{ds:List ab}{d:ab}{n:Nat}(h:ds.Pairwise d9)(h1: ∀x∈ds.take n,d9 x d)(h2: ∀x∈ds.drop n,d9 d x):(ds.take n++d::ds.drop n).Pairwise d9:=by
 have hs:=h;rw[<-jL n ds,gJ] at hs;obtain⟨a,b,c⟩:=hs;rw[gJ];refine⟨a,cK.2 ⟨h2,b⟩,fun x hx y hy=>?_⟩;rcases aY.1 hy with rfl|hy
 ·exact h1 x hx
 ·exact c x hx y hy
def HU(l:aa): ∀c:ao,((dq l c).map fun s=>s.l.dir).Sublist (c.map fun s=>s.l.dir)
 |[]=>List.Sublist.refl _
 |s::c=>by
  rw[dq];split
  ·exact(HU l c).cons_cons _
  ·exact(HU l c).cons _
def P9{α:Type}{l:List α}{n:Nat}{x:α}(h:x∈l.take n): ∃i,i<n/\l[i]? =some x:=by
 obtain⟨i,hi,e⟩:=mX.1 h;rw[cR] at hi;exact⟨i,by omega,by rw[List.getElem_take] at e;rw[aZ (by omega),e]⟩
def P7{α:Type}{l:List α}{n:Nat}{x:α}(h:x∈l.drop n): ∃i,n<=i/\i<l.length/\l[i]? =some x:=by
 obtain⟨i,hi,e⟩:=mX.1 h;rw[gM] at hi;exact⟨n+i,by omega,by omega,by rw[List.getElem_drop] at e;rw[aZ (by omega),e]⟩
def l6{c:ao}{l:aa}(hc:bH c)(hl:l.ok)(ha:f9 c)(hb:bC c l=true):f9 (bg c l):=by
 have hg:=(fG hc hl hb).1;unfold bg at hg⊢
 cases hp:jw c l with
 |none=>exact ha
 |some v=>
  simp only[hp] at hg⊢;have hs:f9 (dq l c):=ha.sublist (HU l c);have nt: ∀s∈dq l c,fp s.l.dir l.dir≠0:=fun s h e=>by
   have m1:s∈j' (dq l c) l v:=oH.2 (.inr h);have m2:(⟨l,v⟩:bj)∈j' (dq l c) l v:=oH.2 (.inl J);have ee:=K4 hg.ne (hg.ok s m1) hl (fun p hp=>hp s m1) (fun p hp=>hp ⟨l,v⟩ m2) ⟨_,Ab hg m1⟩ ⟨_,Ab hg m2⟩ e;obtain⟨s0,g1,_,rfl⟩:=rI.1 h;obtain⟨_,q,q1,q2⟩:=DW hl.ne hp;have h5:=q1 s0 g1;have e5:s0.l=l:=ee;rw[e5] at h5;grind
  generalize dq l c=d at*;have hmo: ∀i j,i<=j->j<d.length->jb d l j=true->jb d l i=true:=fun i j hij hj h=>by
   unfold jb at h⊢;rw[aZ hj] at h;rw[aZ (by omega)];simp only[decide_eq_true_eq,yh] at h⊢;by_cases q:i=j
   ·subst q;exact h
   ·have:=nV.1 hs i j (by simp;omega) (by simp;omega) (by omega)
    simp only[oQ] at this;exact Aj this h
  obtain⟨k1,k2⟩:=Hd hmo d.length 0 d.length (by omega) (by omega) (aN _) (fun k h=>absurd h (by omega)) (fun k h h'=>absurd h' (by omega));unfold j' f9;generalize gg (jb d l) 0 d.length=n at*;rw[bR,bT,gN,jQ];refine OA hs (fun x hx=>?_) (fun x hx=>?_)
  ·rw[<-gN] at hx
   obtain⟨s,h1,rfl⟩:=bV.1 hx;obtain⟨i,hi,e⟩:=P9 h1;have:=k1 i hi;unfold jb at this;rw[e] at this;simpa[yh] using this
  ·rw[<-jQ] at hx
   obtain⟨s,h1,rfl⟩:=bV.1 hx;obtain⟨i,hi,hi2,e⟩:=P7 h1;have:=k2 i hi hi2;unfold jb at this;rw[e] at this;have h3: ¬d9 s.l.dir l.dir:=by simpa[yh] using this
   by_cases q:d9 l.dir s.l.dir
   ·exact q
   ·exact absurd (Mk h3 q) (nt s (gT h1))
def tP(c:List aa):Prop:=(c.map aa.dir).Pairwise d9
def Fj{c:List aa}{e:ao}(hs: ∀s∈e,s.l∈c){l:aa}(hl:l.ok)(he:(eO l c ah.all).isSome=true): ∃w:ah,w.Pos/\ ∀t,w.ins t->pd e (l.at t)/\l.value (l.at t)=0/\ ∀m∈c,m≠l->0<m.value (l.at t):=by
 obtain⟨w,hw⟩:=qW.1 he;obtain⟨h1,h2⟩:=Aa l c _ w tG hw;refine⟨w,h1,fun t ht=>?_⟩;have h3:=((h2 t).1 ht).2;refine⟨fun s hs'=>?_,me hl.ne t,h3⟩;by_cases q:s.l=l
 ·rw[q,me hl.ne];exact fU
 ·exact cM (h3 _ (hs s hs') q)
def Lz{α:Type}{p:α->Bool}: ∀(l:List α),(∀i x,i<(l.takeWhile p).length->l[i]? =some x->p x=true)/\ ∀x,l[(l.takeWhile p).length]? =some x->p x=false
 |[]=>⟨fun i x h _=>by simp at h,fun x h=>by simp at h⟩
 |a::l=>by
  obtain⟨h1,h2⟩:=Lz (p:=p) l;rw[nN]
  cases ha:p a with
  |false=>
   refine⟨fun i x h _=>by simp at h,fun x h=>?_⟩;simp at h;rw[<-h];exact ha
  |true=>
   simp only[if_true,bZ];refine⟨fun i x h e=>?_,fun x h=>h2 x (by simpa using h)⟩
   cases i with
   |zero=>simp at e;rw[<-e];exact ha
   |succ i=>exact h1 i x (by omega) (by simpa using e)
def VG{out:List aa}{l:aa}(ha:tP out)(ht: ∀m∈out,fp m.dir l.dir=0->m=l):tP (pB out l):=by
 unfold pB;split
 ·exact ha
 ·rename_i hne
  obtain⟨k1,k2⟩:=Lz (p:=fun x:aa=>decide (fp x.dir l.dir<0)) out;have e0:nC out l=(out.takeWhile fun x=>decide (fp x.dir l.dir<0)).length:=J;rw[<-e0] at k1 k2;generalize nC out l=n at*;unfold tP;rw[bR,bT,gN,jQ];refine OA ha (fun x hx=>?_) (fun x hx=>?_)
  ·rw[<-gN] at hx
   obtain⟨m,h1,rfl⟩:=bV.1 hx;obtain⟨i,hi,e⟩:=P9 h1;simpa[yh] using k1 i m hi e
  ·rw[<-jQ] at hx
   obtain⟨m,h1,rfl⟩:=bV.1 hx;obtain⟨i,hi,hi2,e⟩:=P7 h1;have hn:n<out.length:=by omega
   have h3: ¬d9 (out[n]).dir l.dir:=by simpa[yh] using k2 _ (aZ hn)
   have h4:d9 l.dir (out[n]).dir:=by
    by_cases q:d9 l.dir (out[n]).dir
    ·exact q
    ·exact absurd (by rw[aZ hn,ht _ (cJ hn) (Mk h3 q)]) hne
   by_cases q:i=n
   ·subst q
    rw[aZ hn] at e
    cases e
    exact h4
   ·have:=nV.1 ha n i (by simp;omega) (by simp;omega) (by omega)
    simp only[oQ] at this;rw[aZ hi2] at e
    cases e
    exact Aj h4 this
def Hs{c:List aa}(ht: ∀l∈c,∀m∈c,(eO l c ah.all).isSome=true->(eO m c ah.all).isSome=true->fp m.dir l.dir=0->m=l): ∀{t out:List aa},(∀l∈t,l∈c)->(∀m∈out,m∈c/\(eO m c ah.all).isSome=true)->tP out->tP (nf c t out)
 |[],out,_,_,ha=>ha
 |l::t,out,hc,ho,ha=>by
  have hl:=hc l aQ;rw[nf];by_cases q:(eO l c ah.all).isSome=true
  ·rw[if_pos q]
   refine Hs ht (fun l h=>hc l (aJ _ h)) (fun m hm=>?_) (VG ha fun m hm e=>ht l hl m (ho m hm).1 q (ho m hm).2 e);rcases IN.1 hm with rfl|h
   ·exact⟨hl,q⟩
   ·exact ho m h
  ·rw[if_neg q]
   exact Hs ht (fun l h=>hc l (aJ _ h)) ho ha
def XX{c:List aa}(hok: ∀l∈c,l.ok)(hne: ∃p,cF c p):tP (fg c):=by
 obtain⟨e,_,hg,hi,hs⟩:=BR hok hne;refine Hs (fun l hl m hm el em h=>?_) (fun l h=>h) (fun m h=>by cases h) .nil;obtain⟨w1,p1,k1⟩:=Fj (fun s h=>(hs s h).1) (hok l hl) el;obtain⟨w2,p2,k2⟩:=Fj (fun s h=>(hs s h).1) (hok m hm) em;obtain⟨a1,a2,_⟩:=k1 _ (pg p1);obtain⟨b1,b2,_⟩:=k2 _ (pg p2);exact K4 hg.ne (hok m hm) (hok l hl) (fun p hp=>(hi p).1 hp m hm) (fun p hp=>(hi p).1 hp l hl) ⟨_,b1,b2⟩ ⟨_,a1,a2⟩ h
def N3{v:ah}{t u:Rat}(h:v.ins t)(k:v.has u):v.ins ((t+u)*(1/2)):=by
 obtain⟨lo,hi,nl,nh⟩:=v;unfold ah.ins at*;unfold ah.has at k
 cases nl<;>cases nh<;>simp at* <;>grind
def DB{c d:ao}(hc: ∃q,bc c q)(h: ∀p,bc c p↔bc d p){p:ab}(hp:pd c p):pd d p:=fun s hs=>tg hc (fun q hq=>(h q).1 hq s hs) hp
def awC{c:List aa}{d:ao}(hok: ∀l∈c,l.ok)(hd:bH d)(h: ∀p,bc d p↔cF c p)(l:aa):l∈d.map (·.l)↔l∈fg c:=by
 have hne: ∃p,cF c p:=hd.ne.elim fun q hq=>⟨q,(h q).1 hq⟩;obtain⟨e,_,hg,hi,hs⟩:=BR hok hne;have hde: ∀p,bc d p↔bc e p:=fun p=>by rw[h,hi]
 constructor
 ·intro hl
  obtain⟨s,k,rfl⟩:=bV.1 hl;obtain⟨t1,t2⟩:=Ab hd k;have t3:=DB hd.ne hde t1;have: ¬bc e (s.l.at s.v.sample):=fun q=>by
   have:=(hde _).2 q s k;rw[t2] at this;exact absurd this (by decide)
  obtain⟨u,hu,hz⟩: ∃u∈e,u.l.value (s.l.at s.v.sample)=0:=by
   by_cases q: ∃u∈e,u.l.value (s.l.at s.v.sample)=0
   ·exact q
   ·exfalso
    refine this fun u hu=>?_;have g1:=t3 u hu;have g2:u.l.value (s.l.at s.v.sample)≠0:=fun e=>q ⟨u,hu,e⟩;grind
  have:=OW hd k (hg.ok u hu) (fun p hp=>(hde p).1 hp u hu) hz;rw[<-this];exact oz.2 (hs u hu)
 ·intro hl
  obtain⟨l1,l2⟩:=oz.1 hl;obtain⟨w,p1,k1⟩:=Fj (fun s h=>(hs s h).1) (hok l l1) l2;have hed: ∀p,bc e p↔bc d p:=fun p=>(hde p).symm;have hi1:=pg p1;obtain⟨⟨u1,m1,n1⟩,⟨u2,m2,n2⟩⟩:=Jg hi1;have g1:=N3 hi1 n1;have g2:=N3 hi1 n2;obtain⟨c0,c1,_⟩:=k1 _ hi1;have c2:=DB hg.ne hed c0;have: ¬bc d (l.at w.sample):=fun q=>by
   have:=(h _).1 q l l1;rw[c1] at this;exact absurd this (by decide)
  obtain⟨s,hsd,hz⟩: ∃s∈d,s.l.value (l.at w.sample)=0:=by
   by_cases q: ∃u∈d,u.l.value (l.at w.sample)=0
   ·exact q
   ·exfalso
    refine this fun u hu=>?_;have g1:=c2 u hu;have g2:u.l.value (l.at w.sample)≠0:=fun e=>q ⟨u,hu,e⟩;grind
  have e1:=DB hg.ne hed (k1 _ g1).1 s hsd;have e2:=DB hg.ne hed (k1 _ g2).1 s hsd;rw[j9] at hz e1 e2;have hK:l.cutK s.l=0:=by
   rcases kv (l.cutK s.l) with h|h|h
   ·exact h
   ·exfalso
    have:=ge (a:=w.sample-u1) (b:=l.cutK s.l) (by grind) h;grind
   ·exfalso
    have:=ge (a:=u2-w.sample) (b:= -l.cutK s.l) (by grind) (by grind);grind
  have hz2: ∀t,s.l.value (l.at t)=0:=fun t=>by rw[j9,hK];rw[hK] at hz;grind
  rcases xM (hd.ok s hsd) (hok l l1) hz2 with q|q
  ·rw[<-q];exact eX hsd
  ·exfalso
   obtain⟨u,hu⟩:=hd.ne;have a:=hu s hsd;have b:=(h u).1 hu l l1;rw[q,dx] at a;grind
def JC: ∀{l m:List aa},tP l->tP m->(∀x,x∈l↔x∈m)->l=m
 |[],[],_,_,_=>rfl
 |[],b::m,_,_,h=>absurd ((h b).2 aQ) (by simp)
 |a::l,[],_,_,h=>absurd ((h a).1 aQ) (by simp)
 |a::l,b::m,h1,h2,h=>by
  obtain⟨p1,p2⟩:=cK.1 h1;obtain⟨q1,q2⟩:=cK.1 h2;have p1': ∀x∈l,d9 a.dir x.dir:=fun x hx=>p1 _ (eX hx);have q1': ∀x∈m,d9 b.dir x.dir:=fun x hx=>q1 _ (eX hx);have e:a=b:=by
   rcases aY.1 ((h a).1 aQ) with e|e
   ·exact e
   ·rcases aY.1 ((h b).2 aQ) with f|f
    ·exact f.symm
    ·exact(Ah (q1' a e) (p1' b f)).elim
  subst e;congr 1;refine JC p2 q2 fun x=>⟨fun hx=>?_,fun hx=>?_⟩
  ·rcases aY.1 ((h x).1 (aJ _ hx)) with e|e
   ·subst e;exact(wZ _ (p1' _ hx)).elim
   ·exact e
  ·rcases aY.1 ((h x).2 (aJ _ hx)) with e|e
   ·subst e;exact(wZ _ (q1' _ hx)).elim
   ·exact e
def Gj{c:List aa}{d:ao}(hok: ∀l∈c,l.ok)(hd:bH d)(ha:f9 d)(h: ∀p,bc d p↔cF c p):fg c=d.map (·.l):=by
 refine JC (XX hok (hd.ne.elim fun q hq=>⟨q,(h q).1 hq⟩)) ?_ fun x=>(awC hok hd h x).symm;unfold tP;rw[rL];exact ha
def at9{c:List aa}(h:r6 c≠true)(t:Tr):mB t c=[]:=by
 cases t<;>rw[mB,if_neg h]
def Fg: ∀{t:Tr} {c:List aa} {d:ao},t.all aa.ok->(∀l∈c,l.ok)->bH d->f9 d->(∀p,bc d p↔cF c p)->mB t c=(t.parts d).map fun x=>(x.2.map (·.l),x.1)
 | .leaf b,c,d,_,hok,hd,ha,h=>by
  have hb:r6 c=true:=(Iq hok).2 (hd.ne.elim fun q hq=>⟨q,(h q).1 hq⟩);rw[mB,if_pos hb,Tr.parts,Gj hok hd ha h];rfl
 | .node l x y,c,d,ht,hok,hd,ha,h=>by
  have hne: ∃p,cF c p:=hd.ne.elim fun q hq=>⟨q,(h q).1 hq⟩;have hb:r6 c=true:=(Iq hok).2 hne;have hck: ∀m∈fg c,m.ok:=fun m hm=>hok m (oz.1 hm).1;have go: ∀(k:aa) (u:Tr),k.ok->u.all aa.ok->(∀{c:List aa} {d:ao},(∀l∈c,l.ok)->bH d->f9 d->(∀p,bc d p↔cF c p)->mB u c=(u.parts d).map fun x=>(x.2.map (·.l),x.1))->mB u (fg c++[k])=(if bC d k then u.parts (bg d k) else []).map fun x=>(x.2.map (·.l),x.1):=fun k u hk hu ih=>by
   have hok2:=iu hck hk;have hin: ∀p,cF (fg c++[k]) p↔bc d p/\0<k.value p:=fun p=>by rw[jC,zT hok hne,h]
   by_cases q:bC d k=true
   ·rw[if_pos q]
    obtain⟨g1,g2⟩:=fG hd hk q;exact ih hok2 g1 (l6 hd hk ha q) fun p=>by rw[g2,hin]
   ·rw[if_neg q]
    refine at9 (fun e=>q ((eD hd hk).2 ?_)) u;obtain⟨p,hp⟩:=(Iq hok2).1 e;exact⟨p,(hin p).1 hp⟩
  rw[mB,if_pos hb,Tr.parts,bR,go l x ht.1 ht.2.1 (fun a b c d=>Fg ht.2.1 a b c d),go l.rev y ht.1.rev ht.2.2 fun a b c d=>Fg ht.2.2 a b c d]
def et(c:ao):Bool:=!c.isEmpty&&c.all fun s=>!s.v.nl&&!s.v.nh
def W5{c:ao}(hc:bH c){s:bj}(hs:s∈c)(h:s.v.nh=true): ∀u∈c,0<=u.l.nor.dot s.l.dir:=fun u hu=>by
 obtain⟨p1,p2⟩:=hc.edge s hs;have hi:=(pg p1).has;have key: ∀n:Rat,0<=n->0<=u.l.value (s.l.at (s.v.sample+n)):=fun n hn=>((p2 _).1 ⟨hi.1.imp id fun q=>by grind, .inl h⟩) u hu;have h0:=key 0 (by decide);rw[j9] at h0;by_cases q:0<=u.l.nor.dot s.l.dir
 ·exact q
 ·exfalso
  have q':0< -(s.l.cutK u.l):=by unfold aa.cutK;grind
  have h1:=key ((s.l.cutC u.l+s.v.sample*s.l.cutK u.l+1)/ -(s.l.cutK u.l)) (by
   have:=(jv (s:=(s.l.cutC u.l+s.v.sample*s.l.cutK u.l+1)/ -(s.l.cutK u.l)) q').1 (by rw[show(s.l.cutC u.l+s.v.sample*s.l.cutK u.l+1)/ -(s.l.cutK u.l)* -(s.l.cutK u.l)=s.l.cutC u.l+s.v.sample*s.l.cutK u.l+1 by grind];grind);grind)
  rw[j9] at h1;have:(s.l.cutC u.l+s.v.sample*s.l.cutK u.l+1)/ -(s.l.cutK u.l)*s.l.cutK u.l= -(s.l.cutC u.l+s.v.sample*s.l.cutK u.l+1):=by grind
  grind
def W7{c:ao}(hc:bH c){s:bj}(hs:s∈c)(h:s.v.nl=true): ∀u∈c,u.l.nor.dot s.l.dir<=0:=fun u hu=>by
 obtain⟨p1,p2⟩:=hc.edge s hs;have hi:=(pg p1).has;have key: ∀n:Rat,0<=n->0<=u.l.value (s.l.at (s.v.sample-n)):=fun n hn=>((p2 _).1 ⟨.inl h,hi.2.imp id fun q=>by grind⟩) u hu;have h0:=key 0 (by decide);rw[j9] at h0;by_cases q:u.l.nor.dot s.l.dir<=0
 ·exact q
 ·exfalso
  have q':0<s.l.cutK u.l:=by unfold aa.cutK;grind
  have h1:=key ((s.l.cutC u.l+s.v.sample*s.l.cutK u.l+1)/s.l.cutK u.l) (by
   have:=(jv (s:=(s.l.cutC u.l+s.v.sample*s.l.cutK u.l+1)/s.l.cutK u.l) q').1 (by rw[show(s.l.cutC u.l+s.v.sample*s.l.cutK u.l+1)/s.l.cutK u.l*s.l.cutK u.l=s.l.cutC u.l+s.v.sample*s.l.cutK u.l+1 by grind];grind);grind)
  rw[j9] at h1;have:(s.l.cutC u.l+s.v.sample*s.l.cutK u.l+1)/s.l.cutK u.l*s.l.cutK u.l=s.l.cutC u.l+s.v.sample*s.l.cutK u.l+1:=by grind
  grind
def V9(c:List aa)(v:ab):Bool:=c.all fun l=>decide (0<=Int.sign (l.dir.cross v).num)
def aKs(c:List aa):Bool:=!c.isEmpty&&(c.flatMap fun l=>[l.dir,kt l.dir]).all fun v=>!V9 c v
def z':aa:=⟨1,0,0⟩
def qy(c:List aa)(i:Nat):List ab:=
 if 0<Int.sign ((c.getD i z').dir.cross (c.getD ((i+1)%c.length) z').dir).num then [dH (c.getD i z') (c.getD ((i+1)%c.length) z')] else []
def il(c:List aa):List ab:=(List.range c.length).flatMap (qy c)
def VV(v:List ab)(i:Nat):List ab:=[v.getD 0 ⟨0,0⟩,v.getD (i+1) ⟨0,0⟩,v.getD (i+2) ⟨0,0⟩]
def K3(v:List ab):List (List ab):=(List.range (v.length-2)).map (VV v)
def aJg(cs:List (List aa)):List (List ab):=cs.flatMap fun c=>K3 (il c)
def Ac{c:List aa}{i:Nat}{l m:aa}(h1:c[i]? =some l)(h2:c[(i+1)%c.length]? =some m):qy c i=if 0<Int.sign (l.dir.cross m.dir).num then [dH l m] else []:=by
 unfold qy;rw[aX,aX,h1,h2];rfl
def Ha(c:List aa)(k:Nat):(List.range (k+1)).flatMap (qy c)=(List.range k).flatMap (qy c)++qy c k:=by
 rw[List.range_succ,qV];simp
def DJ(c:List aa): ∀k,((List.range k).flatMap (qy c)).length<=k
 |0=>aN _
 |k+1=>by
  have:=DJ c k;have h2:(qy c k).length<=1:=by unfold qy;split<;>simp
  rw[Ha,aV];omega
def ZO{c:List aa}{p:ab}(h:p∈il c): ∃l∈c,∃m∈c,p=dH l m:=by
 obtain⟨i,hi,hp⟩:=gX.1 h;have hi':=mZ.1 hi;have e1:=aZ hi';have e2:=aZ (l:=c) (dQ (i+1) (show 0<c.length by omega));rw[Ac e1 e2] at hp;split at hp
 ·exact⟨_,cJ _,_,cJ _,aW.1 hp⟩
 ·cases hp
def YE{t:Tr}(ht:t.all aa.ok):((mB t []).filter (·.2)).map (·.1)=(bP t).map fun c=>c.map (·.l):=by
 rw[Fg (d:=[]) ht (fun l h=>by cases h) bH.nil .nil (fun p=>⟨fun _ _ h=>(by cases h),fun _ _ h=>(by cases h)⟩)];unfold bP;rw[List.filter_map,rL,rL];rfl
end Go.Sx
end
