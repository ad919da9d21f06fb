import Derived.Test.YtliglnbeohlnnaaGreatDoorMq15
set_option linter.all false
set_option maxHeartbeats 4000000
set_option maxRecDepth 100000
section
namespace Go.Sx
open Go Go.Proofs Tryz
variable {GB G A:Gh}{l:aa}{u p:ZP}{b a n k i nm ty len:Nat}{es es0:List Int}{b1 b2 b3 lo:Bool}{v e f w:Value}{acs vs:List Value}{c:av}{d q:DV}{r:RL}{t:Tr}{C:aF}{Q0:Exit->Act->World->Prop}{fr fr' fr1 fr2:aC}{own' own1 own2:aO}{cf cf' cf1 cf2:Cf}{vc vc1 vc2:List Prop}{ls:List aa}{ns:List NQ}
def Z0(p r:ZP):(cO p.q r.q<0↔xg p r<0)/\(cO p.q r.q=0↔xg p r=0):=by
 have e1: ∀a b:Int,bw (a:Rat) (b:Rat)<0↔a<b:=fun a b=>by rw[Kr,Rat.intCast_lt_intCast]
 have e2: ∀a b:Int,bw (a:Rat) (b:Rat)=0↔a=b:=fun a b=>by rw[pz,mY]
 have f1:=e1 p.1 r.1;have f2:=e2 p.1 r.1;have f3:=e1 p.2 r.2;have f4:=e2 p.2 r.2;show(cO ⟨(p.1:Rat),(p.2:Rat)⟩ ⟨(r.1:Rat),(r.2:Rat)⟩<0↔_)/\(cO ⟨(p.1:Rat),(p.2:Rat)⟩ ⟨(r.1:Rat),(r.2:Rat)⟩=0↔_);unfold cO xg;dsimp only;generalize bw (p.1:Rat) (r.1:Rat)=u at*;generalize bw (p.2:Rat) (r.2:Rat)=v at*;by_cases h:p.1<r.1
 .rw[if_pos we,if_pos h];omega
 .by_cases h2:r.1<p.1
  .rw[if_pos we,if_neg h,if_pos h2];omega
  .rw[if_neg we,if_neg h,if_neg h2]
   by_cases h3:p.2<r.2
   .rw[if_pos h3];omega
   .rw[if_neg h3]
    split<;>omega
def Ns(x:ZP): ∀l:List ZP,c9 cO x.q (l.map ZP.q)=(ud x l).map ZP.q
 |[]=>rfl
 |u::t=>by
  obtain⟨h1,h2⟩:=Z0 u x;rw[bV,c9,ud,Ns x t];by_cases k1:xg u x<0
  .rw[if_pos (h1.2 k1),if_pos k1];rfl
  .rw[if_neg (fun e=>k1 (h1.1 e)),if_neg k1]
   by_cases k2:xg u x=0
   .rw[if_pos (h2.2 k2),if_pos k2];rfl
   .rw[if_neg (fun e=>k2 (h2.1 e)),if_neg k2];rfl
def X7(l:List ZP):gn cO (l.map ZP.q)=(vS l).map ZP.q:=by
 have key: ∀(l o:List ZP),(l.map ZP.q).foldl (fun out x=>c9 cO x out) (o.map ZP.q)=(l.foldl (fun out x=>ud x out) o).map ZP.q:=by
  intro l
  induction l with
  |nil=>intro o;rfl
  |cons x t ih=>intro o;rw[bV,iK,iK,Ns,ih]
 exact key l []
def OM(l:List ZP):(l.map ZP.q).map eP=l.map iF:=by rw[pY];rfl
def TV{l:List ZP}(h: ∀p∈l,ZP.le 100 p)(hn:l.length<=100000:=by omega):PF GB prog 37 [.sl (l.map iF)] (.sl ((vS l).map iF)):=by
 have:=EW (GB:=GB) (ps:=l.map ZP.q) (aJH h) (by rw[aX];exact hn);rw[X7,OM,OM] at this;exact this
def aGl(u v:ZP):(ah.cross (iP u.1 u.2) (iP v.1 v.2))=((kA u v:Int):Rat):=by
 unfold ah.cross iP kA;push_cast;rfl
def Gu(u v:ZP):(ah.cross (iP u.1 u.2) (iP v.1 v.2)).num.sign≠0↔kA u v≠0:=by
 rw[aGl,jN];exact not_congr fM
def auJ{α β:Type}(f:α->β)(l:List α):((l.map f).take (l.length-1)).drop 0=l.dropLast.map f:=by
 rw[iZ,<-fN,List.dropLast_eq_take]
def MS{l:List ZP}(h:0<l.length:=by omega): ∃u,l.getLast? =some u/\l[l.length-1]? =some u/\l.getD (l.length-1) (0,0)=u:=by
 refine⟨l[l.length-1],?_,aQ we,?_⟩
 .rw[lY];exact aQ we
 .rw[aV,aQ we];rfl
def ayi{l:List ZP}(h:0<l.length): ∃u,l[0]? =some u/\l.getD 0 (0,0)=u:=by
 refine⟨l[0],aQ we,?_⟩;rw[aV,aQ we];rfl
def C0:(u.1=p.1/\u.2=p.2)↔u=p:=⟨fun h=>Prod.ext h.1 h.2,fun h=>by rw[h];exact⟨J,J⟩⟩
theorem oks{p:Prop}(h:p:=by dsimp only;exact⟨⟨by rw[<-h1,n7,if_neg hlast],hq3,h3.snoc ⟨we,we⟩ hlast,by simp;omega⟩,we⟩):p:=h
def ZI(hes:es.length<=400)(ha:a<=es.length):PM GB prog 10 (kw [none] b) b 76 [.sl (es.map vI), .v (.int .i64 (a:Nat))] (sC (lw es a).1) [.sl (es.map vI), .v (.int .i64 ((lw es a).2:Nat))]:=by
 have hk0:=fI (n:=4) ha;refine vU (fu:=⟨6⟩) func10 J J ntmps10 J J (fun C b m lo hmb=>?_);refine mg (X:=Nat) (fun a2=>[]) (fun a2=>[(1000000,some (.o 76 [.d (.sl (es.map vI)), .d (.v (.int .i64 (a2:Nat)))] false))]) (fun a2=>lw es a=r9 es a2/\a2<=es.length) [] [1000000] rfl ?_ (fun _=>J) (fun a2 ⟨hR,ha2⟩=>?_)
 .
  refine gx J<|cm J (fun b=>(js (n:=4) hes ha)) J<|br J J J (fun hc15=>?_) (fun hc15=>?_)
  .
   have hx1:=fI (n:=5) hk0;have hy1:=fI (n:=5) hx1;have hz1:=fI (n:=4) hy1;have hw1:=fI (n:=4) hz1;have hl0:=e8 (es:=es) (n:=5) (a:=(ao es 4 a).2);have hl1:=e8 (es:=es) (n:=5) (a:=(ao es 5 (ao es 4 a).2).2);have hl2:=e8 (es:=es) (n:=4) (a:=(ao es 5 (ao es 5 (ao es 4 a).2).2).2);have hl3:=e8 (es:=es) (n:=4) (a:=(ao es 4 (ao es 5 (ao es 5 (ao es 4 a).2).2).2).2);refine cm J (fun b=>(js (n:=5) hes hk0)) J<|cm J (fun b=>(js (n:=5) hes hx1)) J<|cm J (fun b=>(js (n:=4) hes hy1)) J<|cm J (fun b=>(js (n:=4) hes hz1)) J<|cl J (f8 (m:=(((ao es 5 (ao es 4 a).2).1:Int)-4)) (n:=(((ao es 5 (ao es 5 (ao es 4 a).2).2).1:Int)-4)) we we) J<|cl J (f8 (m:=(((ao es 5 (ao es 4 a).2).1:Int)-4+1+((ao es 4 (ao es 5 (ao es 5 (ao es 4 a).2).2).2).1:Int))) (n:=(((ao es 5 (ao es 5 (ao es 4 a).2).2).1:Int)-4)) we we) J<|cl J (f8 (m:=(((ao es 5 (ao es 4 a).2).1:Int)-4+1+((ao es 4 (ao es 5 (ao es 5 (ao es 4 a).2).2).2).1:Int))) (n:=(((ao es 5 (ao es 5 (ao es 4 a).2).2).1:Int)-4+1+((ao es 4 (ao es 4 (ao es 5 (ao es 5 (ao es 4 a).2).2).2).2).1:Int))) we we) J<|cl J (f8 (m:=(((ao es 5 (ao es 4 a).2).1:Int)-4)) (n:=(((ao es 5 (ao es 5 (ao es 4 a).2).2).1:Int)-4+1+((ao es 4 (ao es 4 (ao es 5 (ao es 5 (ao es 4 a).2).2).2).2).1:Int))) we we) J<|rf J J<|?_;exact jn hmb J J (by rw[show lw es a=_ from if_pos hc15];rfl) (by rw[show lw es a=_ from if_pos hc15];rfl)
  .
   refine br J J J (fun hc46=>?_) (fun hc46=>?_)
   .
    obtain⟨hp1,hp2,hp3⟩:=ua hk0;obtain⟨hu1,hu2,hu3,hu4⟩:=xA hp3;obtain⟨hv1,hv2,hv3,hv4⟩:=xA hu4;haveI:=ku (k:=10) (m:=(vF es (pF es (ao es 4 a).2).2).1.1) we;haveI:=ku (k:=10) (m:=(vF es (pF es (ao es 4 a).2).2).1.2) we;haveI:=ku (k:=10) (m:=(vF es (vF es (pF es (ao es 4 a).2).2).2).1.1) we;haveI:=ku (k:=10) (m:=(vF es (vF es (pF es (ao es 4 a).2).2).2).1.2) we;refine cm J (fun b=>(EQ hes hk0)) J<|cm J (fun b=>(JV hes hp3)) J<|cm J (fun b=>(JV hes hu4)) J<|cl J (CZ (p:=iP (vF es (pF es (ao es 4 a).2).2).1.1 (vF es (pF es (ao es 4 a).2).2).1.2) (q:=iP (vF es (vF es (pF es (ao es 4 a).2).2).2).1.1 (vF es (vF es (pF es (ao es 4 a).2).2).2).1.2)) J<|cl J (ry (q:=ah.cross (iP (vF es (pF es (ao es 4 a).2).2).1.1 (vF es (pF es (ao es 4 a).2).2).1.2) (iP (vF es (vF es (pF es (ao es 4 a).2).2).2).1.1 (vF es (vF es (pF es (ao es 4 a).2).2).2).1.2))) J<|br J J J (fun hc58=>?_) (fun hc58=>?_)
    .
     refine cl J (ju (n:=1)) J<|cl J (yl (m:=(pF es (ao es 4 a).2).1.1) (n:=(pF es (ao es 4 a).2).1.2) (m':=(vF es (pF es (ao es 4 a).2).2).1.1) (n':=(vF es (pF es (ao es 4 a).2).2).1.2) (k:=1) we we we we) J<|cl J (ju (n:=1)) J<|cl J (yl (m:=(pF es (ao es 4 a).2).1.1) (n:=(pF es (ao es 4 a).2).1.2) (m':=(vF es (vF es (pF es (ao es 4 a).2).2).2).1.1) (n':=(vF es (vF es (pF es (ao es 4 a).2).2).2).1.2) (k:=1) we we we we) J<|rf J J<|?_;exact jn hmb J J (by rw[show lw es a=_ from(if_neg hc15).trans ((if_pos hc46).trans (if_pos ((Gu _ _).1 hc58)))];rfl) (by rw[show lw es a=_ from(if_neg hc15).trans ((if_pos hc46).trans (if_pos ((Gu _ _).1 hc58)))])
    .
     exact at_ (vF es (vF es (pF es (ao es 4 a).2).2).2).2 ⟨(if_neg hc15).trans ((if_pos hc46).trans (if_neg (fun e=>hc58 ((Gu _ _).2 e)))),hv4⟩
   .
    exact at_ (ao es 4 a).2 ⟨(if_neg hc15).trans (if_neg hc46),hk0⟩
 .
  have hj1:=e8 (es:=es) (n:=4) (a:=a2);have hj2:=fI (n:=4) ha2;refine cm J (fun b=>(js (n:=4) hes ha2)) J<|nr 10 10 83 6 J J J<|lp (X:=List ZP×Nat×Nat) (fun⟨r,i,a3⟩=>[(11, .d (vI (i:Nat))),(10, .rw 10)]) (fun⟨r,i,a3⟩=>[(1000000,some (.o 76 [.d (.sl (es.map vI)), .d (.v (.int .i64 (a3:Nat)))] false)),(10,some (.b 83 6 (r.map iF) true))]) (fun⟨r,i,a3⟩=>n7 es i a3 r=n7 es (3+(ao es 4 a2).1) (ao es 4 a2).2 []/\a3<=es.length/\l9 r/\r.length+i<=6) (fun⟨r,i,a3⟩=>i) ⟨[],3+(ao es 4 a2).1,(ao es 4 a2).2⟩ J ⟨J,hj2,l9.nil,by simp;omega⟩ (fun _=>J) (fun⟨r,i,a3⟩ hk=>?_)
  try dsimp only at hk⊢
  obtain⟨h1,h2,h3,h4⟩:=hk;have hrl:(r.map iF).length=r.length:=by simp
  refine br (fu2:=⟨0⟩) J J J (fun hc73=>?_) (fun hc73=>?_)
  .
   obtain⟨j,rfl⟩: ∃j,i=j+1:=⟨i-1,we⟩;obtain⟨hq1,hq2,hq3⟩:=ua h2;refine cm (fu:=⟨8⟩) J (fun b=>(EQ hes h2)) J<|gF (v1:=fun hg80=>by simp only[ak];kernel_rfl) J J J J (fun hg80=>?_) (fun hg80=>?_)
   .
    have hlast: ¬r.getLast? =some (pF es a3).1:=by rw[cJ (l:=r) we];simp
    refine rf J J<|ap ((r++[(pF es a3).1]).map iF) J omJ (IH [_]) J<|d8 95 10 J<|at_ ⟨r++[(pF es a3).1],j,(pF es a3).2⟩ oks
   .
    obtain⟨q,hq,hqi,hqd⟩:=MS (l:=r);have hqm:=h3.le q (tW hq);unfold ZP.le at hqm;refine lb (iF q) J (by rw[show(((r.map iF).length:Nat):Int)-1=((r.length-1:Nat):Int) by omega];exact ce hqi) J<|cl J (HV (m:=q.1) (n:=q.2) (m':=(pF es a3).1.1) (n':=(pF es a3).1.2)) J<|bb J J J (fun hc91=>?_) (fun hc91=>?_)
    .
     have hlast: ¬r.getLast? =some (pF es a3).1:=by rw[hq];intro e;have:=C0.2 (Option.some.inj e);simp[this] at hc91
     refine rf J J<|ap ((r++[(pF es a3).1]).map iF) J omJ (IH [_]) J<|d8 95 10 J<|at_ ⟨r++[(pF es a3).1],j,(pF es a3).2⟩ oks
    .
     have hlast:r.getLast? =some (pF es a3).1:=by rw[hq];congr 1;exact C0.1 (by simpa using hc91)
     exact at_ ⟨r,j,(pF es a3).2⟩ (by dsimp only;exact⟨⟨by rw[<-h1,n7,if_pos hlast],hq3,h3,we⟩,we⟩)
  .
   obtain rfl:i=0:=by omega
   have hg:=h1;rw[n7] at hg;refine lv 10 J<|gx J<|lp (fu:=⟨5⟩) (X:=List ZP×Nat) (fun⟨l,m⟩=>[(10, .d (.sl (l.map iF)))]) (fun⟨l,m⟩=>[]) (fun⟨l,m⟩=>kP m l=kP 6 r/\l.length<=m+1/\l9 l/\l.length<=6) (fun⟨l,m⟩=>m) ⟨r,6⟩ J ⟨J,we,h3,we⟩ (fun _=>J) (fun⟨l,m⟩ hk=>?_)
   try dsimp only at hk⊢
   obtain⟨t1,t2,t3,t4⟩:=hk;have hll:(l.map iF).length=l.length:=by simp
   refine gF (v2:=fun hg98=>by simp only[ak];kernel_rfl) J J J J (fun hg98=>?_) (fun hg98=>?_)
   .
    obtain⟨q,hqi,hqd⟩:=ayi (l:=l) we;obtain⟨q2,hq0,hqi2,hqd2⟩:=MS (l:=l);have hqm:=t3.le q (aK hqi);have hqm2:=t3.le q2 (aK hqi2);unfold ZP.le at hqm hqm2;refine ix _ J (ce (i:=0) hqi) J<|ix (iF q2) J (by rw[show(((l.map iF).length:Nat):Int)-1=((l.length-1:Nat):Int) by omega];exact ce hqi2) J<|cl J (HV (m:=q.1) (n:=q.2) (m':=q2.1) (n':=q2.2)) J<|bd J J J (fun hc110=>?_) (fun hc110=>?_)
    .
     have hcond:1<l.length/\l.getD 0 (0,0)=l.getD (l.length-1) (0,0):=⟨we,by rw[hqd,hqd2];exact C0.1 hc110⟩;refine je 0 (l.length-1) (l.dropLast.map iF) J J we (auJ iF l) (IH l) (aS _) we rfl<|at_ ⟨l.dropLast,m-1⟩ (by dsimp only;exact⟨⟨by rw[<-t1];obtain⟨m,rfl⟩: ∃q,m=q+1:=⟨m-1,we⟩;rw[kP,if_pos hcond];rfl,by rw[iM];omega,t3.drop,by rw[iM];omega⟩,we⟩)
    .
     have hcond: ¬(1<l.length/\l.getD 0 (0,0)=l.getD (l.length-1) (0,0)):=fun e=>hc110 (C0.2 (by rw[<-hqd,<-hqd2];exact e.2));refine cl (fu:=⟨1⟩) J (TV (l:=l) t3.le) J<|?_;have hgen:kP 6 r=l:=by rw[<-t1];cases m with|zero=>rfl|succ m=>rw[kP,if_neg hcond]
     refine aj 118 (.d (vI ((vS l).length:Nat))) J (by rw[aX];rfl)<|gx J<|br J J J (fun hc119=>?_) (fun hc119=>?_)
     .
      have hfin:lw es a=(z',a3):=by rw[hR,r9,<-hg,hgen,if_pos we]
      refine cl J (f8 (m:=0) (n:=0)) J<|cl J (f8 (m:=2) (n:=0)) J<|cl J (f8 (m:=0) (n:=2)) J<|rf J J<|?_;exact jn hmb J J omY (by rw[hfin])
     .
      have hfin:lw es a=(l,a3):=by rw[hR,r9,<-hg,hgen,if_neg we]
      exact jn hmb J J omY (by rw[hfin])
   .
    have hcond: ¬(1<l.length/\l.getD 0 (0,0)=l.getD (l.length-1) (0,0)):=fun e=>by omega
    refine cl (fu:=⟨1⟩) J (TV (l:=l) t3.le) J<|?_;have hgen:kP 6 r=l:=by rw[<-t1];cases m with|zero=>rfl|succ m=>rw[kP,if_neg hcond]
    refine aj 118 (.d (vI ((vS l).length:Nat))) J (by rw[aX];rfl)<|gx J<|br J J J (fun hc119=>?_) (fun hc119=>?_)
    .
     have hfin:lw es a=(z',a3):=by rw[hR,r9,<-hg,hgen,if_pos we]
     refine cl J (f8 (m:=0) (n:=0)) J<|cl J (f8 (m:=2) (n:=0)) J<|cl J (f8 (m:=0) (n:=2)) J<|rf J J<|?_;exact jn hmb J J omY (by rw[hfin])
    .
     have hfin:lw es a=(l,a3):=by rw[hR,r9,<-hg,hgen,if_neg we]
     exact jn hmb J J omY (by rw[hfin])
def cTd(l:aa)(p q:DV):List DV:=[.v (.bool false), .v (.bool false), .v (.bool (decide (l.a<0))),dN l.a.natAbs, .v (.bool (decide (l.b<0))),dN l.b.natAbs, .v (.bool (decide (l.c<0))),dN l.c.natAbs,p,q]
def aMu{l1 l2 l3:List DV}(h:Is G (.ag [.v (.bool b1), .sl l1, .v (.bool b2), .sl l2, .v (.bool b3), .sl l3]) v): ∃x1 x2 x3:SV,v= .agg ⟨[.bool b1, .slice x1.a x1.n x1.c, .bool b2, .slice x2.a x2.n x2.c, .bool b3, .slice x3.a x3.n x3.c]⟩:=by
 obtain⟨m,rfl,g⟩:=eG.1 h;clear h;obtain⟨v1,m,rfl,h1,h⟩:=bh.1 g;obtain⟨v2,m,rfl,h2,h⟩:=bh.1 h;obtain⟨v3,m,rfl,h3,h⟩:=bh.1 h;obtain⟨v4,m,rfl,h4,h⟩:=bh.1 h;obtain⟨v5,m,rfl,h5,h⟩:=bh.1 h;obtain⟨v6,m,rfl,h6,h⟩:=bh.1 h;rw[dm] at h;subst h;obtain⟨_,x1,_,rfl,_,_⟩:=gr.1 h2;obtain⟨_,x2,_,rfl,_,_⟩:=gr.1 h4;obtain⟨_,x3,_,rfl,_,_⟩:=gr.1 h6;rw[aI.1 h1,aI.1 h3,aI.1 h5];exact⟨x1,x2,x3,J⟩
def M5{b:Bool}:IsLs G (cT (.leaf b)) [.bool true, .bool b, .bool false, .slice none 0 0, .bool false, .slice none 0 0, .bool false, .slice none 0 0, .pointer none, .pointer none]:=by
 have hs:Is G (.sl []) (.slice none 0 0):=gr.2 ⟨0,⟨none,0,0⟩,[],J, .nil G 0, .nil⟩;exact .cons (aI.2 J) (.cons (aI.2 J) (.cons (aI.2 J) (.cons hs (.cons (aI.2 J) (.cons hs (.cons (aI.2 J) (.cons hs (.cons (aI.2 J) (.cons (aI.2 J) .nil)))))))))
def Xn{o:Nat}{a b c d l r:Value}(h:cw acs o 8=some [a,b,c,d,e,f,l,r]):cw acs (o+0) 6=some [a,b,c,d,e,f]/\acs[o+6]? =some l/\acs[o+7]? =some r:=by
 obtain⟨_,hg⟩:=rI _ _ _ _ h;have h7:=hg 7 oma;have hlen:=(aT.1 h7).1;refine⟨?_,hg 6 oma,h7⟩;rw[ld _ _ _ we];congr 1;apply lR;intro i;rw[pJ];split
 .rename_i hi
  rw[mQ];have:=hg i we;rw[gK,this]
  match i,hi with
  |0,_=>rfl
  |1,_=>rfl
  |2,_=>rfl
  |3,_=>rfl
  |4,_=>rfl
  |5,_=>rfl
 .rename_i hi
  rw[dT (by simp only[bZ,fX];omega)]
def aHw{p:DV}{a b c d:Value}(h:Is G (eL l) (.agg ⟨[a,b,c,d,e,f]⟩))(hp:Is G p v)(hq:Is G q w):IsLs G (cTd l p q) [.bool false, .bool false,a,b,c,d,e,f,v,w]:=by
 obtain⟨m,e',g⟩:=eG.1 h
 cases e'
 obtain⟨h1,g⟩:=g.uncons;obtain⟨h2,g⟩:=g.uncons;obtain⟨h3,g⟩:=g.uncons;obtain⟨h4,g⟩:=g.uncons;obtain⟨h5,g⟩:=g.uncons;obtain⟨h6,g⟩:=g.uncons;exact .cons (aI.2 J) (.cons (aI.2 J) (.cons h1 (.cons h2 (.cons h3 (.cons h4 (.cons h5 (.cons h6 (.cons hp (.cons hq .nil)))))))))
def RN.of(n:NQ):RN:=⟨⟨decide (n.l.a<0),dg n.l.a.natAbs,decide (n.l.b<0),dg n.l.b.natAbs,decide (n.l.c<0),dg n.l.c.natAbs⟩,n.a,n.b⟩
def aAd(a:Int):mD (decide (a<0)) (dg a.natAbs)=a:=by
 unfold mD;rw[(eE _).1];split
 .rename_i h;have:=of_decide_eq_true h;omega
 .rename_i h;have: ¬a<0:=fun e=>h (decide_eq_true e);omega
def Hq(a:Int):fj (decide (a<0)) (dg a.natAbs):=⟨(eE _).2.2,fun h=>wm.2 (by have:=of_decide_eq_true h;omega)⟩
def RN.of_l(n:NQ):(RN.of n).g.l=n.l:=by
 unfold RN.of RL.l;simp only[aAd]
def RN.of_sm{n:NQ}(h:LB n.l):(RN.of n).g.sm:=by
 have key: ∀a:Int,a.natAbs<2^672->bt (dg a.natAbs)/\(dg a.natAbs).length<=21:=fun a ha=>⟨(eE _).2.1,by have:=ji ha;omega⟩;exact⟨key _ h.bl.a,key _ h.bl.b,key _ h.bl.c⟩
def Tr.all_imp{p q:aa->Prop}(h: ∀l,p l->q l): ∀{t:Tr},t.all p->t.all q
 | .leaf _,_=>trivial
 | .node _ _ _,⟨h0,h1,h2⟩=>⟨h _ h0,Tr.all_imp h h1,Tr.all_imp h h2⟩
def jz.red_size(h:jz k t)(hr:t.Red []):t.size<=k*(1+k):=by
 obtain⟨K,h1,h2,h3⟩:=h.am;exact cN (Tr.size_le h2 hr h.gd.ok bF.nil h3) (fU h1 we)
structure gP (k:Nat) (t:Tr):Prop where
 o:jz k t
 s:t.size<=3000
def gP.gd{k:Nat}{t:Tr}(h:gP k t):t.gd:=h.o.gd
def gP.lb{k:Nat}{t:Tr}(h:gP k t):t.all LB:=h.o.gd.lb
def gP.ok{k:Nat}{t:Tr}(h:gP k t):t.all aa.ok:=h.o.gd.ok
def gP.bl{k:Nat}{t:Tr}(h:gP k t):t.all (fun l=>BL l 672):=Tr.all_imp (fun _ h=>h.bl) h.o.gd.lb
def gP.compl{k:Nat}{t:Tr}(h:gP k t):gP k t.compl:=⟨h.o.compl,by rw[t.compl_size];exact h.s⟩
def jz.x(h:jz k t)(hr:t.Red [])(hk:k<=54):gP k t:=
 ⟨h,cN (h.red_size hr) (cN (fU hk (show 1+k<=55 by omega)) oma)⟩
def Cx(rs:List (List ZP))(fill:Int):(fm rs fill).Red []:=Tr.restrict_red _ _
def i9(r:List ZP)(i k:Nat):Bool:=decide (k=i)||decide (k=(i+1)%r.length)||decide (0<qB (r.getD i (0,0)).q (iv r i).q (r.getD k (0,0)).q)
def FI(r:List ZP):Bool:=(List.range r.length).all fun i=>(List.range r.length).all fun k=>i9 r i k
def SG{r:List ZP}(hi:i<r.length)(hk:k<r.length)(h:i9 r i k=false):FI r=false:=by
 rw[Bool.eq_false_iff];intro e;have:=(dJ.1 ((dJ.1 e) i (jJ.2 hi))) k (jJ.2 hk);rw[h] at this;cases this
def Nn{r:List ZP}(h: ∀i,i<r.length-> ∀k,k<r.length->i9 r i k=true):FI r=true:=
 dJ.2 fun i hi=>dJ.2 fun k hk=>h i (jJ.1 hi) k (jJ.1 hk)
def Ly(a b c:ZP):qB a.q b.q c.q=(kA (b.1-a.1,b.2-a.2) (c.1-a.1,c.2-a.2)).sign:=by
 have e:ah.cross (de b.q a.q (-1)) (de c.q a.q (-1))=((kA (b.1-a.1,b.2-a.2) (c.1-a.1,c.2-a.2):Int):Rat):=by
  unfold ah.cross de kA ZP.q iP;push_cast;grind
 unfold qB;rw[e,jN]
def Ka{a:Int}:0<a.sign↔0<a:=by
 rcases pN a 0 with h|h|h
 .rw[eK h];omega
 .subst h;simp
 .rw[fS h];omega
def VN{v:ZP}:FI (gE p u v)=decide (0<kA u v):=by
 obtain⟨p1,p2⟩:=p;obtain⟨u1,u2⟩:=u;obtain⟨v1,v2⟩:=v;have e1:i9 (gE (p1,p2) (u1,u2) (v1,v2)) 0 2=decide (0<kA (u1,u2) (v1,v2)):=by
  unfold i9 iv gE uN;simp only[bZ,fX,qS,oT,Nat.reduceAdd,Nat.reduceMod,Ly,Ka];simp[kA];congr 2
  all_goals (first|omega|grind)
 have e2:i9 (gE (p1,p2) (u1,u2) (v1,v2)) 1 0=decide (0<kA (u1,u2) (v1,v2)):=by
  unfold i9 iv gE uN;simp only[bZ,fX,qS,oT,Nat.reduceAdd,Nat.reduceMod,Ly,Ka];simp[kA];constructor<;>intro h<;>grind
 have e3:i9 (gE (p1,p2) (u1,u2) (v1,v2)) 2 1=decide (0<kA (u1,u2) (v1,v2)):=by
  unfold i9 iv gE uN;simp only[bZ,fX,qS,oT,Nat.reduceAdd,Nat.reduceMod,Ly,Ka];simp[kA];constructor<;>intro h<;>grind
 by_cases h:0<kA (u1,u2) (v1,v2)
 .rw[decide_eq_true h] at e1 e2 e3⊢
  refine Nn fun i hi k hk=>?_;have hl:(gE (p1,p2) (u1,u2) (v1,v2)).length=3:=J;rw[hl] at hi hk;have hs: ∀j,i9 (gE (p1,p2) (u1,u2) (v1,v2)) j j=true:=fun j=>by unfold i9;simp
  have hn: ∀j,i9 (gE (p1,p2) (u1,u2) (v1,v2)) j ((j+1)%3)=true:=fun j=>by unfold i9;simp[hl]
  have h1:i=0\/i=1\/i=2:=by omega
  have h2:k=0\/k=1\/k=2:=by omega
  rcases h1 with rfl|rfl|rfl<;>rcases h2 with rfl|rfl|rfl<;>first|assumption|exact hs _|exact hn _
 .rw[decide_eq_false h] at e1⊢
  exact SG (i:=0) (k:=2) (by simp[gE]) (by simp[gE]) e1
def ayj{r:List ZP}(hle: ∀p∈r,ZP.le 100 p)(h6:r.length<=6):PF GB prog 20 [.sl (r.map iF)] (vB (FI r)):=by
 have hm:=d7 iF r;refine fn (fu:=⟨9⟩) func20 J J ntmps20 J J (fun C=>?_);refine aj 7 (.d (vI (r.length:Nat))) J omn<|gx (fu:=⟨8⟩) J<|aj 9 (.d (vI (r.length:Nat))) J omn<|gx J<|lp (X:=Nat) (fun i=>[(10, .d (vI (i:Nat)))]) (fun i=>[]) (fun i=>i<=r.length/\ ∀j,j<i-> ∀q,q<r.length->i9 r j q=true) (fun i=>r.length-i) 0 J ⟨aS _,fun j hj=>absurd hj we⟩ (fun _=>J) (fun i hk=>?_);obtain⟨i1,i2⟩:=hk;refine br (fu1:=⟨14⟩) J J J (fun hc11=>?_) (fun hc11=>?_)
 .
  have hir:i<r.length:=by omega
  refine aj 14 (.d (vI (r.length:Nat))) J omn<|gx J<|lp (X:=Nat) (fun k=>[(15, .d (vI (k:Nat)))]) (fun k=>[]) (fun k=>k<=r.length/\ ∀q,q<k->i9 r i q=true) (fun k=>r.length-k) 0 J ⟨aS _,fun j hj=>absurd hj we⟩ (fun _=>J) (fun k hk=>?_);obtain⟨k1,k2⟩:=hk;refine br (fu1:=⟨14⟩) J J J (fun hc16=>?_) (fun hc16=>?_)
  .
   have hkr:k<r.length:=by omega
   haveI hvb:aE (r.getD i (0,0)).q 12:=Cm (hle _ (An hir));haveI hwb:aE (iv r i).q 12:=Cm (hle _ (Ir hir));haveI hub:aE (r.getD k (0,0)).q 12:=Cm (hle _ (An hkr));refine gF (fu1:=⟨6⟩) (v2:=fun hg20=>by simp only[ak];exact⟨omd,we⟩) J J J J (fun hg20=>?_) (fun hg20=>?_)
   .
    refine aj 26 (.d (vI ((i+1)%r.length:Nat))) J okL<|gx (fu:=⟨0⟩) J<|gF (v2:=fun hg27=>by simp only[ak];exact⟨omd,we⟩) J J J J (fun hg27=>?_) (fun hg27=>?_)
    .
     refine ix (fu:=⟨6⟩) _ J (K4 hir) J<|aj 38 (.d (vI ((i+1)%r.length:Nat))) J okL<|gx J<|ix _ J (Xh hir) J<|ix _ J (K4 hkr) J<|cl J (CS (a:=(r.getD i (0,0)).q) (b:=(iv r i).q) (c:=(r.getD k (0,0)).q) (i:=12) (j:=12) (k:=12)) J<|br J J J (fun hc47=>?_) (fun hc47=>?_)
     .
      have hcv:i9 r i k=false:=by unfold i9;rw[decide_eq_false (show¬k=i by omega),decide_eq_false (show¬k=(i+1)%r.length by omega),decide_eq_false (show¬0<(qB (r.getD i (0,0)).q (iv r i).q (r.getD k (0,0)).q) by omega)];rfl
      exact rz J (by rw[SG hir hkr hcv];rfl)
     .
      have hcv:i9 r i k=true:=by unfold i9;rw[decide_eq_true (show 0<qB _ _ _ by omega)];simp
      exact at_ (k+1) ⟨⟨we,fun q hq=>by by_cases e:q=k;(subst e;exact hcv);exact k2 q we⟩,we⟩
    .
     have hcv:i9 r i k=true:=by unfold i9;rw[decide_eq_true (show k=(i+1)%r.length by omega)];simp
     exact at_ (k+1) ⟨⟨we,fun q hq=>by by_cases e:q=k;(subst e;exact hcv);exact k2 q we⟩,we⟩
   .
    have hcv:i9 r i k=true:=by unfold i9;rw[decide_eq_true (show k=i by omega)];rfl
    exact at_ (k+1) ⟨⟨we,fun q hq=>by by_cases e:q=k;(subst e;exact hcv);exact k2 q we⟩,we⟩
  .
   obtain rfl:k=r.length:=by omega
   exact at_ (i+1) ⟨⟨we,fun j hj q hq=>by by_cases e:j=i;(subst e;exact k2 q we);exact i2 j we q hq⟩,we⟩
 .
  obtain rfl:i=r.length:=by omega
  exact rz J (by rw[Nn fun j hj q hq=>i2 j hj q hq];rfl)
def XM{v:ZP}(h1:ZP.le 40 p)(h2:ZP.le 40 u)(h3:ZP.le 40 v): ∀q∈gE p u v,ZP.le 100 q:=fun q hq=>by
 unfold ZP.le at*;simp only[gE,uN,aW,fK,or_false] at hq;rcases hq with rfl|rfl|rfl<;>((try dsimp only);omega)
def VW{v:ZP}(h1:ZP.le 40 p)(h2:ZP.le 40 u)(h3:ZP.le 40 v):PF GB prog 20 [.sl ((gE p u v).map iF)] (vB (decide (0<kA u v))):=by
 have:=ayj (GB:=GB) (r:=gE p u v) (XM h1 h2 h3) (by simp[gE]);rw[VN] at this;exact this
def P6(hes:es.length<=400)(ha:a<=es.length):PM GB prog 44 (kw [none] b) b 76 [.sl (es.map vI), .v (.int .i64 (a:Nat))] (sC (jA es a).1) [.sl (es.map vI), .v (.int .i64 ((jA es a).2:Nat))]:=by
 have hk0:=fI (n:=2) ha;have hx1:=fI (n:=3) hk0;have hy1:=fI (n:=3) hx1;have l1:=e8 (es:=es) (n:=3) (a:=(ao es 2 a).2);have l2:=e8 (es:=es) (n:=3) (a:=(ao es 3 (ao es 2 a).2).2);refine vU func44 J J ntmps44 J J (fun C b m lo hmb=>?_);refine cm J (fun b=>(js (n:=2) hes ha)) J<|br J J J (fun hc13=>?_) (fun hc13=>?_)
 .
  have hz1:=fI (n:=2) hy1;have l3:=e8 (es:=es) (n:=2) (a:=(ao es 3 (ao es 3 (ao es 2 a).2).2).2);have l4:=e8 (es:=es) (n:=2) (a:=(ao es 2 (ao es 3 (ao es 3 (ao es 2 a).2).2).2).2);refine cm J (fun b=>(js (n:=3) hes hk0)) J<|cm J (fun b=>(js (n:=3) hes hx1)) J<|cm J (fun b=>(js (n:=2) hes hy1)) J<|cm J (fun b=>(js (n:=2) hes hz1)) J<|cl J (f8 (m:=(((ao es 3 (ao es 2 a).2).1:Int)-1)) (n:=(((ao es 3 (ao es 3 (ao es 2 a).2).2).1:Int)-1)) we we) J<|cl J (f8 (m:=(((ao es 3 (ao es 2 a).2).1:Int)-1+1+((ao es 2 (ao es 3 (ao es 3 (ao es 2 a).2).2).2).1:Int))) (n:=(((ao es 3 (ao es 3 (ao es 2 a).2).2).1:Int)-1)) we we) J<|cl J (f8 (m:=(((ao es 3 (ao es 2 a).2).1:Int)-1+1+((ao es 2 (ao es 3 (ao es 3 (ao es 2 a).2).2).2).1:Int))) (n:=(((ao es 3 (ao es 3 (ao es 2 a).2).2).1:Int)-1+1+((ao es 2 (ao es 2 (ao es 3 (ao es 3 (ao es 2 a).2).2).2).2).1:Int))) we we) J<|cl J (f8 (m:=(((ao es 3 (ao es 2 a).2).1:Int)-1)) (n:=(((ao es 3 (ao es 3 (ao es 2 a).2).2).1:Int)-1+1+((ao es 2 (ao es 2 (ao es 3 (ao es 3 (ao es 2 a).2).2).2).2).1:Int))) we we) J<|rf J J<|?_;exact jn hmb J J (by rw[show jA es a=_ from if_pos hc13];rfl) (by rw[show jA es a=_ from if_pos hc13];rfl)
 .
  have hu1:=fI (n:=2) hy1;have hu2:=fI (n:=3) hu1;have hv1:=fI (n:=3) hu2;have m1:=e8 (es:=es) (n:=2) (a:=(ao es 3 (ao es 3 (ao es 2 a).2).2).2);have m2:=e8 (es:=es) (n:=3) (a:=(ao es 2 (ao es 3 (ao es 3 (ao es 2 a).2).2).2).2);have m3:=e8 (es:=es) (n:=3) (a:=(ao es 3 (ao es 2 (ao es 3 (ao es 3 (ao es 2 a).2).2).2).2).2);have m4:=e8 (es:=es) (n:=2) (a:=(ao es 3 (ao es 3 (ao es 2 (ao es 3 (ao es 3 (ao es 2 a).2).2).2).2).2).2);refine cm J (fun b=>(js (n:=3) hes hk0)) J<|cm J (fun b=>(js (n:=3) hes hx1)) J<|cl J (f8 (m:=(((ao es 3 (ao es 2 a).2).1:Int)-1)) (n:=(((ao es 3 (ao es 3 (ao es 2 a).2).2).1:Int)-1)) we we) J<|cm J (fun b=>(js (n:=2) hes hy1)) J<|cm J (fun b=>(js (n:=3) hes hu1)) J<|cl J (f8 (m:=(1+((ao es 2 (ao es 3 (ao es 3 (ao es 2 a).2).2).2).1:Int))) (n:=(((ao es 3 (ao es 2 (ao es 3 (ao es 3 (ao es 2 a).2).2).2).2).1:Int)-1)) we we) J<|cm J (fun b=>(js (n:=3) hes hu2)) J<|cm J (fun b=>(js (n:=2) hes hv1)) J<|cl J (f8 (m:=(((ao es 3 (ao es 3 (ao es 2 (ao es 3 (ao es 3 (ao es 2 a).2).2).2).2).2).1:Int)-1)) (n:=(1+((ao es 2 (ao es 3 (ao es 3 (ao es 2 (ao es 3 (ao es 3 (ao es 2 a).2).2).2).2).2).2).1:Int))) we we) J<|cl J (ju (n:=1)) J<|cl J (yl (m:=(((ao es 3 (ao es 2 a).2).1:Int)-1)) (n:=(((ao es 3 (ao es 3 (ao es 2 a).2).2).1:Int)-1)) (m':=(1+((ao es 2 (ao es 3 (ao es 3 (ao es 2 a).2).2).2).1:Int))) (n':=(((ao es 3 (ao es 2 (ao es 3 (ao es 3 (ao es 2 a).2).2).2).2).1:Int)-1)) (k:=1) we we we we) J<|cl J (ju (n:=1)) J<|cl J (yl (m:=(((ao es 3 (ao es 2 a).2).1:Int)-1)) (n:=(((ao es 3 (ao es 3 (ao es 2 a).2).2).1:Int)-1)) (m':=(((ao es 3 (ao es 3 (ao es 2 (ao es 3 (ao es 3 (ao es 2 a).2).2).2).2).2).1:Int)-1)) (n':=(1+((ao es 2 (ao es 3 (ao es 3 (ao es 2 (ao es 3 (ao es 3 (ao es 2 a).2).2).2).2).2).2).1:Int))) (k:=1) we we we we) J<|rf J J<|cl J (VW (p:=((((ao es 3 (ao es 2 a).2).1:Int)-1),(((ao es 3 (ao es 3 (ao es 2 a).2).2).1:Int)-1))) (u:=((1+((ao es 2 (ao es 3 (ao es 3 (ao es 2 a).2).2).2).1:Int)),(((ao es 3 (ao es 2 (ao es 3 (ao es 3 (ao es 2 a).2).2).2).2).1:Int)-1))) (v:=((((ao es 3 (ao es 3 (ao es 2 (ao es 3 (ao es 3 (ao es 2 a).2).2).2).2).2).1:Int)-1),(1+((ao es 2 (ao es 3 (ao es 3 (ao es 2 (ao es 3 (ao es 3 (ao es 2 a).2).2).2).2).2).2).1:Int)))) ⟨we,we⟩ ⟨we,we⟩ ⟨we,we⟩) J<|bb J J J (fun hc76=>?_) (fun hc76=>?_)
  .
   refine cl J (f8 (m:=0) (n:=0)) J<|cl J (f8 (m:=1) (n:=0)) J<|cl J (f8 (m:=0) (n:=1)) J<|rf J J<|?_;exact jn hmb J J (by rw[show jA es a=_ from(if_neg hc13).trans (congrArg (fun r=>(r,(ao es 2 (ao es 3 (ao es 3 (ao es 2 (ao es 3 (ao es 3 (ao es 2 a).2).2).2).2).2).2).2)) (if_neg (by simpa using hc76)))];rfl) (by rw[show jA es a=_ from if_neg hc13])
  .
   exact jn hmb J J (by rw[show jA es a=_ from(if_neg hc13).trans (congrArg (fun r=>(r,(ao es 2 (ao es 3 (ao es 3 (ao es 2 (ao es 3 (ao es 3 (ao es 2 a).2).2).2).2).2).2).2)) (if_pos (by simpa using hc76)))];rfl) (by rw[show jA es a=_ from if_neg hc13])
section
variable {own:aO}
end
def aIA(hb:es0.length<=1125899906842624)(he:es=es0.take 400):PN GB prog 7 [.sl (es0.map vI)] 76 Unit (fun _=>[.sl (es.map vI), .v (.int .i64 (0:Nat))]):=by
 subst he;exact aMj hb
def N3(h:gP k t):PF GB prog 12 [eT t] (eA t):=Ye h.bl (by have:=h.s;omega)
def Z9(s:r.sm)(h:r.ln=some l):PF GB prog 87 [r.d] (.tp [co l,vB true]):=by
 have:=QV (GB:=GB) s;rw[h] at this;exact this
def Xw(s:r.sm)(h:r.ln=none):PF GB prog 87 [r.d] (.tp [SQ,vB false]):=by
 have:=QV (GB:=GB) s;rw[h] at this;exact this
theorem RL.ln_ok(s:r.sm)(h:r.ln=some l):LB l/\l.ok:=by
 unfold RL.ln at h;split at h
 .rename_i hh;cases h;exact⟨RL.lb s,hh.2⟩
 .cases h
def i8(cs:List RL):Option (List aa):=if cs.all (fun r=>r.ln.isSome) then some (cs.filterMap RL.ln) else none
def aNP:Option (List aa)->DV
 |some ls=> .tp [.sl (ls.map co),vB true]
 |none=> .tp [.sl [],vB false]
def Mk{cs:List RL}(h:cs[k]? =some r)(hl:r.ln=some l):((cs.take (k+1)).filterMap RL.ln)=((cs.take k).filterMap RL.ln)++[l]:=by
 rw[dW,h,sU];simp[hl]
def Pk{cs:List RL}(h:cs[k]? =some r)(ha:(cs.take k).all (fun r=>r.ln.isSome)=true)(hl:r.ln.isSome=true):(cs.take (k+1)).all (fun r=>r.ln.isSome)=true:=by
 rw[dW,h,List.all_append,ha];simp[hl]
def He{cs:List RL}(h:cs[k]? =some r)(hl:r.ln=none):i8 cs=none:=by
 unfold i8;rw[if_neg];intro ha;have:=dJ.1 ha r (aK h);rw[hl] at this;cases this
def Oh{cs:List RL}(h:(cs.take cs.length).all (fun r=>r.ln.isSome)=true):i8 cs=some ((cs.take cs.length).filterMap RL.ln):=by
 rw[dQ] at*;unfold i8;rw[if_pos h]
def O7{cs:List RL}(hs: ∀r∈cs,r.sm)(h:i8 cs=some ls):(∀l∈ls,LB l)/\(∀l∈ls,l.ok)/\ls.length<=cs.length:=by
 unfold i8 at h;split at h
 .cases h
  refine⟨fun l hl=>?_,fun l hl=>?_,jT _ _⟩
  .obtain⟨r,hr,e⟩:=gV.1 hl;exact(RL.ln_ok (hs r hr) e).1
  .obtain⟨r,hr,e⟩:=gV.1 hl;exact(RL.ln_ok (hs r hr) e).2
 .cases h
def aH7(ls:List aa):cI 9 (ls.map co):=fun d hd=>by
 obtain⟨u,_,rfl⟩:=aU.1 hd;exact⟨rfl,rfl⟩
def Tu{cs:List RL}(hs: ∀r∈cs,r.sm)(hn:cs.length<=1000):PF GB prog 47 [.ag [.sl (cs.map RL.d)]] (aNP (i8 cs)):=by
 have hm:=nj RL.d cs;refine fn (fu:=⟨13⟩) func47 J J ntmps47 J J (fun C=>?_);refine aj 11 (.d (vI (cs.length:Nat))) J omn<|gx J<|br (fu2:=⟨13⟩) J J J (fun hc12=>?_) (fun hc12=>?_)
 .
  exact rz J (absurd hc12 we)
 .
  refine aj 15 (.d (vI (cs.length:Nat))) J omn<|gx J<|nr 4 4 172 9 J J J<|lp (X:=Nat) (fun k=>[(16, .d (vI (k:Nat))),(4, .rw 4)]) (fun k=>[(4,some (.b 172 9 (((cs.take k).filterMap RL.ln).map co) true))]) (fun k=>k<=cs.length/\(cs.take k).all (fun r=>r.ln.isSome)=true) (fun k=>cs.length-k) 0 J ⟨aS _,J⟩ (fun _=>J) (fun k hk=>?_);obtain⟨h1,h2⟩:=hk;have hfl:=jT RL.ln (cs.take k);have hml:=nj co ((cs.take k).filterMap RL.ln);rw[bT] at hfl;refine br J J J (fun hc17=>?_) (fun hc17=>?_)
  .
   obtain⟨r,hx0⟩: ∃s,cs[k]? =some s:=⟨_,aQ we⟩;have hx:=hs r (aK hx0);refine ix _ J (ce hx0) J<|?_;rcases hr:r.ln with _|l
   .
    refine cl (fu:=⟨3⟩) J (Xw hx hr) J<|iG 24 J<|gx J<|rz J (by rw[He hx0 hr];rfl)
   .
    refine cl (fu:=⟨3⟩) J (Z9 hx hr) J<|fD 24 J<|gx J<|rf J J<|ap (((cs.take (k+1)).filterMap RL.ln).map co) J (by rw[Mk hx0 hr,aM];rfl) (aH7 [l]) J<|d8 30 4 J<|at_ (k+1) ⟨⟨we,Pk hx0 h2 (by rw[hr];rfl)⟩,we⟩
  .
   obtain rfl:k=cs.length:=by omega
   refine gD 4 J<|rz J (by rw[Oh h2];rfl)
def Ef{cs:List RL}(hs: ∀r∈cs,r.sm)(hn:cs.length<=1000)(h:i8 cs=some ls):PF GB prog 47 [.ag [.sl (cs.map RL.d)]] (.tp [.sl (ls.map co),vB true]):=by
 have:=Tu (GB:=GB) hs hn;rw[h] at this;exact this
def XH{cs:List RL}(hs: ∀r∈cs,r.sm)(hn:cs.length<=1000)(h:i8 cs=none):PF GB prog 47 [.ag [.sl (cs.map RL.d)]] (.tp [.sl [],vB false]):=by
 have:=Tu (GB:=GB) hs hn;rw[h] at this;exact this
def aN0:Option av->DV
 |some c=> .tp [.sl (c.map di),vB true]
 |none=> .tp [.sl [],vB false]
def Mh(h:ls[k]? =some l):eO (ls.drop k) c=if cx c l then eO (ls.drop (k+1)) (bE c l) else none:=by
 obtain⟨hk,rfl⟩:=aT.1 h;rw[bK hk,eO]
def d5.nil:d5 []:=fun s hs=>by cases hs
def LG(hb: ∀l∈ls,LB l)(ho: ∀l∈ls,l.ok)(hn:ls.length<=10000):PF GB prog 49 [.sl (ls.map co)] (aN0 (eO ls [])):=by
 have hm:=nj co ls;refine fn (fu:=⟨25⟩) func49 J J ntmps49 J J (fun C=>?_);refine aj 9 (.d (vI (ls.length:Nat))) J omn<|gx J<|zi 4 J<|YO 5 (vB true) J J<|lp (X:=av×Nat) (fun⟨c,k⟩=>[(10, .d (vI (k:Nat))),(4, .d (.sl (c.map di))),(5, .d (vB true))]) (fun⟨c,k⟩=>[]) (fun⟨c,k⟩=>k<=ls.length/\d5 c/\c.length<=k/\eO (ls.drop k) c=eO ls []) (fun⟨c,k⟩=>ls.length-k) ([],0) J ⟨aS _,d5.nil,bJ _,J⟩ (fun _=>J) (fun⟨c,k⟩ hk=>?_);obtain⟨h1,h2,h3,h4⟩:=hk;dsimp only at*;refine br J J J (fun hc11=>?_) (fun hc11=>?_)
 .
  obtain⟨l,hx0⟩: ∃s,ls[k]? =some s:=⟨_,aQ we⟩;haveI:=hb l (aK hx0);have hlo:=ho l (aK hx0);refine ix _ J (ce hx0) J<|cl J (HQ (c:=c) (l:=l) hlo h2 we) J<|bb J J J (fun hc21=>?_) (fun hc21=>?_)
  .
   refine bb J J J (fun hc24=>?_) (fun hc24=>?_)
   .
    exact rz J (by rw[<-h4,Mh hx0,if_neg (by simpa using hc21)];rfl)
   .
    exact rz J (by simp only[hc21] at hc24;simp at hc24)
  .
   refine aj 5 (.d (vB true)) J (by rw[show cx c l=true by simpa using hc21])<|at_ (bE c l,k+1) (by dsimp only;exact⟨⟨we,qC (ho l (aK hx0)) h2,by have:=sh c l;omega,by rw[<-h4,Mh hx0,if_pos (by simpa using hc21)]⟩,we⟩)
 .
  refine bb J J J (fun hc24=>?_) (fun hc24=>?_)
  .
   exact rz J (absurd hc24 oma)
  .
   exact rz J (by rw[<-h4,jW we];rfl)
def Py(hb: ∀l∈ls,LB l)(ho: ∀l∈ls,l.ok)(hn:ls.length<=10000)(h:eO ls []=some c):PF GB prog 49 [.sl (ls.map co)] (.tp [.sl (c.map di),vB true]):=by
 have:=LG (GB:=GB) hb ho hn;rw[h] at this;exact this
def MF(hb: ∀l∈ls,LB l)(ho: ∀l∈ls,l.ok)(hn:ls.length<=10000)(h:eO ls []=none):PF GB prog 49 [.sl (ls.map co)] (.tp [.sl [],vB false]):=by
 have:=LG (GB:=GB) hb ho hn;rw[h] at this;exact this
def UU: ∀{ls:List aa} {c e:av},(∀l∈ls,LB l)->(∀l∈ls,l.ok)->d5 c->eO ls c=some e->d5 e
 |[],c,e,_,_,hc,h=>by rw[eO] at h;cases h;exact hc
 |l::t,c,e,hb,ho,hc,h=>by
  rw[eO] at h;split at h
  .haveI:=hb l aZ
   exact UU (fun m hm=>hb m (aJ _ hm)) (fun m hm=>ho m (aJ _ hm)) (qC (ho l aZ) hc) h
  .cases h
def auj(h:eO ls []=some c):c.length<=ls.length:=by have:=UL h;simpa using this

section
variable {own:aO}{ops:Array Oper}{r:List Oper}{K:List Kt}
def YF(k:Nat)(hl:bi fr k=some (.d d))(h: ∀(GB':Gh) (pv:Value),bI GB GB'->Is GB' d pv->aA prog GB' C n Q0 ((k, .d (.v pv))::fr) own (.ops ops r K)):aA prog GB C n Q0 fr own (.ops ops r K):=by
 refine⟨fun ρ G ov a w r0=>?_⟩;obtain⟨y,hy,hy'⟩:=r0.fx k _ hl;refine(h G y r0.gb hy').run ρ G ov a w ⟨bI.refl _,r0.h,r0.sz,r0.df,fun j f e=>?_,r0.bx,r0.dj,r0.fxd⟩;rw[kr] at e;split at e
 .rename_i hj
  cases e;subst hj
  exact⟨y,hy,(aI (G:=G)).2 J⟩
 .exact r0.fx j f e
def Mn(fr:aC)(own:aO)(cf:Cf):Option (TypeId×Nat×Nat×List FX×Bool×FX):=match c6 fr cf with
 |some ⟨_, .store t x y,_,_,_,_⟩=>match bj (cd fr cf) x with
  |some (.ov nm 0)=>match jk fr own cf nm with
   |some (.o ty cs lo)=>match bj (cd fr cf) y with
    |some fv=>some (t,nm,ty,cs,lo,fv)
    |_=>none
   |_=>none
  |_=>none
 |_=>none
def Cu[fu:Fu]{t e:Nat}{cs:List FX}{fv:FX}{j:TypeInfo}(h:Mn fr own cf=some (t,nm,ty,cs,lo,fv))(hu:prog.underlying t=some (.array len e))(hj:prog.info? t=some j)(hc:fv.okc=true/\fv.cells.length=j.size/\j.size=cs.length)
  (hgo:cB tt n fu.n fr own cf .un [(nm,some (.o ty (xX cs 0 fv.cells) lo))] []=⟨vc,fr',own',cf'⟩)(k:aA prog GB C n Q0 fr' own' cf')
  (hv:autoParam (ak vc) cL._auto_1):aA prog GB C n Q0 fr own cf:=by
 unfold Mn at h;split at h<;>try (cases h;done)
 rename_i hh;split at h<;>try (cases h;done)
 rename_i e1;split at h<;>try (cases h;done)
 rename_i hb;split at h<;>cases h;rename_i e2;obtain⟨c1,c2,c3⟩:=hc;have:ll prog t j.size:=⟨fun w=>Bc hu w,fun w=>vJ hj w⟩;refine us hh ?_ hgo hv k;intro hd tl tb K s1 s2 hf hk;refine⟨fun ρ G ov a w r Q=>?_⟩;have r1:=r.mono s1 s2;obtain⟨p,h1,h2⟩:=r1.ev e1;obtain⟨q,h3,h4⟩:=r1.ev e2;obtain⟨b,m,rfl,ha,h5,h6⟩:=r1.own h2 hb;obtain⟨h7,h8⟩:=h4.cells c1;obtain⟨own',u1,u2,u3⟩:=iq.of_mem (cs':=cH m 0 (aG q)) h6;exact Dm h1 h3 u1 (by rw[h7.len,c2]) (by rw[h5.len,c3];omega) (dJ.2 h8) hd (fun a' w' rl=>r.wrote (m:=m) (s2 _ _ hb) ha (h5.ov h7) u2 u3 hk rl) a w Q ⟨r.h,r.sz,cC a,r.df⟩
def aNG:TypeDesc->Bool
 | .struct _=>false
 | .array _ _=>false
 |_=>true
end
def sH(ns:List NQ):Nat->Tr->Prop
 |_, .leaf _=>True
 |k, .node l x y=>ns[k]? =some ⟨l,x.num (k+1),y.num (k+1+x.size)⟩/\sH ns (k+1) x/\sH ns (k+1+x.size) y
def sH.of: ∀{t:Tr} {ns a b:List NQ} {k:Nat},ns=a++t.wr k++b->a.length=k->sH ns k t
 | .leaf _,_,_,_,_,_,_=>trivial
 | .node l x y,ns,a,b,k,e,ha=>by
  simp only[Tr.wr,dV,iJ] at e;refine⟨?_,sH.of (a:=a++[⟨l,x.num (k+1),y.num (k+1+x.size)⟩]) (b:=y.wr (k+1+x.size)++b) (by rw[e];simp) (by simp[ha]),sH.of (a:=a++⟨l,x.num (k+1),y.num (k+1+x.size)⟩::x.wr (k+1)) (b:=b) (by rw[e];simp) (by rw[aY,bZ,Tr.wr_len,ha];omega)⟩;rw[e,jZ we,ha,pK];rfl
abbrev KK (x:SV) (ns:List NQ) (A:Gh):Prop:= ∃es,gp A 8 x es/\IsLs A (ns.map eN) es
def sK(n k:Nat):List Value:=ue n (fun j=>Nat.blt j k)
def Pv(n k:Nat):(sK n k).length=n:=L3 _ _
def Tz(h:k<n):(sK n k)[k]? =some (.bool false):=HF h (by rw[Bool.eq_false_iff,ne_eq,lU];omega)
def NR(n k:Nat):(sK n k).set k (.bool true)=sK n (k+1):=by
 refine(avA n k _).trans (congrArg _ (funext fun j=>?_));unfold yk;rw[rZ,iV,lU,lU,Nat.beq_eq];omega
def TJ{a b:Int}(h:Is G (eN ⟨l,a,b⟩) v): ∃x1 x2 x3:SV,v= .agg ⟨[.bool (decide (l.a<0)), .slice x1.a x1.n x1.c, .bool (decide (l.b<0)), .slice x2.a x2.n x2.c, .bool (decide (l.c<0)), .slice x3.a x3.n x3.c, .int .i64 a, .int .i64 b]⟩/\
  Is G (eL l) (.agg ⟨[.bool (decide (l.a<0)), .slice x1.a x1.n x1.c, .bool (decide (l.b<0)), .slice x2.a x2.n x2.c, .bool (decide (l.c<0)), .slice x3.a x3.n x3.c]⟩):=aLC (n:=RN.of ⟨l,a,b⟩) h
def aHq(h:Is G (.tp [co l,vB true]) v): ∃n1 d1 p1 n2 d2 p2 n3 d3 p3,v= .tuple #[.agg ⟨[.int .i64 n1, .int .i64 d1, .pointer p1, .int .i64 n2, .int .i64 d2, .pointer p2, .int .i64 n3, .int .i64 d3, .pointer p3]⟩, .bool true]/\
  Is G (co l) (.agg ⟨[.int .i64 n1, .int .i64 d1, .pointer p1, .int .i64 n2, .int .i64 d2, .pointer p2, .int .i64 n3, .int .i64 d3, .pointer p3]⟩):=by
 obtain⟨m,rfl,g⟩:=mo.1 h;obtain⟨v1,m,rfl,h1,h⟩:=bh.1 g;obtain⟨v2,m,rfl,h2,h⟩:=bh.1 h;rw[dm] at h;subst h;obtain⟨n1,d1,p1,n2,d2,p2,n3,d3,p3,rfl⟩:=aKx h1;rw[aI.1 h2];exact⟨_,_,_,_,_,_,_,_,_,J,h1⟩
def VO(h:Is G (.tp [eL l,vB true]) v): ∃x1 x2 x3:SV,v= .tuple #[.agg ⟨[.bool (decide (l.a<0)), .slice x1.a x1.n x1.c, .bool (decide (l.b<0)), .slice x2.a x2.n x2.c, .bool (decide (l.c<0)), .slice x3.a x3.n x3.c]⟩, .bool true]/\
  Is G (eL l) (.agg ⟨[.bool (decide (l.a<0)), .slice x1.a x1.n x1.c, .bool (decide (l.b<0)), .slice x2.a x2.n x2.c, .bool (decide (l.c<0)), .slice x3.a x3.n x3.c]⟩):=by
 obtain⟨m,rfl,g⟩:=mo.1 h;obtain⟨v1,m,rfl,h1,h⟩:=bh.1 g;obtain⟨v2,m,rfl,h2,h⟩:=bh.1 h;rw[dm] at h;subst h;obtain⟨x1,x2,x3,rfl⟩:=aMu h1;rw[aI.1 h2];exact⟨_,_,_,J,h1⟩
def aL2[hl:LB l](ho:l.ok):PF GB prog 52 [eL l] (.tp [eL l,vB true]):=by
 have hm:(RN.of ⟨l,0,0⟩).g.nm:=⟨Hq _,Hq _,Hq _⟩;refine(Q1 (RN.of_sm (n:=⟨l,0,0⟩) hl) hm).to ?_;rw[nF,if_pos hm,RN.of_l,decide_eq_true ⟨hm,ho⟩]
def Sj(hv:IsLs G [eA t] vs): ∃x:SV,x.n=(t.wr 0).length/\vs=[.agg ⟨[.int .i64 (t.num 0), .slice x.a x.n x.c]⟩]/\KK x (t.wr 0) G:=by
 obtain⟨v0,m,rfl,h0,hm⟩:=bh.1 hv;rw[dm] at hm;subst hm;obtain⟨m,rfl,g⟩:=eG.1 h0;obtain⟨v1,m,rfl,h1,hm⟩:=bh.1 g;obtain⟨v2,m,rfl,h2,hm⟩:=bh.1 hm;rw[dm] at hm;subst hm;obtain⟨s0,x,es,rfl,hsl,hes⟩:=gr.1 h2;rw[aI.1 h1];have hel:=hes.len;rw[aX] at hel;have hlen:=hsl.len;rw[hel] at hlen;refine⟨x,hlen,J,es,?_,hes⟩;rcases Bx (s:=8) hsl hes (fun d hd=>by obtain⟨n,_,rfl⟩:=aU.1 hd;exact⟨rfl,rfl⟩) with e|e
 .exact⟨hsl.len,hsl.cap, .inl e⟩
 .rw[e] at hsl;exact hsl
theorem omW{p:Prop}(h:p:=by repeat (first|exact .hd .. |apply iq.tl)):p:=h
theorem ozj{p:Prop}(h:p:=by rw[hel];exact hbn):p:=h
def aMh{x:SV}(hx:KK x ns A)(hn:ns.length<=1000000): ∀{t:Tr} {k:Nat},sH ns k t->k+t.size<=ns.length->t.all LB->t.all aa.ok-> ∀{G:Gh} {rb sb:Nat} {lo lo2:Bool},[GL A G]->
  kG prog 132 [.pointer (some ⟨rb,0,none⟩), .int .i64 (t.num k)] [⟨rb,[.slice x.a x.n x.c, .slice (some ⟨sb,0,none⟩) ns.length ns.length, .int .i64 k, .bool false],242,lo⟩,⟨sb,sK ns.length k,4,lo2⟩] G
   (fun v css G'=> ∃p,v= .pointer p/\Is G' (eU t) (.pointer p)/\css=[[.slice x.a x.n x.c, .slice (some ⟨sb,0,none⟩) ns.length ns.length, .int .i64 (k+t.size:Nat), .bool false],sK ns.length (k+t.size)]):=by
 obtain⟨es,hx,hes⟩:=hx;have hel:=hes.len;rw[aX] at hel;have hlen:=hx.len;rw[hel] at hlen;obtain⟨xa,xn,xc⟩:=x;simp only[] at hlen;subst hlen;intro t
 induction t with
 |leaf bb=>
  intro k _ _ _ _ G rb sb lo lo2 _;refine kG.intro func132 J J ntmps132 J ?_;intro C _ _;show St C _ _ [⟨rb,_,_,false⟩,⟨sb,_,_,false⟩] _ _
  cases bb
  case true=>
   refine sR<|sa J J<|zE<|fy<|xE<|sR<|sm J J<|sy (mH J J) J<|sm J J<|ss J J J J<|ss J J J J<|?_;refine sy (Df J J) J<|sa J J<|zE<|uc J<|sR<|sm J J<|sy (mH J J) J<|?_;refine sc (zC J J (PF.fn0 (rg (b:=true)) (.cons (aI.2 J) .nil)) J ?_);rintro _ G1 _ hp;obtain⟨p,rfl⟩:=xH hp;refine sa J J<|zE<|me<|?_;exact u6 (css:=[_,_]) (.tmp J .nil) J _ (List.Perm.refl _) (List.Sublist.refl _) ⟨p,J,hp,J⟩
  refine sR<|sa J J<|zE<|fy<|xE<|sR<|sm J J<|sy (mH J J) J<|sm J J<|gc J J (mv J) J<|gc J J (mH J J) J<|?_;refine sy (s5 J J) J<|sa J J<|zE<|uc J<|sR<|sm J J<|sy (mH J J) J<|?_;refine sc (zC J J (PF.fn0 (rg (b:=false)) (.cons (aI.2 J) .nil)) J ?_);rintro _ G1 _ hp;obtain⟨p,rfl⟩:=xH hp;refine sa J J<|zE<|me<|?_;exact u6 (css:=[_,_]) (.tmp J .nil) J _ (List.Perm.refl _) (List.Sublist.refl _) ⟨p,J,hp,J⟩
 |node l tx ty ih1 ih2=>
  intro k ⟨h0,h1,h2⟩ hk ⟨hb,hb1,hb2⟩ ⟨ho,ho1,ho2⟩ G rb sb lo lo2 _;haveI:=hb;have hsz:k+(Tr.node l tx ty).size=k+1+tx.size+ty.size:=by simp only[Tr.size];omega
  rw[hsz] at hk⊢;have hbn:k<ns.length:=by omega
  obtain⟨z,hzi,hz⟩:=hes.get (i:=k) (by rw[bL,h0];rfl);obtain⟨x1,x2,x3,rfl,hzg⟩:=TJ hz;refine kG.intro func132 J J ntmps132 J ?_;intro C _ _;show St C _ [(0, .pointer (some ⟨rb,0,none⟩)),(1, .int .i64 (k:Int))] [⟨rb,[.slice xa ns.length xc, .slice (some ⟨sb,0,none⟩) ns.length ns.length, .int .i64 k, .bool false],_,false⟩,⟨sb,sK ns.length k,_,false⟩] _ _;refine sR<|sa J J<|zE<|fy<|xE<|sR<|sm J J<|sy (mH J J) J<|sm J J<|?_;refine zm 12 J (fun hg=>absurd hg we) (fun hg=>?_);refine gc J J (mv J) J<|gc J J (mH J J) J<|sy (s5 J J) J<|sa J J<|zE<|?_;refine vZ J (fun hc=>absurd hc we) (fun _=>?_);refine sR<|sm J J<|sy (EO J J) J<|sm J J<|?_;refine zm 22 J (fun hg=>absurd hg we) (fun hg=>?_);refine gc J J (mv J) J<|gc J J (mv J) J<|gc J J (oc J) J<|gc J J (tH J) J<|gc J J (pk J J) J<|gc J J (vQ J) J<|gc J J (Jb J J) J<|sy (s5 J J) J<|sm J J<|?_;refine zm 31 J (fun hg=>absurd hg we) (fun hg=>?_);refine gc J J (mv J) J<|gc J J (oc J) J<|gc J J (tH J) J<|gc J J (pk J J) J<|gc J J (mv J) J<|gc J J (wC J J) J<|?_;refine gc J J (pk (v:= .bool false) J (by rw[cK,jS];exact Tz hbn)) J<|sy (s5 J J) J<|sa J J<|zE<|tq J<|zK<|?_;refine sR<|sm J J<|sn J J<|sf J J<|ol J J J<|sm J J<|sy (wC J J) J<|?_;refine sc (vW J J (.tl _ _ _ _ _ _ _ _ (.hd ..)) (by rw[Pv,cK,jS];exact hbn) J J ?_);rw[cK,jS,NR];refine zE<|sR<|sm J J<|sn J J<|sf J J<|ol J J J<|sy (xG J J) J<|sn J J<|sf J J<|?_;refine sc (zR J J J omW (nb J) J J ?_)
  rw[show(k:Int)+1=((k+1:Nat):Int) by omega];refine zE<|sR<|sm J J<|sn J J<|sf J J<|ol J J J<|sm J J<|sy (aLW (z:=⟨xa,ns.length,xc⟩) hx J J we (by show(k:Int)<(ns.length:Int);omega)) J<|?_;rw[cK];refine sy (WZ (i:=k) hx J ozj hzi) J<|?_;refine sc (wF J ?_);intro b5;refine sc (FK J J J omW J (nb J) J J ?_);refine zE<|sR<|sf J J<|Ev J J J<|?_;refine sc (zC J J (PF.fn0 (Qx ho) (.cons (hzg.up GL.le) .nil)) J ?_);rintro _ G6 _ hw;obtain⟨n1,d1,p1,n2,d2,p2,n3,d3,p3,rfl,hwl⟩:=aHq hw;refine sm J J<|sx J J J<|sx J J J<|?_;refine sc (wF J ?_);intro b6;refine sc (FK J J J omW J (nb J) J J ?_);refine sa J J<|zE<|fy<|sR<|sm J J<|sy (uh J) J<|zE<|tq J<|zK<|?_;refine sR<|sm J J<|sf J J<|ol J J J<|?_;have hrp:=ih1 h1 we hb1 ho1 (G:=G6) (rb:=rb) (sb:=sb) (lo:=false) (lo2:=false);refine sc (xJ J J (jK (l₁:=[_,_]) (l₂:=[_,_])) hrp J ?_);rintro _ css G7 _ _ ⟨q1,rfl,hp1,rfl⟩;show St C _ _ [⟨rb,[.slice xa ns.length xc, .slice (some ⟨sb,0,none⟩) ns.length ns.length, .int .i64 (k+1+tx.size:Nat), .bool false],242,false⟩,⟨sb,sK ns.length (k+1+tx.size),4,false⟩,⟨b6,[.int .i64 n1, .int .i64 d1, .pointer p1, .int .i64 n2, .int .i64 d2, .pointer p2, .int .i64 n3, .int .i64 d3, .pointer p3],172,true⟩,⟨b5,[.bool (decide (l.a<0)), .slice x1.a x1.n x1.c, .bool (decide (l.b<0)), .slice x2.a x2.n x2.c, .bool (decide (l.c<0)), .slice x3.a x3.n x3.c, .int .i64 (tx.num (k+1)), .int .i64 (ty.num (k+1+tx.size))],164,true⟩] _ _
  refine sa J J<|zE<|fy<|?_;refine wH [⟨b6,[.int .i64 n1, .int .i64 d1, .pointer p1, .int .i64 n2, .int .i64 d2, .pointer p2, .int .i64 n3, .int .i64 d3, .pointer p3],172,true⟩,⟨b5,[.bool (decide (l.a<0)), .slice x1.a x1.n x1.c, .bool (decide (l.b<0)), .slice x2.a x2.n x2.c, .bool (decide (l.c<0)), .slice x3.a x3.n x3.c, .int .i64 (tx.num (k+1)), .int .i64 (ty.num (k+1+tx.size))],164,true⟩] (fun _=>false) [(0,true),(1,true),(2,true),(3,true),(4,true),(5,false),(6,false),(7,true)] follows omd<|?_;refine dL J J J J<|dM J J J<|dM J J J<|dF J J J<|rO J J J J<|?_;have hrp:=ih2 h2 hk hb2 ho2 (G:=G7) (rb:=rb) (sb:=sb) (lo:=false) (lo2:=false);refine dc J J (xJ J J (M:=[_,_]) (rest:=[_,_]) (List.Perm.refl _) hrp J ?_);rintro _ css G8 _ _ ⟨q2,rfl,hp2,rfl⟩;show St C _ _ [⟨rb,[.slice xa ns.length xc, .slice (some ⟨sb,0,none⟩) ns.length ns.length, .int .i64 (k+1+tx.size+ty.size:Nat), .bool false],242,false⟩,⟨sb,sK ns.length (k+1+tx.size+ty.size),4,false⟩,⟨b6,[.int .i64 n1, .int .i64 d1, .pointer p1, .int .i64 n2, .int .i64 d2, .pointer p2, .int .i64 n3, .int .i64 d3, .pointer p3],172,true⟩,⟨b5,[.bool (decide (l.a<0)), .slice x1.a x1.n x1.c, .bool (decide (l.b<0)), .slice x2.a x2.n x2.c, .bool (decide (l.c<0)), .slice x3.a x3.n x3.c, .int .i64 (tx.num (k+1)), .int .i64 (ty.num (k+1+tx.size))],164,true⟩] _ _;refine mr<|?_;refine dc J J (zC J J (PF.fn0 (yq (l:=l) (x:=tx) (y:=ty)) (.cons (hwl.up GL.le) (.cons (hp1.up GL.le) (.cons hp2 .nil)))) J ?_);rintro _ G9 _ hp;obtain⟨p,rfl⟩:=xH hp
  refine mr<|dA J J J<|dn<|me<|?_;exact u6 (css:=[_,_]) (.tmp J .nil) J _ (List.Perm.refl _) (.cons_cons _ (.cons_cons _ (jV _))) ⟨p,J,hp,J⟩
def aMe(hb:t.all LB)(ho:t.all aa.ok)(hs:t.size<=65536):PF GB prog 74 [eA t] (.tp [eU t,vB true]):=by
 intro G vs _ hv;obtain⟨⟨xa,xn,xc⟩,rfl,rfl,hx⟩:=Sj hv;have hn:=t.wr_len 0;show Fn _ _ [.agg ⟨[.int .i64 (t.num 0), .slice xa (t.wr 0).length xc]⟩] _ _;refine Fn.intro func74 J J ntmps74 J ?_;intro C _ _;refine sR<|?_;refine sc (t6 J J ?_);intro b1;refine sa J J<|sa J J<|zE<|fy<|sR<|sf J J<|ol J J J<|uC J J<|sy (AQ J J) J<|zE<|?_;refine vZ J (fun hc=>absurd hc we) (fun _=>?_);refine zK<|fy<|dr (fun _=>false) [(0,true),(1,true),(2,true),(3,true),(4,true),(5,false),(6,true),(7,false),(8,true)] follows omd<|dF J J J<|?_;refine rO J J J J<|dF J J J<|rO J J J J<|dy J (fun _=>vQ J) J J<|?_;refine dc J J (Jh J J we we we okL J ?_);intro b2;rw[cK,LO];refine mr<|dy J (fun _=>xZ J) J J<|?_;refine dc J J (t6 J J ?_);intro b3;refine mr<|dA J J J<|dn<|sR<|sm J J<|sf J J<|ol J J J<|?_;refine sc (xJ J J (M:=[_,_]) (rest:=[_]) (List.Perm.refl _) (aMh hx we (sH.of (a:=[]) (b:=[]) (k:=0) omc J) we hb ho (G:=G) (rb:=b3) (sb:=b2) (lo:=true) (lo2:=true)) J ?_);rintro _ css G4 _ _ ⟨p,rfl,hp,rfl⟩;show St C _ _ [⟨b3,[.slice xa (t.wr 0).length xc, .slice (some ⟨b2,0,none⟩) (t.wr 0).length (t.wr 0).length, .int .i64 (0+t.size:Nat), .bool false],242,true⟩,⟨b2,sK (t.wr 0).length (0+t.size),4,true⟩,⟨b1,[.int .i64 (t.num 0), .slice xa (t.wr 0).length xc],39,true⟩] _ _;refine sa J J<|zE<|fy<|fy<|dr (fun _=>false) [(0,true),(1,true),(2,true),(3,true),(4,true),(5,true),(6,true),(7,true),(8,true),(9,true),(10,true),(11,true),(12,true),(13,true)] follows omd<|?_
 refine dM J J J<|dy J (fun _=>oc J) J J<|dF J J J<|rO J J J J<|dM J J J<|?_;refine ww J J J J (fun _=>mv J) J<|ww J J J J (fun _=>oc J) J<|ww J J J J (fun _=>tH J) J<|ww J J J J (fun _=>pk J J) J<|?_;refine ww J J J J (fun _=>tH J) J<|ww J J J J (fun _=>pk J J) J<|ww J J J J (fun _=>vQ J) J<|ww J J J J (fun _=>TB J J) J<|?_;refine dy J (fun _=>s5 J J) J J<|dn<|?_;refine vZ J (fun hc=>absurd hc we) (fun _=>?_);refine zK<|sR<|sm J J<|sa J J<|sa J J<|zE<|me<|?_;refine zD (.tmp J (.tmp J .nil)) ?_;exact mo.2 ⟨_,J, .cons hp (.cons (aI.2 J) .nil)⟩
def aMo{x:SV}{r0:Int}(hx:KK x ns A)(hn:ns.length<=1000000): ∀{t:Tr} {k:Nat},sH ns k t->k+t.size<=ns.length->t.all LB->t.all aa.ok-> ∀{G:Gh} {sb:Nat} {lo2:Bool},[GL A G]->
  kG prog 61 [.agg ⟨[.int .i64 r0, .slice x.a x.n x.c]⟩, .int .i64 (t.num k), .slice (some ⟨sb,0,none⟩) ns.length ns.length] [⟨sb,sK ns.length k,4,lo2⟩] G
   (fun v css G'=> ∃q,v= .tuple #[.pointer q, .bool true]/\Is G' (eT t) (.pointer q)/\css=[sK ns.length (k+t.size)]):=by
 obtain⟨es,hx,hes⟩:=hx;have hel:=hes.len;rw[aX] at hel;have hlen:=hx.len;rw[hel] at hlen;obtain⟨xa,xn,xc⟩:=x;simp only[] at hlen;subst hlen;intro t
 induction t with
 |leaf bb=>
  intro k _ _ _ _ G sb lo2 _;refine kG.intro func61 J J ntmps61 J ?_;intro C _ _;show St C _ [(0, .agg ⟨[.int .i64 r0, .slice xa ns.length xc]⟩),(1, .int .i64 (M6 bb)),(2, .slice (some ⟨sb,0,none⟩) ns.length ns.length)] [⟨sb,sK ns.length k,_,false⟩] _ _;refine sR<|?_;refine sc (t6 J J ?_);intro b1;refine sa J J<|sa J J<|zE<|fy<|sR<|sm J J<|sy (mH J J) J<|sm J J<|?_
  cases bb
  case true=>
   refine ss J J J J<|ss J J J J<|sy (Df J J) J<|?_;refine zE<|uc J<|sR<|sm J J<|sy (mH J J) J<|sy (xZ J) J<|?_;refine sc (t6 J J ?_);intro b2;refine sa J J<|sa J J<|zE<|me<|?_;refine Bm b2 (.hd ..) ?_;intro G9 _ hfz;exact u6 (css:=[_]) (.tmp J (.tmp J .nil)) J (_::[_]) (jK (l₁:=[_]) (l₂:=[_])) (.cons_cons _ (jV _)) ⟨_,J,lG.2 ⟨b2,_,J,hfz.h,M5⟩,J⟩
  refine gc J J (mv J) J<|gc J J (mH J J) J<|sy (s5 J J) J<|?_;refine zE<|uc J<|sR<|sm J J<|sy (mH J J) J<|sy (xZ J) J<|?_;refine sc (t6 J J ?_);intro b2;refine sa J J<|sa J J<|zE<|me<|?_;refine Bm b2 (.hd ..) ?_;intro G9 _ hfz;exact u6 (css:=[_]) (.tmp J (.tmp J .nil)) J (_::[_]) (jK (l₁:=[_]) (l₂:=[_])) (.cons_cons _ (jV _)) ⟨_,J,lG.2 ⟨b2,_,J,hfz.h,M5⟩,J⟩
 |node l tx ty ih1 ih2=>
  intro k ⟨h0,h1,h2⟩ hk ⟨hb,hb1,hb2⟩ ⟨ho,ho1,ho2⟩ G sb lo2 _;haveI:=hb;have hsz:k+(Tr.node l tx ty).size=k+1+tx.size+ty.size:=by simp only[Tr.size];omega
  rw[hsz] at hk⊢;have hbn:k<ns.length:=by omega
  obtain⟨z,hzi,hz⟩:=hes.get (i:=k) (by rw[bL,h0];rfl);obtain⟨x1,x2,x3,rfl,hzg⟩:=TJ hz;obtain⟨ab,aoff,acs,ha,hga,hca⟩:=hx.mem.resolve_left (fun e=>by rw[e] at hel;simp at hel;omega);simp only at ha;subst ha;haveI:vd A ab acs:=⟨hga⟩;obtain⟨hk0,hk6,hk7⟩:=Xn (by
   have h9:=hca k ozj;rw[show es[k]' ozj=_ from Option.some.inj ((aQ ozj).symm.trans hzi)] at h9;exact h9)
  refine kG.intro func61 J J ntmps61 J ?_;intro C _ _;show St C _ [(0, .agg ⟨[.int .i64 r0, .slice (some ⟨ab,aoff,none⟩) ns.length xc]⟩),(1, .int .i64 (k:Int)),(2, .slice (some ⟨sb,0,none⟩) ns.length ns.length)] [⟨sb,sK ns.length k,_,false⟩] _ _;refine sR<|?_;refine sc (t6 J J ?_);intro b1;refine sa J J<|sa J J<|zE<|fy<|sR<|sm J J<|sy (mH J J) J<|sm J J<|?_;refine zm 14 J (fun hg=>absurd hg we) (fun hg=>?_);refine gc J J (mv J) J<|gc J J (mH J J) J<|sy (s5 J J) J<|zE<|?_;refine vZ J (fun hc=>absurd hc we) (fun _=>?_);refine zK<|fy<|sR<|sm J J<|sy (EO J J) J<|sm J J<|?_;refine zm 24 J (fun hg=>absurd hg we) (fun hg=>?_);refine gc J J (mv J) J<|gc J J (tH J) J<|gc J J (pk J J) J<|gc J J (vQ J) J<|gc J J (Jb J J) J<|sy (s5 J J) J<|sm J J<|?_;refine zm 31 J (fun hg=>absurd hg we) (fun hg=>?_);refine gc J J (mv J) J<|gc J J (mv J) J<|gc J J (wC J J) J<|?_;refine gc J J (pk (v:= .bool false) J (by rw[cK,jS];exact Tz hbn)) J<|sy (s5 J J) J<|zE<|tq J<|?_;refine zK<|sR<|sm J J<|sm J J<|sy (wC J J) J<|?_;refine sc (vW J J (.tl _ _ _ _ _ _ _ _ (.hd ..)) (by rw[Pv,cK,jS];exact hbn) J J ?_);rw[cK,jS,NR];refine zE<|sR<|sf J J<|ol J J J<|sm J J<|sy (xW J J) J<|?_;rw[cK];refine sf J J<|slg J hk0 J<|?_;refine sc (zC J J (PF.fn0 (aL2 ho) (.cons (hzg.up GL.le) .nil)) J ?_);rintro _ G6 _ hw;obtain⟨y1,y2,y3,rfl,hw'⟩:=VO hw;refine sm J J<|sx J J J<|sx J J J<|?_;refine sc (wF J ?_);intro b3;refine sc (FK J J J omW J (nb J) J J ?_)
  refine sa J J<|zE<|fy<|sR<|sm J J<|sy (uh J) J<|zE<|?_;refine tq J<|zK<|?_;show St C _ _ [⟨b3,[.bool (decide (l.a<0)), .slice y1.a y1.n y1.c, .bool (decide (l.b<0)), .slice y2.a y2.n y2.c, .bool (decide (l.c<0)), .slice y3.a y3.n y3.c],99,true⟩,⟨b1,[.int .i64 r0, .slice (some ⟨ab,aoff,none⟩) ns.length xc],39,true⟩,⟨sb,sK ns.length (k+1),4,false⟩] _ _;refine fy<|wH [⟨b1,[.int .i64 r0, .slice (some ⟨ab,aoff,none⟩) ns.length xc],39,true⟩] (fun _=>false) [(0,true),(1,true),(2,true),(3,true),(4,true),(5,true),(6,true),(7,true),(8,false),(9,true),(10,true),(11,true),(12,true),(13,true)] follows omd<|?_;refine dL J J J J<|dF J J J<|rO J J J J<|dM J J J<|?_;refine dy J (fun _=>xW J J) J J<|dF J J J<|?_;refine dy J (fun _=>si J vu (by rw[cK];exact hk6)) J J<|dM J J J<|?_;have hrp:=ih1 h1 we hb1 ho1 (G:=G6) (sb:=sb) (lo2:=false);refine dc J J (xJ J J (M:=[_]) (rest:=[_,_]) (jK (l₁:=[_,_]) (l₂:=[_])) hrp J ?_);rintro _ css G7 _ _ ⟨a1,rfl,hq1,rfl⟩;show St C _ _ [⟨sb,sK ns.length (k+1+tx.size),4,false⟩,⟨b3,[.bool (decide (l.a<0)), .slice y1.a y1.n y1.c, .bool (decide (l.b<0)), .slice y2.a y2.n y2.c, .bool (decide (l.c<0)), .slice y3.a y3.n y3.c],99,true⟩,⟨b1,[.int .i64 r0, .slice (some ⟨ab,aoff,none⟩) ns.length xc],39,true⟩] _ _;refine mr<|dM J J J<|dy J (fun _=>xk J J) J J<|dy J (fun _=>xk J J) J J<|dA J J J<|?_;refine dA J J J<|dn<|?_;refine fy<|sR<|sm J J<|sy (uh J) J<|zE<|tq J<|zK<|?_;refine fy<|wH [⟨b1,[.int .i64 r0, .slice (some ⟨ab,aoff,none⟩) ns.length xc],39,true⟩] (fun _=>false) [(0,true),(1,true),(2,true),(3,true),(4,true),(5,true),(6,true),(7,true),(8,false),(9,true),(10,true),(11,true),(12,true),(13,true)] follows omd<|?_
  refine dL J J J J<|dF J J J<|rO J J J J<|dM J J J<|?_;refine dy J (fun _=>xW J J) J J<|dF J J J<|?_;refine dy J (fun _=>si J vu (by rw[cK];exact hk7)) J J<|dM J J J<|?_;have hrp:=ih2 h2 hk hb2 ho2 (G:=G7) (sb:=sb) (lo2:=false);refine dc J J (xJ J J (M:=[_]) (rest:=[_,_]) (List.Perm.refl _) hrp J ?_);rintro _ css G8 _ _ ⟨a2,rfl,hq2,rfl⟩;show St C _ _ [⟨sb,sK ns.length (k+1+tx.size+ty.size),4,false⟩,⟨b3,[.bool (decide (l.a<0)), .slice y1.a y1.n y1.c, .bool (decide (l.b<0)), .slice y2.a y2.n y2.c, .bool (decide (l.c<0)), .slice y3.a y3.n y3.c],99,true⟩,⟨b1,[.int .i64 r0, .slice (some ⟨ab,aoff,none⟩) ns.length xc],39,true⟩] _ _;refine mr<|dM J J J<|dy J (fun _=>xk J J) J J<|dy J (fun _=>xk J J) J J<|dA J J J<|?_;refine dA J J J<|dn<|?_;refine sR<|Ev J J J<|sm J J<|sm J J<|sy (xZ J) J<|?_;refine sc (t6 J J ?_);intro b6;refine sm J J<|sa J J<|sa J J<|zE<|me<|?_;refine Bm b6 (.hd ..) ?_;intro G9 _ hfz;exact u6 (css:=[_]) (.tmp J (.tmp J .nil)) J (_::[_,_]) (List.Perm.refl _) (.cons_cons _ (jV _)) ⟨_,J,lG.2 ⟨b6,_,J,hfz.h,aHw (hw'.up GL.le) (hq1.up GL.le) (hq2.up GL.le)⟩,J⟩
def Vy(hb:t.all LB)(ho:t.all aa.ok)(hs:t.size<=65536):PF GB prog 26 [eA t] (.tp [eT t,vB true]):=by
 intro G vs _ hv;obtain⟨⟨xa,xn,xc⟩,rfl,rfl,hx⟩:=Sj hv;have hn:=t.wr_len 0;show Fn _ _ [.agg ⟨[.int .i64 (t.num 0), .slice xa (t.wr 0).length xc]⟩] _ _;refine Fn.intro func26 J J ntmps26 J ?_;intro C _ _;refine sR<|?_;refine sc (t6 J J ?_);intro b1;refine sa J J<|sa J J<|zE<|fy<|sR<|sf J J<|ol J J J<|uC J J<|sy (AQ J J) J<|zE<|?_;refine vZ J (fun hc=>absurd hc we) (fun _=>?_);refine zK<|sR<|sf J J<|ol J J J<|uC J J<|?_;refine sc (Jh J J we we we okL J ?_);intro b2;rw[cK,LO];refine sa J J<|zE<|sR<|Ev J J J<|sf J J<|ol J J J<|sm J J<|?_;refine sc (xJ J J (M:=[_]) (rest:=[_]) (List.Perm.refl _) (aMo (r0:=t.num 0) hx we (sH.of (a:=[]) (b:=[]) (k:=0) omc J) we hb ho (G:=G) (sb:=b2) (lo2:=true)) J ?_);rintro _ css G3 _ _ ⟨q,rfl,hq,rfl⟩;show St C _ _ [⟨b2,sK (t.wr 0).length (0+t.size),4,true⟩,⟨b1,[.int .i64 (t.num 0), .slice xa (t.wr 0).length xc],39,true⟩] _ _;refine sm J J<|sx J J J<|sx J J J<|sa J J<|sa J J<|zE<|fy<|sR<|sm J J<|uC J J<|sm J J<|zE<|xE<|?_;refine P8 (X:=Nat) (fun i=>[(27, .int .i64 (i:Nat)),(26, .int .i64 (t.wr 0).length),(25, .slice (some ⟨b2,0,none⟩) (t.wr 0).length (t.wr 0).length),(6, .bool true),(5, .pointer q)]) (fun _=>[⟨b2,sK (t.wr 0).length (0+t.size),4,true⟩,⟨b1,[.int .i64 (t.num 0), .slice xa (t.wr 0).length xc],39,true⟩]) (fun i _=>i<=(t.wr 0).length) (fun i=>(t.wr 0).length-i) 0 (aS _) (.cons J (.cons J (.cons J (.cons J (.cons J .nil))))) J ?_;rintro i Gx _ hi;refine sR<|sy (EO J J) J<|zE<|fy<|?_
 refine PJ J (fun hc=>?_) (fun hc=>?_)
 .refine TS<|E6<|E6<|Od<|sR<|sm J J<|sm J J<|sa J J<|sa J J<|zE<|me<|?_
  exact zD (.tmp J (.tmp J .nil)) (mo.2 ⟨_,J, .cons (hq.up GL.le) (.cons (aI.2 J) .nil)⟩)
 have hi':i<(t.wr 0).length:=by omega
 refine zK<|fy<|xE<|sR<|sy (wC J J) J<|?_;refine sy (pk (v:= .bool true) J (by rw[cK,jS];exact HF hi' (by rw[lU];omega))) J<|sa J J<|zE<|D9<|sm J J<|sm J J<|?_;refine gc J J (mv J) J<|sy (Df J J) J<|sa J J<|zE<|D9<|sy (xG J J) J<|sm J J<|zE<|?_;exact Iy (i+1) hi' we (.cons (by show some (Value.int _ _)=some (.int _ _);congr 2) (.cons J (.cons J (.cons J (.cons J .nil))))) J
def HI(h:gP k t):PF GB prog 74 [eA t] (.tp [eU t,vB true]):=aMe h.lb h.ok (by have:=h.s;omega)
end Go.Sx
end
