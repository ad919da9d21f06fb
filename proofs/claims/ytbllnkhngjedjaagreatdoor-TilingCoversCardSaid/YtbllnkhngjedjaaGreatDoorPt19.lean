import Derived.Test.YtbllnkhngjedjaaGreatDoorPt18
set_option linter.all false
set_option maxHeartbeats 4000000
set_option maxRecDepth 100000
section
namespace Go.Sx
open Go Go.Proofs Tryz
variable {GB:Gh}
def UB(p r:ZP):(gt p.q r.q<0↔vO p r<0)/\(gt p.q r.q=0↔vO p r=0):=by
 have e1: ∀a b:Int,bg (a:Rat) (b:Rat)<0↔a<b:=fun a b=>by rw[AP,Rat.intCast_lt_intCast]
 have e2: ∀a b:Int,bg (a:Rat) (b:Rat)=0↔a=b:=fun a b=>by rw[tc,oQ]
 have f1:=e1 p.1 r.1;have f2:=e2 p.1 r.1;have f3:=e1 p.2 r.2;have f4:=e2 p.2 r.2;show(gt ⟨(p.1:Rat),(p.2:Rat)⟩ ⟨(r.1:Rat),(r.2:Rat)⟩<0↔_)/\(gt ⟨(p.1:Rat),(p.2:Rat)⟩ ⟨(r.1:Rat),(r.2:Rat)⟩=0↔_);unfold gt vO;dsimp only;generalize bg (p.1:Rat) (r.1:Rat)=u at*;generalize bg (p.2:Rat) (r.2:Rat)=v at*;by_cases h:p.1<r.1
 .rw[if_pos (by omega),if_pos h];omega
 .by_cases h2:r.1<p.1
  .rw[if_pos (by omega),if_neg h,if_pos h2];omega
  .rw[if_neg (by omega),if_neg h,if_neg h2]
   by_cases h3:p.2<r.2
   .rw[if_pos h3];omega
   .rw[if_neg h3]
    split<;>omega
def Mc(x:ZP): ∀l:List ZP,dC gt x.q (l.map ZP.q)=(ta x l).map ZP.q
 |[]=>rfl
 |u::t=>by
  obtain⟨h1,h2⟩:=UB u x;rw[cV,dC,ta,Mc x t];by_cases k1:vO u x<0
  .rw[if_pos (h1.2 k1),if_pos k1];rfl
  .rw[if_neg (fun e=>k1 (h1.1 e)),if_neg k1]
   by_cases k2:vO u x=0
   .rw[if_pos (h2.2 k2),if_pos k2];rfl
   .rw[if_neg (fun e=>k2 (h2.1 e)),if_neg k2];rfl
def Z'(l:List ZP):ue gt (l.map ZP.q)=(uN l).map ZP.q:=by
 have key: ∀(l o:List ZP),(l.map ZP.q).foldl (fun out x=>dC gt x out) (o.map ZP.q)=(l.foldl (fun out x=>ta x out) o).map ZP.q:=by
  intro l
  induction l with
  |nil=>intro o;rfl
  |cons x t ih=>intro o;rw[cV,kV,kV,Mc,ih]
 exact key l []
def Rn(l:List ZP):(l.map ZP.q).map eP=l.map io:=by rw[qV];rfl
def MY{l:List ZP}(h: ∀p∈l,ZP.le 100 p)(hn:l.length<=100000:=by omega):PF GB prog 100 [.sl (l.map io)] (.sl ((uN l).map io)):=by
 have:=TG (GB:=GB) (ps:=l.map ZP.q) (Hb h) (by rw[aJ];exact hn);rw[Z',Rn,Rn] at this;exact this
def X6(u v:ZP):(aa.cross (iP u.1 u.2) (iP v.1 v.2))=((wh u v:Int):Rat):=by
 unfold aa.cross iP wh;push_cast;rfl
def I6(u v:ZP):(aa.cross (iP u.1 u.2) (iP v.1 v.2)).num.sign≠0↔wh u v≠0:=by
 rw[X6,rQ];exact not_congr jY
def VE{α β:Type}(f:α->β)(l:List α):((l.map f).take (l.length-1)).drop 0=l.dropLast.map f:=by
 rw[iZ,<-gR,List.dropLast_eq_take]
def LY{l:List ZP}(h:0<l.length:=by omega): ∃u,l.getLast? =some u/\l[l.length-1]? =some u/\l.getD (l.length-1) (0,0)=u:=by
 refine⟨l[l.length-1],?_,aQ (by omega),?_⟩
 .rw[mQ];exact aQ (by omega)
 .rw[aX,aQ (by omega)];rfl
def WQ{l:List ZP}(h:0<l.length): ∃u,l[0]? =some u/\l.getD 0 (0,0)=u:=by
 refine⟨l[0],aQ (by omega),?_⟩;rw[aX,aQ (by omega)];rfl
def CA{u p:ZP}:(u.1=p.1/\u.2=p.2)↔u=p:=⟨fun h=>Prod.ext h.1 h.2,fun h=>by rw[h];exact⟨J,J⟩⟩
def MW{b:Nat}{es:List Int}(hes:es.length<=400){a:Nat}(ha:a<=es.length):PM GB prog 48 (iH [none] b) b 64 [.sl (es.map vI), .v (.int .i64 (a:Nat))] (nC (fI es a).1) [.sl (es.map vI), .v (.int .i64 ((fI es a).2:Nat))]:=by
 have hk0:=gG (n:=4) ha;refine tC (fu:=⟨6⟩) func48 J J ntmps48 J J (fun C b m lo hmb=>?_);refine mg (X:=Nat) (fun a2=>[]) (fun a2=>[(1000000,some (.o 64 [.d (.sl (es.map vI)), .d (.v (.int .i64 (a2:Nat)))] false))]) (fun a2=>fI es a=sB es a2/\a2<=es.length) [] [1000000] rfl ?_ (fun _=>J) (fun a2 ⟨hR,ha2⟩=>?_)
 .
  refine gx J<|cm J (fun b=>(oq (n:=4) hes ha)) J<|?_;refine br J J J (fun hc15=>?_) (fun hc15=>?_)
  .
   have hx1:=gG (n:=5) hk0;have hy1:=gG (n:=5) hx1;have hz1:=gG (n:=4) hy1;have hw1:=gG (n:=4) hz1;have hl0:=kG (es:=es) (n:=5) (a:=(av es 4 a).2);have hl1:=kG (es:=es) (n:=5) (a:=(av es 5 (av es 4 a).2).2);have hl2:=kG (es:=es) (n:=4) (a:=(av es 5 (av es 5 (av es 4 a).2).2).2);have hl3:=kG (es:=es) (n:=4) (a:=(av es 4 (av es 5 (av es 5 (av es 4 a).2).2).2).2);refine cm J (fun b=>(oq (n:=5) hes hk0)) J<|cm J (fun b=>(oq (n:=5) hes hx1)) J<|?_;refine cm J (fun b=>(oq (n:=4) hes hy1)) J<|cm J (fun b=>(oq (n:=4) hes hz1)) J<|?_;refine cl J (m9 (m:=(((av es 5 (av es 4 a).2).1:Int)-4)) (n:=(((av es 5 (av es 5 (av es 4 a).2).2).1:Int)-4))) J<|?_;refine cl J (m9 (m:=(((av es 5 (av es 4 a).2).1:Int)-4+1+((av es 4 (av es 5 (av es 5 (av es 4 a).2).2).2).1:Int))) (n:=(((av es 5 (av es 5 (av es 4 a).2).2).1:Int)-4))) J<|?_;refine cl J (m9 (m:=(((av es 5 (av es 4 a).2).1:Int)-4+1+((av es 4 (av es 5 (av es 5 (av es 4 a).2).2).2).1:Int))) (n:=(((av es 5 (av es 5 (av es 4 a).2).2).1:Int)-4+1+((av es 4 (av es 4 (av es 5 (av es 5 (av es 4 a).2).2).2).2).1:Int)))) J<|?_;refine cl J (m9 (m:=(((av es 5 (av es 4 a).2).1:Int)-4)) (n:=(((av es 5 (av es 5 (av es 4 a).2).2).1:Int)-4+1+((av es 4 (av es 4 (av es 5 (av es 5 (av es 4 a).2).2).2).2).1:Int)))) J<|?_;refine rf J J<|?_
   exact jE hmb J J (by rw[show fI es a=_ from if_pos hc15];rfl) (by rw[show fI es a=_ from if_pos hc15];rfl)
  .
   refine br J J J (fun hc46=>?_) (fun hc46=>?_)
   .
    obtain⟨hp1,hp2,hp3⟩:=xO hk0;obtain⟨hu1,hu2,hu3,hu4⟩:=Ee hp3;obtain⟨hv1,hv2,hv3,hv4⟩:=Ee hu4;haveI:=jz (k:=10) (m:=(vF es (pF es (av es 4 a).2).2).1.1) (by omega);haveI:=jz (k:=10) (m:=(vF es (pF es (av es 4 a).2).2).1.2) (by omega);haveI:=jz (k:=10) (m:=(vF es (vF es (pF es (av es 4 a).2).2).2).1.1) (by omega);haveI:=jz (k:=10) (m:=(vF es (vF es (pF es (av es 4 a).2).2).2).1.2) (by omega);refine cm J (fun b=>(E8 hes hk0)) J<|cm J (fun b=>(P3 hes hp3)) J<|cm J (fun b=>(P3 hes hu4)) J<|cl J (D3 (p:=iP (vF es (pF es (av es 4 a).2).2).1.1 (vF es (pF es (av es 4 a).2).2).1.2) (q:=iP (vF es (vF es (pF es (av es 4 a).2).2).2).1.1 (vF es (vF es (pF es (av es 4 a).2).2).2).1.2)) J<|?_;refine cl J (qm (q:=aa.cross (iP (vF es (pF es (av es 4 a).2).2).1.1 (vF es (pF es (av es 4 a).2).2).1.2) (iP (vF es (vF es (pF es (av es 4 a).2).2).2).1.1 (vF es (vF es (pF es (av es 4 a).2).2).2).1.2))) J<|?_;refine br J J J (fun hc58=>?_) (fun hc58=>?_)
    .
     refine cl J (lu (n:=1)) J<|cl J (Ii (m:=(pF es (av es 4 a).2).1.1) (n:=(pF es (av es 4 a).2).1.2) (m':=(vF es (pF es (av es 4 a).2).2).1.1) (n':=(vF es (pF es (av es 4 a).2).2).1.2) (k:=1) (by omega) (by omega) (by omega) (by omega)) J<|?_;refine cl J (lu (n:=1)) J<|cl J (Ii (m:=(pF es (av es 4 a).2).1.1) (n:=(pF es (av es 4 a).2).1.2) (m':=(vF es (vF es (pF es (av es 4 a).2).2).2).1.1) (n':=(vF es (vF es (pF es (av es 4 a).2).2).2).1.2) (k:=1) (by omega) (by omega) (by omega) (by omega)) J<|?_;refine rf J J<|?_;exact jE hmb J J (by rw[show fI es a=_ from(if_neg hc15).trans ((if_pos hc46).trans (if_pos ((I6 _ _).1 hc58)))];rfl) (by rw[show fI es a=_ from(if_neg hc15).trans ((if_pos hc46).trans (if_pos ((I6 _ _).1 hc58)))])
    .
     exact at_ (vF es (vF es (pF es (av es 4 a).2).2).2).2 ⟨(if_neg hc15).trans ((if_pos hc46).trans (if_neg (fun e=>hc58 ((I6 _ _).2 e)))),hv4⟩
   .
    exact at_ (av es 4 a).2 ⟨(if_neg hc15).trans (if_neg hc46),hk0⟩
 .
  have hj1:=kG (es:=es) (n:=4) (a:=a2);have hj2:=gG (n:=4) ha2;refine cm J (fun b=>(oq (n:=4) hes ha2)) J<|?_;refine nr 10 10 46 6 J J J ?_;refine lp (X:=List ZP×Nat×Nat) (fun⟨r,i,a3⟩=>[(11, .d (vI (i:Nat))),(10, .rw 10)]) (fun⟨r,i,a3⟩=>[(1000000,some (.o 64 [.d (.sl (es.map vI)), .d (.v (.int .i64 (a3:Nat)))] false)),(10,some (.b 46 6 (r.map io) true))]) (fun⟨r,i,a3⟩=>ol es i a3 r=ol es (3+(av es 4 a2).1) (av es 4 a2).2 []/\a3<=es.length/\l5 r/\r.length+i<=6) (fun⟨r,i,a3⟩=>i) ⟨[],3+(av es 4 a2).1,(av es 4 a2).2⟩ J ⟨J,hj2,l5.nil,by simp;omega⟩ (fun _=>J) (fun⟨r,i,a3⟩ hk=>?_)
  try dsimp only at hk⊢
  obtain⟨h1,h2,h3,h4⟩:=hk;have hrl:(r.map io).length=r.length:=by simp
  refine br (fu2:=⟨0⟩) J J J (fun hc73=>?_) (fun hc73=>?_)
  .
   obtain⟨j,rfl⟩: ∃j,i=j+1:=⟨i-1,by omega⟩;obtain⟨hq1,hq2,hq3⟩:=xO h2;refine cm (fu:=⟨8⟩) J (fun b=>(E8 hes h2)) J<|?_;refine mr (v1:=fun hg80=>by simp only[ah];kernel_rfl) J J J J (fun hg80=>?_) (fun hg80=>?_)
   .
    have hlast: ¬r.getLast? =some (pF es a3).1:=by rw[bS (l:=r) (by omega)];simp
    refine rf J J<|ap ((r++[(pF es a3).1]).map io) J (by rw[bY];rfl) (GJ [_]) J<|?_;refine fE 95 10 J ?_;exact at_ ⟨r++[(pF es a3).1],j,(pF es a3).2⟩ (by dsimp only;exact⟨⟨by rw[<-h1,ol,if_neg hlast],hq3,h3.snoc ⟨by omega,by omega⟩ hlast,by simp;omega⟩,(by omega)⟩)
   .
    obtain⟨q,hq,hqi,hqd⟩:=LY (l:=r);have hqm:=h3.le q (oW hq);unfold ZP.le at hqm;refine lb (io q) J (by rw[show(((r.map io).length:Nat):Int)-1=((r.length-1:Nat):Int) by omega];exact cA hqi) J<|cl J (HP (m:=q.1) (n:=q.2) (m':=(pF es a3).1.1) (n':=(pF es a3).1.2)) J<|?_;refine bb J J J (fun hc91=>?_) (fun hc91=>?_)
    .
     have hlast: ¬r.getLast? =some (pF es a3).1:=by rw[hq];intro e;have:=CA.2 (Option.some.inj e);simp[this] at hc91
     refine rf J J<|ap ((r++[(pF es a3).1]).map io) J (by rw[bY];rfl) (GJ [_]) J<|?_;refine fE 95 10 J ?_;exact at_ ⟨r++[(pF es a3).1],j,(pF es a3).2⟩ (by dsimp only;exact⟨⟨by rw[<-h1,ol,if_neg hlast],hq3,h3.snoc ⟨by omega,by omega⟩ hlast,by simp;omega⟩,(by omega)⟩)
    .
     have hlast:r.getLast? =some (pF es a3).1:=by rw[hq];congr 1;exact CA.1 (by simpa using hc91)
     exact at_ ⟨r,j,(pF es a3).2⟩ (by dsimp only;exact⟨⟨by rw[<-h1,ol,if_pos hlast],hq3,h3,by omega⟩,(by omega)⟩)
  .
   obtain rfl:i=0:=by omega
   have hg:=h1;rw[ol] at hg;refine u' 10 J ?_;refine gx J<|?_;refine lp (fu:=⟨5⟩) (X:=List ZP×Nat) (fun⟨l,m⟩=>[(10, .d (.sl (l.map io)))]) (fun⟨l,m⟩=>[]) (fun⟨l,m⟩=>ld m l=ld 6 r/\l.length<=m+1/\l5 l/\l.length<=6) (fun⟨l,m⟩=>m) ⟨r,6⟩ J ⟨J,by omega,h3,by omega⟩ (fun _=>J) (fun⟨l,m⟩ hk=>?_)
   try dsimp only at hk⊢
   obtain⟨t1,t2,t3,t4⟩:=hk;have hll:(l.map io).length=l.length:=by simp
   refine mr (v2:=fun hg98=>by simp only[ah];kernel_rfl) J J J J (fun hg98=>?_) (fun hg98=>?_)
   .
    obtain⟨q,hqi,hqd⟩:=WQ (l:=l) (by omega);obtain⟨q2,hq0,hqi2,hqd2⟩:=LY (l:=l);have hqm:=t3.le q (aV hqi);have hqm2:=t3.le q2 (aV hqi2);unfold ZP.le at hqm hqm2;refine ix _ J (cA (i:=0) hqi) J<|ix (io q2) J (by rw[show(((l.map io).length:Nat):Int)-1=((l.length-1:Nat):Int) by omega];exact cA hqi2) J<|?_;refine cl J (HP (m:=q.1) (n:=q.2) (m':=q2.1) (n':=q2.2)) J<|?_;refine bd J J J (fun hc110=>?_) (fun hc110=>?_)
    .
     have hcond:1<l.length/\l.getD 0 (0,0)=l.getD (l.length-1) (0,0):=⟨by omega,by rw[hqd,hqd2];exact CA.1 hc110⟩;refine ni 0 (l.length-1) (l.dropLast.map io) J J (by omega) (VE io l) (GJ l) (aN _) (by omega) J<|?_;exact at_ ⟨l.dropLast,m-1⟩ (by dsimp only;exact⟨⟨by rw[<-t1];obtain⟨m,rfl⟩: ∃q,m=q+1:=⟨m-1,by omega⟩;rw[ld,if_pos hcond];rfl,by rw[iJ];omega,t3.drop,by rw[iJ];omega⟩,(by omega)⟩)
    .
     have hcond: ¬(1<l.length/\l.getD 0 (0,0)=l.getD (l.length-1) (0,0)):=fun e=>hc110 (CA.2 (by rw[<-hqd,<-hqd2];exact e.2));refine cl (fu:=⟨1⟩) J (MY (l:=l) t3.le) J<|?_;have hgen:ld 6 r=l:=by rw[<-t1];cases m with|zero=>rfl|succ m=>rw[ld,if_neg hcond]
     refine ak 118 (.d (vI ((uN l).length:Nat))) J (by rw[aJ];rfl) ?_;refine gx J<|?_;refine br J J J (fun hc119=>?_) (fun hc119=>?_)
     .
      have hfin:fI es a=(yQ,a3):=by rw[hR,sB,<-hg,hgen,if_pos (by omega)]
      refine cl J (m9 (m:=0) (n:=0) (by decide) (by decide)) J<|cl J (m9 (m:=2) (n:=0) (by decide) (by decide)) J<|cl J (m9 (m:=0) (n:=2) (by decide) (by decide)) J<|?_;refine rf J J<|?_;exact jE hmb J J (by rw[hfin];rfl) (by rw[hfin])
     .
      have hfin:fI es a=(l,a3):=by rw[hR,sB,<-hg,hgen,if_neg (by omega)]
      exact jE hmb J J (by rw[hfin];rfl) (by rw[hfin])
   .
    have hcond: ¬(1<l.length/\l.getD 0 (0,0)=l.getD (l.length-1) (0,0)):=fun e=>by omega
    refine cl (fu:=⟨1⟩) J (MY (l:=l) t3.le) J<|?_;have hgen:ld 6 r=l:=by rw[<-t1];cases m with|zero=>rfl|succ m=>rw[ld,if_neg hcond]
    refine ak 118 (.d (vI ((uN l).length:Nat))) J (by rw[aJ];rfl) ?_;refine gx J<|?_;refine br J J J (fun hc119=>?_) (fun hc119=>?_)
    .
     have hfin:fI es a=(yQ,a3):=by rw[hR,sB,<-hg,hgen,if_pos (by omega)]
     refine cl J (m9 (m:=0) (n:=0) (by decide) (by decide)) J<|cl J (m9 (m:=2) (n:=0) (by decide) (by decide)) J<|cl J (m9 (m:=0) (n:=2) (by decide) (by decide)) J<|?_;refine rf J J<|?_;exact jE hmb J J (by rw[hfin];rfl) (by rw[hfin])
    .
     have hfin:fI es a=(l,a3):=by rw[hR,sB,<-hg,hgen,if_neg (by omega)]
     exact jE hmb J J (by rw[hfin];rfl) (by rw[hfin])
def JG:DV:= .v (.pointer none)
def YQ(l:ab)(p q:DV):List DV:=[.v (.bool false), .v (.bool false), .v (.bool (decide (l.a<0))),dN l.a.natAbs, .v (.bool (decide (l.b<0))),dN l.b.natAbs, .v (.bool (decide (l.c<0))),dN l.c.natAbs,p,q]
inductive RF (ns:List RN):Int->(Nat->Bool)->DV->Bool->(Nat->Bool)->Prop where
 |leaf (b:Bool) (f:Nat->Bool):RF ns (so b) f (eT (.leaf b)) true f
 |bad (rt:Int) (f:Nat->Bool) (h1:rt≠ -1) (h2:rt≠ -2) (h:rt<0\/(ns.length:Int)<=rt\/(∃k:Nat,rt=k/\k<ns.length/\f k=true)):RF ns rt f JG false f
 |line (k:Nat) (n:RN) (f:Nat->Bool) (h:ns[k]? =some n) (hf:f k=false) (hl:n.g.ln=none):RF ns (k:Int) f JG false (lx f k)
 |left (k:Nat) (n:RN) (l:ab) (f f2:Nat->Bool) (p:DV) (h:ns[k]? =some n) (hf:f k=false) (hl:n.g.ln=some l) (h1:RF ns n.l (lx f k) p false f2):RF ns (k:Int) f JG false f2
 |node (k:Nat) (n:RN) (l:ab) (f f2 f3:Nat->Bool) (p q:DV) (ok:Bool) (h:ns[k]? =some n) (hf:f k=false) (hl:n.g.ln=some l) (h1:RF ns n.l (lx f k) p true f2) (h2:RF ns n.r f2 q ok f3):RF ns (k:Int) f (.pt (YQ l p q)) ok f3
def aLw(n:Nat)(f:Nat->Bool):Bool:=(List.range n).all f
def Tr.all_imp{p q:ab->Prop}(h: ∀l,p l->q l): ∀{t:Tr},t.all p->t.all q
 | .leaf _,_=>trivial
 | .node _ _ _,⟨h0,h1,h2⟩=>⟨h _ h0,Tr.all_imp h h1,Tr.all_imp h h2⟩
def aKE{t:Tr}(hs:t.size<=65536):((t.wr 0).map RN.of).length<=65536:=by rw[aJ,t.wr_len];exact hs
def l00:ab:=⟨0,1,0⟩
def t00:Tr:= .node l00 (.leaf true) (.leaf false)
def jj.red_size{k:Nat}{t:Tr}(h:jj k t)(hr:t.Red []):t.size<=k*(1+k):=by
 obtain⟨K,h1,h2,h3⟩:=h.am;exact cY (Tr.size_le h2 hr h.gd.ok bO.nil h3) (iW h1 (by omega))
structure ie (k:Nat) (t:Tr):Prop where
 o:jj k t
 s:t.size<=3000
def ie.lb{k:Nat}{t:Tr}(h:ie k t):t.all LB:=h.o.gd.lb
def ie.ok{k:Nat}{t:Tr}(h:ie k t):t.all ab.ok:=h.o.gd.ok
def ie.bl{k:Nat}{t:Tr}(h:ie k t):t.all (fun l=>BL l 96):=Tr.all_imp (fun _ h=>h.bl) h.o.gd.lb
def ie.dp{k:Nat}{t:Tr}(h:ie k t):t.depth<=k:=h.o.dp
def jj.x{k:Nat}{t:Tr}(h:jj k t)(hr:t.Red [])(hk:k<=54):ie k t:=
 ⟨h,cY (h.red_size hr) (cY (iW hk (show 1+k<=55 by omega)) (by decide))⟩
def JB(rs:List (List ZP))(fill:Int):(l7 rs fill).Red []:=Tr.restrict_red _ _
def Qr(es:List Int)(a:Nat):(j0 es a).1.Red []:=by
 unfold j0;dsimp only;split<;>exact JB _ _
def aKG(es:List Int)(a:Nat):(Tr×Tr)×Nat:=
 let x:=td es 0 a
 let y:=td es 0 x.2
 let k:=av es 3 y.2
 let u:=if(k.1:Int)=0 then nf es 3 k.2 else(x.1,k.2)
 let j:=av es 3 u.2
 let v:=if(j.1:Int)=0 then nf es 3 j.2 else(y.1,j.2)
 ((u.1,v.1),v.2)
def aLb(es:List Int)(a:Nat):(Tr×Tr)×Nat:=
 let x:=td es 0 a
 let y:=td es 0 x.2
 let k:=av es 6 y.2
 if(k.1:Int)=0 then((x.1, .node (lF es k.2).1 x.1 x.1),(lF es k.2).2)
 else if(k.1:Int)=1 then((x.1,y.1.mergeQ 1 x.1 []),k.2)
 else if(k.1:Int)=2 then((x.1,y.1.mergeQ 3 x.1 []),k.2)
 else if(k.1:Int)=3 then((x.1,(nf es 3 k.2).1),(nf es 3 k.2).2)
 else((x.1,y.1),k.2)
def S5(es:List Int):Nat->Nat->List Tr×Nat
 |0,a=>([],a)
 |n+1,a=>((td es 0 a).1::(S5 es n (td es 0 a).2).1,(S5 es n (td es 0 a).2).2)
def Z1(r:List ZP)(i k:Nat):Bool:=decide (k=i)||decide (k=(i+1)%r.length)||decide (0<yP (r.getD i (0,0)).q (gu r i).q (r.getD k (0,0)).q)
def aI4(r:List ZP):Bool:=(List.range r.length).all fun i=>(List.range r.length).all fun k=>Z1 r i k
def aFt{r:List ZP}(h:d7 r): ∀x∈[r],d7 x:=fun x hx=>by rw[aU] at hx;subst hx;exact h
def aFz{r s:List ZP}(h:d7 r)(k:d7 s): ∀x∈[r,s],d7 x:=fun x hx=>by
 simp only[aT,kQ,or_false] at hx;rcases hx with rfl|rfl
 .exact h
 .exact k
def Nv{b:Nat}{es:List Int}(hes:es.length<=400){a:Nat}(ha:a<=es.length):PM GB prog 19 (iH [none] b) b 64 [.sl (es.map vI), .v (.int .i64 (a:Nat))] (eT (j0 es a).1) [.sl (es.map vI), .v (.int .i64 ((j0 es a).2:Nat))]:=by
 obtain⟨r1,r2⟩:=yi ha;have hk3:=gG (n:=3) r2;refine tC func19 J J ntmps19 J J (fun C b m lo hmb=>?_);refine cm J (fun b=>(MW hes ha)) J<|ro (fu:=⟨4⟩) J J<|?_;refine mg (X:=List (List ZP)×Nat) (fun⟨rs,a2⟩=>[(3, .rw 6)]) (fun⟨rs,a2⟩=>[(1000000,some (.o 64 [.d (.sl (es.map vI)), .d (.v (.int .i64 (a2:Nat)))] false)),(6,some (.b 101 1 (rs.map nC) true))]) (fun⟨rs,a2⟩=>j0 es a=(l7 rs (1+((av es 2 a2).1:Int)),(av es 2 a2).2)/\a2<=es.length/\(∀r∈rs,d7 r)/\rs.length<=2) [3] [1000000,6] rfl ?_ (fun _=>J) (fun⟨rs,a2⟩ ⟨hB,ha2,hrs,hrl⟩=>?_)
 .
  refine gx J<|cm J (fun b=>(oq (n:=3) hes r2)) J<|?_;refine br J J J (fun hc9=>?_) (fun hc9=>?_)
  .
   obtain⟨s1,s2⟩:=yi hk3;refine cm J (fun b=>(MW hes hk3)) J<|rf J J<|ap (hbd:=by simp) ([(fI es a).1,(fI es (av es 3 (fI es a).2).2).1].map nC) J J (Rs [(fI es (av es 3 (fI es a).2).2).1]) J<|?_;refine fE 14 6 J ?_;exact at_ ⟨[(fI es a).1,(fI es (av es 3 (fI es a).2).2).1],(fI es (av es 3 (fI es a).2).2).2⟩ ⟨if_pos hc9,s2,aFz r1 s1,by simp⟩
  .
   exact at_ ⟨[(fI es a).1],(av es 3 (fI es a).2).2⟩ ⟨if_neg hc9,hk3,aFt r1,by simp⟩
 .
  try dsimp only at hB ha2 hrs hrl⊢
  have hf2:=kG (es:=es) (n:=2) (a:=a2);refine fz 6 J J<|cl J (aIu (rs:=rs) hrs (by omega)) J<|cm J (fun b=>(oq (n:=2) hes ha2)) J<|cl J (Ou (rs:=rs) (fill:=1+((av es 2 a2).1:Int)) hrs (by omega)) J<|?_;refine cl J (RO (rs:=rs) (fill:=1+((av es 2 a2).1:Int)) hrs (by omega)) J<|?_;exact jE hmb J J (by rw[hB];rfl) (by rw[hB])
section
variable {GB:Gh} {C:aD} {n:Nat} {Q0:Exit->Act->World->Prop} {fr fr' fr1 fr2:aB} {own own' own1 own2:aF} {cf cf' cf1 cf2:Cf} {vc vc1 vc2:List Prop}
def aLi(fr:aB)(cf:Cf):Option Int:=match cg fr cf with
 |some ⟨_, .binOp .and _ x (.const (.int .i64 3)) _,_,_,_,_⟩=>match aH (bz fr cf) x with
  |some (.d (.v (.int .i64 p)))=>some p
  |_=>none
 |_=>none
end
def V'{es0 es:List Int}(hb:es0.length<=1125899906842624)(he:es=es0.take 400):PN GB prog 4 [.sl (es0.map vI)] 64 Unit (fun _=>[.sl (es.map vI), .v (.int .i64 (0:Nat))]):=by
 subst he;exact Up hb
def SU{k:Nat}{t:Tr}(h:ie k t):PF GB prog 5 [eT t] (eA t):=aCQ h.bl (by have:=h.s;omega)
def ePr(a b:Tr):DV:= .ag [eU a,eU b]
def prZ:DV:= .ag [.v (.pointer none), .v (.pointer none)]
def Hm{k:Nat}{t:Tr}(h:ie k t):PF GB prog 32 [eA t] (.tp [eU t,vB true]):=by
 have:=aIj (GB:=GB) (rt:=t.num 0) (T4 h.lb) (aKE (by have:=h.s;omega)) (VS h.ok);rw[<-Xm] at this;exact this
def mtQ(a:ab)(t:List ab):List Rat:=t.filterMap fun b=>if crossI a b=0 then none else some (d8 a b).x
def aLj(l:List ab)(x:Rat):List aa:=(e8 (Ib (ML l x))).map fun y=>⟨x,y⟩
def Tc:Tr->aa->Bool
 | .leaf _,_=>true
 | .node l x y,p=>if(l.value p).num.sign=1 then Tc x p else if(l.value p).num.sign= -1 then Tc y p else false
structure Two (a b:Tr):Prop where
 ga:a.gd
 gb:b.gd
 sa:a.size<=3000
 sb:b.size<=3000
def f1R(x y:Bool):Bool:=x&&!y
def f2R(x y:Bool):Bool:=y&&!x
def f3R(x y:Bool):Bool:=x&&y
def f4R(x y:Bool):Bool:=!x&&!y
def anK(f:Bool->Bool->Bool)(a b:Tr)(k:Nat):Bool:=((Fb a b).take k).any fun p=>f (uG a p) (uG b p)
def Gq{c:List ab}(hok: ∀l∈c,l.ok):r5 c=true↔ ∃p,cI c p:=by
 rw[<-xN hok];unfold r5 i7
 cases c with
 |nil=>simp
 |cons a b=>
  rw[if_neg (by simp;omega)];simp only[decide_eq_true_eq,aJ,List.isEmpty_cons,Bool.false_or,iS];constructor
  .intro h
   obtain⟨m,hm⟩:=List.exists_mem_of_length_pos (l:=fj (a::b)) (by omega);exact⟨m,oD.1 hm⟩
  .rintro ⟨m,hm⟩
   have:=List.length_pos_of_mem (oD.2 hm);omega
def om:Tr->List ab->List (List ab×Bool)
 | .leaf b,c=>if r5 c then [(fj c,b)] else []
 | .node l x y,c=>if r5 c then om x (fj c++[l])++om y (fj c++[l.rev]) else []
def VM(c:List ab)(p:aa):Bool:=c.all fun l=>decide (0<Int.sign (l.value p).num)
def aLH(c:List ab):Option aa:=(Tk (xd c)).find? (VM c)
def aEx{l m:ab}(hl:l.ok)(hm:m.ok)(h:co l.dir m.dir=0): ∃k e:Rat,0<k/\ ∀p,m.value p=k*l.value p+e:=by
 obtain⟨h1,h2⟩:=R9.1 h;have z1:=vK hl;have key: ∃k:Rat,0<k/\m.dir.x=k*l.dir.x/\m.dir.y=k*l.dir.y:=by
  unfold aa.cross at h2;rcases kD l.dir with⟨e,k⟩|⟨e,k⟩|⟨e,k⟩
  .rw[e] at h1
   have k2:=lB.1 h1.symm;rcases k with k|⟨k,k'⟩
   .have y2:0<m.dir.y:=by
     rcases k2 with k2|⟨k2,k3⟩
     .exact k2
     .exfalso
      rw[k2] at h2;have:=bH k k3;grind
    refine⟨m.dir.y/l.dir.y,?_,by grind,by grind⟩;have:0<m.dir.y/l.dir.y:=(gv k).1 (by rw[show m.dir.y/l.dir.y*l.dir.y=m.dir.y by grind];exact y2);exact this
   .rw[k] at h2
    have y2:m.dir.y=0:=by
     rcases gV.1 (show l.dir.x*m.dir.y=0 by grind) with q|q
     .rw[q] at k';exact absurd k' (by decide)
     .exact q
    have x2:0<m.dir.x:=by
     rcases k2 with k2|⟨_,k3⟩
     .rw[y2] at k2;exact absurd k2 (by decide)
     .exact k3
    refine⟨m.dir.x/l.dir.x,(gv k').1 (by rw[show m.dir.x/l.dir.x*l.dir.x=m.dir.x by grind];exact x2),by grind,by rw[y2,k];grind⟩
  .rw[e] at h1
   have k2:=pq.1 h1.symm;rcases k with k|⟨k,k'⟩
   .have y2:m.dir.y<0:=by
     rcases k2 with k2|⟨k2,k3⟩
     .exact k2
     .exfalso
      rw[k2] at h2;have:=bH (show 0< -l.dir.y by grind) (show 0< -m.dir.x by grind);grind
    refine⟨m.dir.y/l.dir.y,(gv (show 0< -l.dir.y by grind)).1 (by rw[show m.dir.y/l.dir.y* -l.dir.y= -m.dir.y by grind];grind),by grind,by grind⟩
   .rw[k] at h2
    have y2:m.dir.y=0:=by
     rcases gV.1 (show l.dir.x*m.dir.y=0 by grind) with q|q
     .rw[q] at k';exact absurd k' (by decide)
     .exact q
    have x2:m.dir.x<0:=by
     rcases k2 with k2|⟨_,k3⟩
     .rw[y2] at k2;exact absurd k2 (by decide)
     .exact k3
    refine⟨m.dir.x/l.dir.x,(gv (show 0< -l.dir.x by grind)).1 (by rw[show m.dir.x/l.dir.x* -l.dir.x= -m.dir.x by grind];grind),by grind,by rw[y2,k];grind⟩
  .exact absurd e z1
 obtain⟨k,k0,kx,ky⟩:=key;simp only[ab.dir] at kx ky;refine⟨k,(m.c:Rat)-k*(l.c:Rat),k0,fun p=>?_⟩;rw[jf,jf,kx];have:(m.a:Rat)=k*(l.a:Rat):=by grind
 rw[this];grind
def M'{e:az}(hne: ∃q,bm e q){l m:ab}(hl:l.ok)(hm:m.ok)(pl: ∀p,bm e p->0<l.value p)(pm: ∀p,bm e p->0<m.value p)(tl: ∃p,mm e p/\l.value p=0)(tm: ∃p,mm e p/\m.value p=0)(ha:co l.dir m.dir=0):l=m:=by
 obtain⟨k,c,k0,hk⟩:=aEx hl hm ha;obtain⟨p,p1,p2⟩:=tl;obtain⟨q,q1,q2⟩:=tm;have g1:=tj hne pm p1;rw[hk,p2] at g1;have g2:=tj hne pl q1;have g3:=cO (dQ k0) g2;rw[hk] at q2;have c0:c=0:=by grind
 have hz: ∀t,m.value (l.at t)=0:=fun t=>by rw[hk,mz hl.ne,c0];grind
 rcases yg hm hl hz with h|h
 .exact h.symm
 .exfalso
  obtain⟨u,hu⟩:=hne;have a:=pl u hu;have b:=pm u hu;rw[h,fq] at b;grind
def Bu{c:az}(hc:bO c){s:aP}(hs:s∈c):mm c (s.l.at s.v.sample)/\s.l.value (s.l.at s.v.sample)=0:=
 ⟨((hc.edge s hs).2 _).1 (pI (hc.edge s hs).1).has,mz (hc.ok s hs).ne _⟩
def lj(c:az):Prop:=(c.map fun s=>s.l.dir).Pairwise cd
def FQ{p:Nat->Bool}{N:Nat}(hm: ∀i j,i<=j->j<N->p j=true->p i=true): ∀(d i j:Nat),j-i<=d->i<=j->j<=N->(∀k,k<i->p k=true)->(∀k,j<=k->k<N->p k=false)->(∀k,k<gw p i j->p k=true)/\ ∀k,gw p i j<=k->k<N->p k=false
 |0,i,j,h,hij,hN,h1,h2=>by
  obtain rfl:i=j:=by omega
  rw[gw,dif_neg (by omega)];exact⟨h1,h2⟩
 |d+1,i,j,h,hij,hN,h1,h2=>by
  by_cases q:i<j
  .rw[gw,dif_pos q]
   by_cases r:p ((i+j)/2)=true
   .rw[if_pos r]
    exact FQ hm d _ _ (by omega) (by omega) hN (fun k hk=>hm k ((i+j)/2) (by omega) (by omega) r) h2
   .rw[if_neg r]
    refine FQ hm d _ _ (by omega) (by omega) (by omega) h1 fun k hk hkN=>?_
    cases hp:p k with
    |false=>rfl
    |true=>exact absurd (hm _ k hk hkN hp) r
  .obtain rfl:i=j:=by omega
   rw[gw,dif_neg q];exact⟨h1,h2⟩
def SJ{ds:List aa}{d:aa}{n:Nat}(h:ds.Pairwise cd)(h1: ∀x∈ds.take n,cd x d)(h2: ∀x∈ds.drop n,cd d x):(ds.take n++d::ds.drop n).Pairwise cd:=by
 have hs:=h;rw[<-kZ n ds,gS] at hs;obtain⟨a,b,c⟩:=hs;rw[gS];refine⟨a,bR.2 ⟨h2,b⟩,fun x hx y hy=>?_⟩;rcases aT.1 hy with rfl|hy
 .exact h1 x hx
 .exact c x hx y hy
def H2(l:ab): ∀c:az,((eH l c).map fun s=>s.l.dir).Sublist (c.map fun s=>s.l.dir)
 |[]=>List.Sublist.refl _
 |s::c=>by
  rw[eH];split
  .exact(H2 l c).cons_cons _
  .exact(H2 l c).cons _
def K3{α:Type}{l:List α}{n:Nat}{x:α}(h:x∈l.take n): ∃i,i<n/\l[i]? =some x:=by
 obtain⟨i,hi,e⟩:=mT.1 h;rw[cJ] at hi;exact⟨i,by omega,by rw[List.getElem_take] at e;rw[aQ (by omega),e]⟩
def Lm{α:Type}{l:List α}{n:Nat}{x:α}(h:x∈l.drop n): ∃i,n<=i/\i<l.length/\l[i]? =some x:=by
 obtain⟨i,hi,e⟩:=mT.1 h;rw[iQ] at hi;exact⟨n+i,by omega,by omega,by rw[List.getElem_drop] at e;rw[aQ (by omega),e]⟩
def Hh{c:az}{l:ab}(hc:bO c)(hl:l.ok)(ha:lj c)(hb:di c l=true):lj (b8 c l):=by
 have hg:=(jA hc hl hb).1;unfold b8 at hg⊢
 cases hp:lI c l with
 |none=>exact ha
 |some v=>
  simp only[hp] at hg⊢;have hs:lj (eH l c):=ha.sublist (H2 l c);have nt: ∀s∈eH l c,co s.l.dir l.dir≠0:=fun s h e=>by
   have m1:s∈nq (eH l c) l v:=qr.2 (.inr h);have m2:(⟨l,v⟩:aP)∈nq (eH l c) l v:=qr.2 (.inl J);have ee:=M' hg.ne (hg.ok s m1) hl (fun p hp=>hp s m1) (fun p hp=>hp ⟨l,v⟩ m2) ⟨_,Bu hg m1⟩ ⟨_,Bu hg m2⟩ e;obtain⟨s0,g1,_,rfl⟩:=rC.1 h;obtain⟨_,q,q1,q2⟩:=FS hl.ne hp;have h5:=q1 s0 g1;have e5:s0.l=l:=ee;rw[e5] at h5;grind
  generalize eH l c=d at*;have hmo: ∀i j,i<=j->j<d.length->jC d l j=true->jC d l i=true:=fun i j hij hj h=>by
   unfold jC at h⊢;rw[aQ hj] at h;rw[aQ (by omega)];simp only[decide_eq_true_eq,m6] at h⊢;by_cases q:i=j
   .subst q;exact h
   .have:=jU.1 hs i j (by simp;omega) (by simp;omega) (by omega)
    simp only[lK] at this;exact uV this h
  obtain⟨k1,k2⟩:=FQ hmo d.length 0 d.length (by omega) (by omega) (aM _) (fun k h=>absurd h (by omega)) (fun k h h'=>absurd h' (by omega));unfold nq lj;generalize gw (jC d l) 0 d.length=n at*;rw[bY,cV,gR,iN];refine SJ hs (fun x hx=>?_) (fun x hx=>?_)
  .rw[<-gR] at hx
   obtain⟨s,h1,rfl⟩:=bQ.1 hx;obtain⟨i,hi,e⟩:=K3 h1;have:=k1 i hi;unfold jC at this;rw[e] at this;simpa[m6] using this
  .rw[<-iN] at hx
   obtain⟨s,h1,rfl⟩:=bQ.1 hx;obtain⟨i,hi,hi2,e⟩:=Lm h1;have:=k2 i hi hi2;unfold jC at this;rw[e] at this;have h3: ¬cd s.l.dir l.dir:=by simpa[m6] using this
   by_cases q:cd l.dir s.l.dir
   .exact q
   .exact absurd (ES h3 q) (nt s (gL h1))
def Hj: ∀{t:Tr} {c:az},t.all ab.ok->bO c->lj c-> ∀x∈t.parts c,lj x.2
 | .leaf b,c,_,_,ha,x,h=>by
  rw[Tr.parts,aU] at h;subst h;exact ha
 | .node l u v,c,ht,hc,ha,x,h=>by
  rw[Tr.parts] at h;rcases bK.1 h with h|h
  .split at h
   .rename_i hb
    exact Hj ht.2.1 (jA hc ht.1 hb).1 (Hh hc ht.1 ha hb) x h
   .cases h
  .split at h
   .rename_i hb
    exact Hj ht.2.2 (jA hc ht.1.rev hb).1 (Hh hc ht.1.rev ha hb) x h
   .cases h
def uh(c:List ab):Prop:=(c.map ab.dir).Pairwise cd
def FR{c:List ab}{e:az}(hs: ∀s∈e,s.l∈c){l:ab}(hl:l.ok)(he:(fm l c aj.all).isSome=true): ∃w:aj,w.Pos/\ ∀t,w.ins t->mm e (l.at t)/\l.value (l.at t)=0/\ ∀m∈c,m≠l->0<m.value (l.at t):=by
 obtain⟨w,hw⟩:=qL.1 he;obtain⟨h1,h2⟩:=AI l c _ w wF hw;refine⟨w,h1,fun t ht=>?_⟩;have h3:=((h2 t).1 ht).2;refine⟨fun s hs'=>?_,mz hl.ne t,h3⟩;by_cases q:s.l=l
 .rw[q,mz hl.ne];exact fN
 .exact dQ (h3 _ (hs s hs') q)
def KE{α:Type}{p:α->Bool}: ∀(l:List α),(∀i x,i<(l.takeWhile p).length->l[i]? =some x->p x=true)/\ ∀x,l[(l.takeWhile p).length]? =some x->p x=false
 |[]=>⟨fun i x h _=>by simp at h,fun x h=>by simp at h⟩
 |a::l=>by
  obtain⟨h1,h2⟩:=KE (p:=p) l;rw[oN]
  cases ha:p a with
  |false=>
   refine⟨fun i x h _=>by simp at h,fun x h=>?_⟩;simp at h;rw[<-h];exact ha
  |true=>
   simp only[if_true,bJ];refine⟨fun i x h e=>?_,fun x h=>h2 x (by simpa using h)⟩
   cases i with
   |zero=>simp at e;rw[<-e];exact ha
   |succ i=>exact h1 i x (by omega) (by simpa using e)
def Wp{out:List ab}{l:ab}(ha:uh out)(ht: ∀m∈out,co m.dir l.dir=0->m=l):uh (pP out l):=by
 unfold pP;split
 .exact ha
 .rename_i hne
  obtain⟨k1,k2⟩:=KE (p:=fun x:ab=>decide (co x.dir l.dir<0)) out;have e0:n8 out l=(out.takeWhile fun x=>decide (co x.dir l.dir<0)).length:=J;rw[<-e0] at k1 k2;generalize n8 out l=n at*;unfold uh;rw[bY,cV,gR,iN];refine SJ ha (fun x hx=>?_) (fun x hx=>?_)
  .rw[<-gR] at hx
   obtain⟨m,h1,rfl⟩:=bQ.1 hx;obtain⟨i,hi,e⟩:=K3 h1;simpa[m6] using k1 i m hi e
  .rw[<-iN] at hx
   obtain⟨m,h1,rfl⟩:=bQ.1 hx;obtain⟨i,hi,hi2,e⟩:=Lm h1;have hn:n<out.length:=by omega
   have h3: ¬cd (out[n]).dir l.dir:=by simpa[m6] using k2 _ (aQ hn)
   have h4:cd l.dir (out[n]).dir:=by
    by_cases q:cd l.dir (out[n]).dir
    .exact q
    .exact absurd (by rw[aQ hn,ht _ (bL hn) (ES h3 q)]) hne
   by_cases q:i=n
   .subst q
    rw[aQ hn] at e
    cases e
    exact h4
   .have:=jU.1 ha n i (by simp;omega) (by simp;omega) (by omega)
    simp only[lK] at this;rw[aQ hi2] at e
    cases e
    exact uV h4 this
def JL{c:List ab}(ht: ∀l∈c,∀m∈c,(fm l c aj.all).isSome=true->(fm m c aj.all).isSome=true->co m.dir l.dir=0->m=l): ∀{t out:List ab},(∀l∈t,l∈c)->(∀m∈out,m∈c/\(fm m c aj.all).isSome=true)->uh out->uh (nF c t out)
 |[],out,_,_,ha=>ha
 |l::t,out,hc,ho,ha=>by
  have hl:=hc l aZ;rw[nF];by_cases q:(fm l c aj.all).isSome=true
  .rw[if_pos q]
   refine JL ht (fun l h=>hc l (aK _ h)) (fun m hm=>?_) (Wp ha fun m hm e=>ht l hl m (ho m hm).1 q (ho m hm).2 e);rcases Gf.1 hm with rfl|h
   .exact⟨hl,q⟩
   .exact ho m h
  .rw[if_neg q]
   exact JL ht (fun l h=>hc l (aK _ h)) ho ha
def asX{c:List ab}(hok: ∀l∈c,l.ok)(hne: ∃p,cI c p):uh (fj c):=by
 obtain⟨e,_,hg,hi,hs⟩:=E3 hok hne;refine JL (fun l hl m hm el em h=>?_) (fun l h=>h) (fun m h=>by cases h) .nil;obtain⟨w1,p1,k1⟩:=FR (fun s h=>(hs s h).1) (hok l hl) el;obtain⟨w2,p2,k2⟩:=FR (fun s h=>(hs s h).1) (hok m hm) em;obtain⟨a1,a2,_⟩:=k1 _ (pI p1);obtain⟨b1,b2,_⟩:=k2 _ (pI p2);exact M' hg.ne (hok m hm) (hok l hl) (fun p hp=>(hi p).1 hp m hm) (fun p hp=>(hi p).1 hp l hl) ⟨_,b1,b2⟩ ⟨_,a1,a2⟩ h
def MH{v:aj}{t u:Rat}(h:v.ins t)(k:v.has u):v.ins ((t+u)*(1/2)):=by
 obtain⟨lo,hi,nl,nh⟩:=v;unfold aj.ins at*;unfold aj.has at k
 cases nl<;>cases nh<;>simp at* <;>grind
def Du{c d:az}(hc: ∃q,bm c q)(h: ∀p,bm c p↔bm d p){p:aa}(hp:mm c p):mm d p:=fun s hs=>tj hc (fun q hq=>(h q).1 hq s hs) hp
def Yh{c:List ab}{d:az}(hok: ∀l∈c,l.ok)(hd:bO d)(h: ∀p,bm d p↔cI c p)(l:ab):l∈d.map (·.l)↔l∈fj c:=by
 have hne: ∃p,cI c p:=hd.ne.elim fun q hq=>⟨q,(h q).1 hq⟩;obtain⟨e,_,hg,hi,hs⟩:=E3 hok hne;have hde: ∀p,bm d p↔bm e p:=fun p=>by rw[h,hi]
 constructor
 .intro hl
  obtain⟨s,k,rfl⟩:=bQ.1 hl;obtain⟨t1,t2⟩:=Bu hd k;have t3:=Du hd.ne hde t1;have: ¬bm e (s.l.at s.v.sample):=fun q=>by
   have:=(hde _).2 q s k;rw[t2] at this;exact absurd this (by decide)
  obtain⟨u,hu,hz⟩: ∃u∈e,u.l.value (s.l.at s.v.sample)=0:=by
   by_cases q: ∃u∈e,u.l.value (s.l.at s.v.sample)=0
   .exact q
   .exfalso
    refine this fun u hu=>?_;have g1:=t3 u hu;have g2:u.l.value (s.l.at s.v.sample)≠0:=fun e=>q ⟨u,hu,e⟩;grind
  have:=Ng hd k (hg.ok u hu) (fun p hp=>(hde p).1 hp u hu) hz;rw[<-this];exact oD.2 (hs u hu)
 .intro hl
  obtain⟨l1,l2⟩:=oD.1 hl;obtain⟨w,p1,k1⟩:=FR (fun s h=>(hs s h).1) (hok l l1) l2;have hed: ∀p,bm e p↔bm d p:=fun p=>(hde p).symm;have hi1:=pI p1;obtain⟨⟨u1,m1,n1⟩,⟨u2,m2,n2⟩⟩:=H4 hi1;have g1:=MH hi1 n1;have g2:=MH hi1 n2;obtain⟨c0,c1,_⟩:=k1 _ hi1;have c2:=Du hg.ne hed c0;have: ¬bm d (l.at w.sample):=fun q=>by
   have:=(h _).1 q l l1;rw[c1] at this;exact absurd this (by decide)
  obtain⟨s,hsd,hz⟩: ∃s∈d,s.l.value (l.at w.sample)=0:=by
   by_cases q: ∃u∈d,u.l.value (l.at w.sample)=0
   .exact q
   .exfalso
    refine this fun u hu=>?_;have g1:=c2 u hu;have g2:u.l.value (l.at w.sample)≠0:=fun e=>q ⟨u,hu,e⟩;grind
  have e1:=Du hg.ne hed (k1 _ g1).1 s hsd;have e2:=Du hg.ne hed (k1 _ g2).1 s hsd;rw[ke] at hz e1 e2;have hK:l.cutK s.l=0:=by
   rcases ge (l.cutK s.l) with h|h|h
   .exact h
   .exfalso
    have:=bH (a:=w.sample-u1) (b:=l.cutK s.l) (by grind) h;grind
   .exfalso
    have:=bH (a:=u2-w.sample) (b:= -l.cutK s.l) (by grind) (by grind);grind
  have hz2: ∀t,s.l.value (l.at t)=0:=fun t=>by rw[ke,hK];rw[hK] at hz;grind
  rcases yg (hd.ok s hsd) (hok l l1) hz2 with q|q
  .rw[<-q];exact fS hsd
  .exfalso
   obtain⟨u,hu⟩:=hd.ne;have a:=hu s hsd;have b:=(h u).1 hu l l1;rw[q,fq] at a;grind
def QC: ∀{l m:List ab},uh l->uh m->(∀x,x∈l↔x∈m)->l=m
 |[],[],_,_,_=>rfl
 |[],b::m,_,_,h=>absurd ((h b).2 aZ) (by simp)
 |a::l,[],_,_,h=>absurd ((h a).1 aZ) (by simp)
 |a::l,b::m,h1,h2,h=>by
  obtain⟨p1,p2⟩:=bR.1 h1;obtain⟨q1,q2⟩:=bR.1 h2;have p1': ∀x∈l,cd a.dir x.dir:=fun x hx=>p1 _ (fS hx);have q1': ∀x∈m,cd b.dir x.dir:=fun x hx=>q1 _ (fS hx);have e:a=b:=by
   rcases aT.1 ((h a).1 aZ) with e|e
   .exact e
   .rcases aT.1 ((h b).2 aZ) with f|f
    .exact f.symm
    .exact(x6 (q1' a e) (p1' b f)).elim
  subst e;congr 1;refine QC p2 q2 fun x=>⟨fun hx=>?_,fun hx=>?_⟩
  .rcases aT.1 ((h x).1 (aK _ hx)) with e|e
   .subst e;exact(sO _ (p1' _ hx)).elim
   .exact e
  .rcases aT.1 ((h x).2 (aK _ hx)) with e|e
   .subst e;exact(sO _ (q1' _ hx)).elim
   .exact e
def ax2{c:List ab}{d:az}(hok: ∀l∈c,l.ok)(hd:bO d)(ha:lj d)(h: ∀p,bm d p↔cI c p):fj c=d.map (·.l):=by
 refine QC (asX hok (hd.ne.elim fun q hq=>⟨q,(h q).1 hq⟩)) ?_ fun x=>(Yh hok hd h x).symm;unfold uh;rw[qV];exact ha
def ZL{c:List ab}(h:r5 c≠true)(t:Tr):om t c=[]:=by
 cases t<;>rw[om,if_neg h]
def J8: ∀{t:Tr} {c:List ab} {d:az},t.all ab.ok->(∀l∈c,l.ok)->bO d->lj d->(∀p,bm d p↔cI c p)->om t c=(t.parts d).map fun x=>(x.2.map (·.l),x.1)
 | .leaf b,c,d,_,hok,hd,ha,h=>by
  have hb:r5 c=true:=(Gq hok).2 (hd.ne.elim fun q hq=>⟨q,(h q).1 hq⟩);rw[om,if_pos hb,Tr.parts,ax2 hok hd ha h];rfl
 | .node l x y,c,d,ht,hok,hd,ha,h=>by
  have hne: ∃p,cI c p:=hd.ne.elim fun q hq=>⟨q,(h q).1 hq⟩;have hb:r5 c=true:=(Gq hok).2 hne;have hck: ∀m∈fj c,m.ok:=fun m hm=>hok m (oD.1 hm).1;have go: ∀(k:ab) (u:Tr),k.ok->u.all ab.ok->(∀{c:List ab} {d:az},(∀l∈c,l.ok)->bO d->lj d->(∀p,bm d p↔cI c p)->om u c=(u.parts d).map fun x=>(x.2.map (·.l),x.1))->om u (fj c++[k])=(if di d k then u.parts (b8 d k) else []).map fun x=>(x.2.map (·.l),x.1):=fun k u hk hu ih=>by
   have hok2:=iO hck hk;have hin: ∀p,cI (fj c++[k]) p↔bm d p/\0<k.value p:=fun p=>by rw[jB,z6 hok hne,h]
   by_cases q:di d k=true
   .rw[if_pos q]
    obtain⟨g1,g2⟩:=jA hd hk q;exact ih hok2 g1 (Hh hd hk ha q) fun p=>by rw[g2,hin]
   .rw[if_neg q]
    refine ZL (fun e=>q ((sF hd hk).2 ?_)) u;obtain⟨p,hp⟩:=(Gq hok2).1 e;exact⟨p,(hin p).1 hp⟩
  rw[om,if_pos hb,Tr.parts,bY,go l x ht.1 ht.2.1 (fun a b c d=>J8 ht.2.1 a b c d),go l.rev y ht.1.rev ht.2.2 fun a b c d=>J8 ht.2.2 a b c d]
def dE(c:az):Bool:=!c.isEmpty&&c.all fun s=>!s.v.nl&&!s.v.nh
def Wb{c:az}(hc:bO c){s:aP}(hs:s∈c)(h:s.v.nh=true): ∀u∈c,0<=u.l.nor.dot s.l.dir:=fun u hu=>by
 obtain⟨p1,p2⟩:=hc.edge s hs;have hi:=(pI p1).has;have key: ∀n:Rat,0<=n->0<=u.l.value (s.l.at (s.v.sample+n)):=fun n hn=>((p2 _).1 ⟨hi.1.imp id fun q=>by grind, .inl h⟩) u hu;have h0:=key 0 (by decide);rw[ke] at h0;by_cases q:0<=u.l.nor.dot s.l.dir
 .exact q
 .exfalso
  have q':0< -(s.l.cutK u.l):=by unfold ab.cutK;grind
  have h1:=key ((s.l.cutC u.l+s.v.sample*s.l.cutK u.l+1)/ -(s.l.cutK u.l)) (by
   have:=(gv (s:=(s.l.cutC u.l+s.v.sample*s.l.cutK u.l+1)/ -(s.l.cutK u.l)) q').1 (by rw[show(s.l.cutC u.l+s.v.sample*s.l.cutK u.l+1)/ -(s.l.cutK u.l)* -(s.l.cutK u.l)=s.l.cutC u.l+s.v.sample*s.l.cutK u.l+1 by grind];grind);grind)
  rw[ke] at h1;have:(s.l.cutC u.l+s.v.sample*s.l.cutK u.l+1)/ -(s.l.cutK u.l)*s.l.cutK u.l= -(s.l.cutC u.l+s.v.sample*s.l.cutK u.l+1):=by grind
  grind
def V3{c:az}(hc:bO c){s:aP}(hs:s∈c)(h:s.v.nl=true): ∀u∈c,u.l.nor.dot s.l.dir<=0:=fun u hu=>by
 obtain⟨p1,p2⟩:=hc.edge s hs;have hi:=(pI p1).has;have key: ∀n:Rat,0<=n->0<=u.l.value (s.l.at (s.v.sample-n)):=fun n hn=>((p2 _).1 ⟨.inl h,hi.2.imp id fun q=>by grind⟩) u hu;have h0:=key 0 (by decide);rw[ke] at h0;by_cases q:u.l.nor.dot s.l.dir<=0
 .exact q
 .exfalso
  have q':0<s.l.cutK u.l:=by unfold ab.cutK;grind
  have h1:=key ((s.l.cutC u.l+s.v.sample*s.l.cutK u.l+1)/s.l.cutK u.l) (by
   have:=(gv (s:=(s.l.cutC u.l+s.v.sample*s.l.cutK u.l+1)/s.l.cutK u.l) q').1 (by rw[show(s.l.cutC u.l+s.v.sample*s.l.cutK u.l+1)/s.l.cutK u.l*s.l.cutK u.l=s.l.cutC u.l+s.v.sample*s.l.cutK u.l+1 by grind];grind);grind)
  rw[ke] at h1;have:(s.l.cutC u.l+s.v.sample*s.l.cutK u.l+1)/s.l.cutK u.l*s.l.cutK u.l=s.l.cutC u.l+s.v.sample*s.l.cutK u.l+1:=by grind
  grind
def Zi(c:List ab)(v:aa):Bool:=c.all fun l=>decide (0<=Int.sign (l.dir.cross v).num)
def aMe(c:List ab):Bool:=!c.isEmpty&&(c.flatMap fun l=>[l.dir,bE l.dir]).all fun v=>!Zi c v
def Cp:ab:=⟨1,0,0⟩
def ql(c:List ab)(i:Nat):List aa:=
 if 0<Int.sign ((c.getD i Cp).dir.cross (c.getD ((i+1)%c.length) Cp).dir).num then [d8 (c.getD i Cp) (c.getD ((i+1)%c.length) Cp)] else []
def gh(c:List ab):List aa:=(List.range c.length).flatMap (ql c)
def pC(v:List aa)(i:Nat):List aa:=[v.getD 0 ⟨0,0⟩,v.getD (i+1) ⟨0,0⟩,v.getD (i+2) ⟨0,0⟩]
def rA(v:List aa):List (List aa):=(List.range (v.length-2)).map (pC v)
def Db(cs:List (List ab)):List (List aa):=cs.flatMap fun c=>rA (gh c)
def AR{c:List ab}{i:Nat}{l m:ab}(h1:c[i]? =some l)(h2:c[(i+1)%c.length]? =some m):ql c i=if 0<Int.sign (l.dir.cross m.dir).num then [d8 l m] else []:=by
 unfold ql;rw[aX,aX,h1,h2];rfl
def GK(c:List ab)(k:Nat):(List.range (k+1)).flatMap (ql c)=(List.range k).flatMap (ql c)++ql c k:=by
 rw[pU,lL];simp
def CW(c:List ab): ∀k,((List.range k).flatMap (ql c)).length<=k
 |0=>aM _
 |k+1=>by
  have:=CW c k;have h2:(ql c k).length<=1:=by unfold ql;split<;>simp
  rw[GK,aW];omega
def ZD{c:List ab}{p:aa}(h:p∈gh c): ∃l∈c,∃m∈c,p=d8 l m:=by
 obtain⟨i,hi,hp⟩:=fZ.1 h;have hi':=jS.1 hi;have e1:=aQ hi';have e2:=aQ (l:=c) (cS (i+1) (show 0<c.length by omega));rw[AR e1 e2] at hp;split at hp
 .exact⟨_,bL _,_,bL _,aU.1 hp⟩
 .cases hp
def YR(v:List aa)(k:Nat):(List.range (k+1)).map (pC v)=(List.range k).map (pC v)++[pC v k]:=by
 rw[pU,bY];rfl
def aGk{t:Tr}(ht:t.all ab.ok):((om t []).filter (·.2)).map (·.1)=(ce t).map fun c=>c.map (·.l):=by
 rw[J8 (d:=[]) ht (fun l h=>by cases h) bO.nil .nil (fun p=>⟨fun _ _ h=>(by cases h),fun _ _ h=>(by cases h)⟩)];unfold ce;rw[List.filter_map,qV,qV];rfl
def Ig{l:ab}: ∀{c:List ab} {v:aj},(fB l c v).2=true->fm l c v=some (fB l c v).1
 |[],v,_=>rfl
 |m::t,v,h=>by
  rw[fB] at h⊢;rw[fm];split
  .rename_i e;rw[if_pos e] at h;exact Ig h
  .rename_i e
   rw[if_neg e] at h;split
   .rename_i k;rw[if_pos k] at h;exact Ig h
   .rename_i k;rw[if_neg k] at h;cases h
def WH{v:aj}(h:v.Pos):v.ins (jy v):=by
 obtain⟨lo,hi,nl,nh⟩:=v;unfold aj.Pos at h;unfold jy aj.ins
 cases nl<;>cases nh<;>simp at* <;>grind
def Sl{p v:aa}: ∀{c:List ab} {s:Rat},0<s->0<mG p v c s/\mG p v c s<=s/\ ∀m∈c,0<m.value p->m.nor.dot v<0->mG p v c s<= -(m.value p/m.nor.dot v)/2
 |[],s,h=>⟨h,fN,fun m hm=>by cases hm⟩
 |m::t,s,h=>by
  have hk:m.value (bP p v ((1:Int):Rat))-m.value p=m.nor.dot v:=by rw[gH];grind
  have key:0<oP p v m s/\oP p v m s<=s/\(0<m.value p->m.nor.dot v<0->oP p v m s<= -(m.value p/m.nor.dot v)/2):=by
   unfold oP tw;simp only[hk,lz,lf,AP];split
   .rename_i e;exact⟨h,fN,fun _ k=>by rw[e] at k;exact absurd k (by decide)⟩
   .split
    .rename_i e;exact⟨h,fN,fun k=>by rw[e] at k;exact absurd k (by decide)⟩
    .split
     .rename_i e
      split
      .exact⟨by grind,by grind,fun _ _=>fN⟩
      .exact⟨h,fN,fun _ _=>by grind⟩
     .rename_i e
      exact⟨h,fN,fun k1 k2=>absurd (Qf k2 k1) e⟩
  obtain⟨a1,a2,a3⟩:=key;obtain⟨b1,b2,b3⟩:=Sl (p:=p) (v:=v) (c:=t) a1;rw[mG];refine⟨b1,by grind,fun u hu k1 k2=>?_⟩;rcases aT.1 hu with rfl|hu
  .have:=a3 k1 k2;grind
  .exact b3 u hu k1 k2
def aDN{c:List ab}{p v:aa}(h: ∀m∈c,0<m.value p\/(m.value p=0/\0<m.nor.dot v)):cI c (xH c p v):=fun m hm=>by
 obtain⟨s0,_,s2⟩:=Sl (p:=p) (v:=v) (c:=c) (s:=((1:Int):Rat)) (by decide);unfold xH;generalize mG p v c ((1:Int):Rat)=s at*;rw[gH];rcases h m hm with k|⟨k,k2⟩
 .by_cases q:m.nor.dot v<0
  .have h3:=s2 m hm k q
   have h4:=Qf q k;have e:m.value p/m.nor.dot v*m.nor.dot v=m.value p:=by grind
   generalize m.value p/m.nor.dot v=z at*;have h5:=cO (a:= -z/2-s) (b:= -m.nor.dot v) (by grind) (by grind);grind
  .have:=cO (dQ s0) (show 0<=m.nor.dot v by grind)
   grind
 .have:=bH s0 k2
  grind
def WD{m:ab}(h:m.Ne):0<m.nor.dot (jk m.dir):=by
 have:=sG h;have e:m.nor.dot (jk m.dir)=m.nor.dot m.nor:=by unfold jk ab.dir ab.nor aa.dot;grind
 rw[e];exact this
def Yb{c:List ab}(hok: ∀m∈c,m.ok)(hb:i7 c=true):cI c (i5 c c):=by
 have key: ∀t:List ab,(∀m∈t,m∈c)->(∃m∈t,(fm m c aj.all).isSome=true)->cI c (i5 c t):=by
  intro t
  induction t with
  |nil=>rintro _ ⟨m,hm,_⟩;cases hm
  |cons m t ih=>
   intro hs hx;rw[i5];split
   .rename_i e
    obtain⟨h1,h2⟩:=AI m c _ _ wF (Ig e);have h3:=((h2 _).1 (WH h1)).2;have hmo:=(hok m (hs m aZ)).ne;refine aDN fun u hu=>?_;by_cases q:u=m
    .subst q;exact .inr ⟨mz hmo _,WD hmo⟩
    .exact .inl (h3 u hu q)
   .rename_i e
    refine ih (fun u hu=>hs u (aK _ hu)) ?_;obtain⟨u,hu,h⟩:=hx;rcases aT.1 hu with rfl|hu
    .rw[wL] at e;exact absurd h e
    .exact⟨u,hu,h⟩
 unfold i7 at hb;rw[iV,List.isEmpty_iff,iS] at hb;rcases hb with rfl|⟨m,hm,h⟩
 .exact fun m hm=>by cases hm
 .exact key c (fun _ h=>h) ⟨m,hm,h⟩
def cI.seg{c:List ab}{q p:aa}{e:Rat}(hq:cI c q)(hp:cI c p)(h0:0<=e)(h1:e<=1):cI c (bj q p e):=fun m hm=>by
 rw[oe];have a:=hq m hm;have b:=hp m hm;by_cases z:e=0
 .subst z;grind
 .have k1:=bH (show 0<e by grind) b
  have k2:=cO (show 0<=1-e by grind) (dQ a);grind
def cI.open{c:List ab}{q:aa}(u:aa)(h:cI c q): ∃e:Rat,0<e/\ ∀d,0<=d->d<=e->cI c (bP q u d):=by
 have hd:bm (c.map fun m=>(⟨m,aj.all⟩:aP)) q:=fun s hs=>by
  obtain⟨m,hm,rfl⟩:=bQ.1 hs;exact h m hm
 obtain⟨e,he,ho⟩:=hd.open u;exact⟨e,he,fun d d0 d1 m hm=>ho d d0 d1 ⟨m,aj.all⟩ (fS hm)⟩
def Ay(l:ab)(t u:Rat):l.at (t+u)=bP (l.at t) l.dir u:=by
 rw[<-tE,<-tE];unfold bP;simp only[aa.mk.injEq];constructor<;>grind
def Za(l:ab)(a b s:Rat):bj (l.at a) (l.at b) s=l.at (a+s*(b-a)):=by
 rw[<-tE,<-tE,<-tE];unfold bj bP;simp only[aa.mk.injEq];constructor<;>grind
def Sc{l:ab}(h:l.Ne)(t:Rat):fG l (l.at t)=t:=by
 obtain⟨q,_,hq⟩:=Bm h;have h2:=sG h;have e0:l.dir.dot l.dir=l.nor.dot l.nor:=by unfold ab.dir ab.nor aa.dot;grind
 have e1:(l.at t).dot l.dir=t*l.dir.dot l.dir:=by
  rw[<-tE,hq];unfold bP ab.dir aa.dot;grind
 unfold fG;rw[e1];rw[<-e0] at h2;generalize l.dir.dot l.dir=d at*;have:d≠0:=by grind
 grind
def OD{l:ab}(h:l.Ne){p:aa}(hp:l.value p=0):l.at (fG l p)=p:=by
 obtain⟨t,rfl⟩:=Bc h hp;rw[Sc h]
def Fl(a:Int){g:Nat}(h:g∣a.natAbs):(g:Int)*zv (decide (a<0)) (a.natAbs/g)=a:=by
 obtain⟨k,hk⟩:=h;by_cases g0:g=0
 .subst g0;simp at hk⊢;omega
 have e:a.natAbs/g=k:=by rw[hk];exact Nat.mul_div_cancel_left k (iY g0)
 rw[e];unfold zv;have hc:((g*k:Nat):Int)=(g:Int)*(k:Int):=by push_cast;rfl
 by_cases n:a<0
 .simp only[n,decide_true,if_true];rw[sM];omega
 .simp only[n,decide_false];show(g:Int)*(k:Int)=a;omega
def aEd{a b c:Int}(h: ¬(a=0/\b=0)): ∃g:Int,0<g/\g*(qE a b c).a=a/\g*(qE a b c).b=b/\g*(qE a b c).c=c:=by
 have hg:0<Nat.gcd (Nat.gcd a.natAbs b.natAbs) c.natAbs:=mS _ (iY fun e=>h ⟨nL.1 (oR e),nL.1 (oY e)⟩);refine⟨(Nat.gcd (Nat.gcd a.natAbs b.natAbs) c.natAbs:Nat),by omega,?_,?_,?_⟩
 .exact Fl a (sU (nU _ _) (nU _ _))
 .exact Fl b (sU (nU _ _) (oV _ _))
 .exact Fl c (oV _ _)
def azW{v w:ZP}(h:v≠w): ∃g:Rat,0<g/\(mh v.1 v.2 w.1 w.2).value v.q=0/\(mh v.1 v.2 w.1 w.2).value w.q=0/\w.q=bP v.q (mh v.1 v.2 w.1 w.2).dir g:=by
 obtain⟨m,n⟩:=v;obtain⟨p,q⟩:=w;have hne: ¬(pf n q=0/\qa m p=0):=fun e=>h (by unfold pf qa at e;rw[Prod.mk.injEq];omega);obtain⟨g,g0,ga,gb,gc⟩:=aEd (c:=vS m n p q) hne;dsimp only;unfold mh;generalize qE (pf n q) (qa m p) (vS m n p q)=l at*;have g0':(0:Rat)<(g:Rat):=by exact_mod_cast g0
 have ra:(g:Rat)*(l.a:Rat)= -((q:Rat)-(n:Rat)):=by rw[<-cR,ga];unfold pf;push_cast;grind
 have rb:(g:Rat)*(l.b:Rat)=(p:Rat)-(m:Rat):=by rw[<-cR,gb];unfold qa;push_cast;grind
 have rc:(g:Rat)*(l.c:Rat)= -(-((q:Rat)-(n:Rat))*(m:Rat)+((p:Rat)-(m:Rat))*(n:Rat)):=by rw[<-cR,gc];unfold vS pf qa;push_cast;grind
 have z: ∀x:Rat,(g:Rat)*x=0->x=0:=fun x hx=>by
  rcases gV.1 hx with e|e
  .rw[e] at g0';exact absurd g0' (by decide)
  .exact e
 refine⟨g,g0',z _ ?_,z _ ?_,?_⟩
 .rw[jf];unfold ZP.q iP;dsimp only;grind
 .rw[jf];unfold ZP.q iP;dsimp only;grind
 .unfold ZP.q iP bP ab.dir;simp only[aa.mk.injEq];constructor<;>grind
def Ws{v w:ZP}(h:v≠w)(ho:(kv v w).l.ok):(kv v w).l.at (kv v w).v.lo=v.q/\(kv v w).l.at (kv v w).v.hi=w.q/\(kv v w).v.lo<(kv v w).v.hi:=by
 obtain⟨g,g0,h1,h2,h3⟩:=azW h;unfold kv at ho⊢;dsimp only at ho⊢;generalize mh v.1 v.2 w.1 w.2=l at*;have e1:=OD ho.ne h1;have e2:=OD ho.ne h2;refine⟨e1,e2,?_⟩;have:fG l w.q=fG l v.q+g:=by
  have e3:=Ay l (fG l v.q) g;rw[e1,<-h3] at e3;rw[<-e3,Sc ho.ne]
 rw[this];grind
def Rk{r:List ZP}{k:Nat}: ∀{n:Nat},k<n->kv (r.getD k (0,0)) (gu r k)∈qv r n
 |n+1,h=>by
  rw[qv];by_cases e:k=n
  .subst e;exact cW _ (aU.2 J)
  .exact bM _ (Rk (by omega))
def azO{r:List ZP}(hr:d7 r){c:List ab}(hc: ∀e∈km r,∀t,e.v.ins t-> ¬cI c (e.l.at t)){q p:aa}(hq:cI c q)(hp:cI c p):yV r q p:=fun k hk s t s0 s1 t0 t1 he=>by
 have hm:kv (r.getD k (0,0)) (gu r k)∈km r:=Rk hk;have ho:=((EC hr).2 _ hm).ok;obtain⟨e1,e2,e3⟩:=Ws (hr.ne k hk) ho;have hno:=hc _ hm;have hx:=hq.seg hp t0 t1;rw[<-he,<-e1,<-e2,Za] at hx;have hv: ∀u,(kv (r.getD k (0,0)) (gu r k)).v.lo<u->u<(kv (r.getD k (0,0)) (gu r k)).v.hi-> ¬cI c ((kv (r.getD k (0,0)) (gu r k)).l.at u):=fun u h1 h2=>hno u ⟨.inr h1, .inr h2⟩;generalize kv (r.getD k (0,0)) (gu r k)=e at*;have hb:=IE s0 s1 (fN) (dQ e3) (dQ e3) (fN);generalize e.v.lo+s*(e.v.hi-e.v.lo)=u at*;obtain⟨d,d0,hd⟩:=hx.open e.l.dir;obtain⟨d',d0',hd'⟩:=hx.open (bE e.l.dir);by_cases h1:e.v.lo<u
 .by_cases h2:u<e.v.hi
  .exact hv u h1 h2 hx
  .have eu:u=e.v.hi:=by grind
   obtain⟨z,z0,z1,z2⟩: ∃z:Rat,0<z/\z<=d'/\z<e.v.hi-e.v.lo:=by
    by_cases k:d'<(e.v.hi-e.v.lo)/2
    .exact⟨d',d0',fN,by grind⟩
    .exact⟨(e.v.hi-e.v.lo)/2,by grind,by grind,by grind⟩
   refine hv (u+ -z) (by grind) (by grind) ?_;rw[Ay];have:=hd' z (dQ z0) z1;have e5:bP (e.l.at u) (bE e.l.dir) z=bP (e.l.at u) e.l.dir (-z):=by unfold bP bE;simp only[aa.mk.injEq];constructor<;>grind
   rw[e5] at this;exact this
 .have eu:u=e.v.lo:=by grind
  obtain⟨z,z0,z1,z2⟩: ∃z:Rat,0<z/\z<=d/\z<e.v.hi-e.v.lo:=by
   by_cases k:d<(e.v.hi-e.v.lo)/2
   .exact⟨d,d0,fN,by grind⟩
   .exact⟨(e.v.hi-e.v.lo)/2,by grind,by grind,by grind⟩
  refine hv (u+z) (by grind) (by grind) ?_;rw[Ay];exact hd z (dQ z0) z1
def ayP{rs:List (List ZP)}{fill:Int}(hr: ∀r∈rs,d7 r){c:List ab}(hc: ∀e∈ip rs,∀t,e.v.ins t-> ¬cI c (e.l.at t)){q p:aa}(hq:cI c q)(hp:cI c p):l6 rs fill q=l6 rs fill p:=by
 have key: ∀(rs:List (List ZP)),(∀r∈rs,d7 r)->(∀e∈ip rs,∀t,e.v.ins t-> ¬cI c (e.l.at t))-> ∀n:Int,rs.foldl (fun n r=>n+ly r q) n=rs.foldl (fun n r=>n+ly r p) n:=by
  intro rs
  induction rs with
  |nil=>intro _ _ n;rfl
  |cons r t ih=>
   intro hr hc n;rw[kV,kV,<-V9 (azO (hr r aZ) (fun e he=>hc e (fZ.2 ⟨r,aZ,he⟩)) hq hp)];exact ih (fun r h=>hr r (aK _ h)) (fun e he=>hc e (by obtain⟨r,h1,h2⟩:=fZ.1 he;exact fZ.2 ⟨r,aK _ h1,h2⟩)) _
 unfold l6;rw[key rs hr hc]
def Bz{cuts:List Rat}(h:cuts.Pairwise (· < ·)){i j:Nat}(hij:i<j)(hj:j<cuts.length):cuts.getD i 0<cuts.getD j 0:=by
 rw[aX,aX,aQ hj,aQ (by omega)];exact jU.1 h i j (by omega) hj hij
def HD{cuts:List Rat}{marks:List Bool}(h:cuts.Pairwise (· < ·)): ∀{k:Nat},∀v∈fH cuts marks (k+1),k<cuts.length->(v.nh=false/\v.hi<=cuts.getD k 0)/\(v.nl=true\/v.lo<cuts.getD k 0)
 |k,v,hv,hk=>by
  have hg:((dx cuts k).nh=false/\(dx cuts k).hi<=cuts.getD k 0)/\((dx cuts k).nl=true\/(dx cuts k).lo<cuts.getD k 0):=by
   unfold dx;dsimp only;refine⟨⟨by simp;omega,by rw[if_pos hk];exact fN⟩,?_⟩;by_cases z:k=0
   .left;simp[z]
   .right;rw[if_neg z];exact Bz h (by omega) hk
  have hold: ∀v∈fH cuts marks k,(v.nh=false/\v.hi<=cuts.getD k 0)/\(v.nl=true\/v.lo<cuts.getD k 0):=fun v hv=>by
   cases k with
   |zero=>cases hv
   |succ k=>
    have ih:=HD h v hv (by omega);have:=Bz h (Nat.lt_succ_self k) hk;exact⟨⟨ih.1.1,by have:=ih.1.2;grind⟩,ih.2.imp id fun z=>by grind⟩
  rw[fH] at hv;split at hv
  .split at hv
   .split at hv
    .rename_i w hw
     rcases bK.1 hv with q|q
     .exact hold v ((sK _).subset q)
     .rw[aU] at q;subst q
      exact⟨hg.1,(hold w (oW hw)).2⟩
    .rcases bK.1 hv with q|q
     .exact hold v q
     .rw[aU] at q;subst q;exact hg
   .rcases bK.1 hv with q|q
    .exact hold v q
    .rw[aU] at q;subst q;exact hg
  .exact hold v hv
def LC{cuts:List Rat}{marks:List Bool}(h:cuts.Pairwise (· < ·)){x:Rat}{i:Nat}(hm:marks.getD i false=true)(hx:(dx cuts i).ins x): ∀{k:Nat},k<=cuts.length+1->i<k-> ∃v∈fH cuts marks k,v.ins x
 |k+1,hk,hi=>by
  by_cases e:i=k
  .subst e
   rw[fH,if_pos hm];split
   .rename_i h0
    split
    .rename_i w hw
     refine⟨_,cW _ (aU.2 J),?_,hx.2⟩;obtain⟨j,rfl⟩: ∃j,i=j+1:=⟨i-1,by omega⟩;have:=(HD h w (oW hw) (by omega)).2;have hl:=hx.1;unfold dx at hl;dsimp only at hl;rw[if_neg (by omega),show j+1-1=j by omega] at hl;have hl':cuts.getD j 0<x:=hl.resolve_left (by simp);exact this.imp id fun z=>by show w.lo<x;grind
    .exact⟨_,cW _ (aU.2 J),hx⟩
   .exact⟨_,cW _ (aU.2 J),hx⟩
  .obtain⟨v,hv,hvx⟩:=LC h hm hx (k:=k) (by omega) (by omega)
   rw[fH];split
   .split
    .split
     .rename_i w hw
      by_cases q:v=w
      .subst q
       refine⟨_,cW _ (aU.2 J),hvx.1,?_⟩;show(dx cuts k).nh=true\/x<(dx cuts k).hi;obtain⟨j,rfl⟩: ∃j,k=j+1:=⟨k-1,by omega⟩;obtain⟨⟨b1,b2⟩,_⟩:=HD h v hv (by omega);have hh:=hvx.2.resolve_left (by rw[b1];decide);unfold dx;dsimp only;by_cases z:j+1<cuts.length
       .right;rw[if_pos z];have:=Bz h (Nat.lt_succ_self j) z;grind
       .left;simp;omega
      .refine⟨v,bM _ ?_,hvx⟩
       obtain⟨l,hl⟩:=List.getLast?_eq_some_iff.1 hw;rw[hl] at hv⊢;rw[List.dropLast_concat];rcases bK.1 hv with z|z
       .exact z
       .rw[aU] at z;exact absurd z q
     .exact⟨v,bM _ hv,hvx⟩
    .exact⟨v,bM _ hv,hvx⟩
   .exact⟨v,hv,hvx⟩
def Q5: ∀{l:List Rat} {i:Nat},i+1<l.length->(i6 l).getD i 0=(l.getD i 0+l.getD (i+1) 0)/2
 |[],_,h=>by simp at h
 |[_],_,h=>by simp at h
 |a::b::t,0,_=>by simp[i6]
 |a::b::t,i+1,h=>by
  have:=Q5 (l:=b::t) (i:=i) (by simp at h⊢;omega);rw[i6,lS,this];simp only[lS]
def Ea: ∀(l:List Rat) (a:Rat),(i6 (a::l)).length=l.length
 |[],_=>rfl
 |b::t,a=>by rw[i6,bJ,Ea t b,bJ]
def Ur{cuts:List Rat}(h:cuts.Pairwise (· < ·)){i j:Nat}(hi:i<=cuts.length)(hj:j<cuts.length):(cuts.getD j 0<(e8 cuts).getD i 0↔j<i)/\cuts.getD j 0≠(e8 cuts).getD i 0:=by
 have mono: ∀{a b:Nat},a<=b->b<cuts.length->cuts.getD a 0<=cuts.getD b 0:=fun{a b} hab hb=>by
  by_cases e:a=b
  .subst e;exact fN
  .exact dQ (Bz h (by omega) hb)
 cases cuts with
 |nil=>simp at hj
 |cons a t=>
  have hl:(a::t).length=t.length+1:=J;rw[e8]
  cases i with
  |zero=>
   rw[tJ];have:=mono (aN j) hj;rw[tJ] at this;constructor
   .constructor
    .intro q;exfalso;grind
    .intro q;omega
   .intro q;grind
  |succ i=>
   rw[lS];by_cases e:i<t.length
   .have e1:(i6 (a::t)++[(a::t).getLast (by simp)+1]).getD i 0=((a::t).getD i 0+(a::t).getD (i+1) 0)/2:=by
     rw[<-Q5 (by omega),aX,aX,cN (by rw[Ea];exact e)]
    rw[e1];have h1:=Bz h (Nat.lt_succ_self i) (by omega);by_cases q:j<=i
    .have:=mono q (by omega)
     constructor
     .exact⟨fun _=>by omega,fun _=>by grind⟩
     .grind
    .have:=mono (show i+1<=j by omega) hj
     constructor
     .exact⟨fun _=>by exfalso;grind,fun _=>by omega⟩
     .grind
   .have ei:i=t.length:=by omega
    have e1:(i6 (a::t)++[(a::t).getLast (by simp)+1]).getD i 0=(a::t).getLast (by simp)+1:=by
     rw[aX,gQ (by rw[Ea];omega),Ea,ei];simp
    rw[e1];have:=Nk h (by simp) ((a::t).getD j 0) (by rw[aX,aQ hj];exact bL _);constructor
    .exact⟨fun _=>by omega,fun _=>by grind⟩
    .grind
def Qo(x:Rat): ∀{cuts:List Rat},cuts.Pairwise (· < ·)-> ∃i,i<=cuts.length/\ ∀j,j<cuts.length->(cuts.getD j 0<x↔j<i)
 |[],_=>⟨0,aM _,fun j hj=>by simp at hj⟩
 |a::t,h=>by
  rw[bR] at h;by_cases q:a<x
  .obtain⟨i,h1,h2⟩:=Qo x h.2
   refine⟨i+1,by simp;exact h1,fun j hj=>?_⟩
   cases j with
   |zero=>simp[q]
   |succ j=>rw[lS,h2 j (by simpa using hj)];omega
  .refine⟨0,aN _,fun j hj=>⟨fun k=>?_,fun k=>by omega⟩⟩
   exfalso
   cases j with
   |zero=>simp at k;grind
   |succ j=>
    rw[lS] at k;have hj':j<t.length:=by simpa using hj
    have:=h.1 (t.getD j 0) (by rw[aX,aQ hj'];exact bL _);grind
def R7{out:List Rat}{s:aj}{y:Rat}:y∈lA out s↔y∈out\/(s.nl=false/\y=s.lo)\/(s.nh=false/\y=s.hi):=by
 unfold lA
 cases e1:s.nl<;>cases e2:s.nh<;>simp[qq]<;>grind
def S2{v:aj}{x:Rat}:fD [v] x=true↔v.ins x:=by
 unfold fD rj rj aj.ins;have h1:=Ie x v.lo;have h2:=AP x v.hi;rw[decide_eq_true_eq]
 cases e1:v.nl<;>cases e2:v.nh<;>simp only[if_true,jT,if_false,false_or,true_or,h1,h2,and_true,true_and,show(0:Int)<1 from by decide,show(-1:Int)<0 from by decide]<;>grind
def Rh{cuts:List Rat}{v:aj}(hl:v.nl=true\/v.lo∈cuts)(hh:v.nh=true\/v.hi∈cuts){x g:Rat}(ho: ∀u∈cuts,(u<x↔u<g)/\u≠x/\u≠g)(h:v.ins x):v.ins g:=by
 refine⟨?_,?_⟩
 .rcases hl with e|e
  .exact .inl e
  .rcases h.1 with k|k
   .exact .inl k
   .exact .inr ((ho _ e).1.1 k)
 .rcases hh with e|e
  .exact .inl e
  .rcases h.2 with k|k
   .exact .inl k
   .obtain⟨a,b,c⟩:=ho _ e
    right;by_cases q:v.hi<g
    .have:=a.2 q;grind
    .grind
def T'{v w:aj}{t:Rat}(hv:v.ins t)(hw:w.ins t): ∃z∈o9 2 [v] [w],z.ins t:=by
 have hmem: ∀y,y∈ig ([v]++[w])↔((v.nl=false/\y=v.lo)\/(v.nh=false/\y=v.hi))\/(w.nl=false/\y=w.lo)\/(w.nh=false/\y=w.hi):=fun y=>by
  show y∈lA (lA [] v) w↔_;rw[R7,R7];simp
 have hasc:=(Hx ([v]++[w])).1;have h0: ∀u∈ig ([v]++[w]),u≠t:=fun u hu e=>by
  subst e;rcases(hmem u).1 hu with(⟨a,b⟩|⟨a,b⟩)|⟨a,b⟩|⟨a,b⟩
  .have:=hv.1.resolve_left (by rw[a];decide);grind
  .have:=hv.2.resolve_left (by rw[a];decide);grind
  .have:=hw.1.resolve_left (by rw[a];decide);grind
  .have:=hw.2.resolve_left (by rw[a];decide);grind
 have l1:v.nl=true\/v.lo∈ig ([v]++[w]):=by
  cases e:v.nl with
  |true=>exact .inl J
  |false=>exact .inr ((hmem _).2 (.inl (.inl ⟨e,J⟩)))
 have l2:v.nh=true\/v.hi∈ig ([v]++[w]):=by
  cases e:v.nh with
  |true=>exact .inl J
  |false=>exact .inr ((hmem _).2 (.inl (.inr ⟨e,J⟩)))
 have l3:w.nl=true\/w.lo∈ig ([v]++[w]):=by
  cases e:w.nl with
  |true=>exact .inl J
  |false=>exact .inr ((hmem _).2 (.inr (.inl ⟨e,J⟩)))
 have l4:w.nh=true\/w.hi∈ig ([v]++[w]):=by
  cases e:w.nh with
  |true=>exact .inl J
  |false=>exact .inr ((hmem _).2 (.inr (.inr ⟨e,J⟩)))
 unfold o9 vl;generalize ig ([v]++[w])=cuts at*;obtain⟨i,hi,ho⟩:=Qo t hasc;have hord: ∀u∈cuts,(u<t↔u<(e8 cuts).getD i 0)/\u≠t/\u≠(e8 cuts).getD i 0:=fun u hu=>by
  obtain⟨j,hj,e⟩:=mT.1 hu;have e':cuts.getD j 0=u:=by rw[aX,aQ hj];exact e
  obtain⟨g1,g2⟩:=Ur hasc hi hj;have:=ho j hj;rw[e'] at g1 g2 this;exact⟨this.trans g1.symm,h0 u hu,g2⟩
 have hlen:(e8 cuts).length=cuts.length+1:=yZ;refine LC hasc (i:=i) ?_ ?_ (by rw[aJ,hlen];exact aM _) (by rw[aJ,hlen];omega)
 .rw[aX,cK,aQ (by omega)]
  show nP 2 (fD [v] _) (fD [w] _)=true;have e:(e8 cuts)[i]'(by omega)=(e8 cuts).getD i 0:=by rw[aX,aQ (by omega)];rfl
  rw[e,S2.2 (Rh l1 l2 hord hv),S2.2 (Rh l3 l4 hord hw)];rfl
 .unfold dx aj.ins
  dsimp only;refine⟨?_,?_⟩
  .by_cases z:i=0
   .left;simp[z]
   .right;rw[if_neg z];exact(ho (i-1) (by omega)).2 (by omega)
  .by_cases z:i=cuts.length
   .left;simp[z]
   .right
    rw[if_pos (by omega)];have a:=ho i (by omega);have b:=h0 (cuts.getD i 0) (by rw[aX,aQ (by omega)];exact bL _);have c: ¬cuts.getD i 0<t:=fun k=>by have:=a.1 k;omega
    grind
def OR{l m:ab}(h:crossI l m=0):l.cutK m=0:=by
 have e:l.cutK m= -(crossI l m:Rat):=by unfold ab.cutK ab.nor ab.dir aa.dot crossI;push_cast;grind
 rw[e,h];rfl
def axB{k:Rat}{side:Int}(hs:side=1\/side= -1)(h:0<(side:Rat)*k):k.num.sign=side:=by
 rcases hs with rfl|rfl
 .exact(n4 k).2 (by grind)
 .have:k.num.sign<0:=(sI k).2 (by grind)
  have:=tK k.num;omega
def Xo{f:aP}{m:ab}{side:Int}(hs:side=1\/side= -1)(hl:f.l.Ne){t:Rat}(ht:f.v.ins t)(hm:0<(side:Rat)*m.value (f.l.at t)): ∃g∈eE f m side,g.l=f.l/\g.v.ins t:=by
 have hv:=ke f.l m t;have ho: ¬lP f.l m=true:=fun e=>by
  unfold lP at e;rw[decide_eq_true_eq,lz] at e;rw[OR e.1,show f.l.cutC m=m.value f.l.base from J,e.2] at hv;rw[hv] at hm;grind
 unfold eE;rw[if_neg ho];have hh: ∃w,jb f.l m side=[w]/\w.ins t:=by
  unfold jb;by_cases hc:crossI f.l m=0
  .rw[if_pos hc]
   rw[OR hc,show f.l.cutC m=m.value f.l.base from J] at hv;rw[if_pos (axB hs (by rw[hv] at hm;grind))];exact⟨_,J,Zt t⟩
  .rw[if_neg hc]
   have hp:=Ah hl hc;have hK:f.l.cutK m≠0:=fun e=>by
    have e2:f.l.cutK m= -(crossI f.l m:Rat):=by unfold ab.cutK ab.nor ab.dir aa.dot crossI;push_cast;grind
    rw[e2] at e;have:(crossI f.l m:Rat)=0:=by grind
    exact hc (dZ.1 this)
   generalize hx:fG f.l (d8 f.l m)=x at*;have hv2: ∀u,m.value (f.l.at u)=f.l.cutK m*(u-x):=fun u=>by rw[ke,hp];grind
   rw[hv2] at hm;have e1:m.value (f.l.at (x+1))=f.l.cutK m:=by rw[hv2];grind
   rw[e1];generalize f.l.cutK m=K at*;by_cases q:K.num.sign=side
   .rw[if_pos q]
    refine⟨_,J, .inr ?_, .inl J⟩;show x<t;rcases hs with rfl|rfl
    .have:=(n4 K).1 q
     have:=(yU this).1 (show 0<K*(t-x) by grind);grind
    .have:=(sI K).1 (by omega)
     have:=(Gr this).1 (show K*(t-x)<0 by grind);grind
   .rw[if_neg q]
    refine⟨_,J, .inl J, .inr ?_⟩;show t<x;have h3:=ge K;rcases hs with rfl|rfl
    .have kn:K<0:=by
      rcases h3 with h|h|h
      .exact absurd h hK
      .exact absurd ((n4 K).2 h) q
      .exact h
     have:=(Gr kn (b:=x-t)).1 (by grind);grind
    .have kp:0<K:=by
      rcases h3 with h|h|h
      .exact absurd h hK
      .exact h
      .exact absurd (by have:=(sI K).2 h;have:=tK K.num;omega) q
     have:=(yU kp (b:=x-t)).1 (by grind);grind
 obtain⟨w,e,hw⟩:=hh;rw[e];obtain⟨z,hz,hzt⟩:=T' ht hw;exact⟨⟨f.l,z⟩,fS hz,J,hzt⟩
def B4(E:List aP)(c:List ab)(l:List aP):Prop:= ∀e∈E,∀t,e.v.ins t->cI c (e.l.at t)-> ∃f∈l,f.l=e.l/\f.v.ins t
def B4.split{E l:List aP}{c:List ab}(h:B4 E c l)(hE: ∀e∈E,e.l.Ne){m:ab}{side:Int}(hs:side=1\/side= -1){m':ab}(hm': ∀p,m'.value p=(side:Rat)*m.value p):B4 E (c++[m']) (l.flatMap fun g=>eE g m side):=fun e he t ht hin=>by
 obtain⟨h1,h2⟩:=jB.1 hin;obtain⟨f,hf,ef,hft⟩:=h e he t ht h1;rw[hm'] at h2;obtain⟨g,hg,eg,hgt⟩:=Xo (f:=f) hs (by rw[ef];exact hE e he) hft (by rw[ef];exact h2);exact⟨g,fZ.2 ⟨f,hf,hg⟩,by rw[eg,ef],hgt⟩
def JX{acc:aa->Bool}{E:List aP}(hE: ∀e∈E,e.l.Ne)(ha: ∀(c:List ab) (q p:aa),(∀e∈E,∀t,e.v.ins t-> ¬cI c (e.l.at t))->cI c q->cI c p->acc q=acc p): ∀{n:Nat} {l:List aP} {c:List ab} {p:aa},(∀f∈l,nk f)->q7 n l->(∀m∈c,m.ok)->B4 E c l->cI c p->fk (jg acc n l c).lns p->(jg acc n l c).val p=acc p
 |n,[],c,p,_,_,hc,hcov,hp,_=>by
  have e:jg acc n [] c= .leaf (acc (i5 c c)):=by cases n<;>rfl
  rw[e,Tr.val];exact ha c _ _ (fun e he t ht hin=>by obtain⟨f,hf,_⟩:=hcov e he t ht hin;cases hf) (Yb hc ((xN hc).2 ⟨p,hp⟩)) hp
 |0,f::t,_,_,_,hf,_,_,_,_=>by
  obtain⟨K,hK,hs⟩:=hf;obtain⟨m,hm,_⟩:=hs f aZ;have:K=[]:=bS (by omega);rw[this] at hm;cases hm
 |n+1,f::t,c,p,hok,hf,hc,hcov,hp,hoff=>by
  have fo:=hok f aZ;have hok': ∀side,∀g∈(f::t).flatMap fun g=>eE g f.l side,nk g:=fun side g hg=>by
   obtain⟨q,hq,hg⟩:=fZ.1 hg;exact(EM (hok q hq) fo.lb g hg).1
  rw[jg] at hoff⊢;by_cases q:0<f.l.value p
  .rw[Tr.val_pos q]
   exact JX hE ha (hok' 1) (hf.split hok) (iO hc fo.ok) (hcov.split hE (.inl J) fun p=>by grind) (jB.2 ⟨hp,q⟩) hoff.x
  .rw[Tr.val_neg q]
   have:=hoff.l;exact JX hE ha (hok' (-1)) (hf.split hok) (iO hc fo.ok.rev) (hcov.split hE (.inr J) fun p=>by rw[fq];grind) (jB.2 ⟨hp,by rw[fq];grind⟩) hoff.y
def at0{rs:List (List ZP)}{fill:Int}(hr: ∀r∈rs,d7 r){p:aa}(ho:fk (wD rs fill).lns p):(l7 rs fill).val p=l6 rs fill p:=by
 obtain⟨h1,h2⟩:=tO hr;have hok:(wD rs fill).all ab.ok:=wn fun f hf=>(h2 f hf).ok;unfold l7;rw[Tr.val_restrict _ _ _ hok bO.nil (fun s hs=>by cases hs) ho];unfold wD at ho⊢;refine JX (E:=ip rs) (fun e he=>(h2 e he).ok.ne) (fun c q p hno hq hp=>ayP hr hno hq hp) h2 ?_ (fun m hm=>by cases hm) (fun e he t ht _=>⟨e,he,J,ht⟩) (fun m hm=>by cases hm) ho;exact⟨(ip rs).map (·.l),by rw[aJ];exact aM _,fun f hf=>⟨f.l,fS hf, .inl J⟩⟩
structure CI where
 ax:Rat
 ay:Rat
 ac:Rat
def CI.ev(g:CI)(p:aa):Rat:=g.ax*p.x+g.ay*p.y+g.ac
def CI.li(g:CI)(u:aa):Rat:=g.ax*u.x+g.ay*u.y
def Xc(a b x:aa):Prop:= ∃s:Rat,0<=s/\s<=1/\x=bj a b s
def aLg(a b p r:aa):Prop:=Xc a b p/\((r=⟨b.x-p.x,b.y-p.y⟩/\b≠p)\/(r=⟨a.x-p.x,a.y-p.y⟩/\a≠p))
def MT(r u:aa):Prop:= ∃k:Rat,0<k/\u=⟨k*r.x,k*r.y⟩
def Z8(E:List (aa×aa))(p u:aa):Prop:=u≠⟨0,0⟩/\ ∀f∈E,∀r,aLg f.1 f.2 p r-> ¬MT r u
def edR(r:List ZP):List (aa×aa):=(List.range r.length).map fun k=>((r.getD k (0,0)).q,(gu r k).q)
def ER(rs:List (List ZP)):List (aa×aa):=rs.flatMap edR
def Zr(rs:List (List ZP))(fill:Int)(p v:aa)(b:Bool):Prop:= ∃e:Rat,0<e/\ ∀d,0<d->d<=e->l6 rs fill (bP p v d)=b
section
variable {rs:List (List ZP)} {fill:Int} {p v w:aa} {b c:Bool}
end
end Go.Sx
end
