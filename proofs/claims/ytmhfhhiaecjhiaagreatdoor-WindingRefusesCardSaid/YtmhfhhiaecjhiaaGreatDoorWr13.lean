import Derived.Test.YtmhfhhiaecjhiaaGreatDoorWr12
set_option linter.all false
set_option maxHeartbeats 4000000
set_option maxRecDepth 100000
section
namespace Go.Sx
open Go Go.Proofs Tryz
variable {GB:Gh}
def M5(p r:ZP):(cb p.q r.q<0↔gD p r<0)/\(cb p.q r.q=0↔gD p r=0):=by
 have e1: ∀a b:Int,bG (a:Rat) (b:Rat)<0↔a<b:=fun a b=>by rw[Mu,kU]
 have e2: ∀a b:Int,bG (a:Rat) (b:Rat)=0↔a=b:=fun a b=>by rw[ll,mM]
 have f1:=e1 p.1 r.1;have f2:=e2 p.1 r.1;have f3:=e1 p.2 r.2;have f4:=e2 p.2 r.2;show(cb ⟨(p.1:Rat),(p.2:Rat)⟩ ⟨(r.1:Rat),(r.2:Rat)⟩<0↔_)/\(cb ⟨(p.1:Rat),(p.2:Rat)⟩ ⟨(r.1:Rat),(r.2:Rat)⟩=0↔_);unfold cb gD;dsimp only;generalize bG (p.1:Rat) (r.1:Rat)=u at*;generalize bG (p.2:Rat) (r.2:Rat)=v at*;by_cases h:p.1<r.1
 .rw[if_pos (by omega),if_pos h];omega
 .by_cases h2:r.1<p.1
  .rw[if_pos (by omega),if_neg h,if_pos h2];omega
  .rw[if_neg (by omega),if_neg h,if_neg h2]
   by_cases h3:p.2<r.2
   .rw[if_pos h3];omega
   .rw[if_neg h3]
    split<;>omega
def Kx(x:ZP): ∀l:List ZP,de cb x.q (l.map ZP.q)=(fP x l).map ZP.q
 |[]=>rfl
 |u::t=>by
  obtain⟨h1,h2⟩:=M5 u x;rw[bL,de,fP,Kx x t];by_cases k1:gD u x<0
  .rw[if_pos (h1.2 k1),if_pos k1];rfl
  .rw[if_neg (fun e=>k1 (h1.1 e)),if_neg k1]
   by_cases k2:gD u x=0
   .rw[if_pos (h2.2 k2),if_pos k2];rfl
   .rw[if_neg (fun e=>k2 (h2.1 e)),if_neg k2];rfl
def Su(l:List ZP):dP cb (l.map ZP.q)=(kl l).map ZP.q:=by
 have key: ∀(l o:List ZP),(l.map ZP.q).foldl (fun out x=>de cb x out) (o.map ZP.q)=(l.foldl (fun out x=>fP x out) o).map ZP.q:=by
  intro l
  induction l with
  |nil=>intro o;rfl
  |cons x t ih=>intro o;rw[bL,gM,gM,Kx,ih]
 exact key l []
def Ep(l:List ZP):(l.map ZP.q).map eP=l.map gq:=by rw[mT];rfl
def D4{l:List ZP}(h: ∀p∈l,ZP.le 100 p)(hn:l.length<=100000:=by omega):PF GB prog 38 [.sl (l.map gq)] (.sl ((kl l).map gq)):=by
 have:=yy (GB:=GB) (ps:=l.map ZP.q) (KQ h) (by rw[aZ];exact hn);rw[Su,Ep,Ep] at this;exact this
def Np(u v:ZP):(aa.cross (iP u.1 u.2) (iP v.1 v.2))=((ni u v:Int):Rat):=by
 unfold aa.cross iP ni;push_cast;rfl
def zi(u v:ZP):(aa.cross (iP u.1 u.2) (iP v.1 v.2)).num.sign≠0↔ni u v≠0:=by
 rw[Np,mS];exact not_congr gX
def Wl{α β:Type}(f:α->β)(l:List α):((l.map f).take (l.length-1)).drop 0=l.dropLast.map f:=by
 rw[fZ,<-jL,List.dropLast_eq_take]
def IR{l:List ZP}(h:0<l.length:=by omega): ∃u,l.getLast? =some u/\l[l.length-1]? =some u/\l.getD (l.length-1) (0,0)=u:=by
 refine⟨l[l.length-1],?_,aQ (by omega),?_⟩
 .rw[lK];exact aQ (by omega)
 .rw[aJ,aQ (by omega)];rfl
def UP{l:List ZP}(h:0<l.length): ∃u,l[0]? =some u/\l.getD 0 (0,0)=u:=by
 refine⟨l[0],aQ (by omega),?_⟩;rw[aJ,aQ (by omega)];rfl
def vK{u p:ZP}:(u.1=p.1/\u.2=p.2)↔u=p:=⟨fun h=>Prod.ext h.1 h.2,fun h=>by rw[h];exact⟨J,J⟩⟩
def VD{b:Nat}{es:List Int}(hes:es.length<=400){a:Nat}(ha:a<=es.length):PM GB prog 28 (fE [none] b) b 85 [.sl (es.map vI), .v (.int .i64 (a:Nat))] (ku (et es a).1) [.sl (es.map vI), .v (.int .i64 ((et es a).2:Nat))]:=by
 have hk0:=fi (n:=4) ha;refine qv (fu:=⟨6⟩) func28 J J ntmps28 J J (fun C b m lo hmb=>?_);refine mg (X:=Nat) (fun a2=>[]) (fun a2=>[(1000000,some (.o 85 [.d (.sl (es.map vI)), .d (.v (.int .i64 (a2:Nat)))] false))]) (fun a2=>et es a=kv es a2/\a2<=es.length) [] [1000000] rfl ?_ (fun _=>J) (fun a2 ⟨hR,ha2⟩=>?_)
 .
  refine gx J<|cm J (fun b=>(lB (n:=4) hes ha)) J<|br J J J (fun hc15=>?_) (fun hc15=>?_)
  .
   have hx1:=fi (n:=5) hk0;have hy1:=fi (n:=5) hx1;have hz1:=fi (n:=4) hy1;have hw1:=fi (n:=4) hz1;have hl0:=gi (es:=es) (n:=5) (a:=(au es 4 a).2);have hl1:=gi (es:=es) (n:=5) (a:=(au es 5 (au es 4 a).2).2);have hl2:=gi (es:=es) (n:=4) (a:=(au es 5 (au es 5 (au es 4 a).2).2).2);have hl3:=gi (es:=es) (n:=4) (a:=(au es 4 (au es 5 (au es 5 (au es 4 a).2).2).2).2);refine cm J (fun b=>(lB (n:=5) hes hk0)) J<|cm J (fun b=>(lB (n:=5) hes hx1)) J<|cm J (fun b=>(lB (n:=4) hes hy1)) J<|cm J (fun b=>(lB (n:=4) hes hz1)) J<|cl J (iv (m:=(((au es 5 (au es 4 a).2).1:Int)-4)) (n:=(((au es 5 (au es 5 (au es 4 a).2).2).1:Int)-4)) (by omega) (by omega)) J<|cl J (iv (m:=(((au es 5 (au es 4 a).2).1:Int)-4+1+((au es 4 (au es 5 (au es 5 (au es 4 a).2).2).2).1:Int))) (n:=(((au es 5 (au es 5 (au es 4 a).2).2).1:Int)-4)) (by omega) (by omega)) J<|cl J (iv (m:=(((au es 5 (au es 4 a).2).1:Int)-4+1+((au es 4 (au es 5 (au es 5 (au es 4 a).2).2).2).1:Int))) (n:=(((au es 5 (au es 5 (au es 4 a).2).2).1:Int)-4+1+((au es 4 (au es 4 (au es 5 (au es 5 (au es 4 a).2).2).2).2).1:Int))) (by omega) (by omega)) J<|cl J (iv (m:=(((au es 5 (au es 4 a).2).1:Int)-4)) (n:=(((au es 5 (au es 5 (au es 4 a).2).2).1:Int)-4+1+((au es 4 (au es 4 (au es 5 (au es 5 (au es 4 a).2).2).2).2).1:Int))) (by omega) (by omega)) J<|rf J J<|?_;exact gz hmb J J (by rw[show et es a=_ from if_pos hc15];rfl) (by rw[show et es a=_ from if_pos hc15];rfl)
  .
   refine br J J J (fun hc46=>?_) (fun hc46=>?_)
   .
    obtain⟨hp1,hp2,hp3⟩:=qe hk0;obtain⟨hu1,hu2,hu3,hu4⟩:=sM hp3;obtain⟨hv1,hv2,hv3,hv4⟩:=sM hu4;haveI:=gm (k:=10) (m:=(vF es (pF es (au es 4 a).2).2).1.1) (by omega);haveI:=gm (k:=10) (m:=(vF es (pF es (au es 4 a).2).2).1.2) (by omega);haveI:=gm (k:=10) (m:=(vF es (vF es (pF es (au es 4 a).2).2).2).1.1) (by omega);haveI:=gm (k:=10) (m:=(vF es (vF es (pF es (au es 4 a).2).2).2).1.2) (by omega);refine cm J (fun b=>(AV hes hk0)) J<|cm J (fun b=>(IG hes hp3)) J<|cm J (fun b=>(IG hes hu4)) J<|cl J (RO (p:=iP (vF es (pF es (au es 4 a).2).2).1.1 (vF es (pF es (au es 4 a).2).2).1.2) (q:=iP (vF es (vF es (pF es (au es 4 a).2).2).2).1.1 (vF es (vF es (pF es (au es 4 a).2).2).2).1.2)) J<|cl J (Gm (q:=aa.cross (iP (vF es (pF es (au es 4 a).2).2).1.1 (vF es (pF es (au es 4 a).2).2).1.2) (iP (vF es (vF es (pF es (au es 4 a).2).2).2).1.1 (vF es (vF es (pF es (au es 4 a).2).2).2).1.2))) J<|br J J J (fun hc58=>?_) (fun hc58=>?_)
    .
     refine cl J (vb (n:=1) (by decide) (by decide)) J<|cl J (Fi (m:=(pF es (au es 4 a).2).1.1) (n:=(pF es (au es 4 a).2).1.2) (m':=(vF es (pF es (au es 4 a).2).2).1.1) (n':=(vF es (pF es (au es 4 a).2).2).1.2) (k:=1) (by omega) (by omega) (by omega) (by omega)) J<|cl J (vb (n:=1) (by decide) (by decide)) J<|cl J (Fi (m:=(pF es (au es 4 a).2).1.1) (n:=(pF es (au es 4 a).2).1.2) (m':=(vF es (vF es (pF es (au es 4 a).2).2).2).1.1) (n':=(vF es (vF es (pF es (au es 4 a).2).2).2).1.2) (k:=1) (by omega) (by omega) (by omega) (by omega)) J<|rf J J<|?_;exact gz hmb J J (by rw[show et es a=_ from(if_neg hc15).trans ((if_pos hc46).trans (if_pos ((zi _ _).1 hc58)))];rfl) (by rw[show et es a=_ from(if_neg hc15).trans ((if_pos hc46).trans (if_pos ((zi _ _).1 hc58)))])
    .
     exact at_ (vF es (vF es (pF es (au es 4 a).2).2).2).2 ⟨(if_neg hc15).trans ((if_pos hc46).trans (if_neg (fun e=>hc58 ((zi _ _).2 e)))),hv4⟩
   .
    exact at_ (au es 4 a).2 ⟨(if_neg hc15).trans (if_neg hc46),hk0⟩
 .
  have hj1:=gi (es:=es) (n:=4) (a:=a2);have hj2:=fi (n:=4) ha2;refine cm J (fun b=>(lB (n:=4) hes ha2)) J<|nr 10 10 70 6 J J J<|lp (X:=List ZP×Nat×Nat) (fun⟨r,i,a3⟩=>[(11, .d (vI (i:Nat))),(10, .rw 10)]) (fun⟨r,i,a3⟩=>[(1000000,some (.o 85 [.d (.sl (es.map vI)), .d (.v (.int .i64 (a3:Nat)))] false)),(10,some (.b 70 6 (r.map gq) true))]) (fun⟨r,i,a3⟩=>je es i a3 r=je es (3+(au es 4 a2).1) (au es 4 a2).2 []/\a3<=es.length/\gn r/\r.length+i<=6) (fun⟨r,i,a3⟩=>i) ⟨[],3+(au es 4 a2).1,(au es 4 a2).2⟩ J ⟨J,hj2,gn.nil,by simp;omega⟩ (fun _=>J) (fun⟨r,i,a3⟩ hk=>?_)
  try dsimp only at hk⊢
  obtain⟨h1,h2,h3,h4⟩:=hk;have hrl:(r.map gq).length=r.length:=by simp
  refine br (fu2:=⟨0⟩) J J J (fun hc73=>?_) (fun hc73=>?_)
  .
   obtain⟨j,rfl⟩: ∃j,i=j+1:=⟨i-1,by omega⟩;obtain⟨hq1,hq2,hq3⟩:=qe h2;refine cm (fu:=⟨8⟩) J (fun b=>(AV hes h2)) J<|tq (v1:=fun hg80=>by simp only[aj];kernel_rfl) J J J J (fun hg80=>?_) (fun hg80=>?_)
   .
    have hlast: ¬r.getLast? =some (pF es a3).1:=by rw[cV (l:=r) (by omega)];simp
    refine rf J J<|ap ((r++[(pF es a3).1]).map gq) J (by rw[cK];rfl) (Cy [_]) J<|d4 95 10 J<|at_ ⟨r++[(pF es a3).1],j,(pF es a3).2⟩ (by dsimp only;exact⟨⟨by rw[<-h1,je,if_neg hlast],hq3,h3.snoc ⟨by omega,by omega⟩ hlast,by simp;omega⟩,(by omega)⟩)
   .
    obtain⟨q,hq,hqi,hqd⟩:=IR (l:=r);have hqm:=h3.le q (List.mem_of_getLast? hq);unfold ZP.le at hqm;refine lb (gq q) J (by rw[show(((r.map gq).length:Nat):Int)-1=((r.length-1:Nat):Int) by omega];exact b8 hqi) J<|cl J (BJ (m:=q.1) (n:=q.2) (m':=(pF es a3).1.1) (n':=(pF es a3).1.2)) J<|bb J J J (fun hc91=>?_) (fun hc91=>?_)
    .
     have hlast: ¬r.getLast? =some (pF es a3).1:=by rw[hq];intro e;have:=vK.2 (Option.some.inj e);simp[this] at hc91
     refine rf J J<|ap ((r++[(pF es a3).1]).map gq) J (by rw[cK];rfl) (Cy [_]) J<|d4 95 10 J<|at_ ⟨r++[(pF es a3).1],j,(pF es a3).2⟩ (by dsimp only;exact⟨⟨by rw[<-h1,je,if_neg hlast],hq3,h3.snoc ⟨by omega,by omega⟩ hlast,by simp;omega⟩,(by omega)⟩)
    .
     have hlast:r.getLast? =some (pF es a3).1:=by rw[hq];congr 1;exact vK.1 (by simpa using hc91)
     exact at_ ⟨r,j,(pF es a3).2⟩ (by dsimp only;exact⟨⟨by rw[<-h1,je,if_pos hlast],hq3,h3,by omega⟩,(by omega)⟩)
  .
   obtain rfl:i=0:=by omega
   have hg:=h1;rw[je] at hg;refine px 10 J<|gx J<|lp (fu:=⟨5⟩) (X:=List ZP×Nat) (fun⟨l,m⟩=>[(10, .d (.sl (l.map gq)))]) (fun⟨l,m⟩=>[]) (fun⟨l,m⟩=>gk m l=gk 6 r/\l.length<=m+1/\gn l/\l.length<=6) (fun⟨l,m⟩=>m) ⟨r,6⟩ J ⟨J,by omega,h3,by omega⟩ (fun _=>J) (fun⟨l,m⟩ hk=>?_)
   try dsimp only at hk⊢
   obtain⟨t1,t2,t3,t4⟩:=hk;have hll:(l.map gq).length=l.length:=by simp
   refine tq (v2:=fun hg98=>by simp only[aj];kernel_rfl) J J J J (fun hg98=>?_) (fun hg98=>?_)
   .
    obtain⟨q,hqi,hqd⟩:=UP (l:=l) (by omega);obtain⟨q2,hq0,hqi2,hqd2⟩:=IR (l:=l);have hqm:=t3.le q (aW hqi);have hqm2:=t3.le q2 (aW hqi2);unfold ZP.le at hqm hqm2;refine ix _ J (b8 (i:=0) hqi) J<|ix (gq q2) J (by rw[show(((l.map gq).length:Nat):Int)-1=((l.length-1:Nat):Int) by omega];exact b8 hqi2) J<|cl J (BJ (m:=q.1) (n:=q.2) (m':=q2.1) (n':=q2.2)) J<|bd J J J (fun hc110=>?_) (fun hc110=>?_)
    .
     have hcond:1<l.length/\l.getD 0 (0,0)=l.getD (l.length-1) (0,0):=⟨by omega,by rw[hqd,hqd2];exact vK.1 hc110⟩;refine jx 0 (l.length-1) (l.dropLast.map gq) J J (by omega) (Wl gq l) (Cy l) (bJ _) (by omega) rfl<|at_ ⟨l.dropLast,m-1⟩ (by dsimp only;exact⟨⟨by rw[<-t1];obtain⟨m,rfl⟩: ∃q,m=q+1:=⟨m-1,by omega⟩;rw[gk,if_pos hcond];rfl,by rw[lR];omega,t3.drop,by rw[lR];omega⟩,(by omega)⟩)
    .
     have hcond: ¬(1<l.length/\l.getD 0 (0,0)=l.getD (l.length-1) (0,0)):=fun e=>hc110 (vK.2 (by rw[<-hqd,<-hqd2];exact e.2));refine cl (fu:=⟨1⟩) J (D4 (l:=l) t3.le) J<|?_;have hgen:gk 6 r=l:=by rw[<-t1];cases m with|zero=>rfl|succ m=>rw[gk,if_neg hcond]
     refine ah 118 (.d (vI ((kl l).length:Nat))) J (by rw[aZ];rfl)<|gx J<|br J J J (fun hc119=>?_) (fun hc119=>?_)
     .
      have hfin:et es a=(td,a3):=by rw[hR,kv,<-hg,hgen,if_pos (by omega)]
      refine cl J (iv (m:=0) (n:=0)) J<|cl J (iv (m:=2) (n:=0)) J<|cl J (iv (m:=0) (n:=2)) J<|rf J J<|?_;exact gz hmb J J (by rw[hfin];rfl) (by rw[hfin])
     .
      have hfin:et es a=(l,a3):=by rw[hR,kv,<-hg,hgen,if_neg (by omega)]
      exact gz hmb J J (by rw[hfin];rfl) (by rw[hfin])
   .
    have hcond: ¬(1<l.length/\l.getD 0 (0,0)=l.getD (l.length-1) (0,0)):=fun e=>by omega
    refine cl (fu:=⟨1⟩) J (D4 (l:=l) t3.le) J<|?_;have hgen:gk 6 r=l:=by rw[<-t1];cases m with|zero=>rfl|succ m=>rw[gk,if_neg hcond]
    refine ah 118 (.d (vI ((kl l).length:Nat))) J (by rw[aZ];rfl)<|gx J<|br J J J (fun hc119=>?_) (fun hc119=>?_)
    .
     have hfin:et es a=(td,a3):=by rw[hR,kv,<-hg,hgen,if_pos (by omega)]
     refine cl J (iv (m:=0) (n:=0)) J<|cl J (iv (m:=2) (n:=0)) J<|cl J (iv (m:=0) (n:=2)) J<|rf J J<|?_;exact gz hmb J J (by rw[hfin];rfl) (by rw[hfin])
    .
     have hfin:et es a=(l,a3):=by rw[hR,kv,<-hg,hgen,if_neg (by omega)]
     exact gz hmb J J (by rw[hfin];rfl) (by rw[hfin])
def zN:DV:= .v (.pointer none)
def Qy(l:ab)(p q:DV):List DV:=[.v (.bool false), .v (.bool false), .v (.bool (decide (l.a<0))),dN l.a.natAbs, .v (.bool (decide (l.b<0))),dN l.b.natAbs, .v (.bool (decide (l.c<0))),dN l.c.natAbs,p,q]
inductive RF (ns:List RN):Int->(Nat->Bool)->DV->Bool->(Nat->Bool)->Prop where
 |leaf (b:Bool) (f:Nat->Bool):RF ns (xm b) f (eT (.leaf b)) true f
 |jq (rt:Int) (f:Nat->Bool) (h1:rt≠ -1) (h2:rt≠ -2) (h:rt<0\/(ns.length:Int)<=rt\/(∃k:Nat,rt=k/\k<ns.length/\f k=true)):RF ns rt f zN false f
 |line (k:Nat) (n:RN) (f:Nat->Bool) (h:ns[k]? =some n) (hf:f k=false) (hl:n.g.ln=none):RF ns (k:Int) f zN false (rC f k)
 |left (k:Nat) (n:RN) (l:ab) (f f2:Nat->Bool) (p:DV) (h:ns[k]? =some n) (hf:f k=false) (hl:n.g.ln=some l) (h1:RF ns n.l (rC f k) p false f2):RF ns (k:Int) f zN false f2
 |node (k:Nat) (n:RN) (l:ab) (f f2 f3:Nat->Bool) (p q:DV) (ok:Bool) (h:ns[k]? =some n) (hf:f k=false) (hl:n.g.ln=some l) (h1:RF ns n.l (rC f k) p true f2) (h2:RF ns n.r f2 q ok f3):RF ns (k:Int) f (.pt (Qy l p q)) ok f3
def aGU(n:Nat)(f:Nat->Bool):Bool:=(List.range n).all f
def Xw:ab:=⟨0,1,0⟩
def Yo:Tr:= .node Xw (.leaf true) (.leaf false)
structure B7 (k:Nat) (t:Tr):Prop where
 o:SG k t
 s:t.size<=3000
def ZF(es:List Int)(a:Nat):(Tr×Tr)×Nat:=
 let x:=od es 0 a
 let y:=od es 0 x.2
 let k:=au es 3 y.2
 let u:=if(k.1:Int)=0 then iB es 3 k.2 else(x.1,k.2)
 let j:=au es 3 u.2
 let v:=if(j.1:Int)=0 then iB es 3 j.2 else(y.1,j.2)
 ((u.1,v.1),v.2)
def aFf(es:List Int)(a:Nat):(Tr×Tr)×Nat:=
 let x:=od es 0 a
 let y:=od es 0 x.2
 let k:=au es 6 y.2
 if(k.1:Int)=0 then((x.1, .node (lF es k.2).1 x.1 x.1),(lF es k.2).2)
 else if(k.1:Int)=1 then((x.1,y.1.mergeQ 1 x.1 []),k.2)
 else if(k.1:Int)=2 then((x.1,y.1.mergeQ 3 x.1 []),k.2)
 else if(k.1:Int)=3 then((x.1,(iB es 3 k.2).1),(iB es 3 k.2).2)
 else((x.1,y.1),k.2)
def D3(es:List Int):Nat->Nat->List Tr×Nat
 |0,a=>([],a)
 |n+1,a=>((od es 0 a).1::(D3 es n (od es 0 a).2).1,(D3 es n (od es 0 a).2).2)
def Tj(r:List ZP)(i k:Nat):Bool:=decide (k=i)||decide (k=(i+1)%r.length)||decide (0<sG (r.getD i (0,0)).q (d5 r i).q (r.getD k (0,0)).q)
def Yx(r:List ZP):Bool:=(List.range r.length).all fun i=>(List.range r.length).all fun k=>Tj r i k
section
variable {GB:Gh} {C:az} {n:Nat} {Q0:Exit->Act->World->Prop} {fr fr' fr1 fr2:ao} {own own' own1 own2:aA} {cf cf' cf1 cf2:Cf} {vc vc1 vc2:List Prop}
def aGL(fr:ao)(cf:Cf):Option Int:=match bE fr cf with
 |some ⟨_, .binOp .and _ x (.const (.int .i64 3)) _,_,_,_,_⟩=>match aB (aP fr cf) x with
  |some (.d (.v (.int .i64 p)))=>some p
  |_=>none
 |_=>none
end
def GX{es0 es:List Int}(hb:es0.length<=1125899906842624)(he:es=es0.take 400):PN GB prog 9 [.sl (es0.map vI)] 85 Unit (fun _=>[.sl (es.map vI), .v (.int .i64 (0:Nat))]):=by
 subst he;exact SQ hb
def D9(ns:List NQ):Nat->Tr->Prop
 |_, .leaf _=>True
 |k, .node l x y=>ns[k]? =some ⟨l,x.num (k+1),y.num (k+1+x.size)⟩/\D9 ns (k+1) x/\D9 ns (k+1+x.size) y
abbrev aD7 (x:SV) (ns:List NQ) (A:Gh):Prop:= ∃es,ee A 8 x es/\IsLs A (ns.map eN) es
def sK(n k:Nat):List Value:=N1 n (fun j=>Nat.blt j k)
def ePr(a b:Tr):DV:= .ag [eU a,eU b]
def Y9:DV:= .ag [.v (.pointer none), .v (.pointer none)]
def ZO(a:ab)(t:List ab):List Rat:=t.filterMap fun b=>if crossI a b=0 then none else some (ly a b).x
def Yl(l:List ab)(x:Rat):List aa:=(wK (C6 (Jq l x))).map fun y=>⟨x,y⟩
def Gq:Tr->aa->Bool
 | .leaf _,_=>true
 | .node l x y,p=>if(l.value p).num.sign=1 then Gq x p else if(l.value p).num.sign= -1 then Gq y p else false
structure Two (a b:Tr):Prop where
 ga:a.gd
 gb:b.gd
 sa:a.size<=3000
 sb:b.size<=3000
def Y7(x y:Bool):Bool:=x&&!y
def X'(x y:Bool):Bool:=y&&!x
def Zf(x y:Bool):Bool:=x&&y
def f4R(x y:Bool):Bool:=!x&&!y
def Yw(f:Bool->Bool->Bool)(a b:Tr)(k:Nat):Bool:=((zc a b).take k).any fun p=>f (o7 a p) (o7 b p)
def KI:Tr->List ab->List (List ab×Bool)
 | .leaf b,c=>if EY c then [(mF c,b)] else []
 | .node l x y,c=>if EY c then KI x (mF c++[l])++KI y (mF c++[l.rev]) else []
def NO(c:List ab)(p:aa):Bool:=c.all fun l=>decide (0<Int.sign (l.value p).num)
def Zq(c:List ab):Option aa:=(K8 (lH c)).find? (NO c)
def Z1(c:bD):Prop:=(c.map fun s=>s.l.dir).Pairwise dh
def Yz(c:List ab):Prop:=(c.map ab.dir).Pairwise dh
def NJ(c:bD):Bool:=!c.isEmpty&&c.all fun s=>!s.v.nl&&!s.v.nh
def K2(c:List ab)(v:aa):Bool:=c.all fun l=>decide (0<=Int.sign (l.dir.cross v).num)
def aFG(c:List ab):Bool:=!c.isEmpty&&(c.flatMap fun l=>[l.dir,dn l.dir]).all fun v=>!K2 c v
def xa:ab:=⟨1,0,0⟩
def MW(c:List ab)(i:Nat):List aa:=
 if 0<Int.sign ((c.getD i xa).dir.cross (c.getD ((i+1)%c.length) xa).dir).num then [ly (c.getD i xa) (c.getD ((i+1)%c.length) xa)] else []
def qf(c:List ab):List aa:=(List.range c.length).flatMap (MW c)
def NN(v:List aa)(i:Nat):List aa:=[v.getD 0 ⟨0,0⟩,v.getD (i+1) ⟨0,0⟩,v.getD (i+2) ⟨0,0⟩]
def Lm(v:List aa):List (List aa):=(List.range (v.length-2)).map (NN v)
def aEa(cs:List (List ab)):List (List aa):=cs.flatMap fun c=>Lm (qf c)
def ZT(E:List aE)(c:List ab)(l:List aE):Prop:= ∀e∈E,∀t,e.v.ins t->QS c (e.l.at t)-> ∃f∈l,f.l=e.l/\f.v.ins t
structure wQ where
 ax:Rat
 ay:Rat
 ac:Rat
def wQ.ev(g:wQ)(p:aa):Rat:=g.ax*p.x+g.ay*p.y+g.ac
def wQ.li(g:wQ)(u:aa):Rat:=g.ax*u.x+g.ay*u.y
def HC(a b x:aa):Prop:= ∃s:Rat,0<=s/\s<=1/\x=yH a b s
def Re(a b p r:aa):Prop:=HC a b p/\((r=⟨b.x-p.x,b.y-p.y⟩/\b≠p)\/(r=⟨a.x-p.x,a.y-p.y⟩/\a≠p))
def JS(r u:aa):Prop:= ∃k:Rat,0<k/\u=⟨k*r.x,k*r.y⟩
def UF(E:List (aa×aa))(p u:aa):Prop:=u≠⟨0,0⟩/\ ∀f∈E,∀r,Re f.1 f.2 p r-> ¬JS r u
def pn(r:List ZP):List (aa×aa):=(List.range r.length).map fun k=>((r.getD k (0,0)).q,(d5 r k).q)
def ER(rs:List (List ZP)):List (aa×aa):=rs.flatMap pn
def vu{a b:ZP}(h:a.q=b.q):a=b:=by
 have hx:(a.1:Rat)=(b.1:Rat):=congrArg aa.x h;have hy:(a.2:Rat)=(b.2:Rat):=congrArg aa.y h;exact Prod.ext (by exact_mod_cast hx) (by exact_mod_cast hy)
def SP(rs:List (List ZP))(fill:Int)(p v:aa)(b:Bool):Prop:= ∃e:Rat,0<e/\ ∀d,0<d->d<=e->ub rs fill (eh p v d)=b
section
variable {rs:List (List ZP)} {fill:Int} {p v w:aa} {b c:Bool}
end
def XC(ds:List aa)(u:aa):Prop:=u≠⟨0,0⟩/\ ∀r∈ds,¬JS r u
def Ym(ds:List aa)(v w:aa):Prop:= ∀s,0<=s->s<=1->XC ds (yH v w s)
def sV(x y:aa):Nat:=if x.cross y<0 then 1 else if 0<x.cross y then 3 else if 0<x.dot y then 0 else 2
def YK(x y z:aa):Prop:=sV x y<sV x z\/(sV x y=sV x z/\(sV x y=1\/sV x y=3)/\0<z.cross y)
section
variable {ds:List aa}
end
def ZU(v:List aa):DV:= .sl (v.map eZ)
def Zh(v:List aa):DV:= .sl (v.map dy)
def kD{α:Type}(f:α->Rat):List α->Rat
 |[]=>0
 |a::t=>f a+kD f t
def Uq(f:aa->aa->Rat)(v:List aa):Rat:=kD (fun i=>f (v.getD i ⟨0,0⟩) (v.getD ((i+1)%v.length) ⟨0,0⟩)) (List.range v.length)
def aFi(c:bD):Rat:=kD (fun s=>(s.v.hi-s.v.lo)*(s.l.c:Rat)) c
def Yj(t:Tr):Prop:= ∃(L:List ab) (R:Rat),(∀l∈L,l.ok)/\ ∀p,OG L p->QW R p->t.val p=false
def Et(es:List Int):Nat->Nat->Tr×Nat
 |0,a=>pf es a
 |d+1,a=>
  let k:=au es 3 a
  if(k.1:Int)=0 then
   let x:=Et es d k.2
   let o:=au es 4 x.2
   let y:=Et es d o.2
   (x.1.mergeQ (1+(o.1:Int)) y.1 [],y.2)
  else pf es k.2
def Ye(f:aa->aa->Rat):Prop:= ∀(l:ab) (a b c:Rat),l.Ne->f (l.at a) (l.at c)=f (l.at a) (l.at b)+f (l.at b) (l.at c)
def sdF(f:aa->aa->Rat)(s:aE):Rat:=f (s.l.at s.v.lo) (s.l.at s.v.hi)
def Qz(f:aa->aa->Rat)(c:bD):Rat:=Uq f (qf (c.map (·.l)))
def MI(f:aa->aa->Rat)(t:Tr)(c:bD):Rat:=kD (fun x:Bool×bD=>if x.1 then Qz f x.2 else 0) (t.parts c)
def Y1(f:aa->aa->Rat)(t:Tr)(c:bD)(l:ab):Rat:=if eu c l then MI f t (fq c l) else 0
def aF6(t:Tr)(c:bD):Prop:= ∀x∈t.parts c,x.1=true->NJ x.2=true
def rH(v:List aa):List (aa×aa):=(List.range v.length).map fun i=>(v.getD i ⟨0,0⟩,v.getD ((i+1)%v.length) ⟨0,0⟩)
def mH(cs:List (List ab)):List (aa×aa):=cs.flatMap fun c=>rH (qf c)
def mm(cs:List bD):List (List ab):=cs.map fun c=>c.map (·.l)
def edE(x:aa×aa):List DV:=[yP x.1 x.2,eF (x.1.cross x.2)]

def Y8(x:List ab×Bool):DV:= .ag [.sl (x.1.map eL),vB x.2]
def eSd(c:List ab):DV:= .sl (c.map eL)
def XY(ps:List (List ab×Bool)):List (List ab):=(ps.filter (·.2)).map (·.1)
def Zc(v:List aa):DV:= .sl (v.map eP)
def aFO(c:bD):List (List aa):=Lm (qf (c.map (·.l)))


def ZL:List ZP:=[(0,0),(1,0),(0,1)]
def Gu(r:List aa)(j:Nat):Nat->aa
 |0=>(((r.getD 0 ⟨0,0⟩).add (r.getD 1 ⟨0,0⟩)).add (r.getD 2 ⟨0,0⟩)).scale (((1:Int):Rat)/((3:Int):Rat))
 |k+1=>((Gu r j k).add (r.getD j ⟨0,0⟩)).scale (((1:Int):Rat)/((2:Int):Rat))
def YN(ts:List (List aa))(i:Nat):aa:=Gu (ts.getD (i%ts.length) []) (i%3) (i/ts.length)
theorem aq.mono{p:aa}{i j:Nat}(h:aq p i)(hj:i<=j:=by omega):aq p j:=⟨h.x.mono hj,h.y.mono hj⟩
structure Tm (cs:List bD) (b:Nat):Prop where
 lb: ∀c∈cs,∀s∈c,LB s.l
 sh: ∀c∈cs,c.length<=100000
 ln:cs.length<=1000000
 pt: ∀x∈mH (mm cs),aq x.1 b/\aq x.2 b
def DL(x:aa×aa):aa:=(x.1.add x.2).scale (x.1.cross x.2)
def IL{α:Type}(f:α->aa)(l:List α):aa:=⟨kD (fun x=>(f x).x) l,kD (fun x=>(f x).y) l⟩
def KC{n:Int}{d:Nat}(hn:n.natAbs<=1000)(hd:0<d:=by decide)(hd1:d<=1000:=by decide):PF GB prog 98 [vI n, .v (.int .i64 (d:Nat))] (eQ (mkRat n d)):=by
 haveI:BI n 10:=KR;haveI:BN d 10:=⟨by omega⟩;refine fn func98 J J ntmps98 J J (fun C=>?_);refine cl J (Dq (n:=n)) J<|cl J (nF (u:=d)) J<|cl J (rO (x:=n) (d:=d) hd) J<|rz J J
def qF(es:List Int)(a:Nat):Rat×Nat:=
 (if((au es 6 (au es 9 a).2).1:Int)=0 then mkRat (2*(((au es 9 a).1:Int)-4)+1) 2 else if((au es 6 (au es 9 a).2).1:Int)=1 then mkRat (3*(((au es 9 a).1:Int)-4)+1) 3 else(((au es 9 a).1:Rat)-4:Rat),(au es 6 (au es 9 a).2).2)
theorem z'{es:List Int}{a:Nat}(ha:a<=es.length):BQ (qF es a).1 12/\(qF es a).2<=es.length:=by
 have h1:=gi (es:=es) (n:=9) (a:=a);refine⟨?_,fi (fi ha)⟩;unfold qF;dsimp only;split
 .exact pq (by decide) (by omega)
 .split
  .exact pq (by decide) (by omega)
  .haveI:BI (((au es 9 a).1:Int)-4:Int) 11:=KR
   have e:((((au es 9 a).1:Rat)-4):Rat)=((((au es 9 a).1:Int)-4:Int):Rat):=by rw[qY];rfl
   rw[e];exact inferInstance
def gE(es:List Int)(a:Nat):aa×Nat:=(⟨(qF es a).1,(qF es (qF es a).2).1⟩,(qF es (qF es a).2).2)
theorem yl{es:List Int}{a:Nat}(ha:a<=es.length):aq (gE es a).1 1200/\(gE es a).2<=es.length:=by
 obtain⟨h1,h2⟩:=z' ha;obtain⟨h3,h4⟩:=z' h2;exact⟨⟨h1.mono (by decide),h3.mono (by decide)⟩,h4⟩
def q9(z:Nat):(z:Rat)-4=(((z:Int)-4:Int):Rat):=by rw[qY];rfl
def uY:ab:=⟨1,0,0⟩
def aGq(es:List Int)(L:List ab)(a:Nat):aa×Nat:=
 if L.length=0 then gE es a else
 if((au es 3 (au es L.length a).2).1:Int)=0 then
  (if crossI (L.getD (au es L.length a).1 uY) (L.getD (au es L.length (au es 3 (au es L.length a).2).2).1 uY)≠0 then(ly (L.getD (au es L.length a).1 uY) (L.getD (au es L.length (au es 3 (au es L.length a).2).2).1 uY),(au es L.length (au es 3 (au es L.length a).2).2).2) else gE es (au es L.length (au es 3 (au es L.length a).2).2).2)
 else if((au es 3 (au es L.length a).2).1:Int)=1 then((L.getD (au es L.length a).1 uY).at (qF es (au es 3 (au es L.length a).2).2).1,(qF es (au es 3 (au es L.length a).2).2).2) else gE es (au es 3 (au es L.length a).2).2
def Kf{b:Nat}{es:List Int}(hes:es.length<=400){a:Nat}(ha:a<=es.length):PM GB prog 52 (fE [none] b) b 85 [.sl (es.map vI), .v (.int .i64 (a:Nat))] (eQ (qF es a).1) [.sl (es.map vI), .v (.int .i64 ((qF es a).2:Nat))]:=by
 have h1:=gi (es:=es) (n:=9) (a:=a);refine qv func52 J J ntmps52 J J (fun C b m lo hmb=>?_);refine cm J (fun b=>(lB (n:=9) hes ha)) J<|cm J (fun b=>(lB (n:=6) hes (fi ha))) J<|br J J J (fun hc9=>?_) (fun hc9=>?_)
 .
  refine cl J (KC (n:=2*(((au es 9 a).1:Int)-4)+1) (d:=2) (by omega)) J<|?_;exact gz hmb J J (by unfold qF;dsimp only;rw[if_pos hc9];rfl) J
 .
  refine br J J J (fun hc15=>?_) (fun hc15=>?_)
  .
   refine cl J (KC (n:=3*(((au es 9 a).1:Int)-4)+1) (d:=3) (by omega)) J<|?_;exact gz hmb J J (by unfold qF;dsimp only;rw[if_neg hc9,if_pos hc15];rfl) J
  .
   refine cl J (vb (n:=(((au es 9 a).1:Int)-4))) J<|?_;exact gz hmb J J (by unfold qF;dsimp only;rw[if_neg hc9,if_neg hc15,q9];rfl) J
def LO{b:Nat}{es:List Int}(hes:es.length<=400){a:Nat}(ha:a<=es.length):PM GB prog 20 (fE [none] b) b 85 [.sl (es.map vI), .v (.int .i64 (a:Nat))] (eP (gE es a).1) [.sl (es.map vI), .v (.int .i64 ((gE es a).2:Nat))]:=by
 refine qv func20 J J ntmps20 J J (fun C b m lo hmb=>?_);refine cm J (fun b=>(Kf hes ha)) J<|cm J (fun b=>(Kf hes (z' ha).2)) J<|?_;exact gz hmb J J J J

def Sq(x:aa×aa):Rat:=(x.1.x*x.1.x+x.2.x*x.2.x+(x.1.add x.2).x*(x.1.add x.2).x)*x.1.cross x.2
def T4(x:aa×aa):Rat:=(x.1.x*x.1.y+x.2.x*x.2.y+(x.1.add x.2).x*(x.1.add x.2).y)*x.1.cross x.2
def U7(x:aa×aa):Rat:=(x.1.y*x.1.y+x.2.y*x.2.y+(x.1.add x.2).y*(x.1.add x.2).y)*x.1.cross x.2
structure Zt (cs:List bD):Prop where
 ed:Tm cs 1200
 cr: ∀x∈mH (mm cs),BQ (x.1.cross x.2) 5000
 ar: ∀k,BQ (kD (fun x=>x.1.cross x.2) ((mH (mm cs)).take k)) 2000000
 mo: ∀k,aq (IL DL ((mH (mm cs)).take k)) 3000000
 sa: ∀k,BQ (kD Sq ((mH (mm cs)).take k)) 4000000
 sb: ∀k,BQ (kD T4 ((mH (mm cs)).take k)) 4000000
 sc: ∀k,BQ (kD U7 ((mH (mm cs)).take k)) 4000000
def XJ(t:Tr):Rat:=kD (fun x=>x.1.cross x.2) (mH (mm (r4 t)))*mkRat 1 2
def aGN(t:Tr):aa:=(IL DL (mH (mm (r4 t)))).scale (((1:Int):Rat)/((6:Int):Rat))
def Y0:DV:= .ag [vB false, .sl [], .sl []]
def Zi:DV:= .ag [vB false, .sl [], .sl [],vB false, .sl [], .sl []]
def V4:Rat:=((1:Int):Rat)/((24:Int):Rat)
def Z2(f:aa×aa->Rat)(t:Tr):Rat:=kD f (mH (mm (r4 t)))*V4
structure DQ (D B:Nat) (x:Rat):Prop where
 ex: ∃n:Int,x*((D:Nat):Rat)=(n:Rat)/\n.natAbs<=B*D
def TJ(l m:ab):Nat:=if crossI l m=0 then 1 else(crossI l m).natAbs
def Rh(K:List ab):List Nat:=K.flatMap fun l=>K.map (TJ l)
def YM(K:List ab):Nat:=(Rh K).foldr (· * ·) 1
structure DP (D B:Nat) (p:aa):Prop where
 x:DQ D B p.x
 y:DQ D B p.y

def eM(a b c d e f:Rat):DV:= .ag [(.v (.bool (decide ((a).num<0)))),(dN (a).num.natAbs),(dD (a).den),(.v (.bool (decide ((b).num<0)))),(dN (b).num.natAbs),(dD (b).den),(.v (.bool (decide ((c).num<0)))),(dN (c).num.natAbs),(dD (c).den),(.v (.bool (decide ((d).num<0)))),(dN (d).num.natAbs),(dD (d).den),(.v (.bool (decide ((e).num<0)))),(dN (e).num.natAbs),(dD (e).den),(.v (.bool (decide ((f).num<0)))),(dN (f).num.natAbs),(dD (f).den)]
def zq3:List DV:=[.v (.bool (decide ((0:Rat).num<0))),dN (0:Rat).num.natAbs,dD (0:Rat).den]

def pw{C:az}{n:Nat}{Q0:Exit->Act->World->Prop}{fr fr':ao}{own own':aA}{cf cf':Cf}{vc:List Prop}[fu:Fu]{f:FuncId}{ds:List DV}(ha:sv fr cf=some (f,ds))(hF:PF GB prog f ds (.v (.bool true)))(hgo:bP tt n fu.n fr own cf .tt [] []=⟨vc,fr',own',cf'⟩)(k:ak prog GB C n Q0 fr' own' cf')
  (hv:autoParam (aj vc) Tb._auto_1):ak prog GB C n Q0 fr own cf:=by
 unfold sv at ha;split at ha<;>try (cases ha;done)
 rename_i hh;exact us hh (bw.to (g:= .tt) (KS ha hF) fun ρ G y hy=>(aH (G:=G)).1 hy) hgo hv k
def Om:List ZP:=[(0,0),(2,0),(2,2),(0,2)]
def YX:Tr:=rN [Om] 2



def aGW(M:List ab)(E:List (aa×aa)):Prop:= ∀f∈E,∃m∈M,m.value f.1=0/\m.value f.2=0
section
variable {rs:List (List ZP)} {fill:Int} {p:aa}
def Zl(rs:List (List ZP))(fill:Int)(p:aa)(b:Bool):Prop:= ∃x,UF (ER rs) p x/\SP rs fill p x b
end
section
variable {rs:List (List ZP)} {fill:Int} {L:List ab} {p:aa}
end
def lc(v:bm)(t:Rat):Bool:=(v.nl||decide (bG v.lo t<=0))&&(v.nh||decide (0<=bG v.hi t))
def T'{v:bm}{t:Rat}:lc v t=true↔v.has t:=by
 unfold lc bm.has;simp only[bQ,gK,decide_eq_true_eq,Ou,UK]
def fC(f:aE)(p:aa):Bool:=decide (Int.sign (f.l.value p).num=0)&&lc f.v (du f.l p)
def RE{f:aE}{p:aa}:fC f p=true↔f.l.value p=0/\f.v.has (du f.l p):=by
 unfold fC;rw[bQ,decide_eq_true_eq,uu,T']
def pO(f:aE)(p:aa):Int:=
 if Int.sign f.l.dir.y.num=0\/Int.sign (f.l.value p).num≠Int.sign f.l.dir.y.num then 0
 else if(if Int.sign f.l.dir.y.num<0 then f.v.nh=false/\0<bG (f.l.at f.v.hi).y p.y else f.v.nl=false/\0<bG (f.l.at f.v.lo).y p.y) then 0
 else if(if Int.sign f.l.dir.y.num<0 then f.v.nl=false/\bG (f.l.at f.v.lo).y p.y<=0 else f.v.nh=false/\bG (f.l.at f.v.hi).y p.y<=0) then 0
 else Int.sign f.l.dir.y.num
def e6(E:List aE)(p:aa):Int:=E.foldl (fun n f=>n+pO f p) 0
def BK{α:Type}(f:α->Int): ∀(l:List α) (n:Int),l.foldl (fun n x=>n+f x) n=n+l.foldl (fun n x=>n+f x) 0
 |[],n=>by simp
 |a::t,n=>by
  rw[gM,gM,BK f t (n+f a),BK f t (0+f a)];omega
def Sa(E F:List aE)(p:aa):e6 (E++F) p=e6 E p+e6 F p:=by
 unfold e6;rw[List.foldl_append,BK]
def Ex(f:aE)(p:aa):Bool:=f.v.nh||decide (bG (du f.l p) f.v.hi<0)
def KA(f:aE)(p:aa):Bool:=f.v.nl||decide (0<bG (du f.l p) f.v.lo)
def fk(p:aa)(f:aE):List aa:=if fC f p then(if Ex f p then [cv f.l.dir] else [])++(if KA f p then [dn (cv f.l.dir)] else []) else []
def jg(E:List aE)(p:aa):List aa:=lE (E.flatMap (fk p))
def o3(p d q:aa):Rat:=(⟨q.x-p.x,q.y-p.y⟩:aa).dot d/d.dot d
def si(a b:Rat):Rat×Bool:=
 if 0<Int.sign b.num/\(¬0<Int.sign a.num\/bG b a<0) then(b,true) else if 0<Int.sign a.num then(a,true) else(0,false)
def gu(f:aE)(p d:aa):Rat×Bool:=
 if f.l.nor.dot d=0 then(if f.l.value p=0 then si (o3 p d (f.l.at f.v.lo)) (o3 p d (f.l.at f.v.hi)) else(0,false))
 else(-(f.l.value p/f.l.nor.dot d),decide (0<Int.sign (-(f.l.value p/f.l.nor.dot d)).num)&&lc f.v (du f.l (eh p d (-(f.l.value p/f.l.nor.dot d)))))
def jO(p d:aa)(s:Rat)(f:aE):Rat:=if fC f p then s else if(gu f p d).2 then(if(gu f p d).1<s then(gu f p d).1 else s) else s
def kw(E:List aE)(p d:aa):aa:=eh p d (E.foldl (jO p d) 1*mkRat 1 2)
def t6(E:List aE)(p:aa)(acc:aa->Bool):Int:=
 if((fG (jg E p)).any fun v=>acc (kw E p v))&&(fG (jg E p)).all (fun v=>acc (kw E p v)) then 2 else if(fG (jg E p)).any fun v=>acc (kw E p v) then 1 else 0
def FZ{r:List ZP}: ∀{n:Nat} {f:aE},f∈kj r n-> ∃k,k<n/\f=lw (r.getD k (0,0)) (d5 r k)
 |0,f,h=>by simp[kj] at h
 |n+1,f,h=>by
  rw[kj] at h;rcases cM.1 h with h|h
  .obtain⟨k,h1,h2⟩:=FZ h
   exact⟨k,by omega,h2⟩
  .exact⟨n,by omega,aL.1 h⟩
def Bm{f:aE}{p d:aa}(h:d∈fk p f):f.l.value p=0/\(d=cv f.l.dir\/d=dn (cv f.l.dir)):=by
 unfold fk at h;split at h
 .rename_i k
  refine⟨(RE.1 k).1,?_⟩;rcases cM.1 h with h|h
  .split at h
   .exact .inl (aL.1 h)
   .cases h
  .split at h
   .exact .inr (aL.1 h)
   .cases h
 .cases h
def Ic{E:List aE}(hE: ∀f∈E,f.l.ok)(p:aa): ∀x∈E.flatMap (fk p),∀y∈E.flatMap (fk p),ck x y=0->x=y:=fun x hx y hy h=>by
 obtain⟨f,k1,k2⟩:=mK.1 hx;obtain⟨g,k3,k4⟩:=mK.1 hy;obtain⟨a1,a2⟩:=Bm k2;obtain⟨b1,b2⟩:=Bm k4;exact WN (hE f k1) (hE g k3) a1 b1 a2 b2 h
def TY{l:List aa}(ht: ∀x∈l,∀y∈l,ck x y=0->x=y)(y:aa):y∈lE l↔y∈l:=by
 have h2: ∀y,y∈lE l->y∈l:=fun y hy=>by
  rcases tf ck hy with h|h
  .exact h
  .cases h
 refine⟨h2 y,fun hy=>?_⟩;obtain⟨e,e1,e2⟩:=Df ck (o:=[]) hy;rcases e2 with rfl|e2
 .exact e1
 .rw[<-ht e (h2 e e1) y hy e2];exact e1
section
variable {rs:List (List ZP)} {fill:Int} {p:aa}
end
def xV{p q:aa}{i:Nat}[hp:aq p i][hq:aq q i](hi:i<=1000000:=by decide):PF GB prog 116 [eZ p,eZ q] (vB (decide (p.x=q.x/\p.y=q.y))):=by
 refine fn func116 J J ntmps116 J J (fun C=>?_);refine cl J (JT (p:=p.x) (q:=q.x) (i:=i) (j:=i) (by omega) (by omega)) J<|csd 10 J J J (fun hg10=>?_) (fun hg10=>?_)
 .
  refine cl J (JT (p:=p.y) (q:=q.y) (i:=i) (j:=i) (by omega) (by omega)) J<|rz J (by show DV.v (.bool _)= .v (.bool _);simp_all)
 .
  exact rz J (by show DV.v (.bool _)= .v (.bool _);simp_all)
def xG{p q:aa}{i j:Nat}[hp:aq p i][hq:aq q j](hi:i<=10000000:=by decide)(hj:j<=10000000:=by decide):PF GB prog 182 [eZ p,eZ q] (eZ ⟨p.x-q.x,p.y-q.y⟩):=by
 refine fn func182 J J ntmps182 J J (fun C=>?_);refine cl J (tc (p:=p.x) (q:=q.x) (i:=i) (j:=j) (by omega) (by omega)) J<|cl J (tc (p:=p.y) (q:=q.y) (i:=i) (j:=j) (by omega) (by omega)) J<|rz J J
def qI{l:ab}{p:aa}{i:Nat}[hl:LB l][hp:aq p i](hi:i<=1000000:=by decide):PF GB prog 119 [cA l,eZ p] (eF (du l p)):=by
 refine fn func119 J J ntmps119 J J (fun C=>?_);refine cl J (ya (l:=l)) J<|cl (fu:=⟨0⟩) J (ld (p:=l.dir) (q:=p) (i:=97) (j:=i) (by decide) (by omega)) J<|ah 10 (.d (eF (p.dot l.dir))) J (by rw[show l.dir.dot p=p.dot l.dir by unfold aa.dot;grind])<|gx J<|cl J (ld (p:=l.dir) (q:=l.dir) (i:=97) (j:=97) (by decide) (by decide)) J<|cl J (uX (p:=p.dot l.dir) (q:=l.dir.dot l.dir) (i:=i+97+(i+97)+1) (j:=97+97+(97+97)+1) (by omega) (by decide)) J<|rz J J
def Km{v:bm}{t:Rat}{i:Nat}[h1:BQ v.lo i][h2:BQ v.hi i][h3:BQ t i](hi:i<=1000000:=by decide):PF GB prog 153 [eW v,eF t] (vB (lc v t)):=by
 refine fn func153 J J ntmps153 J J (fun C=>?_);refine jz 7 J J J (fun hg7=>?_) (fun hg7=>?_)
 .
  refine jz 17 J J J (fun hg17=>?_) (fun hg17=>?_)
  .
   exact rz J (by show DV.v (.bool _)= .v (.bool _);unfold lc;simp_all<;>(intros;omega))
  .
   refine cl J (f7 (p:=v.hi) (q:=t) (i:=i) (j:=i) (by omega) (by omega)) J<|rz J (by show DV.v (.bool _)= .v (.bool _);unfold lc;simp_all<;>(intros;omega))
 .
  refine cl J (f7 (p:=v.lo) (q:=t) (i:=i) (j:=i) (by omega) (by omega)) J<|cs 14 J J J (fun hg14=>?_) (fun hg14=>?_)
  .
   refine jz 17 J J J (fun hg17=>?_) (fun hg17=>?_)
   .
    exact rz J (by show DV.v (.bool _)= .v (.bool _);unfold lc;simp_all<;>(intros;omega))
   .
    refine cl J (f7 (p:=v.hi) (q:=t) (i:=i) (j:=i) (by omega) (by omega)) J<|rz J (by show DV.v (.bool _)= .v (.bool _);unfold lc;simp_all<;>(intros;omega))
  .
   exact rz J (by show DV.v (.bool _)= .v (.bool _);unfold lc;simp_all<;>(intros;omega))
def Xv{G:Gh}{q:Rat}{y:Value}(h: ¬dG q)(hy:Is G (cO q) y):y= .pointer none:=by
 unfold cO at hy;rw[decide_eq_false h] at hy;rcases pi.1 hy with⟨_,e⟩|⟨e,_⟩
 .exact e
 .cases e
def Ns{G:Gh}{q:Rat}(h: ¬dG q):Is G (cO q) (.pointer none):=by
 unfold cO;rw[decide_eq_false h];exact pi.2 (.inl ⟨J,J⟩)
def xF(q:Rat):List Value:=[.int .i64 (bO q), .int .i64 (bH q), .pointer none]
def vj{G:Gh}{q:Rat}{t:List DV}{m:List Value}(h: ¬dG q)(hm:IsLs G (vI (bO q)::vI (bH q)::cO q::t) m): ∃n,m=xF q++n/\IsLs G t n:=by
 obtain⟨y1,m1,rfl,h1,hm1⟩:=bi.1 hm;obtain⟨y2,m2,rfl,h2,hm2⟩:=bi.1 hm1;obtain⟨y3,m3,rfl,h3,hm3⟩:=bi.1 hm2;obtain rfl:=aH.1 h1;obtain rfl:=aH.1 h2;obtain rfl:=Xv h h3;exact⟨m3,J,hm3⟩
def vg{G:Gh}{q:Rat}{t:List DV}{n:List Value}(h: ¬dG q)(k:IsLs G t n):IsLs G (vI (bO q)::vI (bH q)::cO q::t) (xF q++n):= .cons (aH.2 J) (.cons (aH.2 J) (.cons (Ns h) k))
def rV(q:Rat):Value:= .agg ⟨xF q⟩
structure A' (f:aE):Prop where
 a: ¬dG (f.l.a:Rat)
 b: ¬dG (f.l.b:Rat)
 c: ¬dG (f.l.c:Rat)
 lo: ¬dG f.v.lo
 hi: ¬dG f.v.hi
def yt(f:aE):Value:= .agg ⟨xF f.l.a++(xF f.l.b++(xF f.l.c++(xF f.v.lo++(xF f.v.hi++[.bool f.v.nl, .bool f.v.nh]))))⟩
def GD{G:Gh}{f:aE}{y:Value}(h:A' f)(hy:Is G (bF f) y):y=yt f:=by
 obtain⟨m0,rfl,k0⟩:=dt.1 hy;obtain⟨m1,rfl,k1⟩:=vj h.a k0;obtain⟨m2,rfl,k2⟩:=vj h.b k1;obtain⟨m3,rfl,k3⟩:=vj h.c k2;obtain⟨m4,rfl,k4⟩:=vj h.lo k3;obtain⟨m5,rfl,k5⟩:=vj h.hi k4;obtain⟨y1,m6,rfl,h1,k6⟩:=bi.1 k5;obtain⟨y2,m7,rfl,h2,k7⟩:=bi.1 k6;obtain rfl:=aH.1 h1;obtain rfl:=aH.1 h2;obtain rfl:=b4.1 k7;rfl
def DZ{G:Gh}{f:aE}(h:A' f):Is G (bF f) (yt f):=dt.2 ⟨_,J,vg h.a (vg h.b (vg h.c (vg h.lo (vg h.hi (.cons (aH.2 J) (.cons (aH.2 J) (b4.2 J)))))))⟩
structure FE (f:aE):Prop where
 fo:jI f
 sm:A' f
 nl:f.v.nl=false
 nh:f.v.nh=false
structure FG (f:aE):Prop where
 fo:jI f
 nl:f.v.nl=false
 nh:f.v.nh=false
def FE.g{f:aE}(h:FE f):FG f:=⟨h.fo,h.nl,h.nh⟩
theorem xn{l:ab}{p:aa}{i:Nat}(hl:LB l)[hp:aq p i]:BQ (du l p) (2*i+600):=by
 haveI:=hl;have h:BQ (p.dot l.dir/l.dir.dot l.dir) (i+97+(i+97)+1+(97+97+(97+97)+1)):=inferInstance;exact BQ.mono (show BQ (du l p) _ from h) (by omega)
def HH{f:aE}(hf:jI f){p:aa}{i:Nat}[hp:aq p i](hi:i<=100000:=by decide):PF GB prog 93 [bF f,eZ p] (vB (fC f p)):=by
 haveI:=hf.lb;haveI:=hf.lo;haveI:=hf.hi;haveI:=xn (p:=p) (i:=i) hf.lb;haveI:BQ f.v.lo (2*i+1800):=hf.lo.mono (by omega);haveI:BQ f.v.hi (2*i+1800):=hf.hi.mono (by omega);haveI:BQ (du f.l p) (2*i+1800):=(xn (p:=p) (i:=i) hf.lb).mono (by omega);refine fn func93 J J ntmps93 J J (fun C=>?_);refine cl (fu:=⟨0⟩) J (zr (l:=f.l) (p:=p) (i:=i) (by omega)) J<|tq (v2:=fun hg9=>by simp only[aj];kernel_rfl) J J J J (fun hg9=>?_) (fun hg9=>?_)
 .
  refine cl J (qI (l:=f.l) (p:=p) (i:=i) (by omega)) J<|cl J (Km (v:=f.v) (t:=du f.l p) (i:=2*i+1800) (by omega)) J<|rz J (by show DV.v (.bool _)= .v (.bool _);unfold fC;simp_all)
 .
  exact rz J (by show DV.v (.bool _)= .v (.bool _);unfold fC;simp_all)
def HW{f:aE}(hf:FE f){p:aa}{i:Nat}[hp:aq p i](hi:i<=100000:=by decide):PF GB prog 93 [bF f,eZ p] (vB (fC f p)):=HH hf.fo hi
def Bi{f:aE}(hf:FG f):PF GB prog 126 [bF f] (.tp [eZ (f.l.at f.v.lo),vB true]):=by
 haveI:=hf.fo.lb;haveI:=hf.fo.lo;haveI:=hf.fo.hi;refine fn (fu:=⟨13⟩) func126 J J ntmps126 J J (fun C=>?_);refine ah 6 (.d (vB false)) J (by rw[hf.nl]<;>rfl)<|oF 6 J<|gx J<|cl J (K3 (l:=f.l) (t:=f.v.lo) (i:=1200)) J<|rz J J
def BW{f:aE}(hf:FG f):PF GB prog 127 [bF f] (.tp [eZ (f.l.at f.v.hi),vB true]):=by
 haveI:=hf.fo.lb;haveI:=hf.fo.lo;haveI:=hf.fo.hi;refine fn (fu:=⟨13⟩) func127 J J ntmps127 J J (fun C=>?_);refine ah 6 (.d (vB false)) J (by rw[hf.nh]<;>rfl)<|oF 6 J<|gx J<|cl J (K3 (l:=f.l) (t:=f.v.hi) (i:=1200)) J<|rz J J
def RH{f:aE}(hf:FE f):PF GB prog 126 [bF f] (.tp [eZ (f.l.at f.v.lo),vB true]):=Bi hf.g
def U5{f:aE}(hf:FE f):PF GB prog 127 [bF f] (.tp [eZ (f.l.at f.v.hi),vB true]):=BW hf.g
def Tf{α:Type}{g:α->Bool}{E:List α}{k:Nat}{f:α}(hk:E[k]? =some f)(h:(E.take k).any g=false):(E.take (k+1)).any g=g f:=by
 rw[cX,hk,List.any_append,h];simp
def W5{α:Type}{g:α->Bool}{E:List α}{k:Nat}{f:α}(hk:E[k]? =some f)(h:g f=true):E.any g=true:=nT.2 ⟨f,aW hk,h⟩
def O8{E:List aE}(hn:E.length<=1000000){f:FuncId}{pv:Value}{dp:DV}(hp:Is GB dp pv){g:aE->Bool}(hF: ∀x∈E,PF GB prog f [bF x,dp] (vB (g x))):PX GB prog 152 [.sl (E.map bF), .v (.func (.func f) ⟨[]⟩ ⟨[pv]⟩)] {j:Int//(0<=j↔E.any g=true)/\ -1<=j/\j<=1000000} (fun j=>vI j.1):=by
 have hml:(E.map bF).length=E.length:=aZ ..;refine RB (fu:=⟨10⟩) func152 J J ntmps152 J J (fun C=>?_);refine ah 7 (.d (vI (E.length:Nat))) J (by rw[hml]<;>rfl)<|gx J<|lp (X:=Nat) (fun k=>[(8, .d (vI (k:Nat)))]) (fun k=>[]) (fun k=>k<=E.length/\(E.take k).any g=false) (fun k=>E.length-k) 0 J ⟨bJ _,J⟩ (fun _=>J) (fun k hk=>?_);obtain⟨hk,hany⟩:=hk;refine br J J J (fun hc9=>?_) (fun hc9=>?_)
 .
  obtain⟨x,hx⟩: ∃u,E[k]? =some u:=⟨_,aQ (by omega)⟩;refine ix (fu:=⟨1⟩) _ J (b8 hx) J<|pp (ds1:=[]) (ds2:=[dp]) J (b4.2 J) (.cons hp (b4.2 J)) (hF x (aW hx)) J<|bb J J J (fun hc16=>?_) (fun hc16=>?_)
  .
   exact Ls ⟨(k:Int),⟨fun _=>W5 hx hc16,fun _=>by omega⟩,by omega,by omega⟩ J J
  .
   exact at_ (k+1) ⟨⟨by omega,by rw[Tf hx hany];simpa using hc16⟩,(by omega)⟩
 .
  obtain rfl:k=E.length:=by omega
  rw[bT] at hany;exact Ls ⟨-1,⟨fun h=>by omega,fun h=>by rw[hany] at h;cases h⟩,by omega,by omega⟩ J J
def Lb(f:aE)(a b c d e:Value):DV:= .ag [vI (bO (f.l.a:Rat)),vI (bH (f.l.a:Rat)), .v a,vI (bO (f.l.b:Rat)),vI (bH (f.l.b:Rat)), .v b,vI (bO (f.l.c:Rat)),vI (bH (f.l.c:Rat)), .v c,vI (bO f.v.lo),vI (bH f.v.lo), .v d,vI (bO f.v.hi),vI (bH f.v.hi), .v e, .v (.bool f.v.nl), .v (.bool f.v.nh)]
def o9(f:aE)(a b c d e:Value):Value:= .agg ⟨[.int .i64 (bO (f.l.a:Rat)), .int .i64 (bH (f.l.a:Rat)),a, .int .i64 (bO (f.l.b:Rat)), .int .i64 (bH (f.l.b:Rat)),b, .int .i64 (bO (f.l.c:Rat)), .int .i64 (bH (f.l.c:Rat)),c, .int .i64 (bO f.v.lo), .int .i64 (bH f.v.lo),d, .int .i64 (bO f.v.hi), .int .i64 (bH f.v.hi),e, .bool f.v.nl, .bool f.v.nh]⟩
def Bp{G:Gh}: ∀{l m:List Value},IsLs G (l.map DV.v) m->m=l
 |[],m,h=>b4.1 h
 |x::t,m,h=>by
  obtain⟨y,n,rfl,h1,h2⟩:=bi.1 h;rw[aH.1 h1,Bp h2]
def Gy{G:Gh}: ∀(l:List Value),IsLs G (l.map DV.v) l
 |[]=>b4.2 J
 |_::t=> .cons (aH.2 J) (Gy t)
def vL{G:Gh}{f:aE}{a b c d e y:Value}(h:Is G (Lb f a b c d e) y):y=o9 f a b c d e:=by
 obtain⟨m,rfl,hm⟩:=dt.1 h;exact congrArg (fun l=>Value.agg ⟨l⟩) (Bp (l:=[.int .i64 (bO (f.l.a:Rat)), .int .i64 (bH (f.l.a:Rat)),a, .int .i64 (bO (f.l.b:Rat)), .int .i64 (bH (f.l.b:Rat)),b, .int .i64 (bO (f.l.c:Rat)), .int .i64 (bH (f.l.c:Rat)),c, .int .i64 (bO f.v.lo), .int .i64 (bH f.v.lo),d, .int .i64 (bO f.v.hi), .int .i64 (bH f.v.hi),e, .bool f.v.nl, .bool f.v.nh]) hm)
def C7{G:Gh}{f:aE}{a b c d e y:Value}(h:Is G (bF f) (o9 f a b c d e))(hy:Is G (.ag [vI (bO (f.l.a:Rat)),vI (bH (f.l.a:Rat)), .v a,vI (bO (f.l.b:Rat)),vI (bH (f.l.b:Rat)), .v b,vI (bO (f.l.c:Rat)),vI (bH (f.l.c:Rat)), .v c]) y):Is G (cA f.l) y:=by
 obtain⟨m,rfl,hm⟩:=dt.1 hy;obtain rfl:=Bp (l:=[.int .i64 (bO (f.l.a:Rat)), .int .i64 (bH (f.l.a:Rat)),a, .int .i64 (bO (f.l.b:Rat)), .int .i64 (bH (f.l.b:Rat)),b, .int .i64 (bO (f.l.c:Rat)), .int .i64 (bH (f.l.c:Rat)),c]) hm;obtain⟨m,e1,hm⟩:=dt.1 h
 cases e1
 exact dt.2 ⟨_,J,hm.take 9⟩
def ud{G:Gh}{q:Rat}{y:Value}(h:Is G (cO q) y): ∃p,y= .pointer p:=by
 unfold cO at h;rcases pi.1 h with⟨_,e⟩|⟨_,h⟩
 .exact⟨none,e⟩
 .obtain⟨b,cs,e,_⟩:=mD.1 h
  exact⟨_,e⟩
def Wh{G:Gh}{f:aE}{v:Value}(h:Is G (bF f) v): ∃a b c d e:Option Addr,v=o9 f (.pointer a) (.pointer b) (.pointer c) (.pointer d) (.pointer e):=by
 obtain⟨m0,rfl,k0⟩:=dt.1 h;obtain⟨x1,m1,rfl,h1,k1⟩:=bi.1 k0;obtain⟨x2,m2,rfl,h2,k2⟩:=bi.1 k1;obtain⟨x3,m3,rfl,h3,k3⟩:=bi.1 k2;obtain⟨x4,m4,rfl,h4,k4⟩:=bi.1 k3;obtain⟨x5,m5,rfl,h5,k5⟩:=bi.1 k4;obtain⟨x6,m6,rfl,h6,k6⟩:=bi.1 k5;obtain⟨x7,m7,rfl,h7,k7⟩:=bi.1 k6;obtain⟨x8,m8,rfl,h8,k8⟩:=bi.1 k7;obtain⟨x9,m9,rfl,h9,k9⟩:=bi.1 k8;obtain⟨x10,m10,rfl,h10,k10⟩:=bi.1 k9;obtain⟨x11,m11,rfl,h11,k11⟩:=bi.1 k10;obtain⟨x12,m12,rfl,h12,k12⟩:=bi.1 k11;obtain⟨x13,m13,rfl,h13,k13⟩:=bi.1 k12;obtain⟨x14,m14,rfl,h14,k14⟩:=bi.1 k13;obtain⟨x15,m15,rfl,h15,k15⟩:=bi.1 k14;obtain⟨x16,m16,rfl,h16,k16⟩:=bi.1 k15;obtain⟨x17,m17,rfl,h17,k17⟩:=bi.1 k16;obtain rfl:=b4.1 k17;obtain rfl:=aH.1 h1;obtain rfl:=aH.1 h2;obtain⟨p3,rfl⟩:=ud h3;obtain rfl:=aH.1 h4;obtain rfl:=aH.1 h5;obtain⟨p6,rfl⟩:=ud h6;obtain rfl:=aH.1 h7;obtain rfl:=aH.1 h8;obtain⟨p9,rfl⟩:=ud h9;obtain rfl:=aH.1 h10;obtain rfl:=aH.1 h11;obtain⟨p12,rfl⟩:=ud h12;obtain rfl:=aH.1 h13;obtain rfl:=aH.1 h14;obtain⟨p15,rfl⟩:=ud h15;obtain rfl:=aH.1 h16;obtain rfl:=aH.1 h17;exact⟨p3,p6,p9,p12,p15,J⟩
theorem se{l:ab}{t:Rat}(hl:LB l)(ht:BQ t 1200):aq (l.at t) 3000:=aq.mono (inferInstance:aq (l.at t) _) (by decide)
def mO{f:aE}(h1:f.v.nl=false)(h2:f.v.nh=false)(p:aa):pO f p=if Int.sign f.l.dir.y.num=0 then 0 else if Int.sign (f.l.value p).num≠Int.sign f.l.dir.y.num then 0 else
  if Int.sign f.l.dir.y.num<0 then(if 0<bG (f.l.at f.v.hi).y p.y then 0 else if bG (f.l.at f.v.lo).y p.y<=0 then 0 else Int.sign f.l.dir.y.num)
  else(if 0<bG (f.l.at f.v.lo).y p.y then 0 else if bG (f.l.at f.v.hi).y p.y<=0 then 0 else Int.sign f.l.dir.y.num):=by
 unfold pO;rw[h1,h2];generalize Int.sign f.l.dir.y.num=U;generalize Int.sign (f.l.value p).num=S;generalize bG (f.l.at f.v.hi).y p.y=a;generalize bG (f.l.at f.v.lo).y p.y=b;by_cases k:U=0
 .simp[k]
 .by_cases k2:S≠U
  .simp[k2]
  .rw[if_neg (by simp[k,k2]),if_neg k,if_neg k2]
   by_cases k3:U<0
   .simp[k3]
   .simp[k3]
def DJ(f:aE)(p:aa):(pO f p).natAbs<=1:=by
 unfold pO;have:=Nv f.l.dir.y.num
 repeat' split
 all_goals omega
def Hw{E:List aE}{p:aa}{k:Nat}{f:aE}(h:E[k]? =some f):e6 (E.take (k+1)) p=e6 (E.take k) p+pO f p:=by
 rw[cX,h];show e6 (E.take k++[f]) p=_;rw[Sa];unfold e6;simp
def JP(E:List aE)(p:aa): ∀k,(e6 (E.take k) p).natAbs<=k
 |0=>by simp[e6]
 |k+1=>by
  have ih:=JP E p k
  cases h:E[k]? with
  |none=>
   have:E.take (k+1)=E.take k:=by rw[cX,h];simp
   rw[this];omega
  |some f=>
   rw[Hw h];have:=DJ f p;omega
def Ud{f:aE}(hf:FG f){p:aa}{i:Nat}[hp:aq p i](hi:i<=100000:=by decide){a b c d e:Option Addr}(hv:Is GB (bF f) (o9 f (.pointer a) (.pointer b) (.pointer c) (.pointer d) (.pointer e))):PF GB prog 73 [Lb f (.pointer a) (.pointer b) (.pointer c) (.pointer d) (.pointer e),eZ p] (vI (pO f p)):=by
 haveI:=hf.fo.lb;haveI:=hf.fo.lo;haveI:=hf.fo.hi;haveI:aq (f.l.at f.v.hi) 3000:=se hf.fo.lb hf.fo.hi;haveI:aq (f.l.at f.v.lo) 3000:=se hf.fo.lb hf.fo.lo;refine fn (fu:=⟨11⟩) func73 J J ntmps73 J J (fun C=>?_);refine AQ 13 J (fun G y hg hy=>C7 (hv.up hg) hy)<|gx J<|cl J (ya (l:=f.l)) J<|cl (fu:=⟨6⟩) J (ij (q:=f.l.dir.y) (i:=97)) J<|?_;rcases Int.lt_or_le (Int.sign f.l.dir.y.num) 0 with hu|hu
 .
  refine gx J<|cs (fu2:=⟨2⟩) 19 J J J (fun hg19=>?_) (fun hg19=>?_)
  .
   exact rz J (by rw[mO hf.nl hf.nh];(repeat' split)<;>first|rfl|(exfalso;omega))
  .
   refine AQ 21 J (fun G y hg hy=>C7 (hv.up hg) hy)<|gx J<|cl J (zr (l:=f.l) (p:=p) (i:=i) (by omega)) J<|br (fu2:=⟨5⟩) J J J (fun hc26=>?_) (fun hc26=>?_)
   .
    exact rz J (by rw[mO hf.nl hf.nh];(repeat' split)<;>first|rfl|(exfalso;omega))
   .
    refine tj (fu:=⟨1⟩) (o9 f (.pointer a) (.pointer b) (.pointer c) (.pointer d) (.pointer e)) J (fun G y hy=>vL hy) J<|tj (fu:=⟨8⟩) (o9 f (.pointer a) (.pointer b) (.pointer c) (.pointer d) (.pointer e)) J (fun G y hy=>vL hy) J<|ic (fu:=⟨14⟩) J (by show some (decide _)=some true;rw[decide_eq_true (by omega)]) J<|pp (fu:=⟨12⟩) (ds1:=[bF f]) (ds2:=[]) J (.cons hv (b4.2 J)) (b4.2 J) (BW hf) J<|fy 41 J<|gx J<|cl J (f7 (i:=3000) (j:=i) (by decide) (by omega)) J<|br (fu2:=⟨6⟩) J J J (fun hc48=>?_) (fun hc48=>?_)
    .
     exact rz J (by rw[mO hf.nl hf.nh];(repeat' split)<;>first|rfl|(exfalso;omega))
    .
     refine pp (fu:=⟨12⟩) (ds1:=[bF f]) (ds2:=[]) J (.cons hv (b4.2 J)) (b4.2 J) (Bi hf) J<|fy 55 J<|gx J<|cl J (f7 (i:=3000) (j:=i) (by decide) (by omega)) J<|br J J J (fun hc62=>?_) (fun hc62=>?_)
     .
      exact rz J (by rw[mO hf.nl hf.nh];(repeat' split)<;>first|rfl|(exfalso;omega))
     .
      exact rz J (by rw[mO hf.nl hf.nh];(repeat' split)<;>first|rfl|(exfalso;omega))
 .
  refine gx J<|cs (fu2:=⟨2⟩) 19 J J J (fun hg19=>?_) (fun hg19=>?_)
  .
   exact rz J (by rw[mO hf.nl hf.nh];(repeat' split)<;>first|rfl|(exfalso;omega))
  .
   refine AQ 21 J (fun G y hg hy=>C7 (hv.up hg) hy)<|gx J<|cl J (zr (l:=f.l) (p:=p) (i:=i) (by omega)) J<|br (fu2:=⟨5⟩) J J J (fun hc26=>?_) (fun hc26=>?_)
   .
    exact rz J (by rw[mO hf.nl hf.nh];(repeat' split)<;>first|rfl|(exfalso;omega))
   .
    refine tj (fu:=⟨1⟩) (o9 f (.pointer a) (.pointer b) (.pointer c) (.pointer d) (.pointer e)) J (fun G y hy=>vL hy) J<|tj (fu:=⟨8⟩) (o9 f (.pointer a) (.pointer b) (.pointer c) (.pointer d) (.pointer e)) J (fun G y hy=>vL hy) J<|dq (fu:=⟨9⟩) J (by show some (decide _)=some false;rw[decide_eq_false (by omega)]) J<|pp (fu:=⟨12⟩) (ds1:=[bF f]) (ds2:=[]) J (.cons hv (b4.2 J)) (b4.2 J) (Bi hf) J<|fy 41 J<|gx J<|cl J (f7 (i:=3000) (j:=i) (by decide) (by omega)) J<|br (fu2:=⟨6⟩) J J J (fun hc48=>?_) (fun hc48=>?_)
    .
     exact rz J (by rw[mO hf.nl hf.nh];(repeat' split)<;>first|rfl|(exfalso;omega))
    .
     refine pp (fu:=⟨12⟩) (ds1:=[bF f]) (ds2:=[]) J (.cons hv (b4.2 J)) (b4.2 J) (BW hf) J<|fy 55 J<|gx J<|cl J (f7 (i:=3000) (j:=i) (by decide) (by omega)) J<|br J J J (fun hc62=>?_) (fun hc62=>?_)
     .
      exact rz J (by rw[mO hf.nl hf.nh];(repeat' split)<;>first|rfl|(exfalso;omega))
     .
      exact rz J (by rw[mO hf.nl hf.nh];(repeat' split)<;>first|rfl|(exfalso;omega))
def PO{f:aE}(hf:FG f){p:aa}{i:Nat}[hp:aq p i](hi:i<=100000:=by decide):PF GB prog 73 [bF f,eZ p] (vI (pO f p)):=PF.nmd fun G vs hg h=>by
 obtain⟨y,m,rfl,h1,hm⟩:=bi.1 h;obtain⟨a,b,c,d,e,rfl⟩:=Wh h1;exact⟨_, .cons (dt.2 ⟨_,J,Gy [.int .i64 (bO (f.l.a:Rat)), .int .i64 (bH (f.l.a:Rat)), .pointer a, .int .i64 (bO (f.l.b:Rat)), .int .i64 (bH (f.l.b:Rat)), .pointer b, .int .i64 (bO (f.l.c:Rat)), .int .i64 (bH (f.l.c:Rat)), .pointer c, .int .i64 (bO f.v.lo), .int .i64 (bH f.v.lo), .pointer d, .int .i64 (bO f.v.hi), .int .i64 (bH f.v.hi), .pointer e, .bool f.v.nl, .bool f.v.nh]⟩) hm,Ud hf (p:=p) (i:=i) hi h1⟩
def Ui{E:List aE}(hE: ∀f∈E,FG f)(hn:E.length<=1000000){p:aa}{i:Nat}[hp:aq p i](hi:i<=100000:=by decide):PF GB prog 34 [.sl (E.map bF),eZ p] (vI (e6 E p)):=by
 have hml:(E.map bF).length=E.length:=aZ ..;refine fn (fu:=⟨16⟩) func34 J J ntmps34 J J (fun C=>?_);refine ah 9 (.d (vI (E.length:Nat))) J (by rw[hml]<;>rfl)<|gx J<|lp (X:=Nat) (fun k=>[(10, .d (vI (k:Nat))),(5, .d (vI (e6 (E.take k) p)))]) (fun k=>[]) (fun k=>k<=E.length) (fun k=>E.length-k) 0 J (bJ _) (fun _=>J) (fun k hk=>?_);have hw:=JP E p k;refine br J J J (fun hc11=>?_) (fun hc11=>?_)
 .
  obtain⟨f,hx⟩: ∃u,E[k]? =some u:=⟨_,aQ (by omega)⟩;have hf:=hE f (aW hx);have hcl:=DJ f p;refine ix _ J (b8 hx) J<|cl J (PO hf (p:=p) (i:=i) hi) J<|ah 5 (.d (vI (e6 (E.take (k+1)) p))) J (by rw[Hw hx]<;>rfl)<|at_ (k+1) ⟨(by omega),(by omega)⟩
 .
  obtain rfl:k=E.length:=by omega
  rw[bT];exact rz J J
def Ky{E:List aE}(hE: ∀f∈E,FE f)(hn:E.length<=1000000){p:aa}{i:Nat}[hp:aq p i](hi:i<=100000:=by decide):PF GB prog 34 [.sl (E.map bF),eZ p] (vI (e6 E p)):=Ui (fun f h=>(hE f h).g) hn hi
def Vo{f:aE}(hf:jI f){p:aa}{i:Nat}[hp:aq p i](hi:i<=100000:=by decide):PF GB prog 92 [bF f, .pt [vI (bO p.x),vI (bH p.x),cO p.x,vI (bO p.y),vI (bH p.y),cO p.y]] (vB (fC f p)):=by
 refine fn func92 J J ntmps92 J J (fun C=>?_);refine r7 1 J<|gx J<|cl J (HH hf (p:=p) (i:=i) hi) J<|rz J J
def Vh{E:List aE}(hn:E.length<=1000000){f:FuncId}{pv:Value}{dp:DV}(hp:Is GB dp pv){g:aE->Bool}(hF: ∀x∈E,PF GB prog f [bF x,dp] (vB (g x))):PF GB prog 91 [.sl (E.map bF), .v (.func (.func f) ⟨[]⟩ ⟨[pv]⟩)] (vB (E.any g)):=by
 refine fn func91 J J ntmps91 J J (fun C=>?_);refine cx J (O8 hn hp hF) (fun _=>J) (fun⟨j,hj,hj1,hj2⟩=>?_)
 try dsimp only
 exact rz J (by show DV.v (.bool (decide _))= .v (.bool _);congr 2;rw[Bool.eq_iff_iff,decide_eq_true_eq];exact hj)
def Jp{E:List aE}(hE: ∀f∈E,jI f)(hn:E.length<=1000000){p:aa}{i:Nat}[hp:aq p i](hi:i<=100000:=by decide):PF GB prog 49 [.sl (E.map bF),eZ p] (vB (E.any fun f=>fC f p)):=by
 refine fn (fu:=⟨9⟩) func49 J J ntmps49 J J (fun C=>?_);refine fz 3 J J<|tn 3 J (fun GB' pv hg hpv=>?_);refine HX J J<|cl J (Vh (E:=E) hn hpv (fun f hf=>Vo (hE f hf) (p:=p) (i:=i) hi)) J<|rz J J
def OK{E:List aE}(hE: ∀f∈E,FE f)(hn:E.length<=1000000){p:aa}{i:Nat}[hp:aq p i](hi:i<=100000:=by decide):PF GB prog 49 [.sl (E.map bF),eZ p] (vB (E.any fun f=>fC f p)):=Jp (fun f h=>(hE f h).fo) hn hi
def gj(v:List aa):List (List DV):=(List.range v.length).map fun i=>[vI (i:Nat),yP (v.getD i ⟨0,0⟩) (v.getD ((i+1)%v.length) ⟨0,0⟩)]
def DA{v:List aa}{i:Nat}{p q:aa}(h1:v[i]? =some p)(h2:v[(i+1)%v.length]? =some q):(gj v)[i]? =some [vI (i:Nat),yP p q]:=by
 have hi:=(aT.1 h1).1;unfold gj;rw[fK,qU hi,gL,aJ,aJ,h1,h2];rfl
def ve{v:List aa}{i:Nat}{e:List DV}(h:(gj v)[i]? =some e): ∃p q,v[i]? =some p/\v[(i+1)%v.length]? =some q/\e=[vI (i:Nat),yP p q]:=by
 have hi:i<v.length:=by
  have:=(aT.1 h).1;unfold gj at this;simpa using this
 have h1:v[i]? =some v[i]:=aQ hi;have hm:(i+1)%v.length<v.length:=cJ _ (by omega);have h2:v[(i+1)%v.length]? =some v[(i+1)%v.length]:=aQ hm;refine⟨_,_,h1,h2,?_⟩;rw[DA h1 h2] at h;exact(Option.some.inj h).symm
def tZ{v:List aa}: ∀e∈gj v,e.length=2:=fun e he=>by
 obtain⟨i,_,rfl⟩:=bV.1 he;rfl
def vz{v:List aa}(hn:v.length<=100000:=by omega):It GB prog 117 [.pt [.sl (v.map eZ)]] (gj v):=by
 have hml:(v.map eZ).length=v.length:=aZ ..;have hrl:(gj v).length=v.length:=by unfold gj;simp
 refine Vu func117 J J ntmps117 J (fun _=>J) (fun l Jv Jx GB' hg H C hp hJ=>?_);refine r7 1 J<|gx J<|ah 6 (.d (vI (v.length:Nat))) J (by rw[hml]<;>rfl)<|Nc (X:=Nat) (fun k=>[(0, .d (.v (.func (.yield l) #[] #[]))),(1, .ep [.sl (v.map eZ)]),(5, .d (.sl (v.map eZ))),(6, .d (vI (v.length:Nat))),(7, .d (vI (k:Nat)))]) (fun k C=>k<=v.length/\Jv k C.G0 C.w0) (fun k=>v.length-k) 0 hp ⟨bJ _,hJ⟩ (fun _=>J) (fun k C1 hp1 hk=>?_);obtain⟨hk1,hJ1⟩:=hk;refine br J J J (fun hc8=>?_) (fun hc8=>?_)
 .obtain⟨p,hpx⟩: ∃u,v[k]? =some u:=⟨_,aQ (by omega)⟩
  obtain⟨q,hqx⟩: ∃u,v[(k+1)%v.length]? =some u:=⟨_,aQ (cJ _ (by omega))⟩;refine ix _ J (b8 hpx) J<|ah 20 (.d (vI (((k+1)%v.length:Nat):Int))) J (by rw[hml]<;>rfl)<|gx J<|ix _ J (b8 hqx) J<|Wj (len:=2) (s:=6) (e:=102) J (by kernel_rfl) (by kernel_rfl) J<|Tb (by kernel_rfl) J ?_;refine cy [(0, .d (.v (.func (.yield l) #[] #[]))),(1, .ep [.sl (v.map eZ)]),(5, .d (.sl (v.map eZ))),(6, .d (vI (v.length:Nat))),(7, .d (vI (k:Nat)))] H hp1 hJ1 J (DA hpx hqx) J (by repeat (first|exact trivial|refine And.intro J ?_)) J J J (fun C3 hp3 hJ3=>?_) (fun C3 hp3 hJ3=>?_)
  .exact QM (k+1) hp3 ⟨⟨by omega,hJ3⟩,by omega⟩
  .exact F7 H hp3 (.inr hJ3) J
 .obtain rfl:k=v.length:=by omega
  exact F7 H hp1 (.inl (by rw[hrl];exact hJ1)) J
def uT{v:List aa}:An GB prog 68 [.sl (v.map eZ)] 117 (.pt [.sl (v.map eZ)]):=by
 refine RW func68 J J ntmps68 J J (fun C=>?_);refine fz 1 J J<|tn 1 J (fun GB' pv hg hp=>?_);refine HX J J<|WU J J hp
def PA:sj 100:=fun x w=>by kernel_rfl
def Oz(m:List Value):uq 100 (.agg ⟨m⟩) "Mul" 226:=fun w=>by kernel_rfl
def WD{G:Gh}{q:Rat}{u:Value}(h:Is G (eF q) u):uq 100 u "Mul" 226:=by
 obtain⟨m,rfl,_⟩:=dt.1 h;exact Oz m
def UX(l:List Rat)(k:Nat)(y:Rat):(l.map eF).set k (eF y)=(l.set k y).map eF:=(lT ..).symm
def jb(L:List Rat)(k:Rat)(j:Nat):List Rat:=(L.take j).map (· *k)++L.drop j
def WW(L:List Rat)(k:Rat)(j:Nat):(jb L k j).length=L.length:=by
 unfold jb;rw[aN,aZ,aS,jY];omega
def WH{L:List Rat}{k a:Rat}{j:Nat}(h:L[j]? =some a):(jb L k j)[j]? =some a:=by
 have hj:=(aT.1 h).1;unfold jb;rw[dS (by rw[aZ,aS];omega),aZ,aS,gS,<-h];congr 1;omega
def Q3{L:List Rat}{k a:Rat}{j:Nat}(h:L[j]? =some a):(jb L k j).set j (a*k)=jb L k (j+1):=by
 have hj:=(aT.1 h).1;unfold jb;rw[cX,h,List.set_append_right _ _ (by rw[aZ,aS];omega),aZ,aS,show j-min j L.length=0 by omega,bM hj];simp only[Option.toList_some,cK,bL,iQ,List.set_cons_zero,dL,iS,jV]
def yZ{L:List Rat}{k:Rat}{i:Nat}[hk:BQ k i](hb: ∀a∈L,BQ a i)(hn:L.length<=1000)(hi:i<=1000000:=by decide):PB GB prog 231 (gH [some (eF k),none]) 3 100 (L.map eF) (fun w=> .v (.slice w.a w.n w.c)) ((L.map (· *k)).map eF):=by
 have hml:(L.map eF).length=L.length:=aZ ..;refine uv (fu:=⟨11⟩) func231 J J ntmps231 J J (fun C=>?_);refine ah 7 (.d (vI (L.length:Nat))) J (by rw[hml]<;>rfl)<|gx J<|lp (X:=Nat) (fun j=>[(8, .d (vI (j:Nat)))]) (fun j=>[(1000000,some (.b 100 3 ((jb L k j).map eF) false))]) (fun j=>j<=L.length) (fun j=>L.length-j) 0 J (bJ _) (fun _=>J) (fun j hk=>?_);have hsl:=WW L k j;have hsm:((jb L k j).map eF).length=(jb L k j).length:=aZ ..;refine br J J J (fun hc9=>?_) (fun hc9=>?_)
 .
  obtain⟨a,hx⟩: ∃u,L[j]? =some u:=⟨_,aQ (by omega)⟩;have ham:=aW hx;haveI:=hb a ham;have hga:(jb L k j)[j]? =some a:=WH hx;refine lb (fu:=⟨0⟩) _ J (b8 hga) J<|L9 (fu:=⟨1⟩) J PA J<|R3 J (fun G u h=>WD h) (nk (p:=a) (q:=k) (i:=i) (j:=i) (by omega) (by omega)) J<|sb (hv:=by simp only[aj];exact⟨by kernel_rfl,by omega⟩) _ ((jb L k (j+1)).map eF) J (b8 hga) J (by rw[<-Q3 hx,<-UX]<;>rfl) J<|at_ (j+1) ⟨(by omega),(by omega)⟩
 .
  obtain rfl:j=L.length:=by omega
  have hend:jb L k L.length=L.map (· *k):=by unfold jb;rw[bT,iX,lW]
  exact nf J J J (by rw[hend])
def Ay{a:Int}{g:Nat}(hg:0<g)(hd:g∣a.natAbs):(a:Rat)*(((g:Nat):Int):Rat)⁻¹=((zv (decide (a<0)) (a.natAbs/g):Int):Rat):=by
 obtain⟨q,hq⟩:=hd;have e:zv (decide (a<0)) (a.natAbs/g)*(g:Int)=a:=by
  rw[hq,oL q hg];unfold zv;have hc:((g*q:Nat):Int)=(g:Int)*(q:Int):=by simp
  have hm:=rQ (g:Int) (q:Int);split
  .rename_i h
   have h:=of_decide_eq_true h;rw[Int.neg_mul];omega
  .rename_i h
   have h: ¬a<0:=fun k=>h (decide_eq_true k);omega
 generalize zv (decide (a<0)) (a.natAbs/g)=z at*;have h0:((g:Int):Rat)≠0:=by
  intro k;have:(g:Int)=0:=by exact_mod_cast k
  omega
 rw[<-e,dT];generalize ((g:Int):Rat)=r at*;grind
def Ck{z:Int}(h:z.natAbs<=1000000:=by omega): ¬dG (z:Rat):=fun k=>k ⟨by show z.natAbs<_;omega,by show 1<_;decide⟩
theorem qA(p q:aa){i j:Nat}[aq p i][aq q j]:aq ⟨p.x-q.x,p.y-q.y⟩ (i+j+1):=⟨inferInstanceAs (BQ (p.x-q.x) _),inferInstanceAs (BQ (p.y-q.y) _)⟩
theorem e8{z:Int}(h:z.natAbs<=1000000:=by decide):BQ (z:Rat) 22:=by
 have e:(2:Nat)^21=2097152:=by decide
 haveI:BI z 21:=⟨pE (by omega)⟩;exact(inferInstance:BQ (z:Rat) 22)
def UT{a b c:Int}(ha:a.natAbs<=1000000)(hb:b.natAbs<=1000000)(hc:c.natAbs<=1000000)(h0: ¬(a=0/\b=0)):PF GB prog 184 [eF (a:Rat),eF (b:Rat),eF (c:Rat)] (.tp [cA (eO a b c),vB true]):=by
 haveI:=e8 ha;haveI:=e8 hb;haveI:=e8 hc;have hgn:Nat.gcd a.natAbs b.natAbs≠0:=fun h=>h0 ⟨iU.1 (jW h),iU.1 (jJ h)⟩;have hgp:0<Nat.gcd (Nat.gcd a.natAbs b.natAbs) c.natAbs:=iN _ (dM hgn);have eg:rgcd (rgcd (a:Rat) b) c=(((Nat.gcd (Nat.gcd a.natAbs b.natAbs) c.natAbs:Nat):Int):Rat):=by rw[CW,CW];rfl
 have e1:(a:Rat)*(rgcd (rgcd (a:Rat) b) c)⁻¹=((eO a b c).a:Rat):=by rw[eg];exact Ay hgp (oJ (iJ _ _) (iJ _ _))
 have e2:(b:Rat)*(rgcd (rgcd (a:Rat) b) c)⁻¹=((eO a b c).b:Rat):=by rw[eg];exact Ay hgp (oJ (iJ _ _) (jX _ _))
 have e3:(c:Rat)*(rgcd (rgcd (a:Rat) b) c)⁻¹=((eO a b c).c:Rat):=by rw[eg];exact Ay hgp (jX _ _)
 haveI:BQ (rgcd (a:Rat) b) 200:=BQ.mono (inferInstance:BQ (rgcd (a:Rat) b) _);haveI:BQ (rgcd (rgcd (a:Rat) b) c) 600:=BQ.mono (inferInstance:BQ (rgcd (rgcd (a:Rat) b) c) _);haveI:BQ (rgcd (rgcd (a:Rat) b) c)⁻¹ 600:=BQ.mono (inferInstance:BQ (rgcd (rgcd (a:Rat) b) c)⁻¹ _);have hl4:([((eO a b c).a:Rat),((eO a b c).b:Rat),((eO a b c).c:Rat)].map eF).length=3:=J;have hl3:[((eO a b c).a:Rat),((eO a b c).b:Rat),((eO a b c).c:Rat)].length=3:=J;refine fn func184 J J ntmps184 J J (fun C=>?_);refine cl J (sr (q:=(a:Rat))) J<|csd 11 J J J (fun hg11=>?_) (fun hg11=>?_)
 .
  refine cl J (sr (q:=(b:Rat))) J<|bd J J J (fun hc14=>?_) (fun hc14=>?_)
  .
   exact absurd ⟨by exact_mod_cast hg11,by exact_mod_cast hc14⟩ h0
  .
   refine cl rfl (nj (p:=(a:Rat)) (q:=(b:Rat)) (i:=22) (j:=22)) rfl<|cl rfl (nj (p:=rgcd (a:Rat) b) (q:=(c:Rat)) (i:=200) (j:=22)) rfl<|cl rfl (r6 (q:=rgcd (rgcd (a:Rat) b) c) (i:=600)) rfl<|ro (fu:=⟨0⟩) J J<|cq (hv:=by simp only[aj];exact⟨by kernel_rfl,by omega⟩) ([((eO a b c).a:Rat),((eO a b c).b:Rat),((eO a b c).c:Rat)].map eF) rfl (yZ (L:=[(a:Rat),(b:Rat),(c:Rat)]) (k:=(rgcd (rgcd (a:Rat) b) c)⁻¹) (i:=600) (by intro q hq;simp only[aR,jU,or_false] at hq;rcases hq with rfl|rfl|rfl;exact(e8 ha).mono (by decide);exact(e8 hb).mono (by decide);exact(e8 hc).mono (by decide)) (nb rfl)) (by simp only[bL,iQ,e1,e2,e3]) rfl<|lb _ J J J<|lb _ J J J<|lb _ J J J<|rz J J
 .
  refine cl rfl (nj (p:=(a:Rat)) (q:=(b:Rat)) (i:=22) (j:=22)) rfl<|cl rfl (nj (p:=rgcd (a:Rat) b) (q:=(c:Rat)) (i:=200) (j:=22)) rfl<|cl rfl (r6 (q:=rgcd (rgcd (a:Rat) b) c) (i:=600)) rfl<|ro (fu:=⟨0⟩) J J<|cq (hv:=by simp only[aj];exact⟨by kernel_rfl,by omega⟩) ([((eO a b c).a:Rat),((eO a b c).b:Rat),((eO a b c).c:Rat)].map eF) rfl (yZ (L:=[(a:Rat),(b:Rat),(c:Rat)]) (k:=(rgcd (rgcd (a:Rat) b) c)⁻¹) (i:=600) (by intro q hq;simp only[aR,jU,or_false] at hq;rcases hq with rfl|rfl|rfl;exact(e8 ha).mono (by decide);exact(e8 hb).mono (by decide);exact(e8 hc).mono (by decide)) (nb rfl)) (by simp only[bL,iQ,e1,e2,e3]) rfl<|lb _ J J J<|lb _ J J J<|lb _ J J J<|rz J J
theorem qq{z:ZP}(h:ZP.le 100 z):aq z.q 22:=⟨e8 (by have:=h.1;omega),e8 (by have:=h.2;omega)⟩
def p8{a b:Int}{m n:Nat}(ha:a.natAbs<=m)(hb:b.natAbs<=n):(a*b).natAbs<=m*n:=by
 rw[dV];exact nY ha hb
def Mp{v w:ZP}(hv:ZP.le 100 v)(hw:ZP.le 100 w)(h:v≠w):PF GB prog 118 [eZ v.q,eZ w.q] (.tp [cA (lv v.1 v.2 w.1 w.2),vB true]):=by
 haveI:=qq hv;haveI:=qq hw;have hv1:=hv.1;have hv2:=hv.2;have hw1:=hw.1;have hw2:=hw.2;obtain⟨A,hA⟩: ∃A,A=j0 v.2 w.2:=⟨_,rfl⟩;obtain⟨B,hB⟩: ∃B,B=jD v.1 w.1:=⟨_,rfl⟩;obtain⟨C0,hC⟩: ∃C0,C0=pz v.1 v.2 w.1 w.2:=⟨_,rfl⟩;have bA:A.natAbs<=200:=by rw[hA];unfold j0;omega
 have bB:B.natAbs<=200:=by rw[hB];unfold jD;omega
 have m1:=p8 bA hv1;have m2:=p8 bB hv2;have eC:C0= -(A*v.1+B*v.2):=by rw[hC,hA,hB];rfl
 have bC:C0.natAbs<=40000:=by rw[eC];omega
 have h0: ¬(A=0/\B=0):=fun k=>h (Prod.ext (by have:=k.2;rw[hB] at this;unfold jD at this;omega) (by have:=k.1;rw[hA] at this;unfold j0 at this;omega));haveI:aq (iP A B) 22:=⟨e8 (by omega),e8 (by omega)⟩;haveI:BQ ((A*v.1+B*v.2:Int):Rat) 22:=e8 (by omega);have eT:jF ⟨w.q.x-v.q.x,w.q.y-v.q.y⟩=iP A B:=by rw[hA,hB];unfold jF iP j0 jD ZP.q iP;simp only[aa.mk.injEq];push_cast;constructor<;>grind
 have eD:(iP A B).dot v.q=((A*v.1+B*v.2:Int):Rat):=by unfold aa.dot iP ZP.q iP;push_cast;rfl
 have eN: -((A*v.1+B*v.2:Int):Rat)=((C0:Int):Rat):=by rw[eC];push_cast;rfl
 refine fn func118 J J ntmps118 J J (fun C=>?_);refine cl J (xG (p:=w.q) (q:=v.q) (i:=22) (j:=22)) J<|cl (fu:=⟨0⟩) J (Di (p:=⟨w.q.x-v.q.x,w.q.y-v.q.y⟩) (i:=45) (h:=qA w.q v.q)) J<|ah 12 (.d (eZ (iP A B))) J (by rw[eT])<|gx J<|cl (fu:=⟨0⟩) J (ld (p:=iP A B) (q:=v.q) (i:=22) (j:=22)) J<|ah 19 (.d (eF ((A*v.1+B*v.2:Int):Rat))) J (by rw[eD])<|gx J<|cl (fu:=⟨0⟩) J (kA (q:=((A*v.1+B*v.2:Int):Rat)) (i:=22)) J<|ah 20 (.d (eF ((C0:Int):Rat))) J (by rw[eN])<|gx J<|cl J (UT (a:=A) (b:=B) (c:=C0) (by omega) (by omega) (by omega) h0) J<|rz J (by rw[hA,hB,hC];rfl)
def F2{l:ab}(ho:l.ok)(ha:l.a.natAbs<=200)(hb:l.b.natAbs<=200){m n:Int}(hm:m.natAbs<=100)(hn:n.natAbs<=100): ¬dG (du l (iP m n)):=by
 have hd:=Fp ho.ne;have p1:=p8 ha ha;have p2:=p8 hb hb;have p3:=p8 hm hb;have p4:=p8 hn ha;have hA:(l.a*l.a+l.b*l.b).natAbs<4611686018427387904:=by omega
 have hB:(m*l.b-n*l.a).natAbs<4611686018427387904:=by omega
 have e1:l.dir.dot l.dir=((l.a*l.a+l.b*l.b:Int):Rat):=by
  rw[qV,dT,dT];simp only[ab.dir,aa.dot];grind
 have e2:(iP m n).dot l.dir=((m*l.b-n*l.a:Int):Rat):=by
  rw[qY,dT,dT];simp only[ab.dir,aa.dot,iP];grind
 have hd':((0:Int):Rat)<((l.a*l.a+l.b*l.b:Int):Rat):=by rw[<-e1];exact hd
 unfold du;rw[e2,e1];clear e1 e2 p1 p2 p3 p4;generalize l.a*l.a+l.b*l.b=D at*;generalize m*l.b-n*l.a=M at*;have hD:0<D:=kU.1 hd';have h0:(D:Rat)≠0:=fun e=>by rw[e] at hd';exact absurd hd' (by decide)
 have:((D.natAbs:Nat):Rat)=(D:Rat):=by
  have h1:((D.natAbs:Nat):Int)=D:=by omega
  rw[<-h1];rfl
 have hf:=KU (q:=(M:Rat)/(D:Rat)) (n:=M) (d:=D.natAbs) (by omega) (by rw[this];grind);exact fun k=>k ⟨by omega,by omega⟩
def Kw{v w:ZP}(hv:ZP.le 100 v)(hw:ZP.le 100 w)(h:v≠w):FE (lw v w):=by
 have hf:=EN hv hw h;have hv1:=hv.1;have hv2:=hv.2;have hw1:=hw.1;have hw2:=hw.2;have bA:(j0 v.2 w.2).natAbs<=200:=by unfold j0;omega
 have bB:(jD v.1 w.1).natAbs<=200:=by unfold jD;omega
 have m1:=p8 bA hv1;have m2:=p8 bB hv2;have bC:(pz v.1 v.2 w.1 w.2).natAbs<=40000:=by unfold pz;omega
 obtain⟨k1,k2,k3⟩:=Hr (j0 v.2 w.2) (jD v.1 w.1) (pz v.1 v.2 w.1 w.2);have ea:(lw v w).l.a.natAbs<=200:=fJ k1 bA;have eb:(lw v w).l.b.natAbs<=200:=fJ k2 bB;have ec:(lw v w).l.c.natAbs<=40000:=fJ k3 bC;exact⟨hf,⟨Ck,Ck,Ck,F2 hf.ok ea eb hv1 hv2,F2 hf.ok ea eb hw1 hw2⟩,J,J⟩
def V1{r:List ZP}(h:en r): ∀f∈iO r,FE f:=fun f hf=>by
 obtain⟨k,hk,rfl⟩:=FZ hf;exact Kw (h.le _ (uZ hk)) (h.le _ (yr hk)) (h.ne k hk)
def Li{rs:List (List ZP)}(h: ∀r∈rs,en r): ∀f∈dB rs,FE f:=fun f hf=>by
 obtain⟨r,h1,h2⟩:=mK.1 hf;exact V1 (h r h1) f h2
def VS{v w:ZP}(hv:ZP.le 100 v)(hw:ZP.le 100 w)(h:v≠w):PF GB prog 69 [eZ v.q,eZ w.q] (.tp [bF (lw v w),vB true]):=by
 have hf:=Kw hv hw h;haveI:LB (lv v.1 v.2 w.1 w.2):=hf.fo.lb;haveI:=qq hv;haveI:=qq hw;refine fn func69 J J ntmps69 J J (fun C=>?_);refine cl (fu:=⟨12⟩) J (Mp hv hw h) J<|fy 14 J<|gx J<|cl J (qI (l:=lv v.1 v.2 w.1 w.2) (p:=v.q) (i:=22)) J<|cl J (qI (l:=lv v.1 v.2 w.1 w.2) (p:=w.q) (i:=22)) J<|rz J J
end Go.Sx
end
