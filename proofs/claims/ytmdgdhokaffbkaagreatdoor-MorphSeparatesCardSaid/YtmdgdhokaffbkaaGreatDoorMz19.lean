import Derived.Test.YtmdgdhokaffbkaaGreatDoorMz18
set_option linter.all false
set_option maxHeartbeats 4000000
set_option maxRecDepth 100000
section
namespace Go.Sx
open Go Go.Proofs Tryz
variable {ls L M K:List ah}{c:ar}{n u v z p w p1 p2 p3 p4:aa}{d D:Nat}{es:List Int}{a b x y w1 w2 w3 w4 m low k a' b' c':Rat}{rs:List (List ZP)}{fill:Int}{V:List aa}{l m0:ah}{s:bt}{t:Tr}
variable {GB:Gh}
def Vh(hb: ∀p∈ls,LB p)(hn:ls.length<=100000):PR GB prog 86 [.sl (ls.map eL)] 6 136 ((mr ls).map eL):=by
 have hm':=fy eL ls;refine Dl (fu:=⟨15⟩) func86 J J ntmps86 J J (fun C hmb=>?_);refine aj 8 (.d (vI (ls.length:Nat))) J (by rw[hm']<;>rfl)<|gx J<|nr 3 3 136 6 J J J<|lp (X:=List ah×Nat) (fun⟨xs,k⟩=>[(9, .d (vI (k:Nat))),(3, .rw 3)]) (fun⟨xs,k⟩=>[(3,some (.b 136 6 (xs.map eL) true))]) (fun⟨xs,k⟩=>xs=rG fm ah.canon ls k/\k<=ls.length) (fun⟨xs,k⟩=>ls.length-k) ⟨[],0⟩ J ⟨J,bK _⟩ (fun _=>J) (fun⟨xs,k⟩ hk=>?_)
 try dsimp only at hk⊢
 obtain⟨hS,hkl⟩:=hk;refine br J J J (fun hc10=>?_) (fun hc10=>?_)
 .
  have hk:k<ls.length:=by omega
  obtain⟨z,hm⟩: ∃m,m=ls[k]:=⟨_,rfl⟩;have hz:ls[k]? =some z:=by rw[hm];exact aZ hk
  haveI hzb:LB z:=hm▸hb _ (cK hk);obtain⟨m,hmc⟩: ∃m,m=z.canon:=⟨_,rfl⟩;haveI hmb:LB m:=by rw[hmc];infer_instance
  have hxl:=fy eL xs;have hxn:xs.length<=k:=by rw[hS];exact Hb
  have hxb: ∀q∈xs,LB q:=fun q hq=>by rw[hS] at hq;obtain⟨z,hz,rfl⟩:=HX hq;haveI:=hb z hz;infer_instance
  refine ix (fu:=⟨1⟩) _ J (p8 hk) J<|aj 12 (.d (eL z)) J okN<|gx J<|cl (fu:=⟨2⟩) J (RT (l:=z)) J<|aj 16 (.d (eL m)) J (by rw[hmc])<|gx (fu:=⟨10⟩) J<|mg (fu:=⟨0⟩) (X:=Nat) (fun n=>[(6, .d (vI (n:Nat)))]) (fun n=>[]) (fun n=>mf fm m xs=n) [6] [] rfl ?_ (fun _=>J) (fun n hnx=>?_)
  .
   refine gx J<|lp (fu:=⟨6⟩) (X:=Nat) (fun n=>[(6, .d (vI (n:Nat)))]) (fun n=>[]) (fun n=>n<=xs.length/\ ∀j (h:j<xs.length),j<n->fm xs[j] m<0) (fun n=>xs.length-n) 0 J ⟨bK _,fun j _ hj=>absurd hj m5⟩ (fun _=>J) (fun n hk=>?_);obtain⟨n1,n2⟩:=hk;refine kC (v2:=fun hg21=>by simp only[ak];kernel_rfl) J J J J (fun hg21=>?_) (fun hg21=>?_)
   .
    refine lb _ J (p8) J<|cl J (x9 (l:=xs[n]' m5) (m:=m) (hl:=hxb _ (cK m5)) (hm:=hmb)) J<|br J J J (fun hc30=>?_) (fun hc30=>?_)
    .
     exact at_ (n+1) ⟨⟨m5,fun j h hj=>by by_cases q:j=n;(subst q;exact hc30);exact n2 j h m5⟩,m5⟩
    .
     exact at_ n (th fm n1 n2 (fun h=>hc30))
   .
    exact at_ n (th fm n1 n2 (fun h=>absurd h m5))
  .
   have hnl:n<=xs.length:=by rw[<-hnx];exact BP _ _ _
   rcases(show n=xs.length\/(∃h:n<xs.length,fm xs[n] m≠0)\/ ∃h:n<xs.length,fm xs[n] m=0 by by_cases q:n<xs.length;(by_cases q2:fm xs[n] m=0;exact .inr (.inr ⟨q,q2⟩);exact .inr (.inl ⟨q,q2⟩));exact .inl m5) with hq|⟨hq,hq2⟩|⟨hq,hq2⟩
   .
    have hnew: ∀h:n<xs.length,fm xs[n] m≠0:=fun h=>absurd h m5;obtain⟨ys,hys⟩: ∃ys,ys=xs.take n++m::xs.drop n:=⟨_,rfl⟩;have hin:dw fm m xs=ys:=by rw[hys];exact rO fm hnx hnew
    have hyl:ys.length<=xs.length+1:=by rw[hys];simp;omega
    refine oA 3 J<|gx (fu:=⟨5⟩) J<|d7 J (we (by rw[hxl];omega)) J<|s3 n _ J J J J (eE _) omu J<|ro J J<|kt n xs.length _ J J omZ J (eE _) hnl m5 J<|ap _ J J (rI eE _ _ _) J<|ap (hv:=by simp only[ak];exact⟨v6,m5⟩) (ho:=fun _=>⟨ur eE _ _,vb⟩) (ys.map eL) J omp (sP eE _ _ _ _) J<|fI 56 3 J<|at_ ⟨ys,k+1⟩ omo
   .
    have hnew: ∀h:n<xs.length,fm xs[n] m≠0:=fun h=>hq2;obtain⟨ys,hys⟩: ∃ys,ys=xs.take n++m::xs.drop n:=⟨_,rfl⟩;have hin:dw fm m xs=ys:=by rw[hys];exact rO fm hnx hnew
    have hyl:ys.length<=xs.length+1:=by rw[hys];simp;omega
    refine oA 3 J<|gx (fu:=⟨5⟩) J<|c9 J (oma (by rw[hxl];omega)) J<|ix _ J (p8 hq) J<|cl (fu:=⟨0⟩) J (x9 (l:=xs[n]' m5) (m:=m) (hl:=hxb _ (cK m5)) (hm:=hmb)) J<|d7 J (we v7) J<|s3 n _ J J J J (eE _) omu J<|ro J J<|kt n xs.length _ J J omZ J (eE _) hnl m5 J<|ap _ J J (rI eE _ _ _) J<|ap (hv:=by simp only[ak];exact⟨v6,m5⟩) (ho:=fun _=>⟨ur eE _ _,vb⟩) (ys.map eL) J omp (sP eE _ _ _ _) J<|fI 56 3 J<|at_ ⟨ys,k+1⟩ omo
   .
    have hin:dw fm m xs=xs:=z7 fm hnx hq hq2;refine gx (fu:=⟨5⟩) J<|c9 J (oma (by rw[hxl];omega)) J<|lb _ J (p8 hq) J<|cl (fu:=⟨0⟩) J (x9 (l:=xs[n]' m5) (m:=m) (hl:=hxb _ (cK m5)) (hm:=hmb)) J<|c9 (hv:=by simp only[ak];exact⟨v6,m5⟩) J (oma (fun h=>h hq2)) J<|at_ ⟨xs,k+1⟩ omo
 .
  have hfin:mr ls=xs:=by rw[hS,Kr];rfl
  exact Io J J J (by rw[hfin])


def aNP{α:Type}{f:α->DV}{l:List α}{s:α}(h:l[0]? =some s):(l.map f)[(0:Int).toNat]? =some (f s):=by simp[h]
def QO(c:List ah):(kE c).length<=c.length:=Kk c _
theorem aA7{c:List ah}(hb: ∀l∈c,LB l): ∀p∈kE c,aC p 1200:=fun p hp=>by
 obtain⟨l,hl,m,hm,rfl⟩:=aCh hp;have:= @aC.imeet l m (hb l hl) (hb m hm);exact⟨this.x.mono pb,this.y.mono pb⟩



theorem aC.mono{p:aa}{i j:Nat}(h:aC p i)(hj:i<=j:=by decide):aC p j:=⟨h.x.mono hj,h.y.mono hj⟩

def Vk{n:Int}(hn:n.natAbs<=1000)(hd:0<d:=by decide)(hd1:d<=1000:=by decide):PF GB prog 98 [vI n, .v (.int .i64 (d:Nat))] (eQ (mkRat n d)):=by
 haveI:BI n 10:=K0;haveI:BN d 10:=⟨m5⟩;refine fn func98 J J ntmps98 J J (fun C=>?_);refine cl J (TM (n:=n)) J<|cl J (ux (u:=d)) J<|cl J (xO (x:=n) (d:=d) hd) J<|rz J J
def qF(es:List Int)(a:Nat):Rat×Nat:=
 (if((au es 6 (au es 9 a).2).1:Int)=0 then mkRat (2*(((au es 9 a).1:Int)-4)+1) 2 else if((au es 6 (au es 9 a).2).1:Int)=1 then mkRat (3*(((au es 9 a).1:Int)-4)+1) 3 else(((au es 9 a).1:Rat)-4:Rat),(au es 6 (au es 9 a).2).2)
theorem Lh{a:Nat}(ha:a<=es.length):BQ (qF es a).1 12/\(qF es a).2<=es.length:=by
 have h1:=fp (es:=es) (n:=9) (a:=a);refine⟨?_,jf (jf ha)⟩;unfold qF;dsimp only;split
 .exact uT pb m5
 .split
  .exact uT pb m5
  .haveI:BI (((au es 9 a).1:Int)-4:Int) 11:=K0
   have e:((((au es 9 a).1:Rat)-4):Rat)=((((au es 9 a).1:Int)-4:Int):Rat):=by rw[gV];rfl
   rw[e];exact inferInstance
def vd(es:List Int)(a:Nat):aa×Nat:=(⟨(qF es a).1,(qF es (qF es a).2).1⟩,(qF es (qF es a).2).2)
theorem aFk{a:Nat}(ha:a<=es.length):aC (vd es a).1 1200/\(vd es a).2<=es.length:=by
 obtain⟨h1,h2⟩:=Lh ha;obtain⟨h3,h4⟩:=Lh h2;exact⟨⟨h1.mono pb,h3.mono pb⟩,h4⟩
def q9(z:Nat):(z:Rat)-4=(((z:Int)-4:Int):Rat):=by rw[gV];rfl
def QE{b:Nat}(hes:es.length<=400){a:Nat}(ha:a<=es.length):PM GB prog 40 (nk [none] b) b 85 [.sl (es.map vI), .v (.int .i64 (a:Nat))] (eQ (qF es a).1) [.sl (es.map vI), .v (.int .i64 ((qF es a).2:Nat))]:=by
 have h1:=fp (es:=es) (n:=9) (a:=a);refine Fh func40 J J ntmps40 J J (fun C b m lo hmb=>?_);refine cm J (fun b=>(pG (n:=9) hes ha)) J<|cm J (fun b=>(pG (n:=6) hes (jf ha))) J<|br J J J (fun hc9=>?_) (fun hc9=>?_)
 .
  refine cl J (Vk (n:=2*(((au es 9 a).1:Int)-4)+1) (d:=2) m5) J<|?_;exact uk hmb J J (by unfold qF;dsimp only;rw[if_pos hc9];rfl) J
 .
  refine br J J J (fun hc15=>?_) (fun hc15=>?_)
  .
   refine cl J (Vk (n:=3*(((au es 9 a).1:Int)-4)+1) (d:=3) m5) J<|?_;exact uk hmb J J (by unfold qF;dsimp only;rw[if_neg hc9,if_pos hc15];rfl) J
  .
   refine cl J (lB (n:=(((au es 9 a).1:Int)-4)) m5 m5) J<|?_;exact uk hmb J J (by unfold qF;dsimp only;rw[if_neg hc9,if_neg hc15,q9];rfl) J
def aCv{b:Nat}(hes:es.length<=400){a:Nat}(ha:a<=es.length):PM GB prog 9 (nk [none] b) b 85 [.sl (es.map vI), .v (.int .i64 (a:Nat))] (eP (vd es a).1) [.sl (es.map vI), .v (.int .i64 ((vd es a).2:Nat))]:=by
 refine Fh func9 J J ntmps9 J J (fun C b m lo hmb=>?_);refine cm J (fun b=>(QE hes ha)) J<|cm J (fun b=>(QE hes (Lh ha).2)) J<|?_;exact uk hmb J J J J



def yw{P:ah->Prop}(hr: ∀l,P l->P l.rev): ∀{t:Tr} {c:ar} {x:Bool×ar},t.all P->(∀s∈c,P s.l)->x∈t.parts c-> ∀s∈x.2,P s.l
 | .leaf b,c,x,_,hc,h=>by
  rw[Tr.parts,aY] at h;subst h;exact hc
 | .node l u v,c,x,ht,hc,h=>by
  have cl: ∀k,P k-> ∀s∈bH c k,P s.l:=fun k hk s hs=>by
   unfold bH at hs;split at hs
   .rcases sj.1 hs with rfl|hs
    .exact hk
    .obtain⟨s0,g,_,rfl⟩:=tI.1 hs
     exact hc s0 g
   .exact hc s hs
  rw[Tr.parts] at h;rcases aL.1 h with h|h
  .split at h
   .exact yw hr ht.2.1 (cl l ht.1) h
   .cases h
  .split at h
   .exact yw hr ht.2.2 (cl l.rev (hr l ht.1)) h
   .cases h
def Q5{x y a b:Nat}(hx:x<=2^a)(hy:y<=2^b):x*y<=2^(a+b):=by
 rw[fU];exact iS hx hy


def clT{C:aG}{n:Nat}{Q0:Exit->Act->World->Prop}{fr fr':aD}{own own':aI}{cf cf':Cf}{vc:List Prop}[fu:Fu]{f:FuncId}{ds:List DV}(ha:zh fr cf=some (f,ds))(hF:PF GB prog f ds (.v (.bool true)))(hgo:cF tt n fu.n fr own cf .tt [] []=⟨vc,fr',own',cf'⟩)(k:av prog GB C n Q0 fr' own' cf')
  (hv:autoParam (ak vc) cL._auto_1):av prog GB C n Q0 fr own cf:=by
 unfold zh at ha;split at ha<;>try (cases ha;done)
 rename_i hh;exact us hh (cg.to (g:= .tt) (TQ ha hF) fun ρ G y hy=>(aO (G:=G)).1 hy) hgo hv k

def aBO(hu:u.half≠0)(hv:v.half≠0)(h0:u.cross v=0)(h1:0<u.cross z)(h2:0<v.cross z):u.half=v.half:=by
 have ex:v.x*(u.cross z)=u.x*(v.cross z):=by unfold aa.cross at*;grind
 have ey:v.y*(u.cross z)=u.y*(v.cross z):=by unfold aa.cross at*;grind
 have key: ∀{a b:Rat},a*(u.cross z)=b*(v.cross z)->(0<a↔0<b)/\(a=0↔b=0):=fun{a b} e=>by
  have k1:0<a*(u.cross z)↔0<a:=fB h1;have k2:0<b*(v.cross z)↔0<b:=fB h2;refine⟨by rw[<-k1,<-k2,e],fun h=>?_,fun h=>?_⟩
  .rw[h,Rat.zero_mul] at e
   rcases fX.1 e.symm with q|q
   .exact q
   .grind
  .rw[h,Rat.zero_mul] at e
   rcases fX.1 e with q|q
   .exact q
   .grind
 obtain⟨x1,x2⟩:=key ex;obtain⟨y1,y2⟩:=key ey;have:u.half=1↔v.half=1:=by rw[m8,m8,x1,y1,y2]
 rcases iu hu with a|a<;>rcases iu hv with b|b<;>omega
def JQ(n q p:aa)(e:Rat):n.dot (bO q p e)=n.dot q+e*(n.dot p-n.dot q):=by
 unfold aa.dot bO;grind
def zI(n q u:aa)(e:Rat):n.dot (cd q u e)=n.dot q+e*n.dot u:=by
 unfold aa.dot cd;grind
structure Oy where
 ax:Rat
 ay:Rat
 ac:Rat
def Oy.ev(g:Oy)(p:aa):Rat:=g.ax*p.x+g.ay*p.y+g.ac
def Jj(h: ¬(x=0/\y=0)):0<x*x+y*y:=by
 have h1:=ug x;have h2:=ug y;rcases fG (x*x+y*y) with k|k|k
 .exfalso
  refine h ⟨?_,?_⟩
  .have:x*x=0:=by grind
   exact(fX.1 this).elim id id
  .have:y*y=0:=by grind
   exact(fX.1 this).elim id id
 .exact k
 .grind
def aFK{a b:aa}(h:a≠b): ¬(b.x-a.x=0/\b.y-a.y=0):=fun k=>h (by
 cases a;cases b
 simp only[aa.mk.injEq] at*;constructor<;>grind)
def div_pos(ha:0<a)(hb:0<b):0<a/b:=by
 have e:a/b*b=a:=by grind
 exact(fB hb).1 (by rw[e];exact ha)
def Dm{a b:ZP}(h:a.q=b.q):a=b:=by
 have hx:(a.1:Rat)=(b.1:Rat):=congrArg aa.x h;have hy:(a.2:Rat)=(b.2:Rat):=congrArg aa.y h;exact Prod.ext (by exact_mod_cast hx) (by exact_mod_cast hy)
section
variable {b c:Bool}
end
section
variable {ds:List aa}
end
def uw{c z:Rat}(ha:0<=a)(hb:0<=b)(hc:0<=c)(hs:0<a+b+c)(hx:0<x)(hy:0<y)(hz:0<z):0<a*x+b*y+c*z:=by
 have h1:=cC ha (cR hx);have h2:=cC hb (cR hy);have h3:=cC hc (cR hz);by_cases k1:0<a
 .have:=bE k1 hx;grind
 .by_cases k2:0<b
  .have:=bE k2 hy;grind
  .have:=bE (show 0<c by grind) hz;grind
def kj(x:Rat):Rat:=if 0<x then x else 0
def wk(x:Rat):0<=kj x:=by unfold kj;split<;>grind
def EJ(x:Rat):kj x-kj (-x)=x:=by unfold kj;split<;>split<;>grind
def Dj(x:Rat):kj x=0\/kj (-x)=0:=by unfold kj;split<;>split<;>grind
def Pc(h:0<x):0<kj x:=by unfold kj;rw[if_pos h];exact h
def xD(w1 w2 w3 w4:Rat)(p1 p2 p3 p4:aa):aa:=⟨(w1*p1.x+w2*p2.x+w3*p3.x+w4*p4.x)*(w1+w2+w3+w4)⁻¹,(w1*p1.y+w2*p2.y+w3*p3.y+w4*p4.y)*(w1+w2+w3+w4)⁻¹⟩
def P1(l:ah)(hs:0<w1+w2+w3+w4)(p1 p2 p3 p4:aa):(w1+w2+w3+w4)*l.value (xD w1 w2 w3 w4 p1 p2 p3 p4)=w1*l.value p1+w2*l.value p2+w3*l.value p3+w4*l.value p4:=by
 have e:(w1+w2+w3+w4)*(w1+w2+w3+w4)⁻¹=1:=rN _ va;unfold xD ah.value ah.nor aa.dot;dsimp only;generalize (w1+w2+w3+w4)⁻¹=i at*;grind
def Wq(h:aB p1 p2 p3≠0): ∃r:aa,∀l:ah,((0<l.value p2/\0<l.value p3/\0<l.value p4)\/(0<l.value p1/\0<l.value p3/\0<l.value p4)\/(0<l.value p1/\0<l.value p2/\0<l.value p4)\/(0<l.value p1/\0<l.value p2/\0<l.value p3))->0<l.value r:=by
 obtain⟨u1,e1⟩: ∃u,u=aB p2 p3 p4:=⟨_,rfl⟩;obtain⟨u2,e2⟩: ∃u,u= -aB p1 p3 p4:=⟨_,rfl⟩;obtain⟨u3,e3⟩: ∃u,u=aB p1 p2 p4:=⟨_,rfl⟩;obtain⟨u4,e4⟩: ∃u,u= -aB p1 p2 p3:=⟨_,rfl⟩;have hz:u1+u2+u3+u4=0:=by rw[e1,e2,e3,e4];unfold aB;grind
 have hx:u1*p1.x+u2*p2.x+u3*p3.x+u4*p4.x=0:=by rw[e1,e2,e3,e4];unfold aB;grind
 have hy:u1*p1.y+u2*p2.y+u3*p3.y+u4*p4.y=0:=by rw[e1,e2,e3,e4];unfold aB;grind
 have h4:u4≠0:=by rw[e4];grind
 clear e1 e2 e3 e4 h;have s1:=EJ u1;have s2:=EJ u2;have s3:=EJ u3;have s4:=EJ u4;have a1:=wk u1;have a2:=wk u2;have a3:=wk u3;have a4:=wk u4;have b1:=wk (-u1);have b2:=wk (-u2);have b3:=wk (-u3);have b4:=wk (-u4);have z1:=Dj u1;have z2:=Dj u2;have z3:=Dj u3;have z4:=Dj u4;have c4:0<kj u4+kj (-u4):=by
  rcases fG u4 with k|k|k
  .exact absurd k h4
  .have:=Pc k;grind
  .have:=Pc (show 0< -u4 by grind);grind
 generalize kj u1=v1 at*;generalize kj u2=v2 at*;generalize kj u3=v3 at*;generalize kj u4=v4 at*;generalize kj (-u1)=w1 at*;generalize kj (-u2)=w2 at*;generalize kj (-u3)=w3 at*;generalize kj (-u4)=w4 at*;have hS:v1+v2+v3+v4=w1+w2+w3+w4:=by grind
 have hp:0<v1+v2+v3+v4:=by grind
 have hX:v1*p1.x+v2*p2.x+v3*p3.x+v4*p4.x=w1*p1.x+w2*p2.x+w3*p3.x+w4*p4.x:=by
  rw[<-s1,<-s2,<-s3,<-s4] at hx;grind
 have hY:v1*p1.y+v2*p2.y+v3*p3.y+v4*p4.y=w1*p1.y+w2*p2.y+w3*p3.y+w4*p4.y:=by
  rw[<-s1,<-s2,<-s3,<-s4] at hy;grind
 refine⟨xD v1 v2 v3 v4 p1 p2 p3 p4,fun l hl=>?_⟩;have eq:xD v1 v2 v3 v4 p1 p2 p3 p4=xD w1 w2 w3 w4 p1 p2 p3 p4:=by unfold xD;rw[hX,hY,hS]
 have f1:=P1 l hp p1 p2 p3 p4;have f2:=P1 l (show 0<w1+w2+w3+w4 by grind) p1 p2 p3 p4;rw[<-eq] at f2;have fin:(0<v1*l.value p1+v2*l.value p2+v3*l.value p3+v4*l.value p4\/0<w1*l.value p1+w2*l.value p2+w3*l.value p3+w4*l.value p4)->0<l.value (xD v1 v2 v3 v4 p1 p2 p3 p4):=fun k=>by
  rcases k with k|k
  .exact(fB hp).1 (by rw[Rat.mul_comm,f1];exact k)
  .exact(fB (show 0<w1+w2+w3+w4 by grind)).1 (by rw[Rat.mul_comm,f2];exact k)
 apply fin;clear f1 f2 fin eq hX hY hx hy;generalize l.value p1=x1 at*;generalize l.value p2=x2 at*;generalize l.value p3=x3 at*;generalize l.value p4=x4 at*;rcases hl with⟨k1,k2,k3⟩|⟨k1,k2,k3⟩|⟨k1,k2,k3⟩|⟨k1,k2,k3⟩
 .rcases z1 with z|z
  .left;have:=uw a2 a3 a4 va k1 k2 k3;rw[z];grind
  .right;have:=uw b2 b3 b4 va k1 k2 k3;rw[z];grind
 .rcases z2 with z|z
  .left;have:=uw a1 a3 a4 va k1 k2 k3;rw[z];grind
  .right;have:=uw b1 b3 b4 va k1 k2 k3;rw[z];grind
 .rcases z3 with z|z
  .left;have:=uw a1 a2 a4 va k1 k2 k3;rw[z];grind
  .right;have:=uw b1 b2 b4 va k1 k2 k3;rw[z];grind
 .rcases z4 with z|z
  .left;have:=uw a1 a2 a3 va k1 k2 k3;rw[z];grind
  .right;have:=uw b1 b2 b3 va k1 k2 k3;rw[z];grind
def Og: ∀(n:Nat) (L:List ah),L.length=n->(∀a∈L,∀b∈L,∀d∈L,∃q:aa,0<a.value q/\0<b.value q/\0<d.value q)-> ∃q,dP L q
 |0,L,hn,_=>⟨⟨0,0⟩,fun m hm=>by rw[cJ hn] at hm;cases hm⟩
 |n+1,[],hn,_=>by cases hn
 |n+1,[a],_,h=>by
  obtain⟨q,h1,_⟩:=h a vb a vb a vb;exact⟨q,fun m hm=>by rw[aY.1 hm];exact h1⟩
 |n+1,[a,b],_,h=>by
  obtain⟨q,h1,h2,_⟩:=h a vb b vb b vb;exact⟨q,fun m hm=>by simp only[aV,fJ,or_false] at hm;rcases hm with rfl|rfl<;>assumption⟩
 |n+1,[a,b,d],_,h=>by
  obtain⟨q,h1,h2,h3⟩:=h a vb b vb d vb;exact⟨q,fun m hm=>by simp only[aV,fJ,or_false] at hm;rcases hm with rfl|rfl|rfl<;>assumption⟩
 |n+1,a::b::d::e::L,hn,h=>by
  have sub: ∀M:List ah,M.length=n->(∀m∈M,m∈a::b::d::e::L)-> ∃q,dP M q:=fun M hM hs=>Og n M hM fun x hx y hy z hz=>h x (hs x hx) y (hs y hy) z (hs z hz);simp only[aN] at hn;obtain⟨p1,q1⟩:=sub (b::d::e::L) okl (fun m hm=>by simp only[aV] at hm⊢;grind);obtain⟨p2,q2⟩:=sub (a::d::e::L) okl (fun m hm=>by simp only[aV] at hm⊢;grind);obtain⟨p3,q3⟩:=sub (a::b::e::L) okl (fun m hm=>by simp only[aV] at hm⊢;grind);obtain⟨p4,q4⟩:=sub (a::b::d::L) okl (fun m hm=>by simp only[aV] at hm⊢;grind);by_cases e12:p1=p2
  .refine⟨p1,fun m hm=>?_⟩
   rcases aV.1 hm with rfl|hm
   .rw[e12];exact q2 m vb
   .exact q1 m hm
  .have hN:=Jj (aFK e12)
   obtain⟨p3',q3',ho⟩: ∃p3',dP (a::b::e::L) p3'/\aB p1 p2 p3'≠0:=by
    by_cases k:aB p1 p2 p3=0
    .obtain⟨ep,he,hm⟩:=q3.open ⟨-(p2.y-p1.y),p2.x-p1.x⟩
     refine⟨_,hm ep (cR he) eY,?_⟩;have e:aB p1 p2 (cd p3 ⟨-(p2.y-p1.y),p2.x-p1.x⟩ ep)=aB p1 p2 p3+ep*((p2.x-p1.x)*(p2.x-p1.x)+(p2.y-p1.y)*(p2.y-p1.y)):=by unfold aB cd;dsimp only;grind
     rw[e,k];have:=bE he hN;grind
    .exact⟨p3,q3,k⟩
   obtain⟨r,hr⟩:=Wq (p4:=p4) ho;refine⟨r,fun m hm=>hr m ?_⟩;simp only[aV] at hm;have i1:=q1 m;have i2:=q2 m;have i3:=q3' m;have i4:=q4 m;simp only[aV] at i1 i2 i3 i4;rcases hm with rfl|rfl|rfl|rfl|hm
   .exact .inl ⟨i2 vb,i3 vb,i4 vb⟩
   .exact .inr (.inl ⟨i1 vb,i3 vb,i4 vb⟩)
   .exact .inr (.inr (.inl ⟨i1 vb,i2 vb,i4 vb⟩))
   .exact .inr (.inr (.inr ⟨i1 vb,i2 vb,i3 vb⟩))
   .exact .inl ⟨i2 (by simp[hm]),i3 (by simp[hm]),i4 (by simp[hm])⟩
def MB(a:Rat):a*(a.den:Rat)=(a.num:Rat):=by
 have h:(a.num:Rat)/((a.den:Nat):Rat)=a:=by rw[<-mX];exact qY a
 have h0:((a.den:Nat):Rat)≠0:=by
  intro k;have:a.den=0:=by exact_mod_cast k
  exact a.den_nz this
 generalize (a.num:Rat)=n at*;generalize ((a.den:Nat):Rat)=d at*;rw[<-h];grind
def IM{x:Int}(hD:0<D)(h:a*((D:Int):Rat)=(x:Rat)):a.num*(D:Int)=x*(a.den:Int):=by
 have e:((a.den:Int):Rat)*a=(a.num:Rat):=by
  have:=MB a;rw[Rat.mul_comm];exact this
 have k:(a.num:Rat)*((D:Int):Rat)=(x:Rat)*((a.den:Int):Rat):=by rw[<-e,<-h];grind
 exact_mod_cast k
def Pn{x y:Int}(hD:0<D)(ha:a*((D:Int):Rat)=(x:Rat))(hb:b*((D:Int):Rat)=(y:Rat)):rgcd a b*((D:Int):Rat)=(((Nat.gcd x.natAbs y.natAbs:Nat):Int):Rat):=by
 have h1:=IM hD ha;have h2:=IM hD hb;have n1:a.num.natAbs*D=x.natAbs*a.den:=by
  have:=congrArg Int.natAbs h1;rwa [fL,fL,fK,fK] at this
 have n2:b.num.natAbs*D=y.natAbs*b.den:=by
  have:=congrArg Int.natAbs h2;rwa [fL,fL,fK,fK] at this
 have hg:Nat.gcd (a.num.natAbs*b.den) (b.num.natAbs*a.den)*D=Nat.gcd x.natAbs y.natAbs*(a.den*b.den):=by
  rw[<-Nat.gcd_mul_right,<-Nat.gcd_mul_right];congr 1
  .rw[oZ,n1,cM]
  .rw[oZ,n2,cM,cW b.den a.den]
 unfold rgcd;generalize Nat.gcd (a.num.natAbs*b.den) (b.num.natAbs*a.den)=G at*;generalize Nat.gcd x.natAbs y.natAbs=g at*;have hpos:0<a.den*b.den:=iM a.den_pos b.den_pos;have hq:((G:Int):Rat)*((D:Int):Rat)=((g:Int):Rat)*(((a.den*b.den:Nat):Int):Rat):=by exact_mod_cast hg
 generalize a.den*b.den=E at*;have h0:((E:Int):Rat)≠0:=fun k=>by
  have:(E:Int)=0:=by exact_mod_cast k
  omega
 have hm:mkRat ((G:Nat):Int) E*((E:Int):Rat)=((G:Int):Rat):=by
  have hz:((E:Nat):Rat)≠0:=h0;show mkRat ((G:Nat):Int) E*((E:Nat):Rat)=_;rw[mX];generalize ((E:Nat):Rat)=z at*;generalize ((G:Int):Rat)=y at*;grind
 generalize mkRat ((G:Nat):Int) E=r at*;rw[<-hm] at hq;generalize ((E:Int):Rat)=e at*;generalize ((D:Int):Rat)=d at*;have:e*(r*d-((g:Int):Rat))=0:=by grind
 have:=(fX.1 this).resolve_left h0;grind
def mA(a b c:Rat):Nat:=a.den*(b.den*c.den)
def ew(a b c:Rat):ah:=pk (a.num*(b.den*c.den:Nat)) (b.num*(a.den*c.den:Nat)) (c.num*(a.den*b.den:Nat))
def O2(a b c:Rat):0<mA a b c:=iM a.den_pos (iM b.den_pos c.den_pos)
def GM(a:Rat)(k:Nat):a*(((a.den*k:Nat):Int):Rat)=((a.num*(k:Nat):Int):Rat):=by
 have e:=MB a;have:(((a.den*k:Nat):Int):Rat)=(a.den:Rat)*((k:Int):Rat):=by push_cast;rfl
 rw[this,cV,<-Rat.mul_assoc,e]
def In(a b c:Rat):a*((mA a b c:Int):Rat)=((a.num*(b.den*c.den:Nat):Int):Rat)/\b*((mA a b c:Int):Rat)=((b.num*(a.den*c.den:Nat):Int):Rat)/\c*((mA a b c:Int):Rat)=((c.num*(a.den*b.den:Nat):Int):Rat):=by
 refine⟨GM a _,?_,?_⟩
 .rw[show mA a b c=b.den*(a.den*c.den) by unfold mA;rw[nV]];exact GM b _
 .rw[show mA a b c=c.den*(a.den*b.den) by unfold mA;rw[<-cM,cW]];exact GM c _
def C5{c:Rat}(h: ¬(a=0/\b=0)): ¬(a.num*(b.den*c.den:Nat)=0/\b.num*(a.den*c.den:Nat)=0):=fun⟨h1,h2⟩=>by
 refine h ⟨?_,?_⟩
 .rcases qQ.1 h1 with k|k
  .exact lX.1 k
  .have:=iM b.den_pos c.den_pos;omega
 .rcases qQ.1 h2 with k|k
  .exact lX.1 k
  .have:=iM a.den_pos c.den_pos;omega
def wY{c:Rat}(h: ¬(a=0/\b=0)): ∃g:Rat,0<g/\(∀p:aa,(ew a b c).value p=g*(a*p.x+b*p.y+c)):=by
 obtain⟨g,g0,e1,e2,e3⟩:=aEn (c:=c.num*(a.den*b.den:Nat)) (C5 (c:=c) h);obtain⟨k1,k2,k3⟩:=In a b c;have hD:(0:Rat)<((mA a b c:Int):Rat):=by
  have:=O2 a b c;exact_mod_cast (show(0:Int)<(mA a b c:Int) by omega)
 have hg:(0:Rat)<(g:Rat):=by exact_mod_cast g0
 have f1:(g:Rat)*((ew a b c).a:Rat)=a*((mA a b c:Int):Rat):=by rw[k1,<-e1];unfold ew;push_cast;rfl
 have f2:(g:Rat)*((ew a b c).b:Rat)=b*((mA a b c:Int):Rat):=by rw[k2,<-e2];unfold ew;push_cast;rfl
 have f3:(g:Rat)*((ew a b c).c:Rat)=c*((mA a b c:Int):Rat):=by rw[k3,<-e3];unfold ew;push_cast;rfl
 refine⟨((mA a b c:Int):Rat)/(g:Rat),div_pos hD hg,fun p=>?_⟩;unfold ah.value ah.nor aa.dot;dsimp only;generalize ((ew a b c).a:Rat)=A at*;generalize ((ew a b c).b:Rat)=B at*;generalize ((ew a b c).c:Rat)=C at*;generalize ((mA a b c:Int):Rat)=D at*;generalize (g:Rat)=g at*;have hq:D/g*g=D:=by grind
 generalize D/g=q at*;subst hq;have:g*(A*p.x+B*p.y+C-q*(a*p.x+b*p.y+c))=0:=by grind
 have:=(fX.1 this).resolve_left va;grind
def xN{c:Rat}(h: ¬(a=0/\b=0)):(ew a b c).ok:=Qi (C5 h)
def aa.subQ(p q:aa):aa:=⟨p.x-q.x,p.y-q.y⟩
def bu(f:aa×aa):aa:=⟨-(f.2.y-f.1.y),f.2.x-f.1.x⟩
def AS(f:aa×aa)(u:aa):aB f.1 f.2 u=(bu f).dot u-(bu f).dot f.1:=by unfold aB bu aa.dot;dsimp only;grind
structure iz (V:List aa) (E:List (aa×aa)):Prop where
 ends: ∀f∈E,f.1∈V/\f.2∈V
 cvx: ∀f∈E,∀v∈V,0<=aB f.1 f.2 v
 cen: ∃u,∀f∈E,0<aB f.1 f.2 u
 hull: ∀n u:aa,(∀f∈E,0<=aB f.1 f.2 u)-> ∃v∈V,n.dot v<=n.dot u
def zt(n p q:aa):n.dot (p.subQ q)=n.dot p-n.dot q:=by unfold aa.dot aa.subQ;dsimp only;grind
def EP(l:ah)(p:aa):l.value p=l.nor.dot p+l.c:=rfl
def Wf{E:List (aa×aa)}(hB:iz V E)(h: ∀u,(∀f∈E,0<aB f.1 f.2 u)->m<=n.dot u): ∀v∈V,m<=n.dot v:=fun v hv=>by
 obtain⟨u,hu⟩:=hB.cen;apply Classical.byContradiction;intro k
 -- a point near to v
 have hk:n.dot v<m:=by grind
 have h0:=h u hu;have key: ∀t:Rat,0<t->t<=1->m<=n.dot v+t*(n.dot u-n.dot v):=fun t t0 t1=>by
  rw[<-JQ];refine h _ fun f hf=>?_;rw[Rw];have a:=hB.cvx f hf v hv;have b:=bE t0 (hu f hf);have c:=cC (show 0<=1-t by grind) a;grind
 generalize n.dot v=a at*;generalize n.dot u=b at*;have hd:0<b-a:=by grind
 have e:(m-a)/(2*(b-a))*(2*(b-a))=m-a:=by grind
 have q:=key ((m-a)/(2*(b-a))) (div_pos va va) ?_
 .generalize (m-a)/(2*(b-a))=t at*
  grind
 .generalize (m-a)/(2*(b-a))=t at*
  apply Classical.byContradiction;intro q;have:=bE (show 0<t-1 by grind) (show 0<2*(b-a) by grind);grind
def Vw(hc:bG c)(h: ∀q,bw c q->m<=n.dot q): ∀q,jh c q->m<=n.dot q:=fun v hv=>by
 obtain⟨u,hu⟩:=hc.ne;apply Classical.byContradiction;intro k;have hk:n.dot v<m:=by grind
 have h0:=h u hu;have key: ∀t:Rat,0<t->t<=1->m<=n.dot v+t*(n.dot u-n.dot v):=fun t t0 t1=>by
  rw[<-JQ];refine h _ fun s hs=>?_;rw[lE];have a:=hv s hs;have b:=bE t0 (hu s hs);have c:=cC (show 0<=1-t by grind) a;grind
 generalize n.dot v=a at*;generalize n.dot u=b at*;have hd:0<b-a:=by grind
 have e:(m-a)/(2*(b-a))*(2*(b-a))=m-a:=by grind
 have q:=key ((m-a)/(2*(b-a))) (div_pos va va) ?_
 .generalize (m-a)/(2*(b-a))=t at*
  grind
 .generalize (m-a)/(2*(b-a))=t at*
  apply Classical.byContradiction;intro q;have:=bE (show 0<t-1 by grind) (show 0<2*(b-a) by grind);grind
def kO(f:aa×aa)(p:aa):ah:=ew (-(bu f).x) (-(bu f).y) ((bu f).dot p-(bu f).dot f.1)
def yE{f:aa×aa}(h:0<aB f.1 f.2 u): ¬((bu f).x=0/\(bu f).y=0):=fun⟨h1,h2⟩=>by
 have e:aB f.1 f.2 u=(bu f).y*(u.y-f.1.y)+(bu f).x*(u.x-f.1.x):=by unfold aB bu;dsimp only;grind
 rw[e,h1,h2] at h;grind
def Ah{f:aa×aa}(h:0<aB f.1 f.2 u)(p q:aa):0<(kO f p).value q↔0<aB f.1 f.2 (p.subQ q):=by
 have hz:=yE h;obtain⟨g,g0,hg⟩:=wY (a:= -(bu f).x) (b:= -(bu f).y) (c:=(bu f).dot p-(bu f).dot f.1) (fun⟨h1,h2⟩=>hz ⟨va,va⟩);unfold kO;rw[hg,ot g0,AS,zt];have e: -(bu f).x*q.x+ -(bu f).y*q.y+((bu f).dot p-(bu f).dot f.1)=(bu f).dot p-(bu f).dot q-(bu f).dot f.1:=by unfold aa.dot;grind
 rw[e]
def aFw{E:List (aa×aa)}(hB:iz V E)(hc:bG c)(h1: ∀s∈c,∃v∈V,(∀w∈V,s.l.nor.dot v<=s.l.nor.dot w)/\0<s.l.value p-s.l.nor.dot v)
  (h2: ∀f∈E,(∃M,∀q,jh c q->M<=(bu f).dot q)-> ∃q,jh c q/\0<(bu f).dot p-(bu f).dot q-(bu f).dot f.1): ∃q,bw c q/\ ∀f∈E,0<aB f.1 f.2 (p.subQ q):=by
 obtain⟨u0,hu0⟩:=hB.cen;obtain⟨q0,hq0⟩:=hc.ne;obtain⟨q,hq⟩:=Og _ ((c.map fun s=>s.l)++E.map fun f=>kO f p) rfl (by
  have cc: ∀l∈c.map (fun s:bt=>s.l),0<l.value q0:=fun l hl=>by obtain⟨s,hs,rfl⟩:=aT.1 hl;exact hq0 s hs
  have ee: ∀l∈E.map (fun f=>kO f p),0<l.value (p.subQ u0):=fun l hl=>by
   obtain⟨f,hf,rfl⟩:=aT.1 hl;rw[Ah (hu0 f hf),show p.subQ (p.subQ u0)=u0 by unfold aa.subQ;cases u0;simp only[aa.mk.injEq];constructor<;>grind];exact hu0 f hf
  -- one edge: some point of the cell is on its left
  have one: ∀l∈E.map (fun f=>kO f p),∃q,bw c q/\0<l.value q:=fun l hl=>by
   obtain⟨f,hf,rfl⟩:=aT.1 hl;apply Classical.byContradiction;intro k;have k2: ∀q,bw c q->(bu f).dot p-(bu f).dot f.1<=(bu f).dot q:=fun q hq=>by
    have: ¬0<(kO f p).value q:=fun h=>k ⟨q,hq,h⟩;rw[Ah (hu0 f hf),AS,zt] at this;grind
   have k3:=Vw hc k2;obtain⟨q,hq,hv⟩:=h2 f hf ⟨_,k3⟩;have:=k3 q hq;grind
  -- one side: some point of the moved polygon is on its left
  have two: ∀l∈c.map (fun s:bt=>s.l),∃u,(∀f∈E,0<aB f.1 f.2 u)/\0<l.value (p.subQ u):=fun l hl=>by
   obtain⟨s,hs,rfl⟩:=aT.1 hl;apply Classical.byContradiction;intro k;have k2: ∀u,(∀f∈E,0<aB f.1 f.2 u)->s.l.value p<=s.l.nor.dot u:=fun u hu=>by
    have: ¬0<s.l.value (p.subQ u):=fun h=>k ⟨u,hu,h⟩;rw[EP,zt] at this;rw[EP];grind
   have k3:=Wf hB k2;obtain⟨v,hv,_,hp⟩:=h1 s hs;have:=k3 v hv;grind
  have emov: ∀l∈E.map (fun f=>kO f p),∀u,(∀f∈E,0<aB f.1 f.2 u)->0<l.value (p.subQ u):=fun l hl u hu=>by
   obtain⟨f,hf,rfl⟩:=aT.1 hl;rw[Ah (hu0 f hf),show p.subQ (p.subQ u)=u by unfold aa.subQ;cases u;simp only[aa.mk.injEq];constructor<;>grind];exact hu f hf
  have cin: ∀l∈c.map (fun s:bt=>s.l),∀q,bw c q->0<l.value q:=fun l hl q hq=>by obtain⟨s,hs,rfl⟩:=aT.1 hl;exact hq s hs
  intro a ha b hb d hd;rcases aL.1 ha with ha|ha<;>rcases aL.1 hb with hb|hb<;>rcases aL.1 hd with hd|hd
  .exact⟨q0,cc a ha,cc b hb,cc d hd⟩
  .obtain⟨q,h,k⟩:=one d hd;exact⟨q,cin a ha q h,cin b hb q h,k⟩
  .obtain⟨q,h,k⟩:=one b hb;exact⟨q,cin a ha q h,k,cin d hd q h⟩
  .obtain⟨u,h,k⟩:=two a ha;exact⟨_,k,emov b hb u h,emov d hd u h⟩
  .obtain⟨q,h,k⟩:=one a ha;exact⟨q,k,cin b hb q h,cin d hd q h⟩
  .obtain⟨u,h,k⟩:=two b hb;exact⟨_,emov a ha u h,k,emov d hd u h⟩
  .obtain⟨u,h,k⟩:=two d hd;exact⟨_,emov a ha u h,emov b hb u h,k⟩
  .exact⟨_,ee a ha,ee b hb,ee d hd⟩)
 refine⟨q,fun s hs=>hq s.l (bJ _ (dQ hs)),fun f hf=>?_⟩;exact(Ah (hu0 f hf) p q).1 (hq _ (aM _ (dQ hf)))
def V'{E:List (aa×aa)}(hB:iz V E){c:ar}{q:aa}(hu: ∀f∈E,0<=aB f.1 f.2 u)(hl: ∀v∈V,low<=n.dot v):low<=n.dot u:=by
 obtain⟨v,hv,h⟩:=hB.hull n u hu;have:=hl v hv;grind
def ku(n:aa):List aa->Rat
 |[]=>0
 |p::t=>t.foldl (fun b q=>if n.dot q<b then n.dot q else b) (n.dot p)
def MO{n:aa}: ∀(t:List aa) (b:Rat),(t.foldl (fun b q=>if n.dot q<b then n.dot q else b) b<=b/\ ∀q∈t,t.foldl (fun b q=>if n.dot q<b then n.dot q else b) b<=n.dot q)/\(t.foldl (fun b q=>if n.dot q<b then n.dot q else b) b=b\/ ∃q∈t,t.foldl (fun b q=>if n.dot q<b then n.dot q else b) b=n.dot q)
 |[],b=>⟨⟨eY,fun q hq=>by cases hq⟩, .inl J⟩
 |p::t,b=>by
  obtain⟨⟨h1,h2⟩,h3⟩:=MO t (if n.dot p<b then n.dot p else b);rw[jN];generalize t.foldl (fun b q=>if n.dot q<b then n.dot q else b) (if n.dot p<b then n.dot p else b)=z at*;refine⟨⟨by split at h1<;>grind,fun q hq=>?_⟩,?_⟩
  .rcases aV.1 hq with rfl|hq
   .split at h1<;>grind
   .exact h2 q hq
  .rcases h3 with h3|⟨q,hq,h3⟩
   .split at h3
    .exact .inr ⟨p,aQ,h3⟩
    .exact .inl h3
   .exact .inr ⟨q,aJ _ hq,h3⟩
def tC{l:List aa}(h:l≠[]):(∀q∈l,ku n l<=n.dot q)/\ ∃q∈l,ku n l=n.dot q:=by
 cases l with
 |nil=>exact absurd J h
 |cons p t=>
  obtain⟨⟨h1,h2⟩,h3⟩:=MO (n:=n) t (n.dot p);refine⟨fun q hq=>?_,?_⟩
  .rcases aV.1 hq with rfl|hq
   .exact h1
   .exact h2 q hq
  .rcases h3 with h3|⟨q,hq,h3⟩
   .exact⟨p,aQ,h3⟩
   .exact⟨q,aJ _ hq,h3⟩
def jt(n:aa)(s:bt):Bool:=(s.v.nh&&decide (s.l.dir.dot n<0))||(s.v.nl&&decide (0<s.l.dir.dot n))
def vv(n:aa):ar->Bool
 |[s]=>decide (s.l.nor.dot n<0)
 |_=>false
def j0(c:ar):List aa:=(c.map fun s=>s.l.at s.v.sample)++kE (c.map (·.l))
def iI(c:ar)(n:aa):Option Rat:=if c.isEmpty||vv n c then none else if c.any (jt n) then none else some (ku n (j0 c))
theorem okZ{p:Prop}(h:p:=by rw[aX,cZ,hw];rfl):p:=h
def BJ(hc:bG c)(ha:iq c)(hs:s∈c)(nh:s.v.nh=false):s.l.at s.v.hi∈kE (c.map (·.l)):=by
 obtain⟨i,hi,ei⟩:=mR hs;have h1:c[i]? =some s:=by rw[aZ hi,ei]
 obtain⟨w,hw⟩: ∃w,c[(i+1)%c.length]? =some w:=⟨_,aZ (dJ _ m5)⟩;have mw:=aW hw;have hn:mc (c.map fun s=>s.l.dir) s.l.dir w.l.dir:=L7 ha (by rw[cZ,h1];rfl) okZ;obtain⟨k1,k2⟩:=Nq hc hs mw hn nh;have hx:crossI s.l w.l≠0:=Jr ((kg _).2 k1);unfold kE;rw[gJ,aX];refine⟨i,jU.2 hi,?_⟩;rw[xT (l:=s.l) (m:=w.l) (by rw[cZ,h1];rfl) okZ,if_pos ((kg _).2 k1),aY];exact PD hx (mj (hc.ok s hs).ne _) k2
def aGM(s u:ah):s.nor.dot u.dir= -(u.nor.dot s.dir):=by unfold ah.nor ah.dir aa.dot;dsimp only;grind
def E8(hc:bG c)(ha:iq c)(hs:s∈c)(nl:s.v.nl=false):s.l.at s.v.lo∈kE (c.map (·.l)):=by
 obtain⟨u,hu,z1,z2⟩:=aG2 hc hs nl;have hin:=((hc.edge s hs).2 _).1 (S2 (hc.edge s hs).1 nl);obtain⟨t,ht⟩:=yn (hc.ok u hu).ne z1;rw[ht] at hin;have hh:=((hc.edge u hu).2 t).2 hin;have no: ∀e:Rat,0<e-> ¬u.v.has (t+e):=fun e he k=>by
  have k:=((hc.edge u hu).2 _).1 k s hs;rw[GG,<-ht,mj (hc.ok s hs).ne,aGM] at k;have:=bE he z2;grind
 have nh:u.v.nh=false:=by
  cases q:u.v.nh with
  |false=>rfl
  |true=>exact absurd ⟨hh.1.elim .inl fun k=> .inr va, .inl q⟩ (no 1 pb)
 have e:t=u.v.hi:=by
  have h2:=hh.2.resolve_left (by rw[nh];simp);apply Classical.byContradiction;intro k;refine no (u.v.hi-t) va ⟨hh.1.elim .inl fun k=> .inr va, .inr va⟩
 rw[ht,e];exact BJ hc ha hu nh
def aI3(hc:bG c)(ha:iq c): ∀q∈j0 c,jh c q:=fun q hq=>by
 unfold j0 at hq;rcases aL.1 hq with hq|hq
 .obtain⟨s,hs,rfl⟩:=aT.1 hq
  exact(yx hc hs).1
 .unfold kE at hq
  rw[gJ,aX] at hq;obtain⟨i,hi,hq⟩:=hq;have hi:=jU.1 hi;obtain⟨s,hs⟩: ∃s,c[i]? =some s:=⟨_,aZ hi⟩;obtain⟨w,hw⟩: ∃w,c[(i+1)%c.length]? =some w:=⟨_,aZ (dJ _ m5)⟩;have ms:=aW hs;have mw:=aW hw;rw[xT (l:=s.l) (m:=w.l) (by rw[cZ,hs];rfl) okZ] at hq;split at hq
  .rename_i k
   have k1:=(kg _).1 k;rw[aY] at hq;subst hq;have hn:mc (c.map fun s=>s.l.dir) s.l.dir w.l.dir:=L7 ha (by rw[cZ,hs];rfl) okZ
   -- the side ends, as the next one stops it
   have nh:s.v.nh=false:=by
    cases q:s.v.nh with
    |false=>rfl
    |true=>
     have:=Ng hc ms q w mw;rw[<-tv,gv] at this;grind
   obtain⟨_,k2⟩:=Nq hc ms mw hn nh;have hx:crossI s.l w.l≠0:=Jr k;rw[<-PD hx (mj (hc.ok s ms).ne _) k2];exact((hc.edge s ms).2 _).1 (HY (hc.edge s ms).1 nh)
  .cases hq
def D4(h: ∀t:Rat,0<=t->jh c (cd p u t))(hn:n.dot u<0)(M:Rat): ∃q,jh c q/\n.dot q<M:=by
 by_cases k:n.dot p<M
 .refine⟨_,h 0 eY,?_⟩
  rw[zI];grind
 .have e:(n.dot p-M)/ -(n.dot u)* -(n.dot u)=n.dot p-M:=by grind
  have e0:0<=(n.dot p-M)/ -(n.dot u):=(iB (s:=(n.dot p-M)/ -(n.dot u)) (k:= -(n.dot u)) va).1 okD;refine⟨_,h ((n.dot p-M)/ -(n.dot u)+1) va,?_⟩;rw[zI];generalize (n.dot p-M)/ -(n.dot u)=t at*;grind
def auA(hc:bG c)(hn: ¬(n.x=0/\n.y=0))(h:iI c n=none)(M:Rat): ∃q,jh c q/\n.dot q<M:=by
 have hN:=Jj hn;have hneg:n.dot (bD n)<0:=by unfold aa.dot bD;dsimp only;grind
 unfold iI at h;split at h
 .rename_i k
  rw[gS] at k
  cases c with
  |nil=>exact D4 (p:=⟨0,0⟩) (u:=bD n) (fun t _ s hs=>by cases hs) hneg M
  |cons s t=>
   rcases k with k|k
   .cases k
   .cases t with
    |cons _ _=>cases k
    |nil=>
     have k:=of_decide_eq_true (show decide (s.l.nor.dot n<0)=true from k);obtain⟨q,hq⟩:=hc.ne;refine D4 (p:=q) (u:=bD n) (fun t ht w hw=>?_) hneg M;have e:=aY.1 hw;subst e;rw[iC];have a:=hq w hw;have e2:w.l.nor.dot (bD n)= -(w.l.nor.dot n):=by unfold aa.dot bD;dsimp only;grind
     have b:=cC ht (show 0<=w.l.nor.dot (bD n) by rw[e2];grind);grind
 .split at h
  .rename_i k
   obtain⟨s,hs,k⟩:=iU.1 k;unfold jt at k;rw[gS,bR,bR,decide_eq_true_eq,decide_eq_true_eq] at k;have hh:=((hc.edge s hs).2 _).2 (yx hc hs).1;have e1:n.dot s.l.dir=s.l.dir.dot n:=by unfold aa.dot;grind
   have e2:n.dot (bD s.l.dir)= -(s.l.dir.dot n):=by unfold aa.dot bD;dsimp only;grind
   rcases k with⟨k1,k2⟩|⟨k1,k2⟩
   .refine D4 (p:=s.l.at s.v.sample) (u:=s.l.dir) (fun t ht=>?_) (by rw[e1];exact k2) M
    rw[<-yt];exact((hc.edge s hs).2 _).1 ⟨hh.1.elim .inl fun k=> .inr va, .inl k1⟩
   .refine D4 (p:=s.l.at s.v.sample) (u:=bD s.l.dir) (fun t ht=>?_) (by rw[e2];grind) M
    have e3:cd (s.l.at s.v.sample) (bD s.l.dir) t=s.l.at (s.v.sample+ -t):=by rw[yt];unfold cd bD;simp only[aa.mk.injEq];constructor<;>grind
    rw[e3];exact((hc.edge s hs).2 _).1 ⟨.inl k1,hh.2.elim .inl fun k=> .inr va⟩
  .cases h
def GH(hc:bG c)(ha:iq c)(hn: ¬(n.x=0/\n.y=0))(h:iI c n=some m):(∀q,jh c q->m<=n.dot q)/\ ∃q,jh c q/\n.dot q=m:=by
 have hN:=Jj hn;unfold iI at h;split at h
 .cases h
 rename_i k1;split at h
 .cases h
 rename_i k2
 cases h
 have k1:c.isEmpty=false/\vv n c=false:=by simpa using k1
 have k2: ∀s∈c,jt n s=false:=fun s hs=>by
  cases q:jt n s with
  |false=>rfl
  |true=>exact absurd (iU.2 ⟨s,hs,q⟩) k2
 have hne:j0 c≠[]:=by
  unfold j0
  cases c with
  |nil=>cases k1.1
  |cons s t=>simp
 obtain⟨l1,q0,hq0,l2⟩:=tC (n:=n) hne;refine⟨?_,q0,aI3 hc ha q0 hq0,l2.symm⟩;have side: ∀s∈c,∀q,s.l.value q=0->jh c q->ku n (j0 c)<=n.dot q:=fun s hs q hz hq=>by
  obtain⟨t,rfl⟩:=yn (hc.ok s hs).ne hz;have hh:=((hc.edge s hs).2 t).2 hq;have ho:=k2 s hs;unfold jt at ho;have e1:s.l.dir.dot n=n.dot s.l.dir:=by unfold aa.dot;grind
  rw[mJ,e1] at ho;have f: ∀u,n.dot (s.l.at u)=n.dot (s.l.at 0)+u*n.dot s.l.dir:=fun u=>by rw[Uz s.l u,zI]
  rcases fG (n.dot s.l.dir) with k|k|k
  .have:=l1 (s.l.at s.v.sample) (bJ _ (dQ (f:=fun s:bt=>s.l.at s.v.sample) hs))
   rw[f,k] at this⊢;grind
  .have nl:s.v.nl=false:=by
    cases q:s.v.nl with
    |false=>rfl
    |true=>rw[q,decide_eq_true k] at ho;exact absurd ho.2 vb
   have:=l1 _ (aM _ (E8 hc ha hs nl));have h1:=hh.1.resolve_left (by rw[nl];simp);have h2:=cC (show 0<=t-s.v.lo by grind) (cR k);rw[f] at this⊢;grind
  .have nh:s.v.nh=false:=by
    cases q:s.v.nh with
    |false=>rfl
    |true=>rw[q,decide_eq_true k] at ho;exact absurd ho.1 vb
   have:=l1 _ (aM _ (BJ hc ha hs nh));have h1:=hh.2.resolve_left (by rw[nh];simp);have h2:=cC (show 0<=s.v.hi-t by grind) (show 0<= -n.dot s.l.dir by grind);rw[f] at this⊢;grind
 -- a point that moves until a side stops it
 have go: ∀p,jh c p-> ∀d:aa,n.dot d<=0->(∃u∈c,u.l.nor.dot d<0)->ku n (j0 c)<=n.dot p:=fun p hp d hd0 hex=>by
  by_cases hd:bw c p
  .obtain⟨u,hu,hk⟩:=hex
   have v0:=hd u hu;obtain⟨T,hT⟩: ∃T,T=u.l.value p/ -(u.l.nor.dot d):=⟨_,rfl⟩;have e:T* -(u.l.nor.dot d)=u.l.value p:=by rw[hT];generalize u.l.nor.dot d=z at*;grind
   have T0:0<T:=(fB (k:= -(u.l.nor.dot d)) va).1 (by rw[e];exact v0);obtain⟨r,r0,r1,⟨s,ms,_,zs⟩,hC⟩:=K6 (p:=cd p d T) hd ⟨u,hu,by rw[iC];grind⟩;have:=side s ms _ zs hC;rw[JQ,zI] at this;have:=cC r0 (cC (cR T0) (show 0<= -(n.dot d) by grind));grind
  .have: ∃s∈c,¬0<s.l.value p:=by
    apply Classical.byContradiction;intro k;exact hd fun s hs=>Classical.byContradiction fun k2=>k ⟨s,hs,k2⟩
   obtain⟨s,hs,k⟩:=this;have:=hp s hs;exact side s hs p va hp
 intro p hp;by_cases q1: ∃u∈c,u.l.nor.dot (f9 n)≠0
 .obtain⟨u,hu,k⟩:=q1
  have z:n.dot (f9 n)=0:=by unfold aa.dot f9;grind
  rcases fG (u.l.nor.dot (f9 n)) with k|h|h
  .contradiction
  .refine go p hp (bD (f9 n)) ?_ ⟨u,hu,?_⟩
   .unfold aa.dot f9 bD;dsimp only;grind
   .have:u.l.nor.dot (bD (f9 n))= -(u.l.nor.dot (f9 n)):=by unfold aa.dot bD;dsimp only;grind
    rw[this];grind
  .exact go p hp (f9 n) (by rw[z];exact eY) ⟨u,hu,h⟩
 .have q1: ∀u∈c,u.l.nor.dot (f9 n)=0:=fun u hu=>Classical.byContradiction fun k=>q1 ⟨u,hu,k⟩
  by_cases q2: ∃u∈c,0<u.l.nor.dot n
  .obtain⟨u,hu,k⟩:=q2
   have e: ∀z:aa,z.dot (bD n)= -(z.dot n):=fun z=>by unfold aa.dot bD;dsimp only;grind
   refine go p hp (bD n) ?_ ⟨u,hu,by rw[e];grind⟩;rw[e];unfold aa.dot;grind
  .exfalso
   have q3: ∀u∈c,u.l.nor.dot n<0:=fun u hu=>by
    have h1:=q1 u hu;have h2: ¬0<u.l.nor.dot n:=fun k=>q2 ⟨u,hu,k⟩;have h3:=mG (hc.ok u hu).ne;by_cases h4:u.l.nor.dot n=0
    .exfalso
     have e:(n.x*n.x+n.y*n.y)*(u.l.nor.dot u.l.nor)=(u.l.nor.dot n)*(u.l.nor.dot n)+(u.l.nor.dot (f9 n))*(u.l.nor.dot (f9 n)):=by unfold aa.dot f9;dsimp only;grind
     rw[h1,h4] at e;have:=bE hN h3;grind
    .grind
   cases c with
   |nil=>cases k1.1
   |cons s t=>
    cases t with
    |nil=>
     have:=k1.2;unfold vv at this;have:=of_decide_eq_false this;exact this (q3 s aQ)
    |cons w t=>
     have hB:cA s.l.dir w.l.dir:=by
      unfold iq at ha;rw[bY,bY] at ha;exact(bU.1 ha).1 _ aQ
     have a1:=q3 s aQ;have a2:=q3 w (aJ _ aQ);have b1:=q1 s aQ;have b2:=q1 w (aJ _ aQ);have hz:s.l.dir.cross w.l.dir=0:=by
      have e:(n.x*n.x+n.y*n.y)*s.l.dir.cross w.l.dir=(s.l.nor.dot n)*(w.l.nor.dot (f9 n))-(s.l.nor.dot (f9 n))*(w.l.nor.dot n):=by unfold aa.dot f9 aa.cross ah.dir ah.nor;dsimp only;grind
      rw[b1,b2] at e;have:(n.x*n.x+n.y*n.y)*s.l.dir.cross w.l.dir=0:=by grind
      exact(fX.1 this).resolve_left va
     have e: ∀l:ah,l.dir.cross (bD n)= -(l.nor.dot n):=fun l=>by rw[tv];unfold aa.dot bD;dsimp only;grind
     have hh:=aBO (vp (hc.ok s aQ)) (vp (hc.ok w (aJ _ aQ))) hz (z:=bD n) okD okD;rcases hB with k|⟨_,k⟩
     .omega
     .rw[hz] at k;exact absurd k pb
def W5{m:ah}(hl:l.ok)(hm:m.ok)(hk:0<k)(h: ∀p,l.value p=k*m.value p):l=m:=by
 have hz: ∀s,l.value (m.at s)=0:=fun s=>by rw[h,mj hm.ne];grind
 rcases yq hl hm hz with e|e
 .exact e
 .exfalso
  have hn:=mG hm.ne;have h1:=h (cd (m.at 0) m.nor 1);rw[e,fh,iC,mj hm.ne] at h1;have:=bE hk hn;grind
def azZ{c:Rat}(h: ¬(a=0/\b=0))(h': ¬(a'=0/\b'=0))(hk:0<k)(e: ∀p:aa,a*p.x+b*p.y+c=k*(a'*p.x+b'*p.y+c')):ew a b c=ew a' b' c':=by
 obtain⟨g,g0,hg⟩:=wY (c:=c) h;obtain⟨g',g0',hg'⟩:=wY (c:=c') h';refine W5 (xN h) (xN h') (k:=g*k/g') (div_pos (bE g0 hk) g0') fun p=>?_;rw[hg,hg',e];have:g*k/g'*g'=g*k:=by grind
 generalize g*k/g'=z at*;grind
def mn(p q:aa):ah:=ew (p.y-q.y) (q.x-p.x) (-((p.y-q.y)*p.x+(q.x-p.x)*p.y))
def k8(l:ah)(V:List aa):ah:=ew l.a l.b (l.c-ku l.nor V)
def JJ(h:l.ok): ¬((l.a:Rat)=0/\(l.b:Rat)=0):=fun⟨h1,h2⟩=>by
 have:=mG h.ne;unfold ah.nor aa.dot at this;dsimp only at this;rw[h1,h2] at this;grind
def zH(c:List ah):List aa:=if(kE c).isEmpty then c.map ah.base else kE c
def ni(c:ar)(f:aa×aa):Option ah:=(iI c (bu f)).map fun m=>ew (bu f).x (bu f).y (-(m+(bu f).dot f.1))
def kB(c:ar)(V:List aa)(E:List (aa×aa)):List ah:=(c.map fun s=>k8 s.l V)++E.filterMap (ni c)
def aBv(hc:bG c)(hs:s∈c)(nl:s.v.nl=true)(nh:s.v.nh=true): ∀u∈c,u.l.nor.dot s.l.dir=0:=fun u hu=>by
 have h1:=Ng hc hs nh u hu;have h2:=aGA hc hs nl u hu;grind
def aAG(hc:bG c)(hs:s∈c)(nl:s.v.nl=true)(nh:s.v.nh=true):kE (c.map (·.l))=[]:=by
 have hp:=aBv hc hs nl nh;unfold kE;rw[aX,List.flatMap_eq_nil_iff];intro i hi;have hi:=jU.1 hi;obtain⟨a,ha⟩: ∃s,c[i]? =some s:=⟨_,aZ hi⟩;obtain⟨b,hb⟩: ∃w,c[(i+1)%c.length]? =some w:=⟨_,aZ (dJ _ m5)⟩;have h1:=hp a (aW ha);have h2:=hp b (aW hb);rw[xT (l:=a.l) (m:=b.l) (by rw[cZ,ha];rfl) (by rw[aX,cZ,hb];rfl),if_neg];rw[kg];have hz:=mG (hc.ok s hs).ne;have e:(s.l.nor.dot s.l.nor)*a.l.dir.cross b.l.dir=(a.l.nor.dot s.l.dir)*(b.l.nor.dot s.l.nor)-(a.l.nor.dot s.l.nor)*(b.l.nor.dot s.l.dir):=by unfold aa.dot aa.cross ah.dir ah.nor;dsimp only;grind
 rw[h1,h2] at e;intro k;have:=bE hz k;grind
def Pw(hc:bG c)(ha:iq c)(hn: ¬(n.x=0/\n.y=0))(hf:iI c n=some m):ku n (zH (c.map fun s=>s.l))=m/\zH (c.map fun s=>s.l)≠[]:=by
 obtain⟨f1,f2⟩:=GH hc ha hn hf;have hf':=hf;unfold iI at hf';split at hf'
 .cases hf'
 rename_i k1;split at hf'
 .cases hf'
 rename_i k2
 cases hf'
 have k1:c.isEmpty=false/\vv n c=false:=by simpa using k1
 have k2: ∀s∈c,jt n s=false:=fun s hs=>by
  cases q:jt n s with
  |false=>rfl
  |true=>exact absurd (iU.2 ⟨s,hs,q⟩) k2
 have hne:j0 c≠[]:=by
  unfold j0
  cases c with
  |nil=>cases k1.1
  |cons s t=>simp
 obtain⟨l1,q0,hq0,l2⟩:=tC (n:=n) hne;have e1: ∀s:bt,s.l.dir.dot n=n.dot s.l.dir:=fun s=>by unfold aa.dot;grind
 have f: ∀(s:bt) u,n.dot (s.l.at u)=n.dot (s.l.at 0)+u*n.dot s.l.dir:=fun s u=>by rw[Uz s.l u,zI]
 unfold zH;by_cases hv:(kE (c.map fun s=>s.l)).isEmpty=true
 .rw[if_pos hv]
  have hv':kE (c.map fun s=>s.l)=[]:=tQ.1 hv;have flat: ∀s∈c,n.dot s.l.dir=0/\n.dot s.l.base=n.dot (s.l.at s.v.sample):=fun s hs=>by
   have nl:s.v.nl=true:=by
    cases q:s.v.nl with
    |true=>rfl
    |false=>have:=E8 hc ha hs q;rw[hv'] at this;cases this
   have nh:s.v.nh=true:=by
    cases q:s.v.nh with
    |true=>rfl
    |false=>have:=BJ hc ha hs q;rw[hv'] at this;cases this
   have ho:=k2 s hs;unfold jt at ho;rw[nl,nh,mJ,tX,tX,decide_eq_false_iff_not,decide_eq_false_iff_not,e1] at ho;have z:n.dot s.l.dir=0:=by rcases fG (n.dot s.l.dir) with k|k|k;exact k;exact absurd k ho.2;exact absurd k ho.1
   refine⟨z,?_⟩;rw[<-tf,zI,z];grind
  have hne2:(c.map fun s=>s.l).map ah.base≠[]:=by
   cases c with
   |nil=>cases k1.1
   |cons s t=>simp
  obtain⟨g1,p1,hp1,g2⟩:=tC (n:=n) hne2;refine⟨?_,hne2⟩;obtain⟨l,hl,rfl⟩:=aT.1 hp1;obtain⟨s,hs,rfl⟩:=aT.1 hl;have a1:=l1 (s.l.at s.v.sample) (bJ _ (dQ (f:=fun s:bt=>s.l.at s.v.sample) hs));rw[<-(flat s hs).2,<-g2] at a1;have a2:ku n ((c.map fun s=>s.l).map ah.base)<=ku n (j0 c):=by
   unfold j0 at hq0;rw[hv',fT] at hq0;obtain⟨w,hw,rfl⟩:=aT.1 hq0;rw[l2,<-(flat w hw).2];exact g1 _ (dQ (dQ (f:=fun s:bt=>s.l) hw))
  grind
 .rw[if_neg hv]
  have hne2:kE (c.map fun s=>s.l)≠[]:=fun e=>hv (by rw[e];rfl);obtain⟨g1,p1,hp1,g2⟩:=tC (n:=n) hne2;refine⟨?_,hne2⟩;have a1:=l1 p1 (aM _ hp1);rw[<-g2] at a1
  -- the least value is one of a corner
  have a2: ∃v∈kE (c.map fun s=>s.l),n.dot v=ku n (j0 c):=by
   unfold j0 at hq0;rcases aL.1 hq0 with h|h
   .obtain⟨s,hs,rfl⟩:=aT.1 h
    have hi:=(hc.edge s hs).1;have hsm:=pI hi;have z:n.dot s.l.dir=0:=by
     rcases fG (n.dot s.l.dir) with k|k|k
     .exact k
     .exfalso
      have ho:=k2 s hs;unfold jt at ho;rw[mJ,e1] at ho;have nl:s.v.nl=false:=by
       cases q:s.v.nl with
       |false=>rfl
       |true=>rw[q,decide_eq_true k] at ho;exact absurd ho.2 vb
      have:=l1 _ (aM _ (E8 hc ha hs nl));have h1:=hsm.1.resolve_left (by rw[nl];simp);rw[l2,f s s.v.sample,f s s.v.lo] at this;have:=bE (show 0<s.v.sample-s.v.lo by grind) k;grind
     .exfalso
      have ho:=k2 s hs;unfold jt at ho;rw[mJ,e1] at ho;have nh:s.v.nh=false:=by
       cases q:s.v.nh with
       |false=>rfl
       |true=>rw[q,decide_eq_true k] at ho;exact absurd ho.1 vb
      have:=l1 _ (aM _ (BJ hc ha hs nh));have h1:=hsm.2.resolve_left (by rw[nh];simp);rw[l2,f s s.v.sample,f s s.v.hi] at this;have:=bE (show 0<s.v.hi-s.v.sample by grind) (show 0< -(n.dot s.l.dir) by grind);grind
    cases nl:s.v.nl with
    |false=>exact⟨_,E8 hc ha hs nl,by rw[l2,f s s.v.lo,f s s.v.sample,z];grind⟩
    |true=>
     cases nh:s.v.nh with
     |false=>exact⟨_,BJ hc ha hs nh,by rw[l2,f s s.v.hi,f s s.v.sample,z];grind⟩
     |true=>exact absurd (aAG hc hs nl nh) hne2
   .exact⟨q0,h,l2.symm⟩
  obtain⟨v,hv2,e⟩:=a2;have:=g1 v hv2;grind
section
end
def lC:List ah->Tr
 |[]=> .leaf true
 |l::t=> .node l (lC t) (.leaf false)
def E9: ∀{L:List ah},(lC L).lns=L
 |[]=>rfl
 |l::t=>by rw[lC,Tr.lns,E9,Tr.lns,fT]
def Un: ∀{L:List ah} {p:aa},(lC L).val p=true↔dP L p
 |[],p=>⟨fun _ l hl=>(by cases hl),fun _=>J⟩
 |l::t,p=>by
  rw[lC];by_cases h:0<l.value p
  .rw[Tr.val_pos h,Un (L:=t)]
   constructor
   .intro k m hm
    rcases aV.1 hm with rfl|hm
    .exact h
    .exact k m hm
   .exact fun k m hm=>k m (aJ _ hm)
  .rw[Tr.val_neg h]
   constructor
   .intro k;cases k
   .intro k;exact absurd (k l aQ) h
def Lw{P:ah->Prop}(h: ∀l∈L,P l):(lC L).all P:=mH.2 (by rw[E9];exact h)
def RY: ∀(L:List ah),(lC L).depth=L.length
 |[]=>rfl
 |l::t=>by rw[lC,Tr.depth,RY t,aN];show 1+max _ 0=_;omega
def Ue: ∀(L:List ah),(lC L).size=L.length
 |[]=>rfl
 |l::t=>by rw[lC,Tr.size,Ue t,aN];show 1+_+0=_;omega
def RE: ∀{ls:List ah} {c e:ar},bG c->iq c->(∀l∈ls,l.ok)->jE ls c=some e->iq e
 |[],c,e,_,ha,_,h=>by
  obtain rfl:c=e:=by simpa[jE] using h
  exact ha
 |l::t,c,e,hc,ha,hl,h=>by
  have hl':=eX.1 hl;rw[jE] at h;split at h
  .rename_i hb
   exact RE (ir hc hl'.1 hb).1 (Jy hc hl'.1 ha hb) hl'.2 h
  .exact absurd h vb
def iz.nz{E:List (aa×aa)}(hB:iz V E){f:aa×aa}(hf:f∈E): ¬((bu f).x=0/\(bu f).y=0):=by
 obtain⟨u,hu⟩:=hB.cen;exact yE (hu f hf)
def iz.vne{E:List (aa×aa)}(hB:iz V E):V≠[]:=by
 obtain⟨u,hu⟩:=hB.cen;obtain⟨v,hv,_⟩:=hB.hull ⟨0,0⟩ u fun f hf=>cR (hu f hf);exact List.ne_nil_of_mem hv
def Ca(hl:l.ok)(V:List aa):(k8 l V).ok/\ ∃g:Rat,0<g/\ ∀p,(k8 l V).value p=g*(l.value p-ku l.nor V):=by
 refine⟨xN (JJ hl),?_⟩;obtain⟨g,g0,hg⟩:=wY (c:=l.c-ku l.nor V) (JJ hl);refine⟨g,g0,fun p=>?_⟩;unfold k8;rw[hg,EP];unfold ah.nor aa.dot;dsimp only;grind
def Eh{f:aa×aa}(hn: ¬((bu f).x=0/\(bu f).y=0))(h:ni c f=some l): ∃m,iI c (bu f)=some m/\l.ok/\ ∃g:Rat,0<g/\ ∀p,l.value p=g*((bu f).dot p-m-(bu f).dot f.1):=by
 unfold ni at h
 cases hf:iI c (bu f) with
 |none=>rw[hf] at h;cases h
 |some m=>
  rw[hf] at h
  cases h
  refine⟨m,J,xN hn,?_⟩;obtain⟨g,g0,hg⟩:=wY (c:= -(m+(bu f).dot f.1)) hn;refine⟨g,g0,fun p=>?_⟩;rw[hg];unfold aa.dot;grind
def Uh{E:List (aa×aa)}(hB:iz V E)(hc:bG c): ∀l∈kB c V E,l.ok:=fun l hl=>by
 rcases aL.1 hl with hl|hl
 .obtain⟨s,hs,rfl⟩:=aT.1 hl
  exact(Ca (hc.ok s hs) V).1
 .obtain⟨f,hf,e⟩:=kY.1 hl
  obtain⟨_,_,h,_⟩:=Eh (hB.nz hf) e;exact h
def OD{E:List (aa×aa)}(hB:iz V E)(hc:bG c)(ha:iq c)(p:aa):dP (kB c V E) p↔ ∃q,bw c q/\ ∀f∈E,0<aB f.1 f.2 (p.subQ q):=by
 constructor
 .intro h
  refine aFw hB hc (fun s hs=>?_) fun f hf ⟨M,hM⟩=>?_
  .obtain⟨h1,v,hv,h2⟩:=tC (n:=s.l.nor) hB.vne
   refine⟨v,hv,fun w hw=>by rw[<-h2];exact h1 w hw,?_⟩;obtain⟨_,g,g0,hg⟩:=Ca (hc.ok s hs) V;have:=h _ (bJ _ (dQ (f:=fun s:bt=>k8 s.l V) hs));rw[hg] at this;rw[<-h2];exact(ot g0).1 this
  .cases hfl:iI c (bu f) with
   |none=>
    obtain⟨q,hq,hlt⟩:=auA hc (hB.nz hf) hfl M;have:=hM q hq;grind
   |some m=>
    obtain⟨_,q,hq,e⟩:=GH hc ha (hB.nz hf) hfl;refine⟨q,hq,?_⟩;have he:ni c f=some (ew (bu f).x (bu f).y (-(m+(bu f).dot f.1))):=by unfold ni;rw[hfl];rfl
    obtain⟨m',k1,_,g,g0,hg⟩:=Eh (hB.nz hf) he;rw[hfl] at k1;cases k1;have:=h _ (aM _ (kY.2 ⟨f,hf,he⟩));rw[hg] at this;rw[e];exact(ot g0).1 this
 .rintro ⟨q,hq,hu⟩ l hl
  have hdp: ∀n:aa,n.dot p=n.dot q+n.dot (p.subQ q):=fun n=>by rw[zt];grind
  rcases aL.1 hl with hl|hl
  .obtain⟨s,hs,rfl⟩:=aT.1 hl
   obtain⟨_,g,g0,hg⟩:=Ca (hc.ok s hs) V;rw[hg,ot g0];have h1:=V' hB (c:=c) (q:=q) (u:=p.subQ q) (fun f hf=>cR (hu f hf)) (tC (n:=s.l.nor) hB.vne).1;have h2:=hq s hs;rw[EP] at h2⊢;rw[hdp];grind
  .obtain⟨f,hf,e⟩:=kY.1 hl
   obtain⟨m,k1,_,g,g0,hg⟩:=Eh (hB.nz hf) e;rw[hg,ot g0,hdp];have h1:=hu f hf;rw[AS] at h1;have h2:=(GH hc ha (hB.nz hf) k1).1 q hq.c;grind
def X4{E:List (aa×aa)}(hB:iz V E)(hc:bG c)(ha:iq c): ∃p,dP (kB c V E) p:=by
 obtain⟨q,hq⟩:=hc.ne;obtain⟨u,hu⟩:=hB.cen;refine⟨q.add u,(OD hB hc ha _).2 ⟨q,hq,fun f hf=>?_⟩⟩;have e:(q.add u).subQ q=u:=by unfold aa.subQ aa.add;cases u;simp only[aa.mk.injEq];constructor<;>grind
 rw[e];exact hu f hf
def Ia{E:List (aa×aa)}(hB:iz V E)(hc:bG c)(ha:iq c): ∃d,jE (kB c V E) []=some d/\bG d/\iq d/\(∀p,bw d p↔dP (kB c V E) p)/\jl (kB c V E)=d.map (·.l):=by
 have hok:=Uh hB hc;obtain⟨p,hp⟩:=X4 hB hc ha;obtain⟨d,hd⟩:=HU bG.nil hok ⟨p,fun s hs=>absurd hs vb,hp⟩;obtain⟨g1,g2⟩:=IY bG.nil hok hd;have g2: ∀p,bw d p↔dP (kB c V E) p:=fun p=>by
  rw[g2];exact⟨fun h=>h.2,fun h=>⟨fun s hs=>absurd hs vb,h⟩⟩
 have g3:=RE bG.nil .nil hok hd;exact⟨d,hd,g1,g3,g2,aBr hok g1 g3 g2⟩
def gj(V:List aa)(E:List (aa×aa))(c:ar):Tr:=lC (jl (kB c V E))
def CW{E:List (aa×aa)}(hB:iz V E)(hc:bG c)(ha:iq c):(gj V E c).all ah.ok:=by
 obtain⟨d,_,g1,_,_,e⟩:=Ia hB hc ha;unfold gj;rw[e];exact Lw fun l hl=>by obtain⟨s,hs,rfl⟩:=aT.1 hl;exact g1.ok s hs
def Nv{E:List (aa×aa)}(hB:iz V E)(hc:bG c)(ha:iq c)(p:aa):(gj V E c).val p=true↔ ∃q,bw c q/\ ∀f∈E,0<aB f.1 f.2 (p.subQ q):=by
 obtain⟨d,_,g1,_,g2,e⟩:=Ia hB hc ha;unfold gj;rw[e,Un,<-OD hB hc ha,<-g2];unfold dP bw;constructor
 .intro h s hs;exact h s.l (dQ (f:=fun s:bt=>s.l) hs)
 .intro h l hl;obtain⟨s,hs,rfl⟩:=aT.1 hl;exact h s hs
def H'{P:aa×aa->Prop}{f:aa×aa}{x y z:aa×aa}(hf:f∈[x,y,z])(h1:P x)(h2:P y)(h3:P z):P f:=by
 simp only[aV,fJ,or_false] at hf;rcases hf with rfl|rfl|rfl<;>assumption
def Xn{a b c:aa}(h:0<aB a b c):iz [a,b,c] [(a,b),(b,c),(c,a)] where
 ends:=fun f hf=>H' (P:=fun f=>f.1∈[a,b,c]/\f.2∈[a,b,c]) hf vb vb vb
 cvx:=fun f hf v hv=>by
  simp only[aV,fJ,or_false] at hv;refine H' (P:=fun f=>0<=aB f.1 f.2 v) hf ?_ ?_ ?_<;>dsimp only<;>rcases hv with rfl|rfl|rfl<;>unfold aB at* <;>grind
 cen:=⟨⟨(a.x+b.x+c.x)/3,(a.y+b.y+c.y)/3⟩,fun f hf=>by
  refine H' (P:=fun f=>0<aB f.1 f.2 ⟨(a.x+b.x+c.x)/3,(a.y+b.y+c.y)/3⟩) hf ?_ ?_ ?_<;>dsimp only<;>unfold aB at* <;>grind⟩
 hull:=fun n u hu=>by
  have h1:=hu (a,b) vb;have h2:=hu (b,c) vb;have h3:=hu (c,a) vb;dsimp only at h1 h2 h3;have e:aB a b c*n.dot u=aB b c u*n.dot a+aB c a u*n.dot b+aB a b u*n.dot c:=by unfold aB aa.dot;grind
  have e2:aB a b c=aB b c u+aB c a u+aB a b u:=by unfold aB;grind
  apply Classical.byContradiction;intro k;have ka:n.dot u<n.dot a:=by have: ¬n.dot a<=n.dot u:=fun q=>k ⟨a,vb,q⟩;grind
  have kb:n.dot u<n.dot b:=by have: ¬n.dot b<=n.dot u:=fun q=>k ⟨b,vb,q⟩;grind
  have kc:n.dot u<n.dot c:=by have: ¬n.dot c<=n.dot u:=fun q=>k ⟨c,vb,q⟩;grind
  have:=uw h2 h3 h1 va (show 0<n.dot a-n.dot u by grind) (show 0<n.dot b-n.dot u by grind) (show 0<n.dot c-n.dot u by grind);rw[e2] at e;clear hu k h e2;generalize aB b c u=x at*;generalize aB c a u=y at*;generalize aB a b u=z at*;generalize n.dot u=m at*;generalize n.dot a=p at*;generalize n.dot b=q at*;generalize n.dot c=r at*;grind
def Hj{P:aa×aa->Prop}{f:aa×aa}{x y z w:aa×aa}(hf:f∈[x,y,z,w])(h1:P x)(h2:P y)(h3:P z)(h4:P w):P f:=by
 simp only[aV,fJ,or_false] at hf;rcases hf with rfl|rfl|rfl|rfl<;>assumption
def aMf{c d:Rat}(h1:a<c)(h2:b<d):iz [⟨a,b⟩,⟨c,b⟩,⟨c,d⟩,⟨a,d⟩] [(⟨a,b⟩,⟨c,b⟩),(⟨c,b⟩,⟨c,d⟩),(⟨c,d⟩,⟨a,d⟩),(⟨a,d⟩,⟨a,b⟩)] where
 ends:=fun f hf=>Hj (P:=fun f=>f.1∈[(⟨a,b⟩:aa),⟨c,b⟩,⟨c,d⟩,⟨a,d⟩]/\f.2∈[(⟨a,b⟩:aa),⟨c,b⟩,⟨c,d⟩,⟨a,d⟩]) hf vb vb vb vb
 cvx:=fun f hf v hv=>by
  have k:=bE (show 0<c-a by grind) (show 0<d-b by grind);simp only[aV,fJ,or_false] at hv;refine Hj (P:=fun f=>0<=aB f.1 f.2 v) hf ?_ ?_ ?_ ?_<;>dsimp only<;>rcases hv with rfl|rfl|rfl|rfl<;>unfold aB<;>dsimp only<;>grind
 cen:=⟨⟨(a+c)/2,(b+d)/2⟩,fun f hf=>by
  have k:=bE (show 0<c-a by grind) (show 0<d-b by grind);refine Hj (P:=fun f=>0<aB f.1 f.2 ⟨(a+c)/2,(b+d)/2⟩) hf ?_ ?_ ?_ ?_<;>dsimp only<;>unfold aB<;>dsimp only<;>grind⟩
 hull:=fun n u hu=>by
  have k1:=hu (⟨a,b⟩,⟨c,b⟩) vb;have k2:=hu (⟨c,b⟩,⟨c,d⟩) vb;have k3:=hu (⟨c,d⟩,⟨a,d⟩) vb;have k4:=hu (⟨a,d⟩,⟨a,b⟩) vb;unfold aB at k1 k2 k3 k4;dsimp only at k1 k2 k3 k4;have y1:0<=u.y-b:=(iB (k:=c-a) va).1 va;have y2:0<=d-u.y:=(iB (k:=c-a) va).1 va;have x1:0<=u.x-a:=(iB (k:=d-b) va).1 va;have x2:0<=c-u.x:=(iB (k:=d-b) va).1 va;by_cases hx:0<=n.x<;>by_cases hy:0<=n.y
  .refine⟨⟨a,b⟩,vb,?_⟩
   have:=cC hx x1;have:=cC hy y1;unfold aa.dot;dsimp only;grind
  .refine⟨⟨a,d⟩,vb,?_⟩
   have:=cC hx x1;have:=cC (show 0<= -n.y by grind) y2;unfold aa.dot;dsimp only;grind
  .refine⟨⟨c,b⟩,vb,?_⟩
   have:=cC (show 0<= -n.x by grind) x2;have:=cC hy y1;unfold aa.dot;dsimp only;grind
  .refine⟨⟨c,d⟩,vb,?_⟩
   have:=cC (show 0<= -n.x by grind) x2;have:=cC (show 0<= -n.y by grind) y2;unfold aa.dot;dsimp only;grind
def vG(V:List aa)(E:List (aa×aa))(cs:List ar)(t:Tr):Tr:=cs.foldl (fun t c=>t.mergeQ 1 (gj V E c) []) t
def jI(V:List aa)(E:List (aa×aa))(t:Tr):Tr:=vG V E (f7 (t.restrict [])) (.leaf false)
def MZ{V:List aa}{E:List (aa×aa)}(hB:iz V E){M:List ah}: ∀{cs:List ar} {t:Tr},(∀c∈cs,bG c/\iq c)->t.all ah.ok->(∀l∈t.lns,l∈M)->(∀c∈cs,∀l∈(gj V E c).lns,l∈M)->(vG V E cs t).all ah.ok/\(∀l∈(vG V E cs t).lns,l∈M)/\ ∀p,cB M p->((vG V E cs t).val p=true↔t.val p=true\/ ∃c∈cs,(gj V E c).val p=true)
 |[],t,_,ht,hl,_=>⟨ht,hl,fun p _=>⟨.inl,fun h=>h.elim id fun⟨c,hc,_⟩=>by cases hc⟩⟩
 |c::cs,t,hcs,ht,hl,hM=>by
  obtain⟨g,a⟩:=hcs c aQ;have hok:=CW hB g a;have h1:=Tr.mergeQ_all ah.ok 1 hok t [] ht;have h2:=Tr.mergeQ_all (fun l=>l∈M) 1 (mH.2 (hM c aQ)) t [] (mH.2 hl);obtain⟨i1,i2,i3⟩:=MZ hB (cs:=cs) (t:=t.mergeQ 1 (gj V E c) []) (fun d hd=>hcs d (aJ _ hd)) h1 (mH.1 h2) (fun d hd=>hM d (aJ _ hd));refine⟨i1,i2,fun p hp=>?_⟩;show(vG V E cs (t.mergeQ 1 (gj V E c) [])).val p=true↔_;rw[i3 p hp,Tr.val_merge 1 _ hok t [] p ht bG.nil (fun s hs=>by cases hs) (hp.sub hl) (hp.sub (hM c aQ))];have e: ∀x y:Bool,tc 1 x y=true↔x=true\/y=true:=fun x y=>by cases x<;>cases y<;>decide
  rw[e];constructor
  .rintro ((h|h)|⟨d,hd,h⟩)
   .exact .inl h
   .exact .inr ⟨c,aQ,h⟩
   .exact .inr ⟨d,aJ _ hd,h⟩
  .rintro (h|⟨d,hd,h⟩)
   .exact .inl (.inl h)
   .rcases aV.1 hd with rfl|hd
    .exact .inl (.inr h)
    .exact .inr ⟨d,hd,h⟩
def vY(ht:t.all ah.ok): ∀c∈f7 (t.restrict []),bG c/\iq c:=fun c hc=>⟨aqB (t.restrict_all _ [] ht) c hc,Ka (t.restrict_all _ [] ht) bG.nil (show iq [] from .nil) _ (tF.1 hc)⟩
def x6(V:List aa)(E:List (aa×aa))(t:Tr):List ah:=(f7 (t.restrict [])).flatMap fun c=>(gj V E c).lns
def QM{E:List (aa×aa)}(hB:iz V E)(ht:t.all ah.ok):(jI V E t).all ah.ok/\(∀l∈(jI V E t).lns,l∈x6 V E t)/\ ∀p,cB (x6 V E t) p->((jI V E t).val p=true↔ ∃c∈f7 (t.restrict []),(gj V E c).val p=true):=by
 obtain⟨h1,h2,h3⟩:=MZ hB (M:=x6 V E t) (t:= .leaf false) (vY ht) trivial (fun l hl=>by cases hl) fun c hc l hl=>gJ.2 ⟨c,hc,hl⟩;refine⟨h1,h2,fun p hp=>?_⟩;show(vG V E _ _).val p=true↔_;rw[h3 p hp];exact⟨fun h=>h.elim (fun h=>by cases h) id, .inr⟩
def J6{E:List (aa×aa)}(hB:iz V E)(ht:t.all ah.ok)(hM: ∀l∈M,l.ok)(hp:cB (x6 V E t) p):(jI V E t).val p=true↔ ∃q,cB t.lns q/\cB M q/\t.val q=true/\ ∀f∈E,0<aB f.1 f.2 (p.subQ q):=by
 have htr:=t.restrict_all ah.ok [] ht;rw[(QM hB ht).2.2 p hp];constructor
 .rintro ⟨c,hc,h⟩
  obtain⟨g,a⟩:=vY ht c hc;obtain⟨q,hq,hu⟩:=(Nv hB g a p).1 h
  -- a point near to q off all lines
  have hL:bw (c++E.map fun f=>⟨kO f p,ao.all⟩) q:=fun s hs=>by
   rcases aL.1 hs with hs|hs
   .exact hq s hs
   .obtain⟨f,hf,rfl⟩:=aT.1 hs
    obtain⟨u,hu0⟩:=hB.cen;exact(Ah (hu0 f hf) p q).2 (hu f hf)
  obtain⟨r,hr,ho⟩:=Aa hL (t.lns++M) fun l hl=>(aL.1 hl).elim (jB ht l) (hM l);obtain⟨o1,o2⟩:=cB.app.1 ho;have hrc:bw c r:=fun s hs=>hr s (bJ _ hs);refine⟨r,o1,o2,?_,fun f hf=>?_⟩
  .have:=((As htr bG.nil (tF.1 hc)).2 r hrc).2
   rwa [Tr.val_restrict t [] r ht bG.nil (fun s hs=>by cases hs) o1] at this
  .obtain⟨u,hu0⟩:=hB.cen
   exact(Ah (hu0 f hf) p r).1 (hr ⟨kO f p,ao.all⟩ (aM _ (dQ (f:=fun f=>(⟨kO f p,ao.all⟩:bt)) hf)))
 .rintro ⟨q,o1,_,hv,hu⟩
  have o1r:cB (t.restrict []).lns q:=fun l hl=>o1 l (mH.1 (t.restrict_all (fun l=>l∈t.lns) [] (mH.2 fun l hl=>hl)) l hl);obtain⟨b,e,he,hq⟩:=Ht htr bG.nil (fun s hs=>by cases hs) o1r;have hb:=((As htr bG.nil he).2 q hq).2;rw[Tr.val_restrict t [] q ht bG.nil (fun s hs=>by cases hs) o1,hv] at hb;subst hb;have hc:=tF.2 he;obtain⟨g,a⟩:=vY ht e hc;exact⟨e,hc,(Nv hB g a p).2 ⟨q,hq,hu⟩⟩
def aAM(ht:t.all ah.ok):rk t p≠0↔ua t p true:=by
 rw[ne_eq,auD ht];exact⟨fun h=>Classical.byContradiction h,fun h k=>k h⟩
section
end
section
end
def Tr.Prp:Tr->ar->Prop
 | .leaf _,_=>True
 | .node l x y,c=>cH c l=true/\cH c l.rev=true/\x.Prp (bH c l)/\y.Prp (bH c l.rev)
def Tr.red_prp: ∀{t:Tr} {c:ar},t.Red c->t.Prp c
 | .leaf _,_,_=>trivial
 | .node _ _ _,_,⟨h1,h2,h3,h4,_⟩=>⟨h1,h2,Tr.red_prp h3,Tr.red_prp h4⟩
def aum(hc:bG c)(hl:l.ok)(hp:bw c p)(h0:l.value p=0):cH c l=true/\cH c l.rev=true:=by
 have hn:=mG hl.ne;obtain⟨e,he,hm⟩:=hp.open l.nor;obtain⟨f,hf,hk⟩:=hp.open (bD l.nor);have hn2:l.nor.dot (bD l.nor)= -(l.nor.dot l.nor):=by unfold bD aa.dot;dsimp only;grind
 refine⟨(pO hc hl).2 ⟨_,hm e va va,?_⟩,(pO hc hl.rev).2 ⟨_,hk f va va,?_⟩⟩
 .rw[iC,h0];have:=bE he hn;grind
 .rw[fh,iC,h0,hn2];have:=bE hf hn;grind
def mB(c:ar)(m:ah):Bool:=cH c m&&cH c m.rev
def pH(hc:bG c){m:ah}(hm:m.ok):mB c m=true↔DC m c:=by
 unfold mB;rw[bR];constructor
 .rintro ⟨h1,h2⟩
  obtain⟨p,hp,k1⟩:=(pO hc hm).1 h1;obtain⟨q,hq,k2⟩:=(pO hc hm.rev).1 h2;rw[fh] at k2;generalize hA:m.value p=A at*;generalize hB:m.value q=B at*;have hAB:0<A-B:=by grind
  have e:A/(A-B)*(A-B)=A:=by grind
  generalize A/(A-B)=r at*;have r0:0<=r:=(iB hAB).1 (by rw[e];exact cR k1);have r1:r<=1:=by
   have:=(iB (s:=1-r) hAB).1 va;grind
  exact⟨bO p q r,hp.seg hq r0 r1,by rw[lE,hA,hB];grind⟩
 .rintro ⟨p,hp,h0⟩
  exact aum hc hm hp h0
def xB(c:ar)(m n:ah):Bool:=decide (¬m.same n)&&(decide (n.value (yC m n)=0)&&ri c (yC m n))
def r9{m n:ah}(hm:m.ok)(hn:n.ok):xB c m n=true↔ ¬m.same n/\ ∃z,bw c z/\m.value z=0/\n.value z=0:=by
 unfold xB;rw[bR,bR,decide_eq_true_eq,decide_eq_true_eq,ui];constructor
 .rintro ⟨h1,h2,h3⟩
  exact⟨h1,_,h3,mj hm.ne _,h2⟩
 .rintro ⟨h1,z,hz,k1,k2⟩
  rcases CB hm hn k1 k2 with h|h
  .exact absurd h h1
  .rw[<-h];exact⟨h1,k2,hz⟩
def Lf{m n:ah}(hm:m.ok)(hn:n.ok):xB c m n=xB c n m:=by
 rw[oT,r9 hm hn,r9 hn hm];constructor<;>(rintro ⟨h,z,hz,k1,k2⟩;exact⟨fun e=>h e.symm,z,hz,k2,k1⟩)
def jm(f:ah->Nat):List ah->Nat
 |[]=>0
 |m::K=>f m+jm f K
def bN(b:Bool):Nat:=if b then 1 else 0
def Tf{f g:ah->Nat}: ∀{K:List ah},(∀m∈K,f m<=g m)->jm f K<=jm g K
 |[],_=>bW _
 |m::K,h=>by
  have:=Tf (f:=f) (g:=g) (K:=K) fun n hn=>h n (aJ _ hn);have:=h m aQ;show f m+jm f K<=g m+jm g K;omega
def yT(f g:ah->Nat): ∀K,jm (fun m=>f m+g m) K=jm f K+jm g K
 |[]=>rfl
 |m::K=>by
  have:=yT f g K;show f m+g m+jm (fun m=>f m+g m) K=f m+jm f K+(g m+jm g K);omega
def yN{f g:ah->Nat}{d:Nat}{m0:ah}: ∀{K:List ah},(∀m∈K,f m<=g m)->m0∈K->f m0+d<=g m0->jm f K+d<=jm g K
 |[],_,h,_=>by cases h
 |m::K,h,hm,hd=>by
  have i1:=Tf (f:=f) (g:=g) (K:=K) fun n hn=>h n (aJ _ hn);have:=h m aQ;show f m+jm f K+d<=g m+jm g K;rcases aV.1 hm with rfl|hm
  .omega
  .have:=yN (f:=f) (g:=g) (d:=d) (K:=K) (fun n hn=>h n (aJ _ hn)) hm hd
   omega
def yL{f:ah->Nat}{B:Nat}: ∀{K:List ah},(∀m∈K,f m<=B)->jm f K<=K.length*B
 |[],_=>bK _
 |m::K,h=>by
  have:=yL (f:=f) (B:=B) (K:=K) fun n hn=>h n (aJ _ hn);have:=h m aQ;show f m+jm f K<=(K.length+1)*B;rw[gK];omega
def r7(K:List ah)(c:ar):Nat:=jm (fun m=>bN (mB c m)) K
def lj(K:List ah)(c:ar)(m:ah):Nat:=jm (fun n=>bN (xB c m n)) K
def yO(K:List ah)(c:ar):Nat:=jm (lj K c) K
def Kd(b:Bool):bN b<=1:=by cases b<;>decide
def auW(hK: ∀m∈K,m.ok)(hc:bG c){n:ah}(hn:n.ok)(h0:m0∈K)(hs:m0.same n)(hb:cH c n=true)(hb2:cH c n.rev=true):
  r7 K (bH c n)+r7 K (bH c n.rev)+1<=r7 K c+lj K c m0/\yO K (bH c n)+yO K (bH c n.rev)+2*lj K c m0<=yO K c:=by
 obtain⟨g1,i1⟩:=ir hc hn hb;obtain⟨g2,i2⟩:=ir hc hn.rev hb2;have i2: ∀p,bw (bH c n.rev) p↔bw c p/\n.value p<0:=fun p=>by rw[i2,fh];constructor<;>(rintro ⟨a,b⟩;exact⟨a,va⟩)
 have hm0:=hK m0 h0;have z1: ∀m,m.ok->(mB (bH c n) m=true->mB c m=true)/\(mB (bH c n.rev) m=true->mB c m=true):=fun m hm=>by
  rw[pH g1 hm,pH g2 hm,pH hc hm];exact⟨fun⟨p,hp,k⟩=>⟨p,((i1 p).1 hp).1,k⟩,fun⟨p,hp,k⟩=>⟨p,((i2 p).1 hp).1,k⟩⟩
 have z2: ∀m,m.ok->mB (bH c n) m=true->mB (bH c n.rev) m=true->xB c m0 m=true:=fun m hm h1 h2=>by
  obtain⟨p,hp,k1⟩:=(pH g1 hm).1 h1;obtain⟨q,hq,k2⟩:=(pH g2 hm).1 h2;obtain⟨hp,ap⟩:=(i1 p).1 hp;obtain⟨hq,aq⟩:=(i2 q).1 hq;rw[r9 hm0 hm];refine⟨fun e=>?_,?_⟩
  .rw[px hs (px e.symm k1)] at ap;grind
  generalize hA:n.value p=A at*;generalize hB:n.value q=B at*;have hAB:0<A-B:=by grind
  have e:A/(A-B)*(A-B)=A:=by grind
  generalize A/(A-B)=r at*;have r0:0<=r:=(iB hAB).1 (by rw[e];exact cR ap);have r1:r<=1:=by
   have:=(iB (s:=1-r) hAB).1 va;grind
  exact⟨bO p q r,hp.seg hq r0 r1,px hs.symm (by rw[lE,hA,hB];grind),by rw[lE,k1,k2];grind⟩
 have w1: ∀m m',m.ok->m'.ok->xB (bH c n) m m'=true->xB c m m'=true/\ ¬xB (bH c n.rev) m m'=true:=fun m m' hm hm' h=>by
  rw[r9 hm hm'] at h;obtain⟨e,z,hz,k1,k2⟩:=h;obtain⟨hz,az⟩:=(i1 z).1 hz;refine⟨(r9 hm hm').2 ⟨e,z,hz,k1,k2⟩,fun h=>?_⟩;obtain⟨_,y,hy,j1,j2⟩:=(r9 hm hm').1 h;obtain⟨hy,ay⟩:=(i2 y).1 hy;rcases CB hm hm' k1 k2 with h|h
  .exact e h
  .rcases CB hm hm' j1 j2 with h'|h'
   .exact e h'
   .rw[h'] at ay;rw[h] at az;grind
 have w2: ∀m m',m.ok->m'.ok->xB (bH c n.rev) m m'=true->xB c m m'=true:=fun m m' hm hm' h=>by
  rw[r9 hm hm'] at h⊢;obtain⟨e,z,hz,k1,k2⟩:=h;exact⟨e,z,((i2 z).1 hz).1,k1,k2⟩
 have w3: ∀m,m.ok->xB (bH c n) m m0=false/\xB (bH c n.rev) m m0=false:=fun m hm=>by
  constructor
  .rw[<-kJ,r9 hm hm0]
   rintro ⟨_,z,hz,_,k2⟩;have:=((i1 z).1 hz).2;rw[px hs k2] at this;grind
  .rw[<-kJ,r9 hm hm0]
   rintro ⟨_,z,hz,_,k2⟩;have:=((i2 z).1 hz).2;rw[px hs k2] at this;grind
 have hmm: ∀d,xB d m0 m0=false:=fun d=>by
  rw[<-kJ,r9 hm0 hm0];rintro ⟨h,_⟩;exact h (.inl rfl)
 have n1: ∀d:ar,bG d->(∀p,bw d p->n.value p≠0)->mB d m0=false:=fun d hd h=>by
  rw[<-kJ,pH hd hm0];rintro ⟨p,hp,k⟩;exact h p hp (px hs k)
 have n2:mB c m0=true:=by
  rw[pH hc hm0];obtain⟨p,hp,k⟩:=(pH hc hn).1 (by unfold mB;rw[hb,hb2];rfl);exact⟨p,hp,px hs.symm k⟩
 constructor
 .unfold r7 lj
  rw[<-yT,<-yT];refine yN (m0:=m0) (d:=1) (fun m hm=>?_) h0 ?_
  .have hmk:=hK m hm
   obtain⟨a1,a2⟩:=z1 m hmk;have a3:=z2 m hmk
   try dsimp only
   cases e1:mB (bH c n) m<;>cases e2:mB (bH c n.rev) m<;>simp only[e1,e2,forall_const,reduceCtorEq,false_implies] at a1 a2 a3<;>simp_all [bN]
  .try dsimp only
   rw[n1 _ g1 (fun p hp=>by have:=((i1 p).1 hp).2;grind),n1 _ g2 (fun p hp=>by have:=((i2 p).1 hp).2;grind),n2,hmm];decide
 .have row: ∀m∈K,lj K (bH c n) m+lj K (bH c n.rev) m+bN (xB c m m0)<=lj K c m:=fun m hm=>by
   have hmk:=hK m hm;unfold lj;rw[<-yT];refine yN (m0:=m0) (d:=bN (xB c m m0)) (fun m' hm'=>?_) h0 ?_
   .have hmk':=hK m' hm'
    have b1:=w1 m m' hmk hmk';have b2:=w2 m m' hmk hmk'
    try dsimp only
    cases e1:xB (bH c n) m m'<;>cases e2:xB (bH c n.rev) m m'<;>simp_all [bN]
   .obtain⟨c1,c2⟩:=w3 m hmk
    try dsimp only
    rw[c1,c2];simp[bN]
  have r0:lj K (bH c n) m0=0/\lj K (bH c n.rev) m0=0:=by
   have z: ∀d,(∀m∈K,xB d m0 m=false)->lj K d m0=0:=fun d h=>by
    have:=yL (f:=fun m=>bN (xB d m0 m)) (B:=0) (K:=K) fun m hm=>by rw[h m hm];decide
    unfold lj;omega
   exact⟨z _ fun m hm=>by rw[Lf hm0 (hK m hm)];exact(w3 m (hK m hm)).1,z _ fun m hm=>by rw[Lf hm0 (hK m hm)];exact(w3 m (hK m hm)).2⟩
  have cs:jm (fun m=>bN (xB c m m0)) K=lj K c m0:=by
   unfold lj;have key: ∀Jv:List ah,(∀m∈Jv,m.ok)->jm (fun m=>bN (xB c m m0)) Jv=jm (fun m=>bN (xB c m0 m)) Jv:=fun Jv=>by
    induction Jv with
    |nil=>intro _;rfl
    |cons a Jv ih=>
     intro h;show bN (xB c a m0)+_=bN (xB c m0 a)+_;rw[ih fun m hm=>h m (aJ _ hm),Lf (h a aQ) hm0]
   exact key K hK
  have:=yN (f:=fun m=>lj K (bH c n) m+lj K (bH c n.rev) m+bN (xB c m m0)) (g:=lj K c) (d:=lj K c m0) (m0:=m0) row h0 (by rw[r0.1,r0.2,hmm];simp[bN]);rw[yT,yT,cs] at this;unfold yO;omega
def KJ{K:List ah}(hK: ∀m∈K,m.ok): ∀{t:Tr} {c:ar},t.Prp c->t.all ah.ok->bG c->jj K t->2*t.size<=2*r7 K c+yO K c
 | .leaf _,_,_,_,_,_=>bK _
 | .node n x y,c,⟨h1,h2,h3,h4⟩,⟨hn,hx,hy⟩,hc,⟨⟨m0,hm0,hs⟩,kx,ky⟩=>by
  obtain⟨g1,_⟩:=ir hc hn h1;obtain⟨g2,_⟩:=ir hc hn.rev h2;have a:=KJ hK h3 hx g1 kx;have b:=KJ hK h4 hy g2 ky;obtain⟨d1,d2⟩:=auW hK hc hn hm0 hs h1 h2;rw[Tr.size];omega
def QS(hK: ∀m∈K,m.ok)(h:t.Prp c)(ht:t.all ah.ok)(hc:bG c)(hA:jj K t):2*t.size<=K.length*(K.length+1):=by
 have h1:=KJ hK h ht hc hA;have h2:r7 K c<=K.length*1:=yL fun m _=>Kd _;have h3:yO K c<=K.length*(K.length-1):=yL fun m hm=>by
  have:=yN (f:=fun n=>bN (xB c m n)) (g:=fun _=>1) (d:=1) (m0:=m) (K:=K) (fun n _=>Kd _) hm (by
   have:xB c m m=false:=by rw[<-kJ,r9 (hK m hm) (hK m hm)];rintro ⟨h,_⟩;exact h (.inl rfl)
   rw[this];decide)
  have l1:jm (fun _=>1) K<=K.length*1:=yL fun _ _=>bW _;unfold lj;omega
 have:K.length*(K.length+1)=K.length*(K.length-1)+2*K.length:=by
  cases K.length with
  |zero=>rfl
  |succ k=>rw[Nat.succ_sub_one,Nat.mul_succ,Nat.mul_succ,gK];omega
 omega
end Go.Sx
end
