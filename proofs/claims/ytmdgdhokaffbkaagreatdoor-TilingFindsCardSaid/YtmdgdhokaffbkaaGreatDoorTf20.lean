import Derived.Test.YtmdgdhokaffbkaaGreatDoorTf19
import Derived.Test.YtmdgdhokaffbkaaGreatDoorCards
import Derived.Test.YtmdgdhokaffbkaaGreatDoorTie
import Derived.WalkKit
import Derived.ProofKit
import Derived.OpenShut
import Derived.Deep.DeepHandedRow
import Derived.Deep.DeepWitnessRowRef
import Derived.LaidMore
import Derived.Lib.LaidTab
import Derived.SizedLaws
import Derived.Stop.LaidErr
import Derived.MakeChecks
set_option linter.all false
set_option maxHeartbeats 4000000
set_option maxRecDepth 100000
section
namespace Go.Sx
open Go Go.Proofs Tryz
variable {GB GB' G:Gh}{es es0:List Int}{a b d i nm te s s2 nm2 m by_ k' j:Nat}{p v q:ab}{rs:List (List ZP)}{fill n e:Int}{R:Rat}{t A:Tr}{c:Code}{ai al au ar:Addr}{C:aD}{Q0:Exit->Act->World->Prop}{fr:aA}{own':aF}{cf:Cf}{vc:List Prop}{tl lk:LK}{tb bk:BM}{ρ:NE}{ov os B:List av}{w:World}{x x0:SV}{ds pts rest rows pts' ds2 ds':List DV}{ty ty1 ty2 t' ty':TypeId}{fo y:Operand}{f:FuncId}{pos:String}{af:Array Edge}{fb:Func}{dst ag:Option Nat}{ps r0:List ab}
def zN{es:List Int}: ∀{n a:Nat} {out:List ZP},a<=es.length->(∀v∈out,ZP.le 8 v)-> ∀v∈(km es n a out).1,ZP.le 8 v
 |0,a,out,ha,h=>h
 |n+1,a,out,ha,h=>by
  obtain⟨h1,h2,h3⟩:=ru ha;rw[km];split
  .exact zN (n:=n) h3 h
  .exact zN (n:=n) h3 fun v hv=>by
    rcases bJ.1 hv with hv|hv
    .exact h v hv
    .rw[aW] at hv;subst hv;exact⟨pb,pb⟩
def zP: ∀{n:Nat} {l:List ZP},(∀v∈l,ZP.le 8 v)-> ∀v∈jc n l,ZP.le 8 v
 |0,l,h=>h
 |n+1,l,h=>by
  rw[jc];split
  .exact zP (n:=n) fun v hv=>h v ((oS _).subset hv)
  .exact h
def zU(ha:a<=es.length): ∀v∈(nk es a).1,ZP.le 8 v:=by
 unfold nk;dsimp only;split
 .intro v hv
  simp only[tM,aT,fT,or_false] at hv;rcases hv with rfl|rfl|rfl<;>exact⟨v6,v6⟩
 .exact zP (zN (e7 (n:=4) ha) fun v hv=>by cases hv)
def yD{p u v:ZP}(hp:ZP.le 4 p)(hu:ZP.le 4 u)(hv:ZP.le 4 v): ∀w∈q7 p u v,ZP.le 8 w:=by
 obtain⟨p1,p2⟩:=p;obtain⟨u1,u2⟩:=u;obtain⟨v1,v2⟩:=v;obtain⟨a1,a2⟩:=hp;obtain⟨b1,b2⟩:=hu;obtain⟨c1,c2⟩:=hv;dsimp only at a1 a2 b1 b2 c1 c2;intro w hw;simp only[q7,xZ,aT,fT,or_false] at hw;rcases hw with rfl|rfl|rfl<;>exact⟨by dsimp only;omega,by dsimp only;omega⟩
def zH(ha:a<=es.length): ∀v∈(ew es a).1,ZP.le 8 v:=by
 have h0:=e7 (n:=4) ha;unfold ew;dsimp only;split
 .intro v hv
  generalize (aC es 4 a).2=a1 at hv;have h1:=ig (es:=es) (n:=5) (a:=a1);have h2:=ig (es:=es) (n:=5) (a:=(aC es 5 a1).2);have h3:=ig (es:=es) (n:=4) (a:=(aC es 5 (aC es 5 a1).2).2);have h4:=ig (es:=es) (n:=4) (a:=(aC es 4 (aC es 5 (aC es 5 a1).2).2).2);simp only[Cd,sF,aT,fT,or_false] at hv;rcases hv with rfl|rfl|rfl|rfl<;>exact⟨by dsimp only;omega,by dsimp only;omega⟩
 .split
  .obtain⟨p1,p2,p3⟩:=ru h0
   obtain⟨u1,u2,u3,u4⟩:=wl p3;obtain⟨v1,v2,v3,v4⟩:=wl u4;split
   .exact yD ⟨p1,p2⟩ ⟨u1,u2⟩ ⟨v1,v2⟩
   .exact zU v4
  .exact zU h0
def BndR(R:Rat)(t:Tr):Prop:= ∃L:List aa,(∀l∈L,l.ok)/\ ∀p,dP L p->kj R p->t.val p=false
def yA(hr: ∀r∈rs,∀v∈r,ZP.le 8 v)(hp:kj 8 p):jA rs fill p=false:=by
 have key: ∀(rs:List (List ZP)),(∀r∈rs,∀v∈r,ZP.le 8 v)->rs.foldl (fun n r=>n+i0 r p) (0:Int)=0:=by
  intro rs
  induction rs with
  |nil=>intro _;rfl
  |cons r t ih=>
   intro hr;have e:i0 r p=0:=by
    unfold i0;rw[xB];refine HQ (R:=8) (fun v hv=>?_) hp;obtain⟨h1,h2⟩:=hr r aZ v hv;have c: ∀z:Int,z.natAbs<=8-> -(8:Rat)<=(z:Rat)/\(z:Rat)<=8:=fun z hz=>by
     have a:((-8:Int):Rat)<=(z:Rat):=oV.2 pb;have b:(z:Rat)<=((8:Int):Rat):=oV.2 pb;exact⟨a,b⟩
    exact⟨(c _ h1).1,(c _ h1).2,(c _ h2).1,(c _ h2).2⟩
   rw[iM,e];exact ih fun r h=>hr r (aK _ h)
 unfold jA;rw[key rs hr,O1]
def zI(hr: ∀r∈rs,dl r)(h8: ∀r∈rs,∀v∈r,ZP.le 8 v):BndR 8 (kw rs fill):=
 ⟨(so rs fill).lns,vm (Kj hr),fun p ho hp=>by rw[Pu hr ho,yA h8 hp]⟩
def BndR.merge{a b:Tr}(ha:BndR R a)(hb:BndR R b)(oa:a.all aa.ok)(ob:b.all aa.ok)(op:Int):BndR R (a.mergeQ op b []):=by
 obtain⟨L,h1,h2⟩:=ha;obtain⟨M,k1,k2⟩:=hb;refine⟨(L++M)++(a.lns++b.lns),fun l hl=>?_,fun p ho hp=>?_⟩
 .rcases bJ.1 hl with h|h
  .exact(bJ.1 h).elim (h1 l) (k1 l)
  .exact(bJ.1 h).elim (vm oa l) (vm ob l)
 .obtain⟨o1,o2⟩:=dP.app.1 ho
  obtain⟨oL,oM⟩:=dP.app.1 o1;obtain⟨oA,oB⟩:=dP.app.1 o2;rw[Tr.val_merge op b ob a [] p oa bO.nil (fun s hs=>by cases hs) oA oB,h2 p oL hp,k2 p oM hp,KI]
def yB(ha:a<=es.length):BndR 8 (lf es a).1:=by
 obtain⟨r1,r2⟩:=ti ha;have h3:=e7 (n:=3) r2;unfold lf;dsimp only;split
 .obtain⟨s1,s2⟩:=ti h3
  refine zI (fun r hr=>?_) (fun r hr=>?_)<;>simp only[aT,fT,or_false] at hr<;>rcases hr with rfl|rfl
  .exact r1
  .exact s1
  .exact zH ha
  .exact zH h3
 .refine zI (fun r hr=>?_) (fun r hr=>?_)<;>simp only[aT,fT,or_false] at hr<;>subst hr
  .exact r1
  .exact zH ha
def yL{es:List Int}: ∀{d a:Nat},a<=es.length->BndR 8 (cx es d a).1
 |0,a,ha=>yB ha
 |d+1,a,ha=>by
  have h0:=e7 (n:=3) ha;rw[cx];dsimp only;split
  .obtain⟨x1,_,_,x4⟩:=uv (d:=d) h0
   have h4:=e7 (n:=4) x4;exact(yL (d:=d) h0).merge (yL (d:=d) h4) x1.gd.ok (uv (d:=d) h4).1.gd.ok _
  .exact yB h0
def zX(ht:t.all aa.ok)(hb:BndR R t){c:az}(hc:c∈b7 t)(hv: ∀s∈c,0<=s.l.value v): ¬kj R v:=fun hf=>by
 obtain⟨hg,hval⟩:=xX ht bO.nil (tY.1 hc);obtain⟨L,h1,h2⟩:=hb;obtain⟨q,hq,ho⟩:=JZ hg L h1;obtain⟨d,hd⟩: ∃d:ab,d=⟨q.x-v.x,q.y-v.y⟩:=⟨_,rfl⟩;have hvd: ∀l:aa,l.nor.dot d=l.value q-l.value v:=fun l=>by
  have e:=gD l v d 1;rw[show ce v d 1=q by rw[hd];unfold ce;cases q;cases v;simp only[ab.mk.injEq];constructor<;>grind] at e;grind
 -- off the lines
 have hoff: ∃N:Rat,0<=N/\ ∀n,N<=n->0<n->dP L (ce v d (1/n)):=by
  clear h1 h2
  induction L with
  |nil=>exact⟨0,v6,fun n _ _ l hl=>by cases hl⟩
  |cons l L ih=>
   obtain⟨N,n0,hN⟩:=ih (ho.sub fun m hm=>aK _ hm);have hl:=ho l aZ;by_cases hA:l.value q-l.value v=0
   .refine⟨N,n0,fun n hn hp m hm=>?_⟩
    rcases aT.1 hm with rfl|hm
    .rw[gD,hvd,hA];grind
    .exact hN n hn hp m hm
   .obtain⟨M,m0,hM⟩:=Ln hA (l.value v)
    refine⟨N+M,v7,fun n hn hp m hm=>?_⟩;rcases aT.1 hm with rfl|hm
    .rw[gD,hvd]
     intro e;refine hM n v7 ?_;have hn1:n*(1/n)=1:=by grind
     have:n*(m.value v+1/n*(m.value q-m.value v))=n*0:=by rw[e]
     grind
    .exact hN n v7 hp m hm
 have hfar: ∃N:Rat,0<=N/\ ∀n,N<=n->0<n->kj R (ce v d (1/n)):=by
  have key: ∀(a b:Rat),0<a-> ∃N:Rat,0<=N/\ ∀n,N<=n->0<n->0<a+1/n*b:=fun a b ha=>by
   obtain⟨N,n0,hN⟩:=wZ ha b 0;refine⟨N,n0,fun n hn hp=>?_⟩;have h3:=hN n hn;have h4:0<1/n:=by rw[tV,Rat.one_mul];exact Rat.inv_pos.2 hp
   have h5:=eE h4 h3;have hn1:1/n*n=1:=by grind
   grind
  rcases hf with h|h|h|h
  .obtain⟨N,n0,hN⟩:=key (-R-v.x) (-d.x) v7
   exact⟨N,n0,fun n hn hp=> .inl (by have:=hN n hn hp;show v.x+1/n*d.x< -R;grind)⟩
  .obtain⟨N,n0,hN⟩:=key (v.x-R) d.x v7
   exact⟨N,n0,fun n hn hp=> .inr (.inl (by have:=hN n hn hp;show R<v.x+1/n*d.x;grind))⟩
  .obtain⟨N,n0,hN⟩:=key (-R-v.y) (-d.y) v7
   exact⟨N,n0,fun n hn hp=> .inr (.inr (.inl (by have:=hN n hn hp;show v.y+1/n*d.y< -R;grind)))⟩
  .obtain⟨N,n0,hN⟩:=key (v.y-R) d.y v7
   exact⟨N,n0,fun n hn hp=> .inr (.inr (.inr (by have:=hN n hn hp;show R<v.y+1/n*d.y;grind)))⟩
 obtain⟨N,n0,hN⟩:=hoff;obtain⟨M,m0,hM⟩:=hfar;have hn:0<N+M+1:=by grind
 obtain⟨e,he⟩: ∃e:Rat,e=1/(N+M+1):=⟨_,rfl⟩;have e0:0<e:=by rw[he,tV,Rat.one_mul];exact Rat.inv_pos.2 hn
 have e1:e<=1:=by
  have:e*(N+M+1)=1:=by rw[he];grind
  have h3:=cB (cM e0) (show 0<=N+M by grind);grind
 have hin:bw c (ce v d e):=fun s hs=>by
  rw[gD,hvd];have a:=hq s hs;have b:=hv s hs;have h3:=eE e0 a;have h4:=cB (show 0<=1-e by grind) b;grind
 have:=(hval _ hin).2;rw[h2 _ (he▸hN _ v7 hn) (he▸hM _ v7 hn)] at this
 cases this
def zV(ht:t.all aa.ok)(hbd:(b7 t).all ek=true)(hb:BndR R t){ts:List (List ab)}(hts:ts=(b7 t).flatMap d9): ∀r∈ts,∀p∈r,¬kj R p:=fun r hr p hp=>by
 subst hts;obtain⟨c,hc,hr⟩:=fQ.1 hr;obtain⟨g,a⟩:=J' ht hc;have hbc:=dZ.1 hbd c hc;obtain⟨k,hk,rfl⟩:=(I2 g a hbc).1 hr;have hpos:=FC g a hbc hk;refine zX ht hb hc ((U' g a hbc p).2 ⟨k,hk,?_⟩);generalize dd c 0=x at*;generalize dd c (k+1)=y at*;generalize dd c (k+2)=z at*;simp only[aT,fT,or_false] at hp;unfold bc at*;rcases hp with rfl|rfl|rfl<;>refine⟨?_,?_,?_⟩<;>grind
def zL(n:Int): -5<n.tmod 5/\n.tmod 5<5:=by
 have h:=Int.natAbs_tmod n 5;have h2:n.natAbs%(5:Int).natAbs<5:=cR _ v6;omega
def kt.up(h:kt GB ai al au ar)(k:bA GB GB'):kt GB' ai al au ar:=⟨⟨⟨k _ _ h.ErrInvalid,k _ _ h.ErrLimit⟩,k _ _ h.ErrUnbounded⟩,k _ _ h.ErrRing⟩
def zB(hes:es.length<=400)(hA:A=(cx es 1 0).1):PM GB prog 8 (gw [none,some (vI 1)] b) b 85 [.sl (es.map vI), .v (.int .i64 (0:Nat))] (eT A) [.sl (es.map vI), .v (.int .i64 ((cx es 1 0).2:Nat))]:=by
 subst hA;exact Qd hes (aL _) (d:=1) v6
def zG(hes:es.length<=400)(ha:a<=es.length)(hp:p=(pP es a).1):PM GB prog 9 (gw [none] b) b 85 [.sl (es.map vI), .v (.int .i64 (a:Nat))] (eP p) [.sl (es.map vI), .v (.int .i64 ((pP es a).2:Nat))]:=by
 subst hp;exact SE hes ha
def or_ot{a b c:ab}:0<=mF a b c↔0<=bc a b c:=by
 have e:(ab.cross (ce b a (-1)) (ce c a (-1)))=bc a b c:=by unfold ab.cross ce bc;grind
 unfold mF;rw[e,<-Int.not_lt,E6,rU]
def zS{a b d:ab}(h0:0<=mF a b p)(h1:0<=mF b d p)(h2:0<=mF d a p):mC p [a,b,d]=true:=by
 unfold mC;simp only[bV,decide_eq_true_eq];exact⟨or_ot.1 h0,or_ot.1 h1,or_ot.1 h2⟩
def zA{a b d:ab}(h: ¬0<=mF a b p\/ ¬0<=mF b d p\/ ¬0<=mF d a p):mC p [a,b,d]=false:=by
 rw[<-jM];unfold mC;simp only[bV,decide_eq_true_eq];rintro ⟨h0,h1,h2⟩;rcases h with h|h|h
 .exact h (or_ot.2 h0)
 .exact h (or_ot.2 h1)
 .exact h (or_ot.2 h2)
theorem okD{p:Prop}(h:p:=by rw[hfl]<;>rfl):p:=h
def yG(hE:kt GB ai al au ar)(hb:es0.length<=1125899906842624)(hn: -9223372036854775808<=n/\n<9223372036854775808)(he:(n.tmod 5+5).tmod 5=e)(hc:((b7 (cx (es0.take 400) 1 0).1).flatMap d9).length=0\/(e≠0/\e≠1/\e≠2)):PF GB prog 3 [.sl (es0.map vI),vI n] (.v (.bool true)):=by
 obtain⟨es,hee⟩: ∃es,es=es0.take 400:=⟨_,rfl⟩;have hes:es.length<=400:=by rw[hee];simp;omega
 rw[<-hee] at hc;obtain⟨A,hAe⟩: ∃A,A=(cx es 1 0).1:=⟨_,rfl⟩;obtain⟨hA,hbd,hal,hr⟩:=BD (es:=es) (a:=0) (d:=1) (aL _);rw[<-hAe] at hA hbd hr;obtain⟨ts,hts⟩: ∃ts,ts=(b7 A).flatMap d9:=⟨_,rfl⟩;have htb:=wX hA;rw[<-hts] at htb;have hpos:=z' hA.ok hbd hts;obtain⟨p,hpe⟩: ∃p,p=(pP es (cx es 1 0).2).1:=⟨_,rfl⟩;haveI hpb:aE p 1200:=by rw[hpe];exact(Ae hal).1
 have htm:=zL n;have hm1:(ts.map jy).length=ts.length:=aX ..;have hm2:(ts.map c9).length=ts.length:=aX ..;have hbt: ∀r∈ts,(∀p∈r,aE p 1200)/\r.length<=1000:=fun r hr=>⟨(htb.2 r hr).1,by rw[(htb.2 r hr).2];decide⟩;have hsb: ∀k,BQ (m5 ts k) 2000010:=fun k=>by rw[hts];exact(UY hA v6).2.2 k
 obtain⟨S,hS⟩: ∃S:Nat->Rat,S=m5 ts:=⟨_,rfl⟩;have hSk: ∀k,BQ (S k) 2000010:=by rw[hS];exact hsb
 have h00:S 0=0:=by rw[hS];rfl
 haveI:=hSk ts.length;have hfl:((d8 p ts ts.length).map vI).length=(d8 p ts ts.length).length:=aX ..;have hfn:=wF p ts ts.length;rw[<-hAe,<-hts] at hc;refine fn func3 J J ntmps3 J J (fun C=>?_);refine cn J ((zt hb hee)) (fun _=>J) (fun _=>?_);refine cm J (fun b=>(zB hes hAe)) J<|cl J (AF hA v6 hr hts) J<|cm J (fun b=>(zG hes hal hpe)) J<|cr (fu:=⟨13⟩) J (DX hbt) J<|ah 30 (.d (vI (ts.length:Nat))) J omH<|gx (fu:=⟨6⟩) J<|?_;rcases(show ts.length=0\/(0<ts.length/\e≠0/\e≠1/\e≠2) by omega) with h0|⟨h0,e0,e1,e2⟩
 .
  refine gx (fu:=⟨0⟩) J<|bG J (omd pb) J<|cl J (se (p:=p) (i:=1200)) J<|fz 28 J J<|cl J (Ji hpos (i:=1200) (fun r hr=>(htb.2 r hr).1) v6 pb (p:=p)) J<|cl (fu:=⟨12⟩) J (Kl hpos (i:=1200) (fun r hr=>(htb.2 r hr).1) v6 pb hsb) J<|bG (fu:=⟨20⟩) J J J<|ah 119 (.d (vI (ts.length:Nat))) J omA<|gx J<|nr 16 16 3 1 J J J<|GZ 15 [.v (.bool (decide ((S 0).num<0))),dN (S 0).num.natAbs,dD (S 0).den] J J (fun G m=>by rw[h00];exact Hs) J<|lp (X:=Nat) (fun k=>[(120, .d (vI (k:Nat))),(15, .ov 15 0),(16, .rw 16)]) (fun k=>[(15,some (.o 34 [.d (.v (.bool (decide ((S k).num<0)))), .d (dN (S k).num.natAbs), .d (dD (S k).den)] true)),(16,some (.b 3 1 ((d8 p ts k).map vI) true))]) (fun k=>k<=ts.length) (fun k=>ts.length-k) 0 J (aL _) (fun _=>J) (fun k hk=>?_);haveI:=hSk k;have hfk:=wF p ts k;have hm3:((d8 p ts k).map vI).length<=k:=by rw[aX];exact hfk
  refine br (fu2:=⟨0⟩) J J J (fun hc121=>?_) (fun hc121=>?_)
  .
   obtain⟨r,hx⟩: ∃u,ts[k]? =some u:=⟨_,aQ pb⟩;obtain⟨a,b,d,hr3,hpos3⟩:=hpos r (aV hx);have hrb:=(htb.2 r (aV hx)).1;subst hr3;haveI:=hrb a v8;haveI:=hrb b v8;haveI:=hrb d v8;have eS:S (k+1)=S k+fy [a,b,d]*mkRat 1 2:=by rw[hS];exact FN hx
   haveI hab:=F8 hrb;haveI:BQ (fy [a,b,d]*mkRat 1 2) (16*1200+22):=BQ.mono (inferInstance:BQ (fy [a,b,d]*mkRat 1 2) _) pb;refine ix _ J (bF hx) J<|cl J (Od (v:=[a,b,d]) (i:=1200) (m:=16*1200+20) hrb v6 v8 (A7 hrb)) J<|cl (fu:=⟨0⟩) J (ll (a:=S k) (b:=fy [a,b,d]*mkRat 1 2) (i:=2000010) (j:=16*1200+22)) J<|ah 128 (.d (eQ (S (k+1)))) J (by rw[eS])<|gx J<|ix _ J (show([a,b,d].map eP)[0]? =some (eP a) from J) J<|ix _ J (show([a,b,d].map eP)[1]? =some (eP b) from J) J<|cl (fu:=⟨0⟩) J (r5 (a:=a) (b:=b) (c:=p) (i:=1200) (j:=1200) (k:=1200)) J<|jk (v2:=fun hg137=>by simp only[aj];exact⟨we,pb⟩) J J J J (fun hg137=>?_) (fun hg137=>?_)
   .
    refine ix _ J (show([a,b,d].map eP)[1]? =some (eP b) from J) J<|ix _ J (show([a,b,d].map eP)[2]? =some (eP d) from J) J<|cl (fu:=⟨0⟩) J (r5 (a:=b) (b:=d) (c:=p) (i:=1200) (j:=1200) (k:=1200)) J<|jk (v2:=fun hg147=>by simp only[aj];exact⟨we,pb⟩) J J J J (fun hg147=>?_) (fun hg147=>?_)
    .
     refine ix _ J (show([a,b,d].map eP)[2]? =some (eP d) from J) J<|ix _ J (show([a,b,d].map eP)[0]? =some (eP a) from J) J<|cl J (r5 (a:=d) (b:=a) (c:=p) (i:=1200) (j:=1200) (k:=1200)) J<|br J J J (fun hc159=>?_) (fun hc159=>?_)
     .
      refine rf J J<|ap ((d8 p ts (k+1)).map vI) J (by rw[FF hx (zS hg137 hg147 hc159),bQ]<;>rfl) (Ec [(k:Int)]) J<|dq 163 16 J<|at_ (k+1) ⟨pb,pb⟩
     .
      rw[uj hx (zA (.inr (.inr hc159)))];exact at_ (k+1) ⟨pb,pb⟩
    .
     rw[uj hx (zA (.inr (.inl hg147)))];exact at_ (k+1) ⟨pb,pb⟩
   .
    rw[uj hx (zA (.inl hg137))];exact at_ (k+1) ⟨pb,pb⟩
  .
   obtain rfl:k=ts.length:=by omega
   refine lm 16 J<|gx (fu:=⟨9⟩) J<|bG (fu:=⟨2⟩) J J J<|bG J J J<|cl J (By (q:=S ts.length) (i:=2000010)) J<|cl (fu:=⟨0⟩) J (JH (p:=m5 ts ts.length) (q:=S ts.length) (i:=2000010) (j:=2000010) (hp:=hsb _)) J<|ah 175 (.d (.v (.bool true))) J (by rw[hS,decide_eq_true J]<;>rfl)<|gx (fu:=⟨0⟩) J<|bG (fu:=⟨4⟩) J J J<|ah 180 (.d (vI ((d8 p ts ts.length).length:Nat))) J okD<|gx (fu:=⟨2⟩) J<|ah 182 (.d (vI ((d8 p ts ts.length).length:Nat))) J okD<|gx (fu:=⟨0⟩) J<|bG (fu:=⟨11⟩) J (omd pb) J<|ah 186 (.d (vI ((d8 p ts ts.length).length:Nat))) J okD<|gx J<|lp (X:=Nat) (fun k=>[(187, .d (vI (k:Nat)))]) (fun k=>[]) (fun k=>k<=(d8 p ts ts.length).length) (fun k=>(d8 p ts ts.length).length-k) 0 J (aL _) (fun _=>J) (fun k hk=>?_);refine br J J J (fun hc188=>?_) (fun hc188=>?_)
   .
    obtain⟨m,hy⟩: ∃u,(d8 p ts ts.length)[k]? =some u:=⟨_,aQ pb⟩;refine ix _ J (bF hy) J<|ix (fu:=⟨1⟩) _ J (bF hy) J<|bG (hv:=by simp only[aj];exact⟨we,pb⟩) J (omd pb) J<|at_ (k+1) ⟨pb,pb⟩
   .
    obtain rfl:k=(d8 p ts ts.length).length:=by omega
    refine cl (fu:=⟨0⟩) J (w9 hE.toBV) J<|ii 200 J<|gx J<|rz J J
 .
  refine gx (fu:=⟨0⟩) J<|cj (fu:=⟨9⟩) J (omc pb) J<|ah 36 (.d (vI e)) J okZ<|gx (fu:=⟨5⟩) J<|bG (fu:=⟨6⟩) J (omd pb) J<|bG (fu:=⟨6⟩) J (omd pb) J<|bG J (omd pb) J<|cl J (se (p:=p) (i:=1200)) J<|fz 28 J J<|cl J (Ji hpos (i:=1200) (fun r hr=>(htb.2 r hr).1) v6 pb (p:=p)) J<|cl (fu:=⟨12⟩) J (Kl hpos (i:=1200) (fun r hr=>(htb.2 r hr).1) v6 pb hsb) J<|bG (fu:=⟨20⟩) J J J<|ah 119 (.d (vI (ts.length:Nat))) J omA<|gx J<|nr 16 16 3 1 J J J<|GZ 15 [.v (.bool (decide ((S 0).num<0))),dN (S 0).num.natAbs,dD (S 0).den] J J (fun G m=>by rw[h00];exact Hs) J<|lp (X:=Nat) (fun k=>[(120, .d (vI (k:Nat))),(15, .ov 15 0),(16, .rw 16)]) (fun k=>[(15,some (.o 34 [.d (.v (.bool (decide ((S k).num<0)))), .d (dN (S k).num.natAbs), .d (dD (S k).den)] true)),(16,some (.b 3 1 ((d8 p ts k).map vI) true))]) (fun k=>k<=ts.length) (fun k=>ts.length-k) 0 J (aL _) (fun _=>J) (fun k hk=>?_);haveI:=hSk k;have hfk:=wF p ts k;have hm3:((d8 p ts k).map vI).length<=k:=by rw[aX];exact hfk
  refine br (fu2:=⟨0⟩) J J J (fun hc121=>?_) (fun hc121=>?_)
  .
   obtain⟨r,hx⟩: ∃u,ts[k]? =some u:=⟨_,aQ pb⟩;obtain⟨a,b,d,hr3,hpos3⟩:=hpos r (aV hx);have hrb:=(htb.2 r (aV hx)).1;subst hr3;haveI:=hrb a v8;haveI:=hrb b v8;haveI:=hrb d v8;have eS:S (k+1)=S k+fy [a,b,d]*mkRat 1 2:=by rw[hS];exact FN hx
   haveI hab:=F8 hrb;haveI:BQ (fy [a,b,d]*mkRat 1 2) (16*1200+22):=BQ.mono (inferInstance:BQ (fy [a,b,d]*mkRat 1 2) _) pb;refine ix _ J (bF hx) J<|cl J (Od (v:=[a,b,d]) (i:=1200) (m:=16*1200+20) hrb v6 v8 (A7 hrb)) J<|cl (fu:=⟨0⟩) J (ll (a:=S k) (b:=fy [a,b,d]*mkRat 1 2) (i:=2000010) (j:=16*1200+22)) J<|ah 128 (.d (eQ (S (k+1)))) J (by rw[eS])<|gx J<|ix _ J (show([a,b,d].map eP)[0]? =some (eP a) from J) J<|ix _ J (show([a,b,d].map eP)[1]? =some (eP b) from J) J<|cl (fu:=⟨0⟩) J (r5 (a:=a) (b:=b) (c:=p) (i:=1200) (j:=1200) (k:=1200)) J<|jk (v2:=fun hg137=>by simp only[aj];exact⟨we,pb⟩) J J J J (fun hg137=>?_) (fun hg137=>?_)
   .
    refine ix _ J (show([a,b,d].map eP)[1]? =some (eP b) from J) J<|ix _ J (show([a,b,d].map eP)[2]? =some (eP d) from J) J<|cl (fu:=⟨0⟩) J (r5 (a:=b) (b:=d) (c:=p) (i:=1200) (j:=1200) (k:=1200)) J<|jk (v2:=fun hg147=>by simp only[aj];exact⟨we,pb⟩) J J J J (fun hg147=>?_) (fun hg147=>?_)
    .
     refine ix _ J (show([a,b,d].map eP)[2]? =some (eP d) from J) J<|ix _ J (show([a,b,d].map eP)[0]? =some (eP a) from J) J<|cl J (r5 (a:=d) (b:=a) (c:=p) (i:=1200) (j:=1200) (k:=1200)) J<|br J J J (fun hc159=>?_) (fun hc159=>?_)
     .
      refine rf J J<|ap ((d8 p ts (k+1)).map vI) J (by rw[FF hx (zS hg137 hg147 hc159),bQ]<;>rfl) (Ec [(k:Int)]) J<|dq 163 16 J<|at_ (k+1) ⟨pb,pb⟩
     .
      rw[uj hx (zA (.inr (.inr hc159)))];exact at_ (k+1) ⟨pb,pb⟩
    .
     rw[uj hx (zA (.inr (.inl hg147)))];exact at_ (k+1) ⟨pb,pb⟩
   .
    rw[uj hx (zA (.inl hg137))];exact at_ (k+1) ⟨pb,pb⟩
  .
   obtain rfl:k=ts.length:=by omega
   refine lm 16 J<|gx (fu:=⟨9⟩) J<|bG (fu:=⟨2⟩) J J J<|bG J J J<|cl J (By (q:=S ts.length) (i:=2000010)) J<|cl (fu:=⟨0⟩) J (JH (p:=m5 ts ts.length) (q:=S ts.length) (i:=2000010) (j:=2000010) (hp:=hsb _)) J<|ah 175 (.d (.v (.bool true))) J (by rw[hS,decide_eq_true J]<;>rfl)<|gx (fu:=⟨0⟩) J<|bG (fu:=⟨4⟩) J J J<|ah 180 (.d (vI ((d8 p ts ts.length).length:Nat))) J okD<|gx (fu:=⟨2⟩) J<|ah 182 (.d (vI ((d8 p ts ts.length).length:Nat))) J okD<|gx (fu:=⟨0⟩) J<|bG (fu:=⟨11⟩) J (omd pb) J<|ah 186 (.d (vI ((d8 p ts ts.length).length:Nat))) J okD<|gx J<|lp (X:=Nat) (fun k=>[(187, .d (vI (k:Nat)))]) (fun k=>[]) (fun k=>k<=(d8 p ts ts.length).length) (fun k=>(d8 p ts ts.length).length-k) 0 J (aL _) (fun _=>J) (fun k hk=>?_);refine br J J J (fun hc188=>?_) (fun hc188=>?_)
   .
    obtain⟨m,hy⟩: ∃u,(d8 p ts ts.length)[k]? =some u:=⟨_,aQ pb⟩;refine ix _ J (bF hy) J<|ix (fu:=⟨1⟩) _ J (bF hy) J<|bG (hv:=by simp only[aj];exact⟨we,pb⟩) J (omd pb) J<|at_ (k+1) ⟨pb,pb⟩
   .
    obtain rfl:k=(d8 p ts ts.length).length:=by omega
    refine cl (fu:=⟨0⟩) J (w9 hE.toBV) J<|ii 200 J<|gx J<|rz J J
def yF{a d b:ab}(h:bc a d b<0):oG [a,d,b]=false:=MI (k:=0) (i:=2) v8 v8 (by
 show(decide ((2:Nat)=0)||(decide ((2:Nat)=(0+1)%3)||decide (0<bc a d b)))=false;rw[decide_eq_false (show¬0<bc a d b by grind)];rfl)
def zM{a b c:ab}(hb: ∀p∈[a,b,c],aE p i)(h:bc a b c≠0):pu i [a,b,c]:=⟨hb,v8,(Gu h).1,(Gu h).2⟩
def yI{a b d:ab}(h:0<bc a b d):bc a d b<0:=by
 have e:bc a d b= -bc a b d:=by unfold bc;grind
 grind
def yO(hE:kt GB ai al au ar)(hb:es0.length<=1125899906842624)(hn: -9223372036854775808<=n/\n<9223372036854775808)(he:(n.tmod 5+5).tmod 5=e)(h0:0<((b7 (cx (es0.take 400) 1 0).1).flatMap d9).length)(e0:e=0):PF GB prog 3 [.sl (es0.map vI),vI n] (.v (.bool true)):=by
 obtain⟨es,hee⟩: ∃es,es=es0.take 400:=⟨_,rfl⟩;have hes:es.length<=400:=by rw[hee];simp;omega
 rw[<-hee] at h0;obtain⟨A,hAe⟩: ∃A,A=(cx es 1 0).1:=⟨_,rfl⟩;obtain⟨hA,hbd,hal,hr⟩:=BD (es:=es) (a:=0) (d:=1) (aL _);rw[<-hAe] at hA hbd hr;obtain⟨ts,hts⟩: ∃ts,ts=(b7 A).flatMap d9:=⟨_,rfl⟩;have htb:=wX hA;rw[<-hts] at htb;have hpos:=z' hA.ok hbd hts;obtain⟨p,hpe⟩: ∃p,p=(pP es (cx es 1 0).2).1:=⟨_,rfl⟩;haveI hpb:aE p 1200:=by rw[hpe];exact(Ae hal).1
 have htm:=zL n;have hm1:(ts.map jy).length=ts.length:=aX ..;have hm2:(ts.map c9).length=ts.length:=aX ..;have hbt: ∀r∈ts,(∀p∈r,aE p 1200)/\r.length<=1000:=fun r hr=>⟨(htb.2 r hr).1,by rw[(htb.2 r hr).2];decide⟩;rw[<-hAe,<-hts] at h0;obtain⟨m,hm⟩: ∃m,m=ts.length-1:=⟨_,rfl⟩;have hm3:((ts.length:Nat):Int)-1=((m:Nat):Int):=by omega
 obtain⟨r,hx⟩: ∃u,ts[m]? =some u:=⟨_,aQ pb⟩;obtain⟨a,b,d,hr3,hpos3⟩:=hpos r (aV hx);have hrb:=(htb.2 r (aV hx)).1;subst hr3;have hrb2: ∀p∈[a,d,b],aE p 1200:=fun p hp=>hrb p (by simp at hp⊢;rcases hp with h|h|h<;>simp[h]);have hneg:=yI hpos3;have hto: ∀r∈ts.set m [a,d,b],pu 1200 r:=fun r hr=>(pY hr).elim (fun h=>by obtain⟨x,y,z,rfl,k⟩:=hpos r h;exact zM (htb.2 _ h).1 (fun e=>by rw[e] at k;exact absurd k v6)) (fun h=>by subst h;exact zM hrb2 (fun e=>by rw[e] at hneg;exact absurd hneg v6));have hbad: ∀r,(ts.set m [a,d,b])[m]? =some r->r.length=3->oG r=false:=fun r hr _=>by rw[oJ pb] at hr;cases hr;exact yF hneg
 have hml:(ts.set m [a,d,b]).length=ts.length:=aM ..;refine fn func3 J J ntmps3 J J (fun C=>?_);refine cn J ((zt hb hee)) (fun _=>J) (fun _=>?_);refine cm J (fun b=>(zB hes hAe)) J<|cl J (AF hA v6 hr hts) J<|cm J (fun b=>(zG hes hal hpe)) J<|cr (fu:=⟨13⟩) J (DX hbt) J<|ah 30 (.d (vI (ts.length:Nat))) J omH<|gx (fu:=⟨6⟩) J<|cj (fu:=⟨9⟩) J (omc pb) J<|ah 36 (.d (vI e)) J okZ<|gx (fu:=⟨5⟩) J<|cj (fu:=⟨9⟩) J (omc pb) J<|ah 41 (.d (vI (m:Nat))) J (by rw[hm3]<;>rfl)<|gx (fu:=⟨3⟩) J<|ah 44 (.d (vI (m:Nat))) J (by rw[hm3]<;>rfl)<|gx J<|ix _ J (bF hx) J<|ix (fu:=⟨4⟩) _ J (show([a,b,d].map eP)[0]? =some (eP a) from J) J<|ah 51 (.d (vI (m:Nat))) J (by rw[hm3]<;>rfl)<|gx J<|ix _ J (bF hx) J<|ix (fu:=⟨4⟩) _ J (show([a,b,d].map eP)[2]? =some (eP d) from J) J<|ah 58 (.d (vI (m:Nat))) J (by rw[hm3]<;>rfl)<|gx J<|ix _ J (bF hx) J<|ix _ J (show([a,b,d].map eP)[1]? =some (eP b) from J) J<|rf J J<|cl J (w5 (ps:=[a,d,b]) hrb2 v8) J<|sb _ ((ts.set m [a,d,b]).map c9) J (bF hx) J (by rw[jY]<;>rfl) J<|gl J hE.ErrRing J<|cl J (se (p:=p) (i:=1200)) J<|fz 28 J J<|cl J (OF hE hto (i:=1200) v6 pb (j:=m) pb hbad (p:=p)) J<|cl (fu:=⟨12⟩) J (OY hE hto (i:=1200) v6 pb (j:=m) pb hbad) J<|cj J J J<|cl (fu:=⟨0⟩) J (w9 hE.toBV) J<|ii 102 J<|gx J<|cl (fu:=⟨0⟩) J Cb J<|ii 106 J<|gx J<|cl (fu:=⟨0⟩) J Cb J<|ii 111 J<|gx (fu:=⟨4⟩) J<|cj J J J<|rz J J
def yM(hE:kt GB ai al au ar)(hb:es0.length<=1125899906842624)(hn: -9223372036854775808<=n/\n<9223372036854775808)(he:(n.tmod 5+5).tmod 5=e)(h0:0<((b7 (cx (es0.take 400) 1 0).1).flatMap d9).length)(e0:e=2):PF GB prog 3 [.sl (es0.map vI),vI n] (.v (.bool true)):=by
 obtain⟨es,hee⟩: ∃es,es=es0.take 400:=⟨_,rfl⟩;have hes:es.length<=400:=by rw[hee];simp;omega
 rw[<-hee] at h0;obtain⟨A,hAe⟩: ∃A,A=(cx es 1 0).1:=⟨_,rfl⟩;obtain⟨hA,hbd,hal,hr⟩:=BD (es:=es) (a:=0) (d:=1) (aL _);rw[<-hAe] at hA hbd hr;obtain⟨ts,hts⟩: ∃ts,ts=(b7 A).flatMap d9:=⟨_,rfl⟩;have htb:=wX hA;rw[<-hts] at htb;have hpos:=z' hA.ok hbd hts;obtain⟨p,hpe⟩: ∃p,p=(pP es (cx es 1 0).2).1:=⟨_,rfl⟩;haveI hpb:aE p 1200:=by rw[hpe];exact(Ae hal).1
 have htm:=zL n;have hm1:(ts.map jy).length=ts.length:=aX ..;have hm2:(ts.map c9).length=ts.length:=aX ..;have hbt: ∀r∈ts,(∀p∈r,aE p 1200)/\r.length<=1000:=fun r hr=>⟨(htb.2 r hr).1,by rw[(htb.2 r hr).2];decide⟩;rw[<-hAe,<-hts] at h0;obtain⟨r,rest,hrs⟩:=List.exists_cons_of_length_pos h0;have hx:ts[0]? =some r:=by rw[hrs];rfl
 obtain⟨a,b,d,hr3,hpos3⟩:=hpos r (aV hx);have hrb:=(htb.2 r (aV hx)).1;subst hr3;have hrl:(rest.map c9).length<=100000000:=by have e:=congrArg List.length hrs;rw[bY] at e;rw[aX];omega
 obtain⟨s,hF⟩:=WN hE (x:=p) (p:=a) (q:=b) (rs:=rest.map c9) (i:=1200) (hrb a v8) (hrb b v8) v6 hrl;refine fn func3 J J ntmps3 J J (fun C=>?_);refine cn J ((zt hb hee)) (fun _=>J) (fun _=>?_);refine cm J (fun b=>(zB hes hAe)) J<|cl J (AF hA v6 hr hts) J<|cm J (fun b=>(zG hes hal hpe)) J<|cr (fu:=⟨13⟩) J (DX hbt) J<|ah 30 (.d (vI (ts.length:Nat))) J omH<|gx (fu:=⟨6⟩) J<|cj (fu:=⟨9⟩) J (omc pb) J<|ah 36 (.d (vI e)) J okZ<|gx (fu:=⟨5⟩) J<|bG (fu:=⟨6⟩) J (omd pb) J<|bG (fu:=⟨6⟩) J (omd pb) J<|cj J (omc pb) J<|lb _ J (bF hx) J<|js 0 2 ([a,b].map fe) J J J J (xM [a,b,d]) pb v8 J<|sb _ (c9 [a,b]::rest.map c9) J (bF hx) J (by rw[hrs]<;>rfl) J<|gl J hE.ErrRing J<|cl J (se (p:=p) (i:=1200)) J<|fz 28 J J<|cE (fu:=⟨0⟩) J hF (fun _=>J)<|?_;intro GB1 u1 hg1 hu1;obtain⟨s2,hF2⟩:=QT (hE.up hg1) (p:=a) (q:=b) (rs:=rest.map c9) (i:=1200) (hrb a v8) (hrb b v8) v6 hrl;refine gx J<|cE (fu:=⟨0⟩) J hF2 (fun _=>J)<|?_;intro GB2 u2 hg2 hu2;refine gx (fu:=⟨12⟩) J<|cj J J J<|cl (fu:=⟨0⟩) J (w9 (hE.up (hg1.trans hg2)).toBV) J<|ii 102 J<|gx J<|cl (fu:=⟨0⟩) J (KS (hu1.up hg2)) J<|ii 106 J<|gx J<|cl (fu:=⟨0⟩) J (KS hu2) J<|ii 111 J<|gx (fu:=⟨4⟩) J<|cj J J J<|rz J J
def zQ(x:SV):DV:= .v (.slice x.a x.n x.c)
def PT(GB:Gh)(P:Program)(f:FuncId)(ds:List DV)(ty:TypeId)(s2:Nat)(ty2:TypeId)(pts rest:List DV):Prop:=
 ∀G vs,bA GB G->IsLs G ds vs->lc P f vs [] G (fun v own' G'=> ∃(x w:SV) (B B2:List av),v= .slice w.a w.n w.c/\own'=B++B2/\cH G' ⟨w,1,ty,zQ x::rest,true⟩ B/\cH G' ⟨x,s2,ty2,pts,true⟩ B2)
section
variable {n:Nat}{fr':aA}{own:aF}{cf':Cf}{ops:Array Oper}{r:List Oper}{K:List Kt}{a:Act}
def bz.addB(r:bz GB C n tl tb ρ G ov a w){B':Bk}(f1: ∀k f,tl k=some f->f.nm≠some nm)(f2: ∀k B,k≠nm->tb k=some B-> ¬B.men nm)(hB:i6 (fun k=>if k=nm then x else ρ k) G nm B' os)(hos: ∀o∈os,o∈ov)
  (hdj: ∀m B,m≠nm->tb m=some B-> ∀b,(ρ m).a=some ⟨b,0,none⟩->x.a≠some ⟨b,0,none⟩)(hn:nm<2000000):bz GB C n tl (Sx.upB tb [(nm,some B')]) (fun k=>if k=nm then x else ρ k) G ov a w:=by
 refine⟨r.gb,r.h,r.sz,r.df,fun k f e=>?_,fun m B e=>?_,fun m m' B B2 e e' hne=>?_,fun m p hm hm2 e=>?_⟩
 .obtain⟨u,h1,h2⟩:=r.fx k f e
  exact⟨u,h1,h2.ren fun m hm=>pw x fun hc=>f1 k f e (by rw[hm,hc])⟩
 .simp only[Sx.upB] at e
  by_cases hm:m=nm
  .subst hm;simp only[if_true] at e;cases e;exact⟨os,hB,hos⟩
  .simp only[hm,if_false] at e
   obtain⟨os',h1,h2⟩:=r.bx m B e;exact⟨os',h1.ren (if_neg hm) fun q hq=>pw x fun hc=>f2 m B hm e okA,h2⟩
 .simp only[Sx.upB] at e e'
  by_cases hm:m=nm<;>by_cases hm':m'=nm
  .exact absurd (hm.trans hm'.symm) hne
  .subst hm;simp only[hm',if_false] at e'
   intro b hb hb';simp only[if_true] at hb;rw[if_neg hm'] at hb';exact hdj m' B2 hm' e' b hb' hb
  .subst hm';simp only[hm,if_false] at e
   intro b hb hb';simp only[if_true] at hb';rw[if_neg hm] at hb;exact hdj m B hm e b hb hb'
  .simp only[hm,if_false] at e
   simp only[hm',if_false] at e';intro b hb hb';rw[if_neg hm] at hb;rw[if_neg hm'] at hb';exact r.dj m m' B B2 e e' hne b hb hb'
 .have:m≠nm:=by omega
  show(if m=nm then x else ρ m).a=some p;rw[if_neg this];exact r.fxd m p hm hm2 e
def yU(nm ty s:Nat)(hf:oP [nm] none fr own=true)(hn:Nat.ble nm 1999999=true)(h:ao prog GB C n Q0 fr ((nm,some (.p ⟨none,0,0⟩ ty s []))::own) (.code c K)):ao prog GB C n Q0 fr own (.code c K):=by
 refine⟨fun ρ G ov a w r0=>?_⟩;obtain⟨g1,g2⟩:=t7 hf nm aZ;have r1:=r0.addB (nm:=nm) (x:=⟨none,0,0⟩) (B':= .p ⟨none,0,0⟩ ty s []) (os:=[]) (fun k f e=>g1 k f v8 e) g2 ⟨v8,[], .inl ⟨J,J,J⟩,eD.2 J,fun v h=>okh,fun o h=>okh⟩ (fun o ho=>by cases ho) (fun m B hm e b hb hc=>by cases hc) (by have:=oT hn;omega);refine h.run _ G ov a w (r1.mono (iO.refl _) fun k B e=>?_);rw[f7] at e;simp only[Sx.upB];exact e
def yT(k nm nm2:Nat)(hl:aI fr k=some (.rw nm))(hw:aO own nm=some (.b te s ds true))(hne:Nat.beq nm nm2=false)(hf:oP [nm2] none fr own=true)(hn:Nat.ble nm2 1999999=true)
  (h: ∀x:SV,ao prog GB C n Q0 ((k, .d (zQ x))::fr) ((nm2,some (.p x te s ds))::(nm,none)::own) (.ops ops r K)):ao prog GB C n Q0 fr own (.ops ops r K):=by
 refine⟨fun ρ G ov a w r0=>?_⟩;obtain⟨y,hy,hy'⟩:=r0.fx k _ hl;obtain⟨os,⟨vs,h1,h2,h3,h4⟩,h5⟩:=r0.bx nm _ hw;obtain⟨g1,g2⟩:=t7 hf nm2 aZ;have hnn:nm≠nm2:=fun e=>by rw[e,kS] at hne;cases hne
 have hd: ∀(j:Nat) (B:Bk),(Sx.upB (aO own) [(nm,none)]) j=some B->j≠nm/\aO own j=some B:=fun j B e=>by
  simp only[Sx.upB] at e;split at e
  .cases e
  .exact⟨oma,e⟩
 have r1:=(r0.dropB nm).addB (nm:=nm2) (x:=ρ nm) (B':= .p (ρ nm) te s ds) (os:=os) (fun k f e=>g1 k f v8 e) (fun j B hj e=>g2 j B hj (hd j B e).2) ⟨v8,vs,h1,h2,h3,h4 J⟩ h5
  (fun m B hm e b hb hc=>by obtain⟨q1,q2⟩:=hd m B e;exact r0.dj m nm B _ q2 hw q1 b hb hc) (by have:=oT hn;omega)
 refine(h (ρ nm)).run _ G ov a w ⟨r1.gb,r1.h,r1.sz,r1.df,fun j f e=>?_,fun j B e=>?_,fun j j' B B' e e' hne=>?_,r1.fxd⟩
 .rw[i9] at e
  split at e
  .rename_i hj
   cases e;subst hj
   exact⟨y,hy,(bh (G:=G)).2 hy'⟩
  .exact r1.fx j f e
 .exact r1.bx j B (by simpa only[Sx.upB,f7] using e)
 .exact r1.dj j j' B B' (by simpa only[Sx.upB,f7] using e) (by simpa only[Sx.upB,f7] using e') hne
def zO{vs:List Value}(h:i4 s ty x vs B)(hb:x.a=some ⟨b,0,none⟩): ∃o∈B,o.b=b:=by
 rcases h with⟨_,e,rfl⟩|⟨b',rest,lo,e,rfl,_⟩
 .rw[e] at hb;cases hb
 .rw[e] at hb;cases hb;exact⟨_,aZ,J⟩
def zZ{args:Array Operand}{tys:Array TypeId}{gd:Option (Nat×Bool)}(hne:Nat.beq nm2 d=false)(hn2:Nat.ble nm2 1999999=true)(hn3:Nat.ble n nm2=true)
  (ha:n9 lk fo args=some (f,ds))(hF:PT GB prog f ds ty1 s2 ty2 pts rest):D7 GB C n lk bk ⟨some d, .call ⟨.value fo,args,tys⟩,ty,pos,af,gd⟩ SV (fun _=> .rw d) (fun x=>[(d,some (.b ty1 1 (zQ x::rest) true)),(nm2,some (.p x ty2 s2 pts))]) [d,nm2]:=by
 intro hd tl tb K' s1 s2 hf hk;refine⟨fun ρ G ov a w r Q=>?_⟩;have r1:=r.mono s1 s2;obtain⟨h1,h2⟩:=vX ha;obtain⟨y,hy,hy'⟩:=r1.ev h1;rw[(bh (G:=G)).1 hy'] at hy;obtain⟨vs,h3,h4⟩:=r1.evDs h2;refine r6 (M:=[]) (rest:=ov) hy h3 (List.Perm.refl _) (hF G vs r.gb h4) hd (fun v own1 G' hG hK a' w' rl=>?_) a w Q ⟨r.h,r.sz,b9 a,r.df⟩;obtain⟨x,z,B,B2,rfl,rfl,⟨vs',k1,k2,k3,k4⟩,⟨vs2,m1,m2,m3,m4⟩⟩:=hK;rw[FK _ (fun o ho=>(bJ.1 ho).elim (k4 J o) (m4 J o))] at rl;have rl':gh C n (Sx.put (b8 a) (some d) (.slice z.a z.n z.c)) ((B++B2)++ov) G' a' w':=rl;obtain⟨nd1,nd2,hdis⟩:=eY.1 rl'.h.nd;have hdis2:=(eY.1 nd1).2.2;have hnd:nm2≠d:=fun e=>by rw[e,kS] at hne;cases hne
 have hf1:ir [d] (some d) tl tb:=fun q hq=>hf q (by rw[aW.1 hq];exact aZ);have r3:=r.new' (x:=z) (B':= .b ty1 1 (zQ x::rest) true) (os:=B) (ov':=(B++B2)++ov) (f:= .rw d) (y:= .slice z.a z.n z.c) hf1 hG.le rl'.h ⟨vs',by simpa using k1,k2,k3,k4⟩ (fun o ho=>bS _ (bS _ ho))
  (fun q B0 hq e o ho hbq=>⟨cW _ ho,fun hc=>by
   obtain⟨o1,ho1,he1⟩:=zO k1 hc;exact hdis o1 (bS _ ho1) o ho he1⟩) (by simp[bB]) (iA rl')
 obtain⟨g1,g2⟩:=hf nm2 (aK _ aZ);have r4:=r3.addB (nm:=nm2) (x:=x) (B':= .p x ty2 _ pts) (os:=B2) (fun k f e=>by
   simp only[dm] at e;split at e
   .cases e;intro hc;exact hnd (Option.some.inj hc).symm
   .rename_i hkd
    exact g1 k f (fun hc=>hkd (Option.some.inj hc)) e) (fun k B0 hkn e=>by
   simp only[Sx.upB] at e;split at e
   .cases e;exact id
   .exact g2 k B0 hkn e) ⟨v8,vs2,m1,m2,m3,m4 J⟩ (fun o ho=>bS _ (cW _ ho)) (fun q B0 hq e b hb hc=>by
   obtain⟨o2,ho2,he2⟩:=zO m1 hc;simp only[Sx.upB] at e;by_cases hqd:q=d
   .simp only[hqd,if_true] at hb
    obtain⟨o1,ho1,he1⟩:=zO k1 hb;exact hdis2 o1 ho1 o2 ho2 (by rw[he1,he2])
   .simp only[hqd,if_false] at e hb
    obtain⟨os,b1,b2⟩:=r.bx q B0 e;obtain⟨o3,ho3,he3⟩:=b1.mem_of hb;exact hdis o2 (cW _ ho2) o3 (b2 o3 ho3) (by rw[he2,he3])) (by have:=oT hn2;omega)
 exact(hk x).run _ G' _ a' w' r4
def yY[fu:Fu](nm2:Nat){vc:SV->List Prop}{fr':SV->aA}{own':SV->aF}{cf':SV->Cf}(ha:BX fr cf=some (f,ds,d))(hF:PT GB prog f ds ty1 s2 ty2 pts rest)
  (hgo: ∀x,Ak n fu.n fr own cf (.rw d) [(d,some (.b ty1 1 (zQ x::rest) true)),(nm2,some (.p x ty2 s2 pts))]=⟨vc x,fr' x,own' x,cf' x⟩)(k: ∀x,ao prog GB C n Q0 (fr' x) (own' x) (cf' x))(ho:Aj n fr own cf [d,nm2]=true:=by rfl)(hne:Nat.beq nm2 d=false:=by rfl)(hn2:Nat.ble nm2 1999999=true:=by rfl)(hn3:Nat.ble n nm2=true:=by rfl)
  (hv: ∀x,aj (vc x):=by intro;first|exact trivial|(simp only[aj];kernel_rfl)|(simp only[aj];omega)):ao prog GB C n Q0 fr own cf:=by
 unfold BX at ha;split at ha<;>try (cases ha;done)
 rename_i hh;split at ha<;>cases ha;rename_i h1;exact Pf hh ho (zZ hne hn2 hn3 h1 hF) hgo hv k
def zR(C:aD)(ty:TypeId)(s2:Nat)(ty2:TypeId)(pts rest:List DV):Ending->World->Prop:=qj C (fun v own' G'=> ∃(x w:SV) (B B2:List av),v= .slice w.a w.n w.c/\own'=B++B2/\cH G' ⟨w,1,ty,zQ x::rest,true⟩ B/\cH G' ⟨x,s2,ty2,pts,true⟩ B2)
def yX[fu:Fu](hf:prog.funcs[f]? =some fb)(hb:fb.body=some c)(hn:(fb.name== "runtime.NumGoroutine")=false)(hm:fb.ntmps=m)(hlen:Nat.ble ds.length m=true)
  (hgo:go tt m fu.n [] (nH 0 ds) [] (.code c [])=⟨vc,fr,own,cf⟩)(k: ∀C:aD,C.mb=[]->ao prog GB C m (dx C prog fb (zR C ty s2 ty2 pts rest)) fr own cf)
  (hv:autoParam (aj vc) cL._auto_1):PT GB prog f ds ty s2 ty2 pts rest:=by
 intro G vs hg hvs;refine lc.introR hf hb hn hm omS fun C _ hmb hrd hfx=>?_;intro a w rl;refine o7 hrd ?_;have h:=eo (GB:=GB) (C:=C) (Q0:=dx C prog fb (zR C ty s2 ty2 pts rest)) hgo hv (k C ozj);exact h.run (fun _=>⟨none,0,0⟩) G [] a w ⟨hg,rl.h,rl.sz,rl.df,(fun k f e=>tc hvs rl.fr k f e),(fun nm B e=>by cases e),(fun nm nm' B B' e=>by cases e),fun nm p _ _ e=>by rw[hfx] at e;cases e⟩
def yV{t:Nat}(hr:fb.results.toList=[.tmp t])(hl:aI fr t=some (.rw d))(hw:aO own d=some (.b ty 1 rows true))(hw2:aO own nm2=some (.p x ty2 s2 pts'))(er:rows=zQ x::rest)(ep:pts'=pts)(hne:Nat.beq nm2 d=false:=by rfl):
  ao prog GB C n (dx C prog fb (zR C ty s2 ty2 pts rest)) fr own (.ex .ret []):=by
 subst er ep;refine⟨fun ρ G ov a w r=>?_⟩;have hnd:nm2≠d:=fun e=>by rw[e,kS] at hne;cases hne
 obtain⟨B,g1,g2⟩:=r.bx _ _ hw;obtain⟨B2,⟨e0,vs2,m1,m2,m3,m4⟩,q2⟩:=r.bx _ _ hw2;have hB:cH G ⟨ρ d,1,ty,zQ x::rest,true⟩ B:=g1;have hB2:cH G ⟨x,s2,ty2,pts',true⟩ B2:=⟨vs2,m1,m2,m3,fun _=>m4⟩;obtain⟨rst,hp⟩:=xA hB g2;obtain⟨rst2,hp2⟩:=xA (ov:=rst) hB2 fun o ho=>by
  rcases bJ.1 ((hp.mem_iff).1 (q2 o ho)) with h|h
  .have b1:=(show i6 ρ G nm2 (.p x ty2 s2 pts') B2 from⟨e0,vs2,m1,m2,m3,m4⟩).blk ho
   exact absurd (i6.blk g1 h) (r.dj nm2 d _ _ hw2 hw hnd o.b b1)
  .exact h
 obtain⟨y,hy,hy'⟩:=r.ev (x:= .tmp t) (f:= .rw d) hl
 cases (show y=_ from hy')
 exact wK (C:=C) (n:=n) (fr:=b8 a) (own:=ov) (G:=G) (vs:=[.slice (ρ d).a (ρ d).n (ρ d).c]) omK ((B++B2)++rst2) (B++B2) (by rw[fK];exact hp.trans (List.Perm.append_left _ hp2)) (lY _ _) ⟨x,ρ d,B,B2,J,J,hB,hB2⟩ a w ⟨r.h,r.sz,b9 a,r.df⟩
end
section
variable {P:Program}{T:TT}{n:Nat}{a:Act}
variable {t:TypeId}{gd:Option (Nat×Bool)}{x:Operand}{e:Nat}
def yJ{i:TI}{z:DV}[hT:cg P t e s by_][hN:jh P t'](hi:d7 P e=some i)(hz:lv i=some z)(hs:Nat.beq z.cells.length s=true)(hx:ba lk x=some (.ri nm x0))(hb:bk nm=some (.p x0 e s ds))(hy:mH lk bk s y=some ds2)(hk2:cd s ds2)
  (hby:Nat.blt 0 by_=true)(hbd:(ds.length+ds2.length)*by_<=140737488355328)(hnd:Nat.beq nm d=false)(hds:ds++ds2=ds'):
  bD P GB C n lk bk ⟨some d, .call ⟨.builtin .append, #[x,y], #[t,t']⟩,ty',pos,af,gd⟩ (.rw d) [(nm,none),(d,some (.b e s ds' true))] [d]:=by
 intro hd tl tb K s1 s2 hf hk;refine⟨fun ρ G ov a w r Q=>?_⟩;subst hds;have r1:=r.mono s1 s2;obtain⟨v,hz1,hz2,hz3⟩:=ug hi hz;have cz:=((hz2 G).cells hz3).1.len;replace hs:=aR hs;rw[jN] at hby
 have hne:nm≠d:=fun e=>by subst e;simp at hnd
 obtain⟨u,hx',hx2⟩:=r1.ev hx
 cases hx2
 obtain⟨B,⟨hρ,vs,hB,hv,hvs,hlo0⟩,hBo⟩:=r1.bx nm _ hb;have hlo:true=true-> ∀o∈B,o.lo=true:=fun _=>hlo0;subst hρ;obtain⟨w2,us,hy',h2,h3,h4,h5,h6⟩:=wi (P:=P) r1 hy hk2;have hus:(aG us).length=us.length*s:=d6 us h4;have hbd':(vs.length+us.length)*by_<=140737488355328:=by rw[hv.len,h3.len];exact hbd
 have hall: ∀v∈vs++us,(aH v).length=s:=fun v hv=>by
  rcases bJ.1 hv with hv|hv
  .exact hvs v hv
  .exact h4 v hv
 have rd:=r.dropB nm;have hf':ir [d] (some d) tl (Sx.upB tb [(nm,none)]):=fun m hm=>by
  obtain⟨g1,g2⟩:=hf m hm;refine⟨g1,fun k B' hk e=>g2 k B' hk ?_⟩;simp only[Sx.upB] at e;split at e
  .cases e
  .exact e
 have hbk: ∀m B',(Sx.upB tb [(nm,none)]) m=some B'->m≠nm/\tb m=some B':=fun m B' e=>by
  simp only[Sx.upB] at e;split at e
  .cases e
  .exact⟨oma,e⟩
 have hfin: ∀(b:Nat) (cap':Nat) (rest':List Value) (ov1:List av) a' w',vs.length+us.length<=cap'->rest'.length+(vs.length+us.length)*s=cap'*s->(∀o∈ov,(ρ nm).a≠some ⟨o.b,0,none⟩->o∈ov1)->
   gh C n (put (b8 a) (some d) (.slice (some ⟨b,0,none⟩) (vs.length+us.length) cap')) (⟨b,aG (vs++us)++rest',e,true⟩::ov1) G a' w'->K a' w':=by
  intro b cap' rest' ov1 a' w' hc hr ho1 rl;have hnd':=(bN.1 rl.h.nd).1;refine rd.newRow (z:=⟨some ⟨b,0,none⟩,vs.length+us.length,cap'⟩) (B:=[⟨b,aG (vs++us)++rest',e,true⟩]) hf' ⟨vs++us, .inr ⟨b,rest',true,v8,J,d6 _ hall,?_,by simpa using hc⟩,hv.app h3,hall,fun _ o ho=>by rw[aW.1 ho]⟩
   (fun o ho=>by rw[aW.1 ho];exact aZ) (fun m B' hm e o ho hmo=>?_) hk rl
  .rw[d6 _ hall,aU]
   simp only[];omega
  .obtain⟨h7,h8⟩:=hbk m B' e
   have ho2:=ho1 o ho fun hc=>r.dj m nm B' _ h8 (s2 _ _ hb) h7 _ hmo hc;exact⟨aK _ ho2,fun e'=>by cases e';exact hnd' o ho2 J⟩
 rcases hB with⟨e1,e2,e3⟩|⟨b,rest,lo',k3,k4,k5,k6,k7⟩
 .subst e1
  rw[e2] at hx';by_cases hne:us=[]
  .subst hne
   have:ds2=[]:=cV (by rw[<-h3.len];rfl);subst this;rw[h2] at hy';refine Hn hx' hy' hd (fun a' w' rl=>?_) a w Q ⟨r.h,r.sz,b9 a,r.df⟩;refine rd.newRow (z:=⟨none,0,0⟩) (B:=[]) hf' ⟨[], .inl ⟨J,J,J⟩,by simpa using hv,v8,fun _ o ho=>by cases ho⟩ (fun o ho=>by cases ho) (fun m B' hm e o ho hmo=>⟨ho,fun e'=>by cases e'⟩) hk rl
  .have hup:0<us.length:=mQ.2 hne
   rw[h2] at hy' h6;refine Bo (z:=v) (xs:=[]) (ys:=aG us) hx' hy' sA h6 okP hby (by simpa using hbd') hd (fun b cap' hc a' w' rl=>?_) a w Q ⟨r.h,r.sz,b9 a,r.df⟩;exact hfin b cap' (dE v (cap'-us.length)) ov a' w' (by simpa using hc) okn (fun o ho _=>ho) (by simpa using rl)
 .have hl:=hlo J
  subst k4;have hlo':lo'=true:=hl _ aZ;subst hlo';have ha:(ρ nm).a=some ⟨b,0,none⟩:=by rw[k3]
  have hn:(ρ nm).n=vs.length:=by rw[k3]
  rw[ha,hn] at hx';rw[h2] at hy' h6;obtain⟨ov1,o1,o2⟩:=iC.of_mem (hBo _ aZ);refine DF (z:=v) (xs:=aG vs) (ys:=aG us) (rest:=rest) (own1:=ov1) hx' hy' o1 k5 k6 k7 h6 hus h5 hby hbd' (by rw[cz,hs]) hd (fun b' cap' rest' hc hr a' w' rl=>?_) a w Q ⟨r.h,r.sz,b9 a,r.df⟩;rw[<-pg] at rl;exact hfin b' cap' rest' ov1 a' w' hc hr (fun o ho hne=>o2 o ho fun e'=>hne (by rw[ha,e'])) rl
end
section
variable {n:Nat}{fr':aA}{own:aF}{cf':Cf}
def yR(fr:aA)(own:aF)(cf:Cf):Option (Nat×Nat×SV×TypeId×Nat×Nat×List DV×List DV):=match cO fr cf with
 |some ⟨some d, .call ⟨.builtin .append,⟨[x,y]⟩,⟨[t,t']⟩⟩,_,_,_,_⟩=>match di tt t with
  |some ⟨.sl e s b,_,_,_⟩=>match di tt t' with
   |some ⟨.sl _ _ _,_,_,_⟩=>match di tt e with
    |some i=>match lv i with
     |some z=>bif Nat.beq z.cells.length s&&Nat.blt 0 b then(match mH (bH fr cf) (gp fr own cf) s y with
      |some ds2=>match ba (bH fr cf) x with
       |some (.ri nm x0)=>match gp fr own cf nm with
        |some (.p _ e' s' ds)=>bif (Nat.beq e' e&&Nat.beq s' s)&&!Nat.beq nm d then some (d,nm,x0,e,s,b,ds,ds2) else none
        |_=>none
       |_=>none
      |none=>none) else none
     |none=>none
    |none=>none
   |_=>none
  |_=>none
 |_=>none
def yZ[fu:Fu]{e:Nat}(ds':List DV)(h:yR fr own cf=some (d,nm,x0,e,s,b,ds,ds2))(hb0:gp fr own cf nm=some (.p x0 e s ds))(hds:ds++ds2=ds')(ho2:cd s ds2)(hgo:cv tt n fu.n fr own cf (.d (.sl ds')) [(nm,none),(d,none)] [d]=⟨vc,fr',own',cf'⟩)(k:ao prog GB C n Q0 fr' own' cf')
  (hbd:(ds.length+ds2.length)*b<=140737488355328:=by simp;omega)
  (hv:autoParam (aj vc) fn._auto_1):ao prog GB C n Q0 fr own cf:=by
 unfold yR at h;split at h<;>try (cases h;done)
 rename_i hh;split at h<;>try (cases h;done)
 rename_i hT;split at h<;>try (cases h;done)
 rename_i hT';split at h<;>try (cases h;done)
 rename_i hi;split at h<;>try (cases h;done)
 rename_i hz;rw[cond_eq_ite] at h;split at h<;>try (cases h;done)
 rename_i hc;simp only[bV] at hc;split at h<;>try (cases h;done)
 rename_i hy;have:=ji (dw _ _ hT) J;have hN:jh prog _:=⟨_,(ji (dw _ _ hT') J).un⟩;split at h<;>try (cases h;done)
 rename_i hx;split at h<;>try (cases h;done)
 rename_i hb;rw[cond_eq_ite] at h;split at h<;>cases h;rename_i hq;simp only[bV,fN] at hq
 cases aR hq.1.1
 cases aR hq.1.2
 exact us hh (bD.frz2 J (yJ (dw _ _ hi) hz hc.1 hx hb0 hy ho2 hc.2 hbd hq.2 hds) fun _ _ _ _ _ _ _ r hb=>r.frzRow hb) hgo hv k
def yW[fu:Fu](nm2:Nat)(h:Cz fr own cf=some ⟨ds,k',j,ag⟩)(he:ds[k']? =some (zQ x))(hl:vg ag (zQ x).cells j=some (zQ x))(hgo:cv tt n fu.n fr own cf (.ri nm2 x) [] []=⟨vc,fr',own',cf'⟩)(k:ao prog GB C n Q0 fr' own' cf')
  (hv:autoParam (aj vc) fn._auto_1):ao prog GB C n Q0 fr own cf:=by
 unfold Cz at h;split at h<;>try (cases h;done)
 rename_i hh;split at h<;>try (cases h;done)
 rename_i hx;split at h<;>try (cases h;done)
 rename_i ty s ds' lo hb;rw[cond_eq_ite] at h;split at h<;>try (cases h;done)
 rename_i hs
 cases aR hs
 split at h<;>try (cases h;done)
 rename_i hT;split at h<;>cases h;rename_i ha;exact us hh (bD.to (JX (dw _ _ hT) ha hx hb he (show(zQ x).okc=true from J) hl) fun ρ G y hy=>show bB ρ G (.ri nm2 x) y from(bh (G:=G)).1 hy) hgo hv k
end
def yE(hb: ∀p∈ps,aE p 1200)(hn:ps.length<=1000000):PR GB prog 11 [.sl (ps.map eP)] 6 52 (ps.map fe):=by
 have hm:=fp eP ps;refine xC (fu:=⟨15⟩) func11 J J ntmps11 J J (fun C hmb=>?_);refine ah 7 (.d (vI (ps.length:Nat))) J omr<|gx J<|nr 3 3 52 6 J J J<|lp (X:=Nat) (fun k=>[(8, .d (vI (k:Nat))),(3, .rw 3)]) (fun k=>[(3,some (.b 52 6 ((ps.take k).map fe) true))]) (fun k=>k<=ps.length) (fun k=>ps.length-k) 0 J (aL _) (fun _=>J) (fun k hk=>?_);have hml:=fp fe (ps.take k);rw[bR] at hml;refine br J J J (fun hc9=>?_) (fun hc9=>?_)
 .
  obtain⟨z,hz⟩: ∃s,ps[k]? =some s:=⟨_,aQ pb⟩;have hzm:=aV hz;refine ix _ J (bF hz) J<|cl J (se (p:=z) (h:=hb z hzm)) J<|rf J J<|ap ((ps.take (k+1)).map fe) J (oI hz) (xM [z]) J<|dq 16 3 J<|at_ (k+1) ⟨pb,pb⟩
 .
  obtain rfl:k=ps.length:=by omega
  exact ze J J J (by rw[cS])
def zT(rs:List (List ab))(x:SV):Nat->List DV
 |0=>[]
 |k+1=>zQ x::(rs.take k).map c9
def yS(r0:List ab):Nat->List DV
 |0=>[]
 |_+1=>r0.map fe
def zW(rs:List (List ab))(x:SV)(k:Nat):(zT rs x k).length<=k:=by
 cases k with
 |zero=>exact bZ _
 |succ k=>show((rs.take k).map c9).length+1<=k+1;rw[aX,bR];omega
def yH{rs:List (List ab)}(hb: ∀r∈r0::rs,(∀p∈r,aE p 1200)/\r.length<=1000)(hn:rs.length<=100000000):PT GB prog 10 [.sl ((r0::rs).map jy)] 45 6 52 (r0.map fe) (rs.map c9):=by
 have hm1:((r0::rs).map jy).length=rs.length+1:=by simp
 obtain⟨h1,h2⟩:=hb r0 aZ;refine yX (fu:=⟨15⟩) func10 J J ntmps10 J J (fun C hmb=>?_);refine ah 7 (.d (vI (rs.length+1:Nat))) J omA<|gx J<|nr 3 3 45 1 J J J<|yU 1900000 52 6 J J<|lp (X:=Nat×SV) (fun q=>[(8, .d (vI (q.1:Nat))),(3, .rw 3)]) (fun q=>[(3,some (.b 45 1 (zT rs q.2 q.1) true)),(1900000,some (.p q.2 52 6 (yS r0 q.1)))]) (fun q=>q.1<=rs.length+1) (fun q=>rs.length+1-q.1) (0,⟨none,0,0⟩) J (aL _) (fun _=>J) (fun q hq=>?_);obtain⟨k,x⟩:=q;have hk:k<=rs.length+1:=hq;have hml:=zW rs x k;refine br J J J (fun hc9=>?_) (fun hc9=>?_)
 .rcases k with _|k
  .refine ix (fu:=⟨1⟩) _ J (show((r0::rs).map jy)[0]? =some (jy r0) from J) J<|ah 11 (.d (.sl (r0.map eP))) J J<|gx J<|cr (fu:=⟨0⟩) J (yE (ps:=r0) h1 pb) J<|yT 14 14 1900000 J J J J J (fun x'=>?_)
   refine rf J J<|ap (zT rs x' 1) (hbd:=by show(0+1)*_<=_;decide) J J (fun d hd=>by rw[aW.1 hd];exact⟨J,J⟩) J<|dq 16 3 J<|at_ (1,x') ⟨(by show 1<=rs.length+1;omega),(by show rs.length+1-1<rs.length+1-0;omega)⟩
  .have hkr:k<rs.length:=by have:((k+1:Nat):Int)<((rs.length+1:Nat):Int):=hc9;omega
   obtain⟨r,hx⟩: ∃s,rs[k]? =some s:=⟨_,aQ hkr⟩;obtain⟨g1,g2⟩:=hb r (aK _ (aV hx));have hx2:((r0::rs).map jy)[(((k+1:Nat):Int)).toNat]? =some (jy r):=by rw[dQ,cY,List.getElem?_cons_succ,hx];rfl
   refine ix (fu:=⟨1⟩) _ J hx2 J<|ah 11 (.d (.sl (r.map eP))) J J<|gx J<|cl J (w5 (ps:=r) g1) J<|rf J J<|ap (zT rs x (k+2)) J (by show zQ x::((rs.take k).map c9++[c9 r])=zQ x::(rs.take (k+1)).map c9;rw[oI hx]) (E0 [r]) J<|dq 16 3 J<|at_ (k+2,x) ⟨(by show k+2<=rs.length+1;omega),(by show rs.length+1-(k+2)<rs.length+1-(k+1);omega)⟩
 .have hkr:k=rs.length+1:=by have: ¬((k:Nat):Int)<((rs.length+1:Nat):Int):=hc9;omega
  subst hkr;refine gx J<|?_;exact yV (nm2:=1900000) J J J J (by show zQ x::(rs.take rs.length).map c9=_;rw[cS]) J
theorem yQ:aE (iP 9 9) 1200:=⟨BQ.int1200,BQ.int1200⟩
def yP(h: ¬kj 8 p): ¬(p.x=(iP 9 9).x/\p.y=(iP 9 9).y):=fun⟨e,_⟩=>h (.inr (.inl (by rw[e];decide+kernel)))
def zY{a b d:ab}(hb: ∀p∈[a,b,d],aE p 1200)[hq:aE q 1200](h:0<bc a b d)(hd: ¬(d.x=q.x/\d.y=q.y))(ha: ¬(a.x=q.x/\a.y=q.y)):pu 1200 [a,b,d,q]:=by
 have h0:bc a b d≠0:=fun e=>by rw[e] at h;exact absurd h v6
 have e1: ¬(a.x=b.x/\a.y=b.y):=fun⟨k1,k2⟩=>h0 omL;have e2: ¬(b.x=d.x/\b.y=d.y):=fun⟨k1,k2⟩=>h0 omL;have e3: ¬(a.x=d.x/\a.y=d.y):=fun⟨k1,k2⟩=>h0 omL;refine⟨fun p hp=>?_,v8,YR (fun e=>e1 (by rw[e];exact⟨J,J⟩)) (fun e=>e3 (by rw[e];exact⟨J,J⟩)) (fun e=>e2 (by rw[e];exact⟨J,J⟩)),fun k p r hp hr=>?_⟩
 .rcases bJ.1 (show p∈[a,b,d]++[q] from hp) with h|h
  .exact hb p h
  .rw[aW.1 h];exact hq
 .match k with
  |0=>obtain rfl:a=p:=Option.some.inj hp;obtain rfl:b=r:=Option.some.inj hr;exact e1
  |1=>obtain rfl:b=p:=Option.some.inj hp;obtain rfl:d=r:=Option.some.inj hr;exact e2
  |2=>obtain rfl:d=p:=Option.some.inj hp;obtain rfl:q=r:=Option.some.inj hr;exact hd
  |3=>obtain rfl:q=p:=Option.some.inj hp;obtain rfl:a=r:=(by simpa using hr);exact fun⟨k1,k2⟩=>ha ⟨k1.symm,k2.symm⟩
  |k+4=>simp at hp
def yC{r:List ab}(h: ∃a b d,r=[a,b,d]/\0<bc a b d)(hb: ∀p∈r,aE p 1200):pu 1200 r:=by
 obtain⟨x,y,z,rfl,k⟩:=h;exact zM hb (fun e=>by rw[e] at k;exact absurd k v6)
def yK{a b d:ab}{rest:List (List ab)}(hb: ∀p∈[a,b,d],aE p 1200)(h:0<bc a b d)(hd: ¬kj 8 d)(ha: ¬kj 8 a)(hr: ∀r∈rest,pu 1200 r): ∀r∈[a,b,d,iP 9 9]::rest,pu 1200 r:=fun r h2=>by
 haveI:=yQ;rcases aT.1 h2 with rfl|h2
 .exact zY hb h (yP hd) (yP ha)
 .exact hr r h2
def yN(hE:kt GB ai al au ar)(hb:es0.length<=1125899906842624)(hn: -9223372036854775808<=n/\n<9223372036854775808)(he:(n.tmod 5+5).tmod 5=e)(h0:0<((b7 (cx (es0.take 400) 1 0).1).flatMap d9).length)(e0:e=1):PF GB prog 3 [.sl (es0.map vI),vI n] (.v (.bool true)):=by
 obtain⟨es,hee⟩: ∃es,es=es0.take 400:=⟨_,rfl⟩;have hes:es.length<=400:=by rw[hee];simp;omega
 rw[<-hee] at h0;obtain⟨A,hAe⟩: ∃A,A=(cx es 1 0).1:=⟨_,rfl⟩;obtain⟨hA,hbd,hal,hr⟩:=BD (es:=es) (a:=0) (d:=1) (aL _);rw[<-hAe] at hA hbd hr;obtain⟨ts,hts⟩: ∃ts,ts=(b7 A).flatMap d9:=⟨_,rfl⟩;have htb:=wX hA;rw[<-hts] at htb;have hpos:=z' hA.ok hbd hts;obtain⟨p,hpe⟩: ∃p,p=(pP es (cx es 1 0).2).1:=⟨_,rfl⟩;haveI hpb:aE p 1200:=by rw[hpe];exact(Ae hal).1
 have htm:=zL n;have hm1:(ts.map jy).length=ts.length:=aX ..;have hm2:(ts.map c9).length=ts.length:=aX ..;have hbt: ∀r∈ts,(∀p∈r,aE p 1200)/\r.length<=1000:=fun r hr=>⟨(htb.2 r hr).1,by rw[(htb.2 r hr).2];decide⟩;rw[<-hAe,<-hts] at h0;obtain⟨r,rest,hrs⟩:=List.exists_cons_of_length_pos h0;have hx:ts[0]? =some r:=by rw[hrs];rfl
 obtain⟨a,b,d,hr3,hpos3⟩:=hpos r (aV hx);have hrb:=(htb.2 r (aV hx)).1;subst hr3;have hnear:=zV hA.ok hbd (R:=8) (by rw[hAe];exact yL (d:=1) (aL _)) hts _ (aV hx);haveI h99:=yQ;have hrl:rest.length+1=ts.length:=by rw[hrs];rfl
 have hApi:=yH (GB:=GB) (r0:=[a,b,d]) (rs:=rest) (by rw[<-hrs];exact hbt) pb;rw[<-hrs] at hApi;have hm5: ∀x0:SV,(zQ x0::rest.map c9).length=ts.length:=fun _=>by rw[hrs];simp
 have hto: ∀r∈[a,b,d,iP 9 9]::rest,pu 1200 r:=yK hrb hpos3 (hnear d v8) (hnear a v8) (fun r hr=>have hr2:r∈ts:=hrs▸aK _ hr;yC (hpos r hr2) (htb.2 _ hr2).1);have hbad: ∀r,([a,b,d,iP 9 9]::rest)[0]? =some r->r.length=3->oG r=false:=fun r hr h3=>by cases hr;exact absurd h3 v8
 refine fn func3 J J ntmps3 J J (fun C=>?_);refine cn J ((zt hb hee)) (fun _=>J) (fun _=>?_);refine cm J (fun b=>(zB hes hAe)) J<|cl J (AF hA v6 hr hts) J<|cm J (fun b=>(zG hes hal hpe)) J<|yY (fu:=⟨0⟩) 1900000 J hApi (fun _=>J)<|?_;intro x0;have hm6:=hm5 x0;refine gx (fu:=⟨13⟩) J<|ah 30 (.d (vI (ts.length:Nat))) J (by rw[hm5]<;>rfl)<|gx (fu:=⟨6⟩) J<|cj (fu:=⟨9⟩) J (omc pb) J<|ah 36 (.d (vI e)) J okZ<|gx (fu:=⟨5⟩) J<|bG (fu:=⟨6⟩) J (omd pb) J<|cj (fu:=⟨9⟩) J (omc pb) J<|yW 1900000 J J J J<|cl J (kB (m:=9) (n:=9)) J<|cl J (se (p:=iP 9 9) (i:=1200)) J<|rf (fu:=⟨0⟩) J J<|yZ ([a,b,d,iP 9 9].map fe) (hbd:=v8) J J J (xM [iP 9 9]) J<|sb _ (c9 [a,b,d,iP 9 9]::rest.map c9) J J J J J<|gl J hE.ErrRing J<|cl J (se (p:=p) (i:=1200)) J<|fz 28 J J<|cl J (OF hE hto (i:=1200) v6 omk (j:=0) v8 hbad (p:=p)) J<|cl (fu:=⟨12⟩) J (OY hE hto (i:=1200) v6 omk (j:=0) v8 hbad) J<|cj J J J<|cl (fu:=⟨0⟩) J (w9 hE.toBV) J<|ii 102 J<|gx J<|cl (fu:=⟨0⟩) J Cb J<|ii 106 J<|gx J<|cl (fu:=⟨0⟩) J Cb J<|ii 111 J<|gx (fu:=⟨4⟩) J<|cj J J J<|rz J J
def zJ(hE:kt GB ai al au ar)(hb:es0.length<=1125899906842624)(hn: -9223372036854775808<=n/\n<9223372036854775808):PF GB prog 3 [.sl (es0.map vI),vI n] (.v (.bool true)):=by
 obtain⟨e,he⟩: ∃e,(n.tmod 5+5).tmod 5=e:=⟨_,rfl⟩;by_cases h0:0<((b7 (cx (es0.take 400) 1 0).1).flatMap d9).length
 .by_cases e0:e=0
  .exact yO hE hb hn he h0 e0
  .by_cases e1:e=1
   .exact yN hE hb hn he h0 e1
   .by_cases e2:e=2
    .exact yM hE hb hn he h0 e2
    .exact yG hE hb hn he (.inr ⟨e0,e1,e2⟩)
 .exact yG hE hb hn he (.inl pb)
end Go.Sx
end
section
namespace Go.Sx
open Go Go.Proofs Go.ChangeShapes Go.WideShapes Go.ChangeAt Go.RowKit
variable {w w' W:World}{off base g:Nat}{v:Value}{H:Type}{P:Program}
def GW(w:World):Gh:=fun b=>match w.heap[b]? with|some (.cells cs _ _)=>some cs.toList|_=>none
def GW.sub{b:Nat}{cs:List Value}(h:GW w b=some cs): ∃ty fz,w.heap[b]? =some (.cells ⟨cs⟩ ty fz):=by
 unfold GW at h;split at h
 .rename_i c t f e
  cases h
  exact⟨t,f,by rw[e]⟩
 .cases h
def GW.of_cell{b:Nat}(h:w.cell? ⟨b,off,none⟩=some v): ∃cs,GW w b=some cs/\cs[off]? =some v:=by
 unfold World.cell? at h;unfold GW;split at h
 .rename_i c t f e
  simp only at e;refine⟨c.toList,by rw[e],?_⟩;simpa using h
 all_goals first|(rename_i e;cases h)|cases h
def bu.below{G G':Gh}{own:List av}(h:bu ⟨w,G,[],[],[],none,fun _=>none⟩ own G' w'):Below w.heap.size w w':=
 ⟨h.os,h.tape,h.output,h.size,fun k hk=>h.keep k hk v8⟩
def isLs_vI{G:Gh}: ∀es:List Int,IsLs G (es.map vI) (es.map fun n=>Value.int .i64 n)
 |[]=> .nil
 |n::t=> .cons (bh.2 J) (isLs_vI t)
def open_vI{enc:TypeId×Value->H}{t e:TypeId}{d:DataW H}{ps:List MemPlace}(ht:P.underlying t=some (.slice e))(he:P.underlying e=some (.int .i64))(hc:P.cellsOf e=1)
  (hv:Value.okWide P w .any base t v)(h:DataW.Trod enc P w 0 (fun _=>true) true t v d ps):
  ∃es:List Int,Is (GW w) (.sl (es.map vI)) v/\(d= .nil/\es=[]\/ ∃sp,d= .slice (lits .i64 es) sp)/\(∀n∈es,(Lit.int .i64 n).wf=true):=by
 obtain⟨a0,len,cap,rfl⟩:=okWide_slice ht hv;obtain⟨fuel,hf⟩:=h;rcases open_ints ht he hc hf with⟨hcs,hx⟩|⟨a,len',cap',zs,hcs,_,hl,hm,hz,hx,hcell,hwz⟩
 .simp[Value.cells] at hcs
  obtain⟨rfl,rfl,rfl⟩:=hcs;simp only[Prod.mk.injEq] at hx;exact⟨[],ie.2 ⟨0,⟨none,0,0⟩,[],J,gy.nil _ 0, .nil⟩, .inl ⟨hx.1,J⟩,v8⟩
 .simp[Value.cells] at hcs
  obtain⟨rfl,rfl,rfl⟩:=hcs;simp only[Prod.mk.injEq] at hx;simp only[if_true] at hz;refine⟨zs.take len,ie.2 ⟨1,⟨some a,len,cap⟩,(zs.take len).map fun n=>Value.int .i64 n,J,⟨by simp;omega,hl,?_⟩,isLs_vI _⟩, .inr ⟨_,hx.1⟩,fun n hn=>hwz n (dW hn)⟩;by_cases h0:len=0
  .exact .inl (by simp[h0])
  .right
   obtain⟨b,off,spot⟩:=a;have hspot:spot=none:=by simpa[Addr.add] using World.cell?_spot (hcell 0 pb)
   subst hspot;have c0: ∀i,i<zs.length->w.cell? ⟨b,off+i,none⟩=some (.int .i64 (zs.getD i 0)):=fun i hi=>by
    have:=hcell i hi;rwa [Go.WideShapes.add_plain] at this
   obtain⟨cs,hcs,_⟩:=GW.of_cell (by have h9:=c0 0 pb;rw[gW] at h9;exact h9);refine⟨b,off,cs,J,hcs,fun i hi=>?_⟩;simp only[aX,bR] at hi;obtain⟨cs',hcs',hi'⟩:=GW.of_cell (c0 i pb);rw[hcs] at hcs'
   cases hcs'
   rw[kY,S2.2 hi'];simp[aH,List.getD,aQ (show i<zs.length by omega)]
inductive CSh where
 |b
 |i (k:IntKind)
 |sl (ag:Bool) (l:List CSh)
mutual
def Fit:CSh->DV->Prop
 | .b,d=> ∃b,d= .v (.bool b)
 | .i k,d=> ∃n,d= .v (.int k n)/\(Lit.int k n).wf=true
 | .sl ag l,d=> ∃m:List DV,d= .sl m/\m.length<=maxLen/\ ∀x∈m,∃ys,FitL l ys/\((ag=true/\x= .ag ys)\/(ag=false/\ys=[x]))
def FitL:List CSh->List DV->Prop
 |[],ds=>ds=[]
 |s::l,ds=> ∃d t,ds=d::t/\Fit s d/\FitL l t
end
section
variable {enc:TypeId×Value->H}
end
def es_star: "*" ++ "errors.errorString" = "*errors.errorString" :=by decide
def es_row(u:TypeId)(h:Tryz.prog.typeName? 3 u=some "*errors.errorString"):u=441:=
 typeName_ptr_named (nm:= "errors.errorString") (by rw[es_star];kernel_rfl) we v6 u (by rw[es_star];exact h)
def sent_of{n:String}{text:List UInt8}{r:List (String×DataW Unit)}(h:laidMet Tryz.prog ((n, .iface "*errors.errorString" (.ptr (.agg [.lit (.string text)])))::r) W)(hg:Tryz.prog.globalNamed n=some g)(ht:(Tryz.prog.globals[g]?).map (·.type)=some 41):
  ∃a,GW W g=some [.iface 441 (.pointer (some a))]:=by
 obtain⟨a,s,hv,_⟩:=laid_sentinel h hg ht Tryz.underlying41 es_row Tryz.underlying441 Tryz.underlying466 rfl rfl Tryz.underlying9 we we;refine⟨a,?_⟩;unfold World.var? at hv;rw[hg,Option.bind_some] at hv;unfold GW;split at hv
 .rename_i c t f e
  rw[e];cases hv;rfl
 .cases hv
def laid_plain{l:List (String×DataW Unit)}(h:laidMetH Tryz.prog l W)(hp:(l.all fun x=>x.2.handleName?.isNone)=true):laidMet Tryz.prog l W:=by rwa [Go.MakeChecks.laidMetH_plain _ _ _ hp] at h
end Go.Sx
end
section
namespace Go.Proofs.YtmdgdhokaffbkaaGreatDoor
open Go.ChangeShapes Go.WideShapes Go.ChangeAt Go.RowKit Go.Sx
theorem js1:mapsRowed Tryz.pinned.checked.prog=true:=by kernel_rfl
theorem js2:Tryz.pinned.checked.prog.stopsHeard=true:=by kernel_rfl
theorem js3:Tryz.pinned.checked.prog.mayEnter=true:=by kernel_rfl
theorem js4:laidOutB Tryz.prog=true:=by kernel_rfl
end Go.Proofs.YtmdgdhokaffbkaaGreatDoor
end
section
namespace Go.Proofs.YtmdgdhokaffbkaaGreatDoor.tilingFinds
open Go.ChangeShapes Go.WideShapes Go.ChangeAt Go.RowKit Go.Sx
theorem own:ownKnob Tryz.prog.godebug=none:=by kernel_rfl
theorem laidOut:laidOutB Tryz.prog=true:=js4
theorem cellsI:Tryz.prog.cellsOf 3=1:=by kernel_rfl
theorem bytesI:Tryz.prog.bytesOf 3=8:=by kernel_rfl
theorem door_met(os:Os)(args:Array Value):laidMetH Tryz.prog Rows.tilingFindsRow.laid ((World.doorLaid Tryz.prog 100 os).forCall (fun _ _=>0) ⟨#[],args,[]⟩).memory:=
 laidMetH_of_parts3 (fuel:=8) (laidMet_of_run' 8 we we) we we
theorem wf_i64{n:Int}(h:(Lit.int .i64 n).wf=true): -9223372036854775808<=n/\n<9223372036854775808:=by
 simp only[Lit.wf,Bool.and_eq_true,decide_eq_true_eq] at h;have e1:IntKind.i64.min= -9223372036854775808:=J;have e2:IntKind.i64.max=9223372036854775807:=J;omega
theorem eg_of{W:World}(h:laidMetH Tryz.prog Rows.tilingFindsRow.laid W): ∃ai al au ar,kt (GW W) ai al au ar:=by
 have h1:=laid_plain h J;obtain⟨ai,hi⟩:=sent_of (g:=1) h1.tail.tail.tail we we;obtain⟨au,hu⟩:=sent_of (g:=3) h1.tail.tail.tail.tail.tail we we;obtain⟨al,hl⟩:=sent_of (g:=2) h1.tail.tail.tail.tail.tail.tail we we;obtain⟨ar,hr⟩:=sent_of (g:=0) h1.tail.tail.tail.tail we we;exact⟨ai,al,au,ar,⟨⟨hi,hl⟩,hu⟩,hr⟩
theorem contract(H:Type)(enc:TypeId×Value->H)(W:World)(base:Nat)(args:Array Value)(ds gs:List (DataW H))(before:List MemPlace)
  (hval: ∀(j:Nat) t v,Tryz.f3.params[j]? =some t->args[j]? =some v->Value.okWide Tryz.prog W .any base t v)
  (hW:DataW.Whole enc Tryz.prog Tryz.f3.params.toList Rows.tilingFindsSpec.vars false W args.toList ds gs before)
  (hz:(DataW.weightsEach Tryz.prog (Tryz.f3.params.toList++(OpenSpec.ofChange Rows.tilingFindsSpec).bare.plain.varTypes Tryz.prog) (ds++gs)).all (· <=reachBytes)=true)(hlaid:laidMetH Tryz.prog Rows.tilingFindsRow.laid W):
  Calls Tryz.prog 3 args W fun e W'=> ∃v,e= .returned v/\Rows.tilingFindsSpec.post enc Tryz.prog Tryz.f3 false true false false W args v W':=by
 have hW':=hW;obtain⟨p,q,hA0,hV,rfl,_,_⟩:=hW;have hA:DataW.TrodAll enc Tryz.prog W 0 (fun _=>true) true Tryz.f3.params.toList args.toList ds p:=hA0;rw[Tryz.params3] at hA hval hz;obtain⟨v0,v1,d0,d1,p0,p1,hargs,rfl,rfl,h0,h1⟩:=trodAll_two hA;subst hargs;obtain⟨rfl,rfl⟩:=trodVars_none hV;obtain⟨n1,rfl,rfl,rfl,w1⟩:=open_int Tryz.underlying3 (hval 1 3 v1 rfl rfl) h1;clear hA0;simp only[List.append_nil] at hW';have hlt: ∀x∈p0,x.block<W.heap.size:=fun x hx=>by simpa using hW'.lt x hx
 obtain⟨es,hI,hd,_⟩:=open_vI Tryz.underlying22 Tryz.underlying3 cellsI (hval 0 22 v0 rfl rfl) h0;have hb:es.length<=1125899906842624:=by
  rcases hd with⟨rfl,rfl⟩|⟨sp,rfl⟩
  .exact Nat.zero_le _
  .have:=sized_slice hz (j:=0) (t:=22) (e:=3) J J Tryz.underlying22
   rw[bytesI] at this;have hr:=reachBytes_lt;have hl:(lits (H:=H) .i64 es).length=es.length:=by simp[lits]
   rw[hl] at this;omega
 obtain⟨ai,al,au,ar,hE⟩:=eg_of hlaid;have hf:=(zJ hE (es0:=es) hb (n:=n1) (wf_i64 w1)) (GW W) [v0, .int .i64 n1] (bA.refl _) (.cons hI (.cons (bh.2 J) .nil));refine(hf.run W (fun b cs hg=>GW.sub hg)).mono fun e W' ⟨v,G',he,hr,hv⟩=>?_;rw[bh] at hv;subst hv;subst he;have hn:=hr.below;have t2:=trodAll_mk2 (Below.trod laidOut we (of_decide_eq_true we) h0 hn hlt) (shut_int Tryz.underlying3 w1);simp only[List.append_nil] at t2;exact⟨_,J,⟨_,_,_,[],_,[],hW',trodAll_mk1 (shut_bool Tryz.underlying4 _),t2,J,hn.frame _,fun h=>by cases h⟩⟩
theorem reads(os:Os){H:Type}(enc:TypeId×Value->H): ∃places,DataW.whole enc Tryz.prog ((World.doorLaid Tryz.prog 100 os).forCall (fun _ _=>0) ⟨#[], #[.slice none 0 0, .int .i64 0],[]⟩).memory Tryz.f3.params.toList Rows.tilingFindsSpec.vars false #[Value.slice none 0 0, .int .i64 0].toList 8=some ([.nil, .lit (.int .i64 0)],[],places):=
 ⟨[],we⟩
theorem lifted(os:Os)(started:os.Started)(H:Type)(enc:TypeId×Value->H)(F:Stop.Interp):
  ReturnsInHanded {} Tryz.checked os 3 .any ((OpenSpec.ofChange Rows.tilingFindsSpec).preRow enc Tryz.prog Tryz.f3 Rows.tilingFindsRow.domain false Rows.tilingFindsRow.laid) (((OpenSpec.ofChange Rows.tilingFindsSpec).at F).post enc Tryz.prog Tryz.f3 false true false false):=by
 obtain⟨places,hx⟩:=reads os enc;refine returnsInHanded_of_row (C:=Tryz.checked) (s:=OpenSpec.ofChange Rows.tilingFindsSpec) own started we Tryz.func3
  (witness_row_atRef (enc:=enc) (C:=Tryz.checked) false (World.doorLaid Tryz.prog 100 os) #[.slice none 0 0, .int .i64 0] rfl we we we
   (OpenSpec.preRow_of_cond 8 hx we (fun k hk=>by cases hk) we (door_met os _))) ?_
 intro W base args ds gs before hval hW _ _ hz hlaid _ _;exact contract H enc W base args ds gs before hval hW hz hlaid
theorem j1:(Rows.tilingFindsRow.inPlace==Tryz.pinned.checked.prog.inPlace 3)=true:=by kernel_rfl
theorem j2:(Rows.tilingFindsRow.unfollowed==Tryz.pinned.checked.prog.unfollowed 3)=true:=by kernel_rfl
theorem j3:(Rows.tilingFindsRow.recurses==Tryz.pinned.checked.prog.recurses 3)=true:=by kernel_rfl
theorem j4:(Rows.tilingFindsRow.named==Tryz.pinned.checked.prog.varsNamed 3)=true:=by kernel_rfl
theorem j5:laidOutB Tryz.pinned.checked.prog=true:=laidOut
theorem j6:mapsRowed Tryz.pinned.checked.prog=true:=js1
theorem j7:Tryz.pinned.checked.prog.mainIs=some (Rows.tilingFindsCard.stood.harness.1,Rows.tilingFindsCard.stood.harness.2.toList):=by kernel_rfl
theorem j8:false=Rows.tilingFindsRow.goesBy Tryz.pinned.checked.prog:=by kernel_rfl
theorem j9:(Rows.tilingFindsRow.plainKeys==Tryz.pinned.checked.prog.plainKeys)=true:=by kernel_rfl
theorem j10:(Rows.tilingFindsRow.lifted==Tryz.pinned.checked.prog.liftsFinal)=true:=by kernel_rfl
theorem j11:(Tryz.pinned.checked.prog.make==some Rows.tilingFindsRow.make)=true:=by kernel_rfl
theorem closed:joinedFacts Tryz.pinned.checked.prog 3 Tryz.f3 (OpenSpec.ofChange Rows.tilingFindsSpec).bare Rows.tilingFindsRow=true:=by
 unfold joinedFacts;rw[j1,j2,j3,j4,j5,j6,j9,j10,j11,js2,js3]
 kernel_rfl
theorem said:Rows.TilingFindsSaid:=
 OpenClaim.holds_of_cond 3 Tryz.f3 J J J J J J J ⟨J,J,J,J,J⟩ J J J J J we Tryz.func3 closed
  (of_decide_eq_true we) (by unfold Func.isWrapper;first|(rw[if_pos (by decide+kernel)];kernel_rfl)|(rw[if_neg (by decide+kernel)];exact⟨J,J⟩))
  (fun os started H enc _ F=>by rw[OpenClaim.pre_eq_preRow];exact lifted os started H enc F)
theorem plain(f:FuncId)(fn:Func)(hf:Tryz.pinned.checked.prog.funcNamed "bspregion/bspregionlaw30.TilingFinds" =some f)(hfn:Tryz.pinned.checked.prog.funcs[f]? =some fn):
  true=Tryz.pinned.checked.prog.looks []/\ ∀(j:Nat) t,fn.params[j]? =some t->Tryz.pinned.checked.prog.wantsStandIn t=false:=by
 obtain rfl:f=3:=Option.some.inj ((show Tryz.prog.funcNamed "bspregion/bspregionlaw30.TilingFinds" =some 3 by kernel_rfl).symm.trans hf) |>.symm;obtain rfl:fn=Tryz.f3:=(Option.some.inj (Tryz.func3.symm.trans hfn)).symm;refine⟨we,fun j t ht=>?_⟩;rw[Tryz.params3] at ht;have hm:=Array.mem_of_getElem? ht;simp only[List.mem_toArray,List.mem_cons,List.not_mem_nil,or_false] at hm;rcases hm with rfl|rfl
 .exact(show Tryz.prog.wantsStandIn 22=false by kernel_rfl)
 .exact(show Tryz.prog.wantsStandIn 3=false by kernel_rfl)
theorem card:Rows.TilingFindsCardSaid:=
 Claim7.holds_tied_plain_at .later [] _ _ _ _ said (fun _ h=>by cases h) we (fun _ h=>by cases h) tilingFinds_row_tie J ⟨J,J⟩ j7 J plain j8
#print axioms card
end Go.Proofs.YtmdgdhokaffbkaaGreatDoor.tilingFinds
end
