import Derived.Test.YtmbbejdimfkkcaaGreatDoorMo21
import Derived.Test.YtmbbejdimfkkcaaGreatDoorCards
import Derived.Test.YtmbbejdimfkkcaaGreatDoorTie
import Derived.WalkKit
import Derived.ProofKit
import Derived.OpenShut
import Derived.Deep.DeepHandedRow
import Derived.Deep.DeepWitnessRowRef
import Derived.LaidMore
import Derived.Lib.LaidTab
import Derived.SizedLaws
import Derived.Stop.LaidErr
import Derived.MakeChecks
set_option linter.all false
set_option maxHeartbeats 2000000
set_option maxRecDepth 100000
section
namespace Go.Sx
open Go Go.Proofs Tryz
variable {GB:Gh}
structure BrS (V:List ah):Prop where
 br:eO V
 df:Af (aC V)
 w2: ∀e∈aC V,wE (aB e) (aC V)<=2
 ax:(aC V).length<=3\/((aC V).length=4/\ ∀e∈aC V,(aB e).x=0\/(aB e).y=0)
def zJ(e:ah×ah):aB (ow e)=aG (aB e):=by
 unfold aB ow aG;dsimp only;simp only[ah.mk.injEq];constructor<;>grind
def wG(n:ah)(l:aa):fm (aG n) l=fm n l:=Lh (by
 rw[EK,EK];unfold ah.cross aG;dsimp only;constructor<;>intro h<;>grind)
def xE(n:ah)(L:List aa):ig (aG n) L=ig n L:=by
 unfold ig;congr 1;exact List.filter_congr fun l _=>by rw[wG]
def yU(n:ah): ∀E:List (ah×ah),wE (aG n) (E.map ow)=wE n E
 |[]=>rfl
 |e::E=>by
  have ih:=yU n E;unfold wE at*;rw[bY,iY,iY];have k:(aG n).cross (aB (ow e))=n.cross (aB e):=by rw[zJ];unfold ah.cross aG;dsimp only;grind
  rw[k];split
  .rw[aS,aS,ih]
  .exact ih
def BrS.neg{V:List ah}(h:BrS V):BrS (V.map aG) where
 br:=h.br.neg
 df:=by
  rw[zm];unfold Af;rw[sZ];refine h.df.imp fun{e f} k q=>k ?_;rw[zJ,zJ] at q;unfold ah.cross ah.dot aG at*;dsimp only at*;exact⟨omb,omb⟩
 w2:=fun e he=>by
  rw[zm] at he⊢;obtain⟨f,hf,rfl⟩:=aU.1 he;rw[zJ,yU];exact h.w2 f hf
 ax:=by
  rw[zm,aX];refine h.ax.imp id fun⟨h1,h2⟩=>⟨h1,fun e he=>?_⟩;obtain⟨f,hf,rfl⟩:=aU.1 he;rw[zJ];unfold aG;dsimp only;exact(h2 f hf).imp (fun k=>by rw[k];grind) fun k=>by rw[k];grind
def wK{a b c:ah}(hb:eO [a,b,c])(h:0<bB a b c):BrS [a,b,c]:=by
 have c1:(aB (a,b)).cross (aB (b,c))=bB a b c:=by unfold aB ah.cross bB;dsimp only;grind
 have c2:(aB (a,b)).cross (aB (c,a))= -bB a b c:=by unfold aB ah.cross bB;dsimp only;grind
 have c3:(aB (b,c)).cross (aB (c,a))=bB a b c:=by unfold aB ah.cross bB;dsimp only;grind
 have sw: ∀u v:ah,u.cross v= -v.cross u:=fun u v=>by unfold ah.cross;grind
 have se: ∀u:ah,u.cross u=0:=fun u=>by unfold ah.cross;grind
 refine⟨hb,?_,fun e he=>?_, .inl (by rw[GA];exact bV _)⟩
 .rw[GA]
  unfold Af;refine List.Pairwise.cons (fun e he=>?_) (List.Pairwise.cons (fun e he=>?_) (List.Pairwise.cons (fun e he=>by cases he) List.Pairwise.nil))
  .simp only[aW,dK,or_false] at he
   rcases he with rfl|rfl
   .rintro ⟨k,_⟩;rw[c1] at k;grind
   .rintro ⟨k,_⟩;rw[c2] at k;grind
  .rw[aT.1 he]
   rintro ⟨k,_⟩;rw[c3] at k;grind
 .rw[GA] at he⊢
  simp only[aW,dK,or_false] at he;unfold wE;rcases he with rfl|rfl|rfl
  .rw[iY,if_neg (by simp[se])]
   exact cX (jV _ _) (bV _)
  .rw[iY]
   have:[(b,c),(c,a)].filter (fun e=>decide ((aB (b,c)).cross (aB e)≠0))=[(c,a)].filter (fun e=>decide ((aB (b,c)).cross (aB e)≠0)):=by rw[iY,if_neg (by simp[se])]
   rw[this];have l2:=jV (fun e=>decide ((aB (b,c)).cross (aB e)≠0)) [(c,a)];simp only[aS,eX] at l2;split
   .rw[aS];omega
   .omega
  .have:[(a,b),(b,c),(c,a)].filter (fun e=>decide ((aB (c,a)).cross (aB e)≠0))=[(a,b),(b,c)].filter (fun e=>decide ((aB (c,a)).cross (aB e)≠0)):=by
    rw[show [(a,b),(b,c),(c,a)]=[(a,b),(b,c)]++[(c,a)] from J,List.filter_append];have:[(c,a)].filter (fun e=>decide ((aB (c,a)).cross (aB e)≠0))=[]:=by rw[iY,if_neg (by simp[se])];rfl
    rw[this,fR]
   rw[this];exact cX (jV _ _) (bV _)
def wT{a b c d:Rat}(hb:eO [⟨a,b⟩,⟨c,b⟩,⟨c,d⟩,⟨a,d⟩])(h1:a<c)(h2:b<d):BrS [⟨a,b⟩,⟨c,b⟩,⟨c,d⟩,⟨a,d⟩]:=by
 have e1:aB (⟨a,b⟩,⟨c,b⟩)=⟨0,c-a⟩:=by unfold aB;simp only[ah.mk.injEq];constructor<;>grind
 have e2:aB (⟨c,b⟩,⟨c,d⟩)=⟨-(d-b),0⟩:=by unfold aB;simp only[ah.mk.injEq];constructor<;>grind
 have e3:aB (⟨c,d⟩,⟨a,d⟩)=⟨0,a-c⟩:=by unfold aB;simp only[ah.mk.injEq];constructor<;>grind
 have e4:aB (⟨a,d⟩,⟨a,b⟩)=⟨-(b-d),0⟩:=by unfold aB;simp only[ah.mk.injEq];constructor<;>grind
 have p:=uL (show(0:Rat)<c-a by grind) (show(0:Rat)<d-b by grind);have p2:=uL (show(0:Rat)<c-a by grind) (show(0:Rat)<c-a by grind);have p3:=uL (show(0:Rat)<d-b by grind) (show(0:Rat)<d-b by grind);have hw: ∀n:ah,(n.x=0\/n.y=0)->wE n [(⟨a,b⟩,⟨c,b⟩),(⟨c,b⟩,⟨c,d⟩),(⟨c,d⟩,⟨a,d⟩),(⟨a,d⟩,⟨a,b⟩)]<=2:=fun n hn=>by
  unfold wE;have c1:n.cross ⟨0,c-a⟩=n.x*(c-a):=by unfold ah.cross;grind
  have c2:n.cross ⟨-(d-b),0⟩=n.y*(d-b):=by unfold ah.cross;grind
  have c3:n.cross ⟨0,a-c⟩=n.x*(a-c):=by unfold ah.cross;grind
  have c4:n.cross ⟨-(b-d),0⟩=n.y*(b-d):=by unfold ah.cross;grind
  simp only[iY,List.filter_nil,e1,e2,e3,e4,c1,c2,c3,c4];rcases hn with k|k
  .rw[k]
   simp only[Rat.zero_mul,ne_eq,not_true_eq_false,decide_false,gR,if_false];split<;>split<;>simp
  .rw[k]
   simp only[Rat.zero_mul,ne_eq,not_true_eq_false,decide_false,gR,if_false];split<;>split<;>simp
 have ax: ∀e∈[((⟨a,b⟩,⟨c,b⟩):ah×ah),(⟨c,b⟩,⟨c,d⟩),(⟨c,d⟩,⟨a,d⟩),(⟨a,d⟩,⟨a,b⟩)],(aB e).x=0\/(aB e).y=0:=fun e he=>by
  simp only[aW,dK,or_false] at he;rcases he with rfl|rfl|rfl|rfl
  .exact .inl (by rw[e1])
  .exact .inr (by rw[e2])
  .exact .inl (by rw[e3])
  .exact .inr (by rw[e4])
 refine⟨hb,?_,fun e he=>?_, .inr ?_⟩
 .rw[Ee]
  unfold Af;refine List.Pairwise.cons (fun e he=>?_) (List.Pairwise.cons (fun e he=>?_) (List.Pairwise.cons (fun e he=>?_) (List.Pairwise.cons (fun e he=>by cases he) List.Pairwise.nil)))
  .simp only[aW,dK,or_false] at he
   rcases he with rfl|rfl|rfl
   .rw[e1,e2];rintro ⟨k,_⟩;unfold ah.cross at k;dsimp only at k;grind
   .rw[e1,e3];rintro ⟨_,k⟩;unfold ah.dot at k;dsimp only at k;grind
   .rw[e1,e4];rintro ⟨k,_⟩;unfold ah.cross at k;dsimp only at k;grind
  .simp only[aW,dK,or_false] at he
   rcases he with rfl|rfl
   .rw[e2,e3];rintro ⟨k,_⟩;unfold ah.cross at k;dsimp only at k;grind
   .rw[e2,e4];rintro ⟨_,k⟩;unfold ah.dot at k;dsimp only at k;grind
  .rw[aT.1 he]
   rw[e3,e4];rintro ⟨k,_⟩;unfold ah.cross at k;dsimp only at k;grind
 .rw[Ee] at he⊢
  exact hw _ (ax e he)
 .rw[Ee]
  exact⟨J,ax⟩
def zI{es:List Int}{a:Nat}(ha:a<=es.length):
  (∃x y z w:Nat,x<3/\y<3/\z<2/\w<2/\(cg es a).1=dG ((x:Int)-1) ((y:Int)-1) ((x:Int)-1+1+(z:Int)) ((y:Int)-1+1+(w:Int)))\/
  (∃x y u1 u2 v1 v2:Nat,x<3/\y<3/\u1<2/\u2<3/\v1<3/\v2<2/\0<jd (1+(u1:Int),(u2:Int)-1) ((v1:Int)-1,1+(v2:Int))/\(cg es a).1=gq ((x:Int)-1,(y:Int)-1) (1+(u1:Int),(u2:Int)-1) ((v1:Int)-1,1+(v2:Int))):=by
 have h0:=im (n:=2) ha;unfold cg;dsimp only;split
 .unfold x7
  dsimp only;generalize (au es 2 a).2=k at*;have e1:=c8 (es:=es) (n:=3) (a:=k);generalize au es 3 k=x at*;have e2:=c8 (es:=es) (n:=3) (a:=x.2);generalize au es 3 x.2=y at*;have e3:=c8 (es:=es) (n:=2) (a:=y.2);generalize au es 2 y.2=z at*;have e4:=c8 (es:=es) (n:=2) (a:=z.2);generalize au es 2 z.2=w at*;exact .inl ⟨x.1,y.1,z.1,w.1,we,we,we,we,J⟩
 .generalize (au es 2 a).2=k at*
  have e1:=c8 (es:=es) (n:=3) (a:=k);generalize au es 3 k=x at*;have e2:=c8 (es:=es) (n:=3) (a:=x.2);generalize au es 3 x.2=y at*;have e3:=c8 (es:=es) (n:=2) (a:=y.2);generalize au es 2 y.2=u1 at*;have e4:=c8 (es:=es) (n:=3) (a:=u1.2);generalize au es 3 u1.2=u2 at*;have e5:=c8 (es:=es) (n:=3) (a:=u2.2);generalize au es 3 u2.2=v1 at*;have e6:=c8 (es:=es) (n:=2) (a:=v1.2);generalize au es 2 v1.2=v2 at*;split
  .rename_i hcr
   exact .inr ⟨x.1,y.1,u1.1,u2.1,v1.1,v2.1,we,we,we,we,we,we,hcr,J⟩
  .exact .inr ⟨1,1,0,1,1,0,oma,oma,oma,oma,oma,oma,oma,J⟩
def yH{es:List Int}{a:Nat}(ha:a<=es.length):BrS ((cg es a).1.map ZP.q):=by
 have hb:=(Vm ha).1;rcases zI ha with⟨x,y,z,w,h1,h2,h3,h4,e⟩|⟨x,y,u1,u2,v1,v2,h1,h2,h3,h4,h5,h6,hc,e⟩
 .rw[e] at hb⊢
  generalize (x:Int)-1=p at*;generalize (y:Int)-1=q at*;have k1:(p:Rat)<((p+1+(z:Int):Int):Rat):=mY.2 we;have k2:(q:Rat)<((q+1+(w:Int):Int):Rat):=mY.2 we;exact wT hb k1 k2
 .rw[e] at hb⊢
  have:=Sv ((x:Int)-1,(y:Int)-1) (1+(u1:Int),(u2:Int)-1) ((v1:Int)-1,1+(v2:Int));exact wK hb (by rw[this];exact mY.2 hc)
def zH(r:List ZP):List aa:=(wq r).map (·.l)
def yC{r:List ZP}(hr:gE r):(∀l∈zH r,l.ok)/\(zH r).length=r.length:=by
 obtain⟨e1,e2⟩:=Fo hr;refine⟨fun l hl=>?_,by unfold zH;rw[aX,e1]⟩;obtain⟨f,hf,rfl⟩:=aU.1 hl;exact(e2 f hf).ok
def zT{r:List ZP}(fill:Int):dw (zH r) (dd [r] fill):=by
 unfold dw dd rx;refine Tr.restrict_all _ _ [] (zh fun f hf=>?_);unfold qO at hf;rw[gJ,tK,fR] at hf;exact⟨f.l,dX hf, .inl J⟩
def zR{v w:ZP}(h:v≠w)(n:ah):fm n (ph v w).l=true↔n.cross (aB (v.q,w.q))=0:=by
 obtain⟨g,g0,e,_⟩:=OW h ⟨0,0⟩;have key: ∀p,∃g:Rat,0<g/\bB v.q w.q p=g*(ph v w).l.value p:=fun p=>by
  obtain⟨g,g0,e,_⟩:=OW h p;exact⟨g,g0,e⟩
 obtain⟨g,g0,h1,h2,h3⟩:=Tc h;have hv: ∀p,bB v.q w.q p=g*(ph v w).l.value p:=fun p=>by
  show _=g*(ji v.1 v.2 w.1 w.2).value p;rw[h3];generalize ji v.1 v.2 w.1 w.2=l at*;rw[iG] at*;unfold bB cD aa.dir;dsimp only;grind
 have gi:g*g⁻¹=1:=by grind
 have g1:0<g⁻¹:=(w7 g0).1 (by rw[gi];decide);refine IP (N:=aB (v.q,w.q)) (C:= -(aB (v.q,w.q)).dot v.q) (g:=g⁻¹) g1 fun p=>?_;have e1:(aB (v.q,w.q)).dot p+ -(aB (v.q,w.q)).dot v.q=bB v.q w.q p:=by rw[FK (v.q,w.q)];grind
 rw[e1,hv,<-Rat.mul_assoc,uY g⁻¹ g,gi];grind
def wF{a b c d:Int}(h1:a<c)(h2:b<d){n:ah}(hn:n.x=0\/n.y=0):ig n (zH (dG a b c d))<=2:=by
 have k1:(a:Rat)<(c:Rat):=mY.2 h1;have k2:(b:Rat)<(d:Rat):=mY.2 h2;have e:zH (dG a b c d)=[(ph (a,b) (c,b)).l,(ph (c,b) (c,d)).l,(ph (c,d) (a,d)).l,(ph (a,d) (a,b)).l]:=by simp[zH,wq,s9,dG,jy]
 have n1:((a,b):ZP)≠(c,b):=fun q=>by have:=congrArg Prod.fst q;dsimp only at this;omega
 have n2:((c,b):ZP)≠(c,d):=fun q=>by have:=congrArg Prod.snd q;dsimp only at this;omega
 have n3:((c,d):ZP)≠(a,d):=fun q=>by have:=congrArg Prod.fst q;dsimp only at this;omega
 have n4:((a,d):ZP)≠(a,b):=fun q=>by have:=congrArg Prod.snd q;dsimp only at this;omega
 rw[e];unfold ig;have p1:=zR n1 n;have p2:=zR n2 n;have p3:=zR n3 n;have p4:=zR n4 n;have z: ∀u v:ZP,n.cross (aB (u.q,v.q))=n.x*((v.1:Rat)-u.1)+n.y*((v.2:Rat)-u.2):=fun u v=>by unfold ah.cross aB ZP.q iP;dsimp only;grind
 rw[z] at p1 p2 p3 p4;dsimp only at p1 p2 p3 p4;rcases hn with k|k
 .have q1:=p1.2 (by rw[k];grind)
  have q3:=p3.2 (by rw[k];grind);simp only[iY,List.filter_nil,q1,q3,rQ,gR,if_false];split<;>split<;>simp
 .have q2:=p2.2 (by rw[k];grind)
  have q4:=p4.2 (by rw[k];grind);simp only[iY,List.filter_nil,q2,q4,rQ,gR,if_false];split<;>split<;>simp
def yI{es:List Int}{a:Nat}(ha:a<=es.length){V:List ah}(hV:BrS V){cs:List ao}(hg: ∀c∈cs,bw c)(h1: ∃c∈cs,c.length=1)(hk:cs.length<=(cg es a).1.length):
  (pe (V.map aG) (aC (V.map aG)) (gP V (aC V) (zH (cg es a).1) cs)).length<=361:=by
 have hr:=(xv ha).1;obtain⟨k1,k2⟩:=yC hr;have hn: ∀e∈aC V,¬((aB e).x=0/\(aB e).y=0):=fun e he=>hV.br.br.nz he;obtain⟨f1,f2⟩:=aqW (V:=V) hn hV.df k1 hg h1 hk;have hb:(aC V).length=3\/(aC V).length<=2\/(aC V).length=4:=by rcases hV.ax with h|h<;>omega
 -- what is not along an edge of the second brush
 have edge2: ∀e∈aC (V.map aG),∃f∈aC V,∀L,ig (aB e) L=ig (aB f) L:=fun e he=>by
  rw[zm] at he;obtain⟨f,hf,rfl⟩:=aU.1 he;exact⟨f,hf,fun L=>by rw[zJ,xE]⟩
 have len2:(aC (V.map aG)).length=(aC V).length:=by rw[zm,aX]
 have crude: ∀e∈aC (V.map aG),ig (aB e) (gP V (aC V) (zH (cg es a).1) cs)<=2*(zH (cg es a).1).length+(1+((cg es a).1.length-1)*2):=fun e he=>by
  obtain⟨f,hf,q⟩:=edge2 e he;rw[q];have:=f2 (aB f) 2 (hV.w2 f hf);have:=Ik (aB f) (zH (cg es a).1);omega
 rcases zI ha with⟨x,y,z,w,_,_,_,_,e⟩|⟨x,y,u1,u2,v1,v2,_,_,_,_,_,_,_,e⟩
 .have hl:(cg es a).1.length=4:=by rw[e];rfl
  rw[k2,hl] at f1 crude;rcases hV.ax with h3|⟨h4,hax⟩
  .have g1:(gP V (aC V) (zH (cg es a).1) cs).length<=18:=by
    have:(4-1)*(aC V).length<=3*3:=fV _ h3;omega
   have s:=Gl (V:=V.map aG) (N:=18) (Q:=15) g1 (fun e he=>crude e he);have:(aC (V.map aG)).length*(2*(18-15)+15*(15-1))<=3*(2*(18-15)+15*(15-1)):=bW _ we;omega
  .have g1:(gP V (aC V) (zH (cg es a).1) cs).length<=21:=by rw[h4] at f1;omega
   have fine: ∀e∈aC (V.map aG),ig (aB e) (gP V (aC V) (zH (cg es a).1) cs)<=11:=fun e' he=>by
    obtain⟨f,hf,q⟩:=edge2 e' he;rw[q];have a1:=f2 (aB f) 2 (hV.w2 f hf);have a2:ig (aB f) (zH (cg es a).1)<=2:=by
     rw[e];exact wF we we (hax f hf)
    rw[hl] at a1;omega
   have s:=Gl (V:=V.map aG) (N:=21) (Q:=11) g1 fine;have:(aC (V.map aG)).length*(2*(21-11)+11*(11-1))<=4*(2*(21-11)+11*(11-1)):=bW _ we;omega
 .have hl:(cg es a).1.length=3:=by rw[e];rfl
  rw[k2,hl] at f1 crude;have g1:(gP V (aC V) (zH (cg es a).1) cs).length<=15:=by
   have:(3-1)*(aC V).length<=2*4:=fV _ we;omega
  have s:=Gl (V:=V.map aG) (N:=15) (Q:=11) g1 (fun e he=>crude e he);have:(aC (V.map aG)).length*(2*(15-11)+11*(11-1))<=4*(2*(15-11)+11*(11-1)):=bW _ we;omega
def zW(t:Tr):List ao:=(((t.restrictF []).partsF []).filter (·.1)).map (·.2)
def zU(t:Tr):bO (t.restrict [])=zW t:=by
 unfold bO zW;rw[Tr.restrict_F,Tr.parts_F]
def wQ(r:List ZP):Tr:=(rx [r] 2).restrictF []
def yK(r:List ZP):dd [r] 2=wQ r:=by unfold dd wQ;rw[Tr.restrict_F]
def yQ(r:List ZP):Bool:=decide ((zW (wQ r)).length<=1)&&(decide ((zW (wQ r).compl).length<=r.length)&&(zW (wQ r).compl).any fun c=>decide (c.length=1))
def wP:((List.range 3).all fun(x:Nat)=>(List.range 3).all fun(y:Nat)=>(List.range 2).all fun(z:Nat)=>(List.range 2).all fun(w:Nat)=>yQ (dG ((x:Int)-1) ((y:Int)-1) ((x:Int)-1+1+(z:Int)) ((y:Int)-1+1+(w:Int))))=true:=by decide+kernel
def xL:((List.range 3).all fun(x:Nat)=>(List.range 3).all fun(y:Nat)=>(List.range 2).all fun(u1:Nat)=>(List.range 3).all fun(u2:Nat)=>(List.range 3).all fun(v1:Nat)=>(List.range 2).all fun(v2:Nat)=>
 !decide (0<jd (1+(u1:Int),(u2:Int)-1) ((v1:Int)-1,1+(v2:Int)))||yQ (gq ((x:Int)-1,(y:Int)-1) (1+(u1:Int),(u2:Int)-1) ((v1:Int)-1,1+(v2:Int))))=true:=by decide+kernel
def zB{n:Nat}{f:Nat->Bool}(h:(List.range n).all f=true){x:Nat}(hx:x<n):f x=true:=dV.1 h x (kZ.2 hx)
def xJ{es:List Int}{a:Nat}(ha:a<=es.length):yQ (cg es a).1=true:=by
 rcases zI ha with⟨x,y,z,w,h1,h2,h3,h4,e⟩|⟨x,y,u1,u2,v1,v2,h1,h2,h3,h4,h5,h6,hc,e⟩
 .rw[e]
  exact zB (zB (zB (zB wP h1) h2) h3) h4
 .rw[e]
  have k:=zB (zB (zB (zB (zB (zB xL h1) h2) h3) h4) h5) h6;rw[decide_eq_true hc,rQ,pR] at k;exact k
def yL{es:List Int}{a:Nat}(ha:a<=es.length):(bO ((dd [(cg es a).1] 2).restrict [])).length<=1/\(bO ((dd [(cg es a).1] 2).compl.restrict [])).length<=(cg es a).1.length/\ ∃c∈bO ((dd [(cg es a).1] 2).compl.restrict []),c.length=1:=by
 have h:=xJ ha;unfold yQ at h;rw[bT,bT,decide_eq_true_eq,decide_eq_true_eq,gK] at h;rw[zU,zU,yK];obtain⟨h1,h2,c,hc,h3⟩:=h;exact⟨h1,h2,c,hc,of_decide_eq_true h3⟩
def yE(op:Int)(b:Bool)(t:Tr)(c:ao):Tr:=
 if op=1\/op=2 then(if b=decide (op=1) then .leaf b else t.restrictF c)
 else if op=3/\b=false then .leaf false
 else if b then(t.restrictF c).compl else t.restrictF c
def xK(op:Int)(b:Bool)(t:Tr)(c:ao):t.chooseQ op b c=yE op b t c:=by
 unfold Tr.chooseQ yE;rw[Tr.restrict_F]
def zL(op:Int):Tr->Tr->ao->Tr
 | .leaf b,u,c=>yE op b u c
 | .node l x y,u,c=>if !cw c l.rev then zL op x u c else if !cw c l then zL op y u c else Tr.joinQ l (zL op x u (vu c l)) (zL op y u (vu c l.rev))
def zP(op:Int): ∀(t u:Tr) (c:ao),t.mergeQ op u c=zL op t u c
 | .leaf b,u,c=>xK op b u c
 | .node l x y,u,c=>by
  rw[Tr.mergeQ,zL,zP op x u c,zP op y u c,A8,A8,zP op x,zP op y]
def yW(V:List ah)(E:List (ah×ah))(cs:List ao):Tr:=cs.foldl (fun t c=>zL 1 t (dk V E c) []) (.leaf false)
def yV(V:List ah)(E:List (ah×ah))(t:Tr):dx V E t=yW V E (zW t):=by
 unfold dx jA yW;rw[zU];congr 1;funext u c;exact zP 1 u _ []
def zX(a b c lo hi:Int)(nl nh:Bool):bD:=⟨⟨a,b,c⟩,⟨lo,hi,nl,nh⟩⟩
def zN:List ao:=[[zX 0 1 0 0 3 false false,zX (-1) 0 3 0 1 false false,zX 0 (-1) 1 (-3) 0 false false,zX 1 0 0 (-1) 0 false false],
 [zX 0 1 (-1) 0 1 false false,zX (-1) 0 1 1 3 false false,zX 0 (-1) 3 (-1) 0 false false,zX 1 0 0 (-3) (-1) false false]]
def zM:List ao:=[[zX 0 1 0 0 0 true false,zX (-1) 0 0 0 1 false false,zX 0 (-1) 1 0 0 false true],
 [zX 0 1 (-1) 0 0 true false,zX (-1) 0 0 1 3 false false,zX 0 (-1) 3 0 0 false true],
 [zX 0 1 (-3) 0 1 true false,zX (-1) 0 1 3 0 false true],
 [zX 0 1 (-1) 1 3 false false,zX (-1) 0 3 1 0 false true,zX 1 0 (-1) 0 (-1) true false],
 [zX 0 1 0 3 0 false true,zX 1 0 (-3) 0 0 true false],
 [zX 0 (-1) 0 0 0 true true]]
def wJ:zW (wQ jE)=zN:=by kernel_rfl
def wI:zW (wQ jE).compl=zM:=by kernel_rfl
def xG(cs:List ao)(V:List ah):Bool:=
 decide ((pe (V.map aG) (aC (V.map aG)) (gP V (aC V) (zH jE) cs).eraseDups).length<=361)||decide ((pe (V.map aG) (aC (V.map aG)) (yW V (aC V) cs).lns).length<=361)
def vA(neg:Bool)(V:List ah):List ah:=if neg then V.map aG else V
def zG(cs:List ao)(neg:Bool)(x z:Nat):Bool:=(List.range 2).all fun(u1:Nat)=>(List.range 3).all fun(u2:Nat)=>(List.range 3).all fun(v1:Nat)=>(List.range 2).all fun(v2:Nat)=>
 !decide (0<jd (1+(u1:Int),(u2:Int)-1) ((v1:Int)-1,1+(v2:Int)))||xG cs (vA neg ((gq ((x:Int)-1,(z:Int)-1) (1+(u1:Int),(u2:Int)-1) ((v1:Int)-1,1+(v2:Int))).map ZP.q))
def wZ(cs:List ao)(neg:Bool):Bool:=(List.range 3).all fun(x:Nat)=>(List.range 3).all fun(z:Nat)=>(List.range 2).all fun(u:Nat)=>(List.range 2).all fun(w:Nat)=>xG cs (vA neg ((dG ((x:Int)-1) ((z:Int)-1) ((x:Int)-1+1+(u:Int)) ((z:Int)-1+1+(w:Int))).map ZP.q))
def wY{f:Nat->Nat->Bool}(h00:f 0 0=true)(h01:f 0 1=true)(h02:f 0 2=true)(h10:f 1 0=true)(h11:f 1 1=true)(h12:f 1 2=true)(h20:f 2 0=true)(h21:f 2 1=true)(h22:f 2 2=true){x z:Nat}(hx:x<3)(hz:z<3):f x z=true:=by
 rcases(show x=0\/x=1\/x=2 by omega) with rfl|rfl|rfl<;>rcases(show z=0\/z=1\/z=2 by omega) with rfl|rfl|rfl<;>assumption
def xI{es:List Int}{a:Nat}(ha:a<=es.length){cs:List ao}{neg:Bool}(h1:wZ cs neg=true)(h2: ∀x z:Nat,x<3->z<3->zG cs neg x z=true):xG cs (vA neg ((cg es a).1.map ZP.q))=true:=by
 rcases zI ha with⟨x,y,z,w,k1,k2,k3,k4,e⟩|⟨x,y,u1,u2,v1,v2,k1,k2,k3,k4,k5,k6,hc,e⟩
 .rw[e]
  exact zB (zB (zB (zB h1 k1) k2) k3) k4
 .rw[e]
  have k:=zB (zB (zB (zB (h2 x y k1 k2) k3) k4) k5) k6;rw[decide_eq_true hc,rQ,pR] at k;exact k
def wV:wZ zN false=true:=by decide+kernel
def wD:zG zN false 0 0=true:=by decide+kernel
def wC:zG zN false 0 1=true:=by decide+kernel
def wB:zG zN false 0 2=true:=by decide+kernel
def wA:zG zN false 1 0=true:=by decide+kernel
def xZ:zG zN false 1 1=true:=by decide+kernel
def xY:zG zN false 1 2=true:=by decide+kernel
def xX:zG zN false 2 0=true:=by decide+kernel
def xW:zG zN false 2 1=true:=by decide+kernel
def xV:zG zN false 2 2=true:=by decide+kernel
def wN(x z:Nat)(hx:x<3)(hz:z<3):zG zN false x z=true:=wY (f:=zG zN false) wD wC wB wA xZ xY xX xW xV hx hz
def wU:wZ zM true=true:=by decide+kernel
def xU:zG zM true 0 0=true:=by decide+kernel
def xT:zG zM true 0 1=true:=by decide+kernel
def xS:zG zM true 0 2=true:=by decide+kernel
def xR:zG zM true 1 0=true:=by decide+kernel
def xQ:zG zM true 1 1=true:=by decide+kernel
def xP:zG zM true 1 2=true:=by decide+kernel
def xO:zG zM true 2 0=true:=by decide+kernel
def xN:zG zM true 2 1=true:=by decide+kernel
def xM:zG zM true 2 2=true:=by decide+kernel
def wM(x z:Nat)(hx:x<3)(hz:z<3):zG zM true x z=true:=wY (f:=zG zM true) xU xT xS xR xQ xP xO xN xM hx hz
def yJ(V:List ah)(t:Tr):Prop:= ∃K:List aa,(∀l∈K,l.ok)/\dw K t/\(pe V (aC V) K).length<=361
def zV{V:List ah}(h:BrS V):(aC V).length<=4:=by rcases h.ax with k|k<;>omega
def xH{V:List ah}(hV:BrS V){t:Tr}{K:List aa}(hK: ∀l∈K,l.ok)(hA:dw K t)(hn:K.length<=12:=by omega):yJ V t:=by
 refine⟨K,hK,hA,?_⟩;have s:=Gl (V:=V) (E:=aC V) (K:=K) (N:=12) (Q:=12) hn (fun e _=>cX (Ik _ _) hn);have:=zV hV;have:(aC V).length*(2*(12-12)+12*(12-1))<=4*(2*(12-12)+12*(12-1)):=bW _ this;omega
def zQ{V:List ah}(hV:eO V){t:Tr}(h:ij t){K:List aa}(hK: ∀l∈K,l.ok)(hA:dw K t)(hn:(gP V (aC V) K (bO (t.restrict []))).length<=361:=by omega):
  (∀l∈gP V (aC V) K (bO (t.restrict [])),l.ok)/\dw (gP V (aC V) K (bO (t.restrict []))) (dx V (aC V) t):=by
 have hE:(aC V).length<=4:=by unfold aC;rw[aX,jY];exact hV.le
 have hs: ∀c∈bO (t.restrict []),c.length+(aC V).length<=600:=fun c hc=>by
  have:=Ac (t.restrict_all LB [] h.x.lb) (t.restrict_all aa.ok [] h.x.ok) c hc;have:=t.restrict_depth [];have:=h.dp;omega
 exact⟨x8 hV.br hK,(Ri hV.br h.x.ok hK hA hs hn).2.am⟩
def zF{K:List aa}{t:Tr}(h:dw K t):dw K t.compl:=t.compl_all _ h
def yG{V W:List ah}(hV:BrS V)(hW:BrS W){t:Tr}(h:ij t){l:aa}(hl:l.ok)(hA:dw [l] t)(hs:t.size<=1):yJ W (dx V (aC V) t):=by
 have hb:=zV hV;have c1:(bO (t.restrict [])).length<=2:=by
  have:=Dy (t.restrict []);have:=t.restrict_size [];omega
 have kl:=AN (V:=V) (E:=aC V) (K:=[l]) (cs:=bO (t.restrict []));have:(bO (t.restrict [])).length*(aC V).length<=2*4:=fZ c1 hb;rw[eY] at kl;obtain⟨a1,a2⟩:=zQ hV.br h (K:=[l]) (fun m hm=>by rw[aT.1 hm];exact hl) hA;exact xH hW a1 a2
def zS{es:List Int}{a:Nat}(ha:a<=es.length){V:List ah}(hV:BrS V):yJ (V.map aG) (dx V (aC V) (dd [(cg es a).1] 2))/\yJ (V.map aG) (dx V (aC V) (dd [(cg es a).1] 2).compl):=by
 have hr:=(xv ha).1;obtain⟨k1,k2⟩:=yC hr;have hsm:=K8 ha;obtain⟨c1,c2,c3⟩:=yL ha;have hA:=zT (r:=(cg es a).1) 2;have h4:=(Pw ha).2;have hb:=zV hV;constructor
 .have kl:=AN (V:=V) (E:=aC V) (K:=zH (cg es a).1) (cs:=bO ((dd [(cg es a).1] 2).restrict []))
  have:(bO ((dd [(cg es a).1] 2).restrict [])).length*(aC V).length<=1*4:=fZ c1 hb;obtain⟨a1,a2⟩:=zQ hV.br hsm k1 hA;exact xH hV.neg a1 a2
 .have kl:=AN (V:=V) (E:=aC V) (K:=zH (cg es a).1) (cs:=bO ((dd [(cg es a).1] 2).compl.restrict []))
  have:(bO ((dd [(cg es a).1] 2).compl.restrict [])).length*(aC V).length<=4*4:=fZ we hb;obtain⟨a1,a2⟩:=zQ hV.br hsm.compl k1 (zF hA);exact⟨_,a1,a2,yI ha hV (fun c hc=>(n7 hsm.compl.x.ok c hc).1) c3 c2⟩
def zY:dw (zH jE) (dd [jE] 2):=zT 2
def wS:zW (dd [jE] 2)=zN:=by rw[yK];exact wJ
def wR:zW (dd [jE] 2).compl=zM:=by rw[yK];exact wI
def yO{y:Tr}(hy:ij y)(hA:dw (zH jE) y){cs:List ao}(hc:zW y=cs){V:List ah}(hV:BrS V)(hk:xG cs V=true)(hl:cs.length<=8):yJ (V.map aG) (dx V (aC V) y):=by
 obtain⟨k1,k2⟩:=yC L0;have hb:=zV hV;have e:bO (y.restrict [])=cs:=by rw[zU,hc]
 unfold xG at hk;rw[fN,decide_eq_true_eq,decide_eq_true_eq] at hk;rcases hk with h|h
 .have kl:=AN (V:=V) (E:=aC V) (K:=zH jE) (cs:=cs)
  have:cs.length*(aC V).length<=8*4:=fZ hl hb;rw[k2,show jE.length=6 from J] at kl;obtain⟨a1,a2⟩:=zQ hV.br hy k1 hA (by rw[e];omega);rw[e] at a1 a2;exact⟨_,fun l hl=>a1 l (List.mem_eraseDups.1 hl),a2.mono fun l hl=>⟨l,List.mem_eraseDups.2 hl, .inl J⟩,h⟩
 .rw[<-hc,<-yV] at h
  have ho:=(AC hV.br.br hy.x.ok).1;exact⟨_,pd ho,l9.2 fun l hl=>⟨l,hl, .inl J⟩,h⟩
def yR{es:List Int}{a b:Nat}(ha:a<=es.length)(hb:b<=es.length):
  yJ (((cg es b).1.map ZP.q).map aG) (dx ((cg es b).1.map ZP.q) (aC ((cg es b).1.map ZP.q)) (jj es a).1)/\
  yJ ((((cg es b).1.map ZP.q).map aG).map aG) (dx (((cg es b).1.map ZP.q).map aG) (aC (((cg es b).1.map ZP.q).map aG)) (jj es a).1.compl):=by
 have hV:=yH hb;have hS:=(Jl ha).1;have h0:=im (n:=4) ha;unfold jj at hS⊢;dsimp only at hS⊢;split at hS
 .rename_i k
  rw[if_pos k];obtain⟨h1,h2⟩:=I2 h0;have hA:dw [(lF es (au es 4 a).2).1] (vK (lF es (au es 4 a).2).1):=dw.restrict (t:= .node _ (.leaf true) (.leaf false)) ⟨⟨_,aT.2 J, .inl J⟩,trivial,trivial⟩ [];have hz:(vK (lF es (au es 4 a).2).1).size<=1:=Tr.restrict_size (.node _ (.leaf true) (.leaf false)) [];exact⟨yG hV hV.neg hS h1.ok hA hz,yG hV.neg hV.neg.neg hS.compl h1.ok (zF hA) (by rw[Tr.compl_size];exact hz)⟩
 .rename_i k
  rw[if_neg k];split at hS
  .rename_i k'
   rw[if_pos k'];exact⟨(zS h0 hV).1,(zS h0 hV.neg).2⟩
  .rename_i k'
   rw[if_neg k'];split at hS
   .rename_i k''
    rw[if_pos k''];refine⟨(zS h0 hV).2,?_⟩;dsimp only;rw[Kg];exact(zS h0 hV.neg).1
   .rename_i k''
    rw[if_neg k''];have hS':ij (dd [jE] 2):=hS;have q1:=yO (y:=dd [jE] 2) hS' zY (cs:=zN) wS hV (xI (neg:=false) hb wV wN) (nb J);have q2:=yO (y:=(dd [jE] 2).compl) hS'.compl (zF zY) (cs:=zM) wR hV.neg (xI (neg:=true) hb wU wM) (nb J);exact⟨q1,q2⟩
structure SecX (V:List ah) (u:Tr):Prop where
 al:mP 1 (Tr.leaf false) ((bO (u.restrict [])).map (dk V (aC V)))=some (dx V (aC V) u)
 gd:(dx V (aC V) u).gd
 dp:(dx V (aC V) u).depth<=361
 s:(dx V (aC V) u).size<=65341
 pt: ∀k,(jA V (aC V) ((bO (u.restrict [])).take k) (.leaf false)).gd/\(jA V (aC V) ((bO (u.restrict [])).take k) (.leaf false)).depth<=400
def yF{P:aa->Prop}{V:List ah}{E:List (ah×ah)}: ∀{cs:List ao} {u:Tr},(∀c∈cs,(dk V E c).all P)->u.all P->(jA V E cs u).all P
 |[],_,_,hu=>hu
 |c::cs,u,h,hu=>yF (cs:=cs) (u:=u.mergeQ 1 (dk V E c) []) (fun d hd=>h d (aJ _ hd)) (Tr.mergeQ_all _ 1 (h c aQ) u [] hu)
def wL{V:List ah}(hV:eO V){t:Tr}(hx:gF 54 t)(hb:t.all fun l=>BL l 26)(hf:yJ V t):SecX V t.compl:=by
 obtain⟨K,h1,h2,h3⟩:=hf;have hE:(aC V).length<=4:=by unfold aC;rw[aX,jY];exact hV.le
 have hc:=hx.compl;have hs: ∀c∈bO (t.compl.restrict []),c.length+(aC V).length<=600:=fun c hc'=>by
  have:=Ac (t.compl.restrict_all LB [] hc.lb) (t.compl.restrict_all aa.ok [] hc.ok) c hc';have:=t.compl.restrict_depth [];have:=hc.dp;omega
 obtain⟨a1,a2⟩:=azC hV.br hc.ok h1 (zF h2) hs h3;have hbl:=SQ hV.br hV.zb hc.ok (t.compl_all _ hb);obtain⟨b1,b2⟩:=a2.size (GG hV.br h1);have b3:(pe V (aC V) K).length*((pe V (aC V) K).length+1)<=361*362:=fZ h3 we;refine⟨a1,⟨Tr.all_imp (fun l h=>⟨h.mono oma⟩) hbl,a2.ok⟩,we,we,fun k=>?_⟩;have hsub: ∀c∈(bO (t.compl.restrict [])).take k,c∈bO (t.compl.restrict []):=fun c hc=>eK hc;have q:=(Cx (GG hV.br h1) h3 (op:=1) (us:=((bO (t.compl.restrict [])).take k).map (dk V (aC V))) (t:= .leaf false) (fun u hu=>by
  obtain⟨c,hc,rfl⟩:=aU.1 hu;obtain⟨g1,g2⟩:=n7 hx.compl.ok c (hsub c hc);exact⟨z' hV.br g1 g2,vw fun l hl=>⟨l,Rn h1 g1 g2 (Hz ((zF h2).restrict []) (hsub c hc)) l hl, .inl J⟩,cX FC (hs c (hsub c hc))⟩) ⟨trivial,trivial,trivial⟩).2
 rw[uT] at q;obtain⟨_,d2⟩:=q.size (GG hV.br h1);refine⟨⟨yF (P:=LB) (fun c hc=>?_) trivial,q.ok⟩,cX d2 we⟩;obtain⟨g1,g2⟩:=n7 hx.compl.ok c (hsub c hc);have hbk:=tG (P:=fun l=>BL l 26) (fun l h=>h.rev) (t.compl.restrict_all _ [] (t.compl_all _ hb)) (fun s hs=>by cases hs) (nC.1 (hsub c hc));exact vw fun l hl=>⟨(Ah hV.br hV.zb g1 g2 hbk l hl).mono oma⟩
def yX(f:ah×ah)(p q:ah):bB (ow f).1 (ow f).2 (q.subQ p)=bB f.1 f.2 (p.subQ q):=by
 unfold bB ow aG ah.subQ;dsimp only;grind
def sub_ot'{V:List ah}{p q:ah}:(∀f∈aC (V.map aG),0<bB f.1 f.2 (q.subQ p))↔ ∀f∈aC V,0<bB f.1 f.2 (p.subQ q):=by
 rw[zm];constructor
 .intro h f hf
  have:=h _ (dX (f:=ow) hf);rwa [yX] at this
 .intro h f hf
  obtain⟨g,hg,rfl⟩:=aU.1 hf;rw[yX];exact h g hg
def yM(t:Tr):t.compl.lns=t.lns:=by
 induction t with
 |leaf b=>rfl
 |node l x y ih1 ih2=>show l::(x.compl.lns++y.compl.lns)=_;rw[ih1,ih2];rfl
def xA{V:List ah}(hV:eO V){x:Tr}(hx:x.all aa.ok){p:ah}(h0:cA x.lns p)(h1:cA (ve V (aC V) (dx (V.map aG) (aC (V.map aG)) x.compl).compl) p)(h:(dx V (aC V) (dx (V.map aG) (aC (V.map aG)) x.compl).compl).val p=true):x.val p=true:=by
 have hc:x.compl.all aa.ok:=x.compl_all _ hx;have hs:=(AC hV.neg.br hc).1;obtain⟨q,_,o2,v,hq⟩:=(Er hV.br ((Tr.compl_all _ _ hs)) (M:=ve (V.map aG) (aC (V.map aG)) x.compl) (Gj hV.neg.br hc) h1).1 h;rw[Tr.val_compl] at v
 cases hp:x.val p with
 |true=>rfl
 |false=>
  exfalso;have:(dx (V.map aG) (aC (V.map aG)) x.compl).val q=true:=(Er hV.neg.br hc (M:=[]) (fun l hl=>by cases hl) o2).2 ⟨p,by rw[yM];exact h0,(fun l hl=>by cases hl),by rw[Tr.val_compl,hp];rfl,sub_ot'.2 hq⟩;rw[this] at v;cases v
def yS{V:List ah}(hV:eO V){x:Tr}(hx:x.all aa.ok){p:ah}(h0:cA x.lns p)(h1:cA (ve (V.map aG) (aC (V.map aG)) (dx V (aC V) x).compl) p)(h:x.val p=true):(dx (V.map aG) (aC (V.map aG)) (dx V (aC V) x).compl).compl.val p=true:=by
 have hs:=(AC hV.br hx).1;rw[Tr.val_compl]
 cases hp:(dx (V.map aG) (aC (V.map aG)) (dx V (aC V) x).compl).val p with
 |false=>rfl
 |true=>
  exfalso;obtain⟨q,_,o2,v,hq⟩:=(Er hV.neg.br (Tr.compl_all _ _ hs) (M:=ve V (aC V) x) (Gj hV.br hx) h1).1 hp;rw[Tr.val_compl] at v;have:(dx V (aC V) x).val q=true:=(Er hV.br hx (M:=[]) (fun l hl=>by cases hl) o2).2 ⟨p,h0,(fun l hl=>by cases hl),h,sub_ot'.1 hq⟩;rw[this] at v;cases v
def yP{a b:Tr}(ha:a.all aa.ok)(hb:b.all aa.ok){M:List aa}(hM: ∀l∈M,l.ok)(hd:a.depth+b.depth<=1024)(h: ∀p,cA M p->cA a.lns p->cA b.lns p->a.val p=true->b.val p=true):jG 3 a b=some (.leaf false):=by
 have hg:u7 (M++(a.lns++b.lns)) a b:=⟨ha,hb,fun l hl=>(bZ.1 hl).elim (hM l) fun hl=>(bZ.1 hl).elim (pd ha l) (pd hb l),fun l hl=>bQ _ (bU _ hl),fun l hl=>bQ _ (bQ _ hl)⟩;have hm:a.mergeQ 3 b []= .leaf false:=hg.leaf.2 fun p hp=>by
  obtain⟨o1,o2⟩:=cA.app.1 hp;obtain⟨o2,o3⟩:=cA.app.1 o2;have k:=h p o1 o2 o3
  cases e1:a.val p<;>cases e2:b.val p<;>simp[e1,e2] at k<;>rfl
 have h4:=TX (op:=3) (a:=a) (b:=b) hd (by rw[hm];exact aN _);rw[h4,hm]
def xC{V:List ah}(hV:eO V){x:Tr}(hx:ij x)(hS:SecX V (dx (V.map aG) (aC (V.map aG)) x.compl).compl):jG 3 (dx V (aC V) (dx (V.map aG) (aC (V.map aG)) x.compl).compl) x=some (.leaf false):=by
 have hs:=(AC hV.neg.br (x.compl_all _ hx.x.ok)).1;exact yP hS.gd.ok hx.x.ok (Gj hV.br (Tr.compl_all _ _ hs)) (by have:=hS.dp;have:=hx.dp;omega) fun p o1 _ o3 h=>xA hV hx.x.ok o3 o1 h
def yT{V:List ah}(hV:eO V){x:Tr}(hx:ij x)(hS:SecX (V.map aG) (dx V (aC V) x).compl):jG 3 x (dx (V.map aG) (aC (V.map aG)) (dx V (aC V) x).compl).compl=some (.leaf false):=by
 have hs:=(AC hV.br hx.x.ok).1;refine yP hx.x.ok (Tr.compl_all _ _ hS.gd.ok) (Gj hV.neg.br (Tr.compl_all _ _ hs)) ?_ fun p o1 o2 _ h=>yS hV hx.x.ok o2 o1 h;rw[Tr.compl_depth];have:=hS.dp;have:=hx.dp;omega
def xD{es:List Int}{a b:Nat}(ha:a<=es.length)(hb:b<=es.length):SecX ((cg es b).1.map ZP.q) (dx (((cg es b).1.map ZP.q).map aG) (aC (((cg es b).1.map ZP.q).map aG)) (jj es a).1.compl).compl/\
  SecX (((cg es b).1.map ZP.q).map aG) (dx ((cg es b).1.map ZP.q) (aC ((cg es b).1.map ZP.q)) (jj es a).1).compl:=by
 obtain⟨f1,f2⟩:=yR ha hb;have hV:=yH hb;have hS:=(Jl ha).1;have nn:(((cg es b).1.map ZP.q).map aG).map aG=(cg es b).1.map ZP.q:=by
  generalize (cg es b).1.map ZP.q=V;rw[oU];refine(uX fun p _=>?_).trans (List.map_id V);show aG (aG p)=p;unfold aG;cases p;simp
 rw[nn] at f2;generalize (cg es b).1.map ZP.q=V at*;obtain⟨_,x1,_,x2⟩:=CZ hV.br hS;obtain⟨_,y1,_,y2⟩:=CZ hV.br.neg hS.compl;exact⟨wL hV.br y1 y2 f2,wL hV.br.neg x1 x2 f1⟩
def vC(t u v:Tr):Nat->Tr
 |0=>t
 |1=>u
 |_=>v
def yB(V:List ah)(t:Tr):Tr:=iq V (m9 V t)
def yD(V:List ah)(t:Tr):Tr:=m9 V (iq V t)
def wW{ai al ae:Addr}(hE:EG GB ai al ae){r:List ZP}(hr:tj r)(hc:ln (r.map ZP.q)=true)(hV:eO (r.map ZP.q)){t:Tr}(h:ij t)(hS:SecX (r.map ZP.q) (m9 (r.map ZP.q) t)):PF GB prog 8 [eA t,rG r] (.tp [eA (yB (r.map ZP.q) t), .v .nilIface]):=by
 have hx:=VZ hV h;have hst:PF GB prog 27 [eA t,rG r, .sl [.v (.func (.func 28) #[] #[]), .v (.func (.func 29) #[] #[])]] (.tp [eA (yB (r.map ZP.q) t), .v .nilIface]):=MB (fs:=[28,29]) (ts:=vC t (m9 (r.map ZP.q) t) (yB (r.map ZP.q) t)) h.x hr hc (fun k f hk=>by match k,hk with|0,hk=>cases hk;exact aIw hE hV h|1,hk=>cases hk;exact M5 hE hV (t:=m9 (r.map ZP.q) t) hx.1.lb hx.1.ok hx.2.2 oma (by have:=hx.1.dp;omega) (by have:=hx.1.s;omega) hS.al|k+2,hk=>simp at hk) hS.gd.lb (by have:=hS.s;show(yB (r.map ZP.q) t).size<=_;unfold yB iq;omega) omc;refine fn (fu:=⟨11⟩) func8 J J ntmps8 J J (fun C=>?_);refine LC ⟨.o,1,some [.d (.v .nilFunc)],false⟩ J omd J<|cl J hst J<|rz J J
def wX{ai al ae:Addr}(hE:EG GB ai al ae){r:List ZP}(hr:tj r)(hc:ln (r.map ZP.q)=true)(hV:eO (r.map ZP.q)){t:Tr}(h:ij t)(hS:SecX ((r.map ZP.q).map aG) (iq (r.map ZP.q) t).compl):PF GB prog 10 [eA t,rG r] (.tp [eA (yD (r.map ZP.q) t), .v .nilIface]):=by
 have hx:=Bh hV h;have hst:PF GB prog 27 [eA t,rG r, .sl [.v (.func (.func 29) #[] #[]), .v (.func (.func 28) #[] #[])]] (.tp [eA (yD (r.map ZP.q) t), .v .nilIface]):=MB (fs:=[29,28]) (ts:=vC t (iq (r.map ZP.q) t) (yD (r.map ZP.q) t)) h.x hr hc (fun k f hk=>by match k,hk with|0,hk=>cases hk;exact O9 hE hV h|1,hk=>cases hk;exact QA hE hV (t:=iq (r.map ZP.q) t) hx.1.lb hx.1.ok hx.2.2 oma (by have:=hx.1.dp;omega) (by have:=hx.1.s;omega) hS.al|k+2,hk=>simp at hk) (Ms hS.gd).lb (by have:=hS.s;show(yD (r.map ZP.q) t).size<=_;unfold iq at this;unfold yD m9 iq;rw[Tr.compl_size];omega) omc;refine fn (fu:=⟨11⟩) func10 J J ntmps10 J J (fun C=>?_);refine LC ⟨.o,1,some [.d (.v .nilFunc)],false⟩ J omd J<|cl J hst J<|rz J J
def wH{ai al ae:Addr}(hE:EG GB ai al ae){a b:Tr}(ha:a.gd)(hb:b.gd)(hsa:a.size<=65536)(hsb:b.size<=65536)(h:jG 3 a b=some (.leaf false)):PF GB prog 32 [J1 a b] (.tp [vB true, .v .nilIface]):=by
 refine fn func32 J J ntmps32 J J (fun C=>?_);refine cl J (aEx hE (op:=3) ha hb hsa hsb h) J<|rz J J
def yN{ai al ae:Addr}(hE:EG GB ai al ae){a b:Tr}(ha:a.gd)(hb:b.gd)(hsa:a.size<=65536)(hsb:b.size<=65536)(h:jG 3 a b=some (.leaf false)):PF GB prog 11 [eA a,eA b] (.tp [.v (.bool true), .v .nilIface]):=by
 refine fn func11 J J ntmps11 J J (fun C=>?_);refine cl J (aKN ha hb hsa hsb) J<|cl J (wH hE ha hb hsa hsb h) J<|rz J J
def yY{r:List ZP}(hV:eO (r.map ZP.q)){u:Tr}(hx:gF 54 u)(hb:u.all fun l=>BL l 26)(hS:SecX (r.map ZP.q) u):PF GB prog 14 [eT u,nI r] (eT (iq (r.map ZP.q) u)):=by
 rw[<-CJ];exact J5 hV hx.lb hx.ok hb oma (by have:=hx.dp;omega) (by have:=hx.s;omega) hS.pt
def yZ{r:List ZP}(hV:eO (r.map ZP.q)){u:Tr}(hx:gF 54 u)(hb:u.all fun l=>BL l 26)(hS:SecX ((r.map ZP.q).map aG) u.compl):PF GB prog 15 [eT u,nI r] (eT (m9 (r.map ZP.q) u)):=by
 rw[<-CJ];have hc:=hx.compl;exact S1 hV (J5 hV.neg hc.lb hc.ok (u.compl_all _ hb) oma (by have:=hc.dp;omega) (by have:=hc.s;omega) hS.pt)
def zZ{ai al ae:Addr}(hE:EG GB ai al ae){es0:List Int}(hb:es0.length<=1125899906842624):PF GB prog 3 [.sl (es0.map vI)] (.v (.bool true)):=by
 obtain⟨es,hee⟩: ∃es,es=es0.take 400:=⟨_,rfl⟩;have hes:es.length<=400:=by rw[hee];simp;omega
 obtain⟨A,hA⟩: ∃A,A=(jj es 0).1:=⟨_,rfl⟩;obtain⟨a1,ha1⟩: ∃a,a=(jj es 0).2:=⟨_,rfl⟩;obtain⟨hs,hl1⟩:=Jl (aN es.length);have hl0:(jj es 0).2<=es.length:=hl1;rw[<-hA] at hs;rw[<-ha1] at hl1 hl0;obtain⟨r,hr⟩: ∃r,r=(cg es a1).1:=⟨_,rfl⟩;obtain⟨a2,ha2⟩: ∃a,a=(cg es a1).2:=⟨_,rfl⟩;have hrg:tj r:=by rw[hr];exact Ym hl1
 obtain⟨hV,hcv⟩:=Vm hl1;obtain⟨hO,hC⟩:=xD (aN es.length) hl1;rw[<-hr] at hV hcv hO hC;rw[<-hA] at hO hC;have x1:=Bh hV hs;have x2:=VZ hV hs;have hO2:SecX (r.map ZP.q) (m9 (r.map ZP.q) A):=hO;have hC2:SecX ((r.map ZP.q).map aG) (iq (r.map ZP.q) A).compl:=hC;have so:=xC hV hs hO;have sc:=yT hV hs hC;have gO:(yB (r.map ZP.q) A).gd:=hO.gd;have zO:(yB (r.map ZP.q) A).size<=65341:=hO.s;have gC:(yD (r.map ZP.q) A).gd:=Ms hC.gd;have zCs:(yD (r.map ZP.q) A).size<=65341:=by show(Tr.compl _).size<=_;rw[Tr.compl_size];exact hC.s
 have zA:=hs.x.s;refine fn func3 J J ntmps3 J J (fun C=>?_);refine cn J ((XM hb hee)) (fun _=>J) (fun _=>?_);refine cm J (fun b=>(ZU hes (aN _) hA ha1)) J<|cm J (fun b=>(WR hes hl1 hr ha2)) J<|cl J (S6 hs.x) J<|cl J (LG hrg.ok) J<|cl J (wW hE hrg hcv hV hs hO2) J<|cl J (LG hrg.ok) J<|cl J (wX hE hrg hcv hV hs hC2) J<|cl J (yN hE gO hs.x.gd we we so) J<|cl (fu:=⟨11⟩) J (yN hE hs.x.gd gC we we sc) J<|cv (fu:=⟨2⟩) J J J<|cv (fu:=⟨3⟩) J J J<|cv (fu:=⟨3⟩) J J J<|cv (fu:=⟨3⟩) J J J<|cv (fu:=⟨3⟩) J J J<|cv (fu:=⟨8⟩) J J J<|PJ J (ayk hE) J<|cl J (aE7 hV hs) J<|cl J (yY hV x2.1 x2.2.2 hO2) J<|cl (fu:=⟨0⟩) J (Iv (t:=yB (r.map ZP.q) A) (Tr.all_imp (fun l h=>h.bl) gO.lb)) J<|PJ J (RC (s:=yB (r.map ZP.q) A) (Tr.all_imp (fun l h=>h.bl) gO.lb) J) J<|cl J (aDY hV hs) J<|cl J (yZ hV x1.1 x1.2.2 hC2) J<|cl J (Iv (t:=yD (r.map ZP.q) A) (Tr.all_imp (fun l h=>h.bl) gC.lb)) J<|cl J (RC (s:=yD (r.map ZP.q) A) (Tr.all_imp (fun l h=>h.bl) gC.lb) J) J<|rz J J
end Go.Sx
end
section
namespace Go.Sx
open Go Go.Proofs Go.ChangeShapes Go.WideShapes Go.ChangeAt Go.RowKit
def GW(w:World):Gh:=fun b=>match w.heap[b]? with|some (.cells cs _ _)=>some cs.toList|_=>none
def GW.sub{w:World}{b:Nat}{cs:List Value}(h:GW w b=some cs): ∃ty fz,w.heap[b]? =some (.cells ⟨cs⟩ ty fz):=by
 unfold GW at h;split at h
 .rename_i c t f e
  cases h
  exact⟨t,f,by rw[e]⟩
 .cases h
def GW.of_cell{w:World}{b off:Nat}{v:Value}(h:w.cell? ⟨b,off,none⟩=some v): ∃cs,GW w b=some cs/\cs[off]? =some v:=by
 unfold World.cell? at h;unfold GW;split at h
 .rename_i c t f e
  simp only at e;refine⟨c.toList,by rw[e],?_⟩;simpa using h
 all_goals first|(rename_i e;cases h)|cases h
def bI.below{w w':World}{G G':Gh}{own:List aA}(h:bI ⟨w,G,[],[],[],none,fun _=>none⟩ own G' w'):Below w.heap.size w w':=
 ⟨h.os,h.tape,h.output,h.size,fun k hk=>h.keep k hk omc⟩
def isLs_vI{G:Gh}: ∀es:List Int,IsLs G (es.map vI) (es.map fun n=>Value.int .i64 n)
 |[]=> .nil
 |n::t=> .cons (aP.2 J) (isLs_vI t)
def open_vI{base:Nat}{H:Type}{enc:TypeId×Value->H}{P:Program}{w:World}{t e:TypeId}{v:Value}{d:DataW H}{ps:List MemPlace}(ht:P.underlying t=some (.slice e))(he:P.underlying e=some (.int .i64))(hc:P.cellsOf e=1)
  (hv:Value.okWide P w .any base t v)(h:DataW.Trod enc P w 0 (fun _=>true) true t v d ps):
  ∃es:List Int,Is (GW w) (.sl (es.map vI)) v/\(d= .nil/\es=[]\/ ∃sp,d= .slice (lits .i64 es) sp)/\(∀n∈es,(Lit.int .i64 n).wf=true):=by
 obtain⟨a0,len,cap,rfl⟩:=okWide_slice ht hv;obtain⟨fuel,hf⟩:=h;rcases open_ints ht he hc hf with⟨hcs,hx⟩|⟨a,len',cap',zs,hcs,_,hl,hm,hz,hx,hcell,hwz⟩
 .simp[Value.cells] at hcs
  obtain⟨rfl,rfl,rfl⟩:=hcs;simp only[Prod.mk.injEq] at hx;exact⟨[],ie.2 ⟨0,⟨none,0,0⟩,[],J,gt.nil _ 0, .nil⟩, .inl ⟨hx.1,J⟩,omc⟩
 .simp[Value.cells] at hcs
  obtain⟨rfl,rfl,rfl⟩:=hcs;simp only[Prod.mk.injEq] at hx;simp only[if_true] at hz;refine⟨zs.take len,ie.2 ⟨1,⟨some a,len,cap⟩,(zs.take len).map fun n=>Value.int .i64 n,J,⟨by simp;omega,hl,?_⟩,isLs_vI _⟩, .inr ⟨_,hx.1⟩,fun n hn=>hwz n (eK hn)⟩;by_cases h0:len=0
  .exact .inl (by simp[h0])
  .right
   obtain⟨b,off,spot⟩:=a;have hspot:spot=none:=by simpa[Addr.add] using World.cell?_spot (hcell 0 we)
   subst hspot;have c0: ∀i,i<zs.length->w.cell? ⟨b,off+i,none⟩=some (.int .i64 (zs.getD i 0)):=fun i hi=>by
    have:=hcell i hi;rwa [Go.WideShapes.add_plain] at this
   obtain⟨cs,hcs,_⟩:=GW.of_cell (by have h9:=c0 0 we;rw[gV] at h9;exact h9);refine⟨b,off,cs,J,hcs,fun i hi=>?_⟩;simp only[aX,bL] at hi;obtain⟨cs',hcs',hi'⟩:=GW.of_cell (c0 i we);rw[hcs] at hcs'
   cases hcs'
   rw[jT,ayL.2 hi'];simp[aO,List.getD,aZ (show i<zs.length by omega)]
inductive CSh where
 |b
 |i (k:IntKind)
 |sl (ag:Bool) (l:List CSh)
mutual
def Fit:CSh->DV->Prop
 | .b,d=> ∃b,d= .v (.bool b)
 | .i k,d=> ∃n,d= .v (.int k n)/\(Lit.int k n).wf=true
 | .sl ag l,d=> ∃m:List DV,d= .sl m/\m.length<=maxLen/\ ∀x∈m,∃ys,FitL l ys/\((ag=true/\x= .ag ys)\/(ag=false/\ys=[x]))
def FitL:List CSh->List DV->Prop
 |[],ds=>ds=[]
 |s::l,ds=> ∃d t,ds=d::t/\Fit s d/\FitL l t
end
section
variable {H:Type} {enc:TypeId×Value->H} {P:Program} {w:World}
end
def es_star: "*" ++ "errors.errorString" = "*errors.errorString" :=by decide
def es_row(u:TypeId)(h:Tryz.prog.typeName? 3 u=some "*errors.errorString"):u=384:=
 typeName_ptr_named (nm:= "errors.errorString") (by rw[es_star];kernel_rfl) omd oma u (by rw[es_star];exact h)
def sent_of{W:World}{n:String}{g:Nat}{text:List UInt8}{r:List (String×DataW Unit)}(h:laidMet Tryz.prog ((n, .iface "*errors.errorString" (.ptr (.agg [.lit (.string text)])))::r) W)(hg:Tryz.prog.globalNamed n=some g)(ht:(Tryz.prog.globals[g]?).map (·.type)=some 34):
  ∃a,GW W g=some [.iface 384 (.pointer (some a))]:=by
 obtain⟨a,s,hv,_⟩:=laid_sentinel h hg ht Tryz.underlying34 es_row Tryz.underlying384 Tryz.underlying401 rfl rfl Tryz.underlying9 omd omd;refine⟨a,?_⟩;unfold World.var? at hv;rw[hg,Option.bind_some] at hv;unfold GW;split at hv
 .rename_i c t f e
  rw[e];cases hv;rfl
 .cases hv
def laid_plain{W:World}{l:List (String×DataW Unit)}(h:laidMetH Tryz.prog l W)(hp:(l.all fun x=>x.2.handleName?.isNone)=true):laidMet Tryz.prog l W:=by rwa [Go.MakeChecks.laidMetH_plain _ _ _ hp] at h
end Go.Sx
end
section
namespace Go.Proofs.YtmbbejdimfkkcaaGreatDoor
open Go.ChangeShapes Go.WideShapes Go.ChangeAt Go.RowKit Go.Sx
theorem js1:mapsRowed Tryz.pinned.checked.prog=true:=by kernel_rfl
theorem js2:Tryz.pinned.checked.prog.stopsHeard=true:=by kernel_rfl
theorem js3:Tryz.pinned.checked.prog.mayEnter=true:=by kernel_rfl
theorem js4:laidOutB Tryz.prog=true:=by kernel_rfl
end Go.Proofs.YtmbbejdimfkkcaaGreatDoor
end
section
namespace Go.Proofs.YtmbbejdimfkkcaaGreatDoor.morphOpens
open Go.ChangeShapes Go.WideShapes Go.ChangeAt Go.RowKit Go.Sx
theorem own:ownKnob Tryz.prog.godebug=none:=by kernel_rfl
theorem laidOut:laidOutB Tryz.prog=true:=js4
theorem cellsI:Tryz.prog.cellsOf 3=1:=by kernel_rfl
theorem bytesI:Tryz.prog.bytesOf 3=8:=by kernel_rfl
theorem door_met(os:Os)(args:Array Value):laidMetH Tryz.prog Rows.morphOpensRow.laid ((World.doorLaid Tryz.prog 81 os).forCall (fun _ _=>0) ⟨#[],args,[]⟩).memory:=
 laidMetH_of_parts3 (fuel:=8) (laidMet_of_run' 8 omd omd) omd omd
theorem eg_of{W:World}(h:laidMetH Tryz.prog Rows.morphOpensRow.laid W): ∃ai al ae,EG (GW W) ai al ae:=by
 have h1:=laid_plain h J;obtain⟨ai,hi⟩:=sent_of (g:=0) h1.tail.tail.tail omd omd;obtain⟨al,hl⟩:=sent_of (g:=1) h1.tail.tail.tail.tail.tail omd omd;exact⟨ai,al,al,hi,hl⟩
theorem contract(H:Type)(enc:TypeId×Value->H)(W:World)(base:Nat)(args:Array Value)(ds gs:List (DataW H))(before:List MemPlace)
  (hval: ∀(j:Nat) t v,Tryz.f3.params[j]? =some t->args[j]? =some v->Value.okWide Tryz.prog W .any base t v)
  (hW:DataW.Whole enc Tryz.prog Tryz.f3.params.toList Rows.morphOpensSpec.vars false W args.toList ds gs before)
  (hz:(DataW.weightsEach Tryz.prog (Tryz.f3.params.toList++(OpenSpec.ofChange Rows.morphOpensSpec).bare.plain.varTypes Tryz.prog) (ds++gs)).all (· <=reachBytes)=true)(hlaid:laidMetH Tryz.prog Rows.morphOpensRow.laid W):
  Calls Tryz.prog 3 args W fun e W'=> ∃v,e= .returned v/\Rows.morphOpensSpec.post enc Tryz.prog Tryz.f3 false true false false W args v W':=by
 have hW':=hW;obtain⟨p,q,hA0,hV,rfl,_,_⟩:=hW;have hA:DataW.TrodAll enc Tryz.prog W 0 (fun _=>true) true Tryz.f3.params.toList args.toList ds p:=hA0;rw[Tryz.params3] at hA hval hz;obtain⟨v0,d0,hargs,rfl,h0⟩:=trodAll_one hA;obtain rfl:args= #[v0]:=by cases args;simp_all
 obtain⟨rfl,rfl⟩:=trodVars_none hV;clear hA0;simp only[List.append_nil] at hW';have hlt: ∀x∈p,x.block<W.heap.size:=fun x hx=>by simpa using hW'.lt x hx
 obtain⟨es,hI,hd,_⟩:=open_vI Tryz.underlying22 Tryz.underlying3 cellsI (hval 0 22 v0 rfl rfl) h0;have hb:es.length<=1125899906842624:=by
  rcases hd with⟨rfl,rfl⟩|⟨sp,rfl⟩
  .exact Nat.zero_le _
  .have:=sized_slice hz (j:=0) (t:=22) (e:=3) J J Tryz.underlying22
   rw[bytesI] at this;have hr:=reachBytes_lt;have hl:(lits (H:=H) .i64 es).length=es.length:=by simp[lits]
   rw[hl] at this;omega
 obtain⟨ai,al,ae,hE⟩:=eg_of hlaid;have hf:=(zZ hE (es0:=es) hb) (GW W) [v0] (b7.refl _) (.cons hI .nil);refine(hf.run W (fun b cs hg=>GW.sub hg)).mono fun e W' ⟨v,G',he,hr,hv⟩=>?_;rw[aP] at hv;subst hv;subst he;have hn:=hr.below;have t2:=trodAll_mk1 (Below.trod laidOut omd (of_decide_eq_true omd) h0 hn hlt);exact⟨_,J,⟨_,_,_,[],_,[],hW',trodAll_mk1 (shut_bool Tryz.underlying4 _),t2,J,hn.frame _,fun h=>by cases h⟩⟩
theorem reads(os:Os){H:Type}(enc:TypeId×Value->H): ∃places,DataW.whole enc Tryz.prog ((World.doorLaid Tryz.prog 81 os).forCall (fun _ _=>0) ⟨#[], #[.slice none 0 0],[]⟩).memory Tryz.f3.params.toList Rows.morphOpensSpec.vars false #[Value.slice none 0 0].toList 8=some ([.nil],[],places):=
 ⟨[],omd⟩
theorem lifted(os:Os)(started:os.Started)(H:Type)(enc:TypeId×Value->H)(F:Stop.Interp):
  ReturnsInHanded {} Tryz.checked os 3 .any ((OpenSpec.ofChange Rows.morphOpensSpec).preRow enc Tryz.prog Tryz.f3 Rows.morphOpensRow.domain false Rows.morphOpensRow.laid) (((OpenSpec.ofChange Rows.morphOpensSpec).at F).post enc Tryz.prog Tryz.f3 false true false false):=by
 obtain⟨places,hx⟩:=reads os enc;refine returnsInHanded_of_row (C:=Tryz.checked) (s:=OpenSpec.ofChange Rows.morphOpensSpec) own started omd Tryz.func3
  (witness_row_atRef (enc:=enc) (C:=Tryz.checked) false (World.doorLaid Tryz.prog 81 os) #[.slice none 0 0] rfl omd omd omd
   (OpenSpec.preRow_of_cond 8 hx omd (fun k hk=>by cases hk) omd (door_met os _))) ?_
 intro W base args ds gs before hval hW _ _ hz hlaid _ _;exact contract H enc W base args ds gs before hval hW hz hlaid
theorem j1:(Rows.morphOpensRow.inPlace==Tryz.pinned.checked.prog.inPlace 3)=true:=by kernel_rfl
theorem j2:(Rows.morphOpensRow.unfollowed==Tryz.pinned.checked.prog.unfollowed 3)=true:=by kernel_rfl
theorem j3:(Rows.morphOpensRow.recurses==Tryz.pinned.checked.prog.recurses 3)=true:=by kernel_rfl
theorem j4:(Rows.morphOpensRow.named==Tryz.pinned.checked.prog.varsNamed 3)=true:=by kernel_rfl
theorem j5:laidOutB Tryz.pinned.checked.prog=true:=laidOut
theorem j6:mapsRowed Tryz.pinned.checked.prog=true:=js1
theorem j7:Tryz.pinned.checked.prog.mainIs=some (Rows.morphOpensCard.stood.harness.1,Rows.morphOpensCard.stood.harness.2.toList):=by kernel_rfl
theorem j8:false=Rows.morphOpensRow.goesBy Tryz.pinned.checked.prog:=by kernel_rfl
theorem j9:(Rows.morphOpensRow.plainKeys==Tryz.pinned.checked.prog.plainKeys)=true:=by kernel_rfl
theorem j10:(Rows.morphOpensRow.lifted==Tryz.pinned.checked.prog.liftsFinal)=true:=by kernel_rfl
theorem j11:(Tryz.pinned.checked.prog.make==some Rows.morphOpensRow.make)=true:=by kernel_rfl
theorem closed:joinedFacts Tryz.pinned.checked.prog 3 Tryz.f3 (OpenSpec.ofChange Rows.morphOpensSpec).bare Rows.morphOpensRow=true:=by
 unfold joinedFacts;rw[j1,j2,j3,j4,j5,j6,j9,j10,j11,js2,js3]
 kernel_rfl
theorem said:Rows.MorphOpensSaid:=
 OpenClaim.holds_of_cond 3 Tryz.f3 J J J J J J J ⟨J,J,J,J,J⟩ J J J J J omd Tryz.func3 closed
  (of_decide_eq_true omd) (by unfold Func.isWrapper;first|(rw[if_pos (by decide+kernel)];kernel_rfl)|(rw[if_neg (by decide+kernel)];exact⟨J,J⟩))
  (fun os started H enc _ F=>by rw[OpenClaim.pre_eq_preRow];exact lifted os started H enc F)
theorem plain(f:FuncId)(fn:Func)(hf:Tryz.pinned.checked.prog.funcNamed "bspregion/bspregionlaw29.MorphOpens" =some f)(hfn:Tryz.pinned.checked.prog.funcs[f]? =some fn):
  false=Tryz.pinned.checked.prog.looks []/\ ∀(j:Nat) t,fn.params[j]? =some t->Tryz.pinned.checked.prog.wantsStandIn t=false:=by
 obtain rfl:f=3:=Option.some.inj ((show Tryz.prog.funcNamed "bspregion/bspregionlaw29.MorphOpens" =some 3 by kernel_rfl).symm.trans hf) |>.symm;obtain rfl:fn=Tryz.f3:=(Option.some.inj (Tryz.func3.symm.trans hfn)).symm;refine⟨omd,fun j t ht=>?_⟩;rw[Tryz.params3] at ht;have hm:=Array.mem_of_getElem? ht;simp only[List.mem_toArray,List.mem_cons,List.not_mem_nil,or_false] at hm;subst hm;exact(show Tryz.prog.wantsStandIn 22=false by kernel_rfl)
theorem card:Rows.MorphOpensCardSaid:=
 Claim7.holds_tied_plain_at .later [] _ _ _ _ said (fun _ h=>by cases h) omd (fun _ h=>by cases h) morphOpens_row_tie J ⟨J,J⟩ j7 J plain j8
#print axioms card
end Go.Proofs.YtmbbejdimfkkcaaGreatDoor.morphOpens
end
