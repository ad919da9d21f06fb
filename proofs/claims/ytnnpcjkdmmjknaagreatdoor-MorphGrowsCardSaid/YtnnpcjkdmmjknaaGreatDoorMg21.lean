import Derived.Test.YtnnpcjkdmmjknaaGreatDoorMg20
import Derived.RecoverIn
import Derived.Shelf.SlSortCmp.NoneTotal
import Derived.Test.YtnnpcjkdmmjknaaGreatDoorProg
import Derived.Shelf.SlicesQ.Reverse
set_option linter.all false
set_option maxHeartbeats 2000000
set_option maxRecDepth 100000
section
namespace Go.Sx
open Go Go.Proofs Tryz
variable {GB G:Gh}{v l V:List ah}{i a n j:Nat}{q1 q2 c p:ah}{d q:Rat}{es:List Int}{r:List ZP}{t e:List DV}{C:aD}{Q0:Exit->Act->World->Prop}{fr fr':aC}{own':aH}{cf cf':Cf}{vc:List Prop}{y:Value}{ai al ae:Addr}{L:List Rat}
def wk(p:Nat->Bool):Nat->Nat->Nat->Nat
 |0,i,_=>i
 |d+1,i,j=>if i<j then(if p ((i+j)/2) then wk p d ((i+j)/2+1) j else wk p d i ((i+j)/2)) else i
def JK(p:Nat->Bool): ∀(d i j:Nat),j-i<=d->f8 p i j=wk p d i j
 |0,i,j,h=>by
  rw[f8,wk,dif_neg (by omega)]
 |d+1,i,j,h=>by
  rw[f8,wk];by_cases k:i<j
  .rw[dif_pos k,if_pos k]
   split
   .exact JK p d _ _ (by omega)
   .exact JK p d _ _ (by omega)
  .rw[dif_neg k,if_neg k]
def Ik(c:ar)(l:aa)(v:ao):ar:=c.take (wk (ji c l) c.length 0 c.length)++⟨l,v⟩::c.drop (wk (ji c l) c.length 0 c.length)
def yy(c:ar)(l:aa):ar:=match kw c l with
 |some v=>Ik (d6 l c) l v
 |none=>c
def Fo(c:ar)(l:aa):bC c l=yy c l:=by
 unfold bC yy
 cases h:kw c l with
 |none=>rfl
 |some v=>
  show l5 (d6 l c) l v=Ik (d6 l c) l v;unfold l5 Ik;rw[JK _ (d6 l c).length _ _ (by omega)]
def Tr.restrictF:Tr->ar->Tr
 | .leaf b,_=> .leaf b
 | .node l x y,c=>if !co c l.rev then x.restrictF c else if !co c l then y.restrictF c else joinQ l (x.restrictF (yy c l)) (y.restrictF (yy c l.rev))
def Tr.restrict_F: ∀(t:Tr) (c:ar),t.restrict c=t.restrictF c
 | .leaf _,_=>rfl
 | .node l x y,c=>by
  rw[Tr.restrict,Tr.restrictF,x.restrict_F c,y.restrict_F c,Fo,Fo,x.restrict_F,y.restrict_F]
def vl:List ZP:=[(0,0),(3,0),(3,1),(1,1),(1,3),(0,3)]
def Wc:(fI [vl] 2).size<=9:=by
 unfold fI;rw[Tr.restrict_F];decide+kernel
def Ng:ew vl:=⟨by decide,by decide,fun p hp=>by
  simp only[vl,aW,dR,or_false] at hp;rcases hp with rfl|rfl|rfl|rfl|rfl|rfl<;>exact⟨by decide,by decide⟩,fun i hi=>by
  have:i=0\/i=1\/i=2\/i=3\/i=4\/i=5:=by simp[vl] at hi;omega
  rcases this with rfl|rfl|rfl|rfl|rfl|rfl<;>decide⟩
def t8(v:List ah)(k i:Nat):Bool:=decide (i=k)||(decide (i=(k+1)%v.length)||decide (0<bu (v.getD k ⟨0,0⟩) (v.getD ((k+1)%v.length) ⟨0,0⟩) (v.getD i ⟨0,0⟩)))
def lI(v:List ah):Bool:=(List.range v.length).all fun k=>(List.range v.length).all fun i=>t8 v k i
def PQ:lI v=true↔ ∀k<v.length,∀i<v.length,t8 v k i=true:=by
 unfold lI;simp only[dK,kQ]
def aEy{k:Nat}(hk:k<v.length)(hi:i<v.length)(h:t8 v k i=false):lI v=false:=by
 rw[<-jL,PQ];exact fun f=>by rw[f k hk i hi] at h;cases h
def Yr{k:Nat}{w:ah}(h1:v[k]? =some q1)(h2:v[(k+1)%v.length]? =some q2)(h3:v[i]? =some w):t8 v k i=(decide (i=k)||(decide (i=(k+1)%v.length)||decide (0<bu q1 q2 w))):=by
 unfold t8;rw[aK,aK,aK,h1,h2,h3];rfl
structure j0 (V:List ah):Prop where
 br:gO V (b8 V)
 zb: ∀v∈V,ZB v
 le:V.length<=4
def NO(V:List ah):b8 (V.map bG)=(b8 V).map t7:=by
 unfold b8;rw[aX,List.map_map];refine List.map_congr_left fun i hi=>?_;have key: ∀k,(V.map bG).getD k ⟨0,0⟩=bG (V.getD k ⟨0,0⟩):=fun k=>by
  rw[aK,aK,bS]
  cases V[k]? with
  |some p=>rfl
  |none=>show(⟨0,0⟩:ah)=bG ⟨0,0⟩;unfold bG;simp
 show _=t7 _;unfold t7;rw[key,key]
def j0.neg{V:List ah}(h:j0 V):j0 (V.map bG):=
 ⟨by rw[NO];exact UB h.br,fun v hv=>by
  obtain⟨u,hu,rfl⟩:=aT.1 hv;exact(h.zb u hu).neg,by rw[aX];exact h.le⟩
def UK(a b c:ah):b8 [a,b,c]=[(a,b),(b,c),(c,a)]:=by unfold b8;simp[pM]
def aIp(a b c d:ah):b8 [a,b,c,d]=[(a,b),(b,c),(c,d),(d,a)]:=by unfold b8;simp[pM]
def PC(a b c:ah):bu b c a=bu a b c:=by unfold bu;grind
def aJY{a b:ah}(h:0<bu a b c):lI [a,b,c]=true:=by
 have h1:=PC a b c;have h2:=PC b c a;simp[lI,t8,pM,h1,h2,h]
def aJ0{a b c:Rat}(h1:a<c)(h2:b<d):lI [⟨a,b⟩,⟨c,b⟩,⟨c,d⟩,⟨a,d⟩]=true:=by
 have k:=Rat.mul_pos (show(0:Rat)<c-a by grind) (show(0:Rat)<d-b by grind);have o1:0<bu ⟨a,b⟩ ⟨c,b⟩ ⟨c,d⟩:=by unfold bu;dsimp only;grind
 have o2:0<bu ⟨a,b⟩ ⟨c,b⟩ ⟨a,d⟩:=by unfold bu;dsimp only;grind
 have o3:0<bu ⟨c,b⟩ ⟨c,d⟩ ⟨a,b⟩:=by unfold bu;dsimp only;grind
 have o4:0<bu ⟨c,b⟩ ⟨c,d⟩ ⟨a,d⟩:=by unfold bu;dsimp only;grind
 have o5:0<bu ⟨c,d⟩ ⟨a,d⟩ ⟨a,b⟩:=by unfold bu;dsimp only;grind
 have o6:0<bu ⟨c,d⟩ ⟨a,d⟩ ⟨c,b⟩:=by unfold bu;dsimp only;grind
 have o7:0<bu ⟨a,d⟩ ⟨a,b⟩ ⟨c,b⟩:=by unfold bu;dsimp only;grind
 have o8:0<bu ⟨a,d⟩ ⟨a,b⟩ ⟨c,d⟩:=by unfold bu;dsimp only;grind
 simp[lI,t8,pM,o1,o2,o3,o4,o5,o6,o7,o8]
def IS{p:ZP}(h:p.1.natAbs<=8/\p.2.natAbs<=8):ZB p.q:=⟨p.1,p.2,J,h⟩
def OA{a b c:ZP}(h:0<bu a.q b.q c.q)(ha:a.1.natAbs<=8/\a.2.natAbs<=8)(hb:b.1.natAbs<=8/\b.2.natAbs<=8)(hc:c.1.natAbs<=8/\c.2.natAbs<=8):j0 ([a,b,c].map ZP.q)/\lI ([a,b,c].map ZP.q)=true:=by
 refine⟨⟨?_,fun v hv=>?_,by simp⟩,aJY h⟩
 .show gO [a.q,b.q,c.q] (b8 [a.q,b.q,c.q])
  rw[UK];exact aG9 h
 .simp only[bT,iZ,aW,dR,or_false] at hv
  rcases hv with rfl|rfl|rfl
  .exact IS ha
  .exact IS hb
  .exact IS hc
def Md{a b c d:Int}(h1:a<c:=by decide)(h2:b<d:=by decide)(ha:a.natAbs<=8:=by decide)(hb:b.natAbs<=8:=by decide)(hc:c.natAbs<=8:=by decide)(hd:d.natAbs<=8:=by decide):j0 ((eo a b c d).map ZP.q)/\lI ((eo a b c d).map ZP.q)=true:=by
 have e:(eo a b c d).map ZP.q=[⟨(a:Rat),(b:Rat)⟩,⟨(c:Rat),(b:Rat)⟩,⟨(c:Rat),(d:Rat)⟩,⟨(a:Rat),(d:Rat)⟩]:=J;have q1:(a:Rat)<(c:Rat):=by exact_mod_cast h1
 have q2:(b:Rat)<(d:Rat):=by exact_mod_cast h2
 rw[e];refine⟨⟨?_,fun v hv=>?_,by simp⟩,aJ0 q1 q2⟩
 .rw[aIp];exact Ya q1 q2
 .simp only[aW,dR,or_false] at hv
  rcases hv with rfl|rfl|rfl|rfl
  .exact⟨a,b,J,ha,hb⟩
  .exact⟨c,b,J,hc,hb⟩
  .exact⟨c,d,J,hc,hd⟩
  .exact⟨a,d,J,ha,hd⟩
def aC1(ha:a<=es.length):j0 ((gp es a).1.map ZP.q)/\lI ((gp es a).1.map ZP.q)=true:=by
 have h0:=iw (n:=2) ha;unfold gp;dsimp only;split
 .unfold yu
  dsimp only;generalize (au es 2 a).2=k at*;have e1:=dH (es:=es) (n:=3) (a:=k);generalize au es 3 k=x at*;have e2:=dH (es:=es) (n:=3) (a:=x.2);generalize au es 3 x.2=y at*;have e3:=dH (es:=es) (n:=2) (a:=y.2);generalize au es 2 y.2=z at*;have e4:=dH (es:=es) (n:=2) (a:=z.2);generalize au es 2 z.2=w at*;exact Md (by omega) (by omega) (by omega) (by omega) (by omega) (by omega)
 .generalize (au es 2 a).2=k at*
  have e1:=dH (es:=es) (n:=3) (a:=k);generalize au es 3 k=x at*;have e2:=dH (es:=es) (n:=3) (a:=x.2);generalize au es 3 x.2=y at*;have e3:=dH (es:=es) (n:=2) (a:=y.2);generalize au es 2 y.2=u1 at*;have e4:=dH (es:=es) (n:=3) (a:=u1.2);generalize au es 3 u1.2=u2 at*;have e5:=dH (es:=es) (n:=3) (a:=u2.2);generalize au es 3 u2.2=v1 at*;have e6:=dH (es:=es) (n:=2) (a:=v1.2);generalize au es 2 v1.2=v2 at*;split
  .rename_i hcr
   have:=TZ ((x.1:Int)-1,(y.1:Int)-1) (1+(u1.1:Int),(u2.1:Int)-1) ((v1.1:Int)-1,1+(v2.1:Int));exact OA (by rw[this];exact_mod_cast hcr) ⟨by dsimp only;omega,by dsimp only;omega⟩ ⟨by unfold kC;dsimp only;omega,by unfold kC;dsimp only;omega⟩ ⟨by unfold kC;dsimp only;omega,by unfold kC;dsimp only;omega⟩
  .exact OA (by decide+kernel) ⟨by decide,by decide⟩ ⟨by decide,by decide⟩ ⟨by decide,by decide⟩
def l6(es:List Int)(a:Nat):Tr×Nat:=
 let k:=au es 4 a
 if(k.1:Int)=0 then(yb (lF es k.2).1,(lF es k.2).2)
 else if(k.1:Int)=1 then(fI [(gp es k.2).1] 2,(gp es k.2).2)
 else if(k.1:Int)=2 then((fI [(gp es k.2).1] 2).compl,(gp es k.2).2)
 else(fI [vl] 2,k.2)
def Ri{v w:ZP}(h1:v.1.natAbs<=8)(h2:v.2.natAbs<=8)(h3:(w.1-v.1).natAbs<=8)(h4:(w.2-v.2).natAbs<=7):BL (oc v.1 v.2 w.1 w.2) 8:=by
 obtain⟨r1,r2,r3⟩:=AP (mn v.2 w.2) (mH v.1 w.1) (tB v.1 v.2 w.1 w.2);have b1:(mn v.2 w.2*v.1).natAbs<=7*8:=i5 (by unfold mn;omega) h1;have b2:(mH v.1 w.1*v.2).natAbs<=8*8:=i5 (by unfold mH;omega) h2;have b3:(mn v.2 w.2).natAbs<=7:=by unfold mn;omega
 have b4:(mH v.1 w.1).natAbs<=8:=by unfold mH;omega
 have b5:(tB v.1 v.2 w.1 w.2).natAbs<=120:=by
  show(-(mn v.2 w.2*v.1+mH v.1 w.1*v.2)).natAbs<=120;omega
 exact⟨eK r1 (by omega),eK r2 (by omega),eK r3 (by omega)⟩
def azY(hr:ew r)(h: ∀p∈r,p.1.natAbs<=3/\p.2.natAbs<=3)(fill:Int):(fI [r] fill).all fun l=>BL l 8:=by
 unfold fI um;refine Tr.restrict_all _ _ [] (Aj fun f hf=>?_);unfold i9 at hf;rw[lN,List.flatMap_nil,gK] at hf;have key: ∀n,n<=r.length-> ∀f∈rk r n,BL f.l 8:=fun n=>by
  induction n with
  |zero=>intro _ f hf;cases hf
  |succ n ih=>
   intro hn f hf;rw[rk] at hf;rcases bW.1 hf with hf|hf
   .exact ih (by omega) f hf
   .rw[aS.1 hf]
    have a1:=h _ (uR (r:=r) (i:=n));have a2:=h _ (y7 (r:=r) (i:=n));exact Ri (by omega) (by omega) (by omega) (by omega)
 exact key _ (bX _) f hf
structure lE (t:Tr):Prop where
 x:fB 18 t
 rd:t.Red []
 bl:t.all fun l=>BL l 8
 dp:t.depth<=6
 k: ∃K:List aa,K.length*2+4*(t.size+1)<=52/\K.length<=6/\(∀l∈K,l.ok)/\fi K t
def lE.compl{t:Tr}(h:lE t):lE t.compl:=by
 obtain⟨K,h1,h2,h3,h4⟩:=h.k;exact⟨h.x.compl,Tr.compl_red h.rd,t.compl_all _ h.bl,by rw[t.compl_depth];exact h.dp,K,by rw[t.compl_size];exact h1,h2,h3,h4.compl⟩
def J6(hr:ew r)(h: ∀p∈r,p.1.natAbs<=3/\p.2.natAbs<=3)(hn:r.length*2+4*((fI [r] 2).size+1)<=52):lE (fI [r] 2):=by
 have ho:=Hq (rs:=[r]) (fill:=2) (fun q hq=>by rw[aS.1 hq];exact hr) (by simp);obtain⟨e1,e2⟩:=BP hr;have hR:um [r] 2=jP (nC [r] 2) r.length (kO r) []:=by
  unfold um i9;rw[lN,List.flatMap_nil,gK,e1]
 have hro:ie r.length (fI [r] 2):=by
  unfold fI;rw[hR];exact(DI (acc:=nC [r] 2) e2 e1).restrict []
 have h6:=hr.n6;obtain⟨K,k1,k2,k3⟩:=hro.am;exact⟨ho.x (D1 _ _) (by decide),D1 _ _,azY hr h 2,cS hro.dp h6,K,by omega,by omega,k2,k3⟩
def Sd(hr:ew r)(hn:r.length<=4):(fI [r] 2).size<=10:=by
 obtain⟨e1,e2⟩:=BP hr;have hR:um [r] 2=jP (nC [r] 2) r.length (kO r) []:=by
  unfold um i9;rw[lN,List.flatMap_nil,gK,e1]
 have hro:ie r.length (fI [r] 2):=by
  unfold fI;rw[hR];exact(DI (acc:=nC [r] 2) e2 e1).restrict []
 obtain⟨K,k1,k2,k3⟩:=hro.am;have:=QL k2 (Tr.red_prp (D1 [r] 2)) hro.gd.ok bD.nil k3;have h4:K.length*(K.length+1)<=4*5:=gX (by omega) (by omega);omega
def Zh(ha:a<=es.length):(∀p∈(gp es a).1,p.1.natAbs<=3/\p.2.natAbs<=3)/\(gp es a).1.length<=4:=by
 have h0:=iw (n:=2) ha;unfold gp;dsimp only;split
 .unfold yu
  dsimp only;generalize (au es 2 a).2=k at*;have e1:=dH (es:=es) (n:=3) (a:=k);generalize au es 3 k=x at*;have e2:=dH (es:=es) (n:=3) (a:=x.2);generalize au es 3 x.2=y at*;have e3:=dH (es:=es) (n:=2) (a:=y.2);generalize au es 2 y.2=z at*;have e4:=dH (es:=es) (n:=2) (a:=z.2);generalize au es 2 z.2=w at*;refine⟨fun p hp=>?_,by simp[eo]⟩;simp only[eo,aW,dR,or_false] at hp;rcases hp with rfl|rfl|rfl|rfl<;>exact⟨by dsimp only;omega,by dsimp only;omega⟩
 .generalize (au es 2 a).2=k at*
  have e1:=dH (es:=es) (n:=3) (a:=k);generalize au es 3 k=x at*;have e2:=dH (es:=es) (n:=3) (a:=x.2);generalize au es 3 x.2=y at*;have e3:=dH (es:=es) (n:=2) (a:=y.2);generalize au es 2 y.2=u1 at*;have e4:=dH (es:=es) (n:=3) (a:=u1.2);generalize au es 3 u1.2=u2 at*;have e5:=dH (es:=es) (n:=3) (a:=u2.2);generalize au es 3 u2.2=v1 at*;have e6:=dH (es:=es) (n:=2) (a:=v1.2);generalize au es 2 v1.2=v2 at*;split
  .refine⟨fun p hp=>?_,by simp[gu]⟩
   simp only[gu,kC,aW,dR,or_false] at hp;rcases hp with rfl|rfl|rfl<;>exact⟨by dsimp only;omega,by dsimp only;omega⟩
  .refine⟨fun p hp=>?_,sT J⟩
   simp only[BA,aW,dR,or_false] at hp;rcases hp with rfl|rfl|rfl<;>exact⟨by decide,by decide⟩
def SS(ha:a<=es.length):lE (fI [(gp es a).1] 2):=by
 obtain⟨h1,h2⟩:=Zh ha;have hr:=(AU ha).1;have:=Sd hr h2;exact J6 hr h1 (by omega)
def aIi(ha:a<=es.length):BL (lF es a).1 8:=by
 obtain⟨h1,h2,h3⟩:=Cp ha;obtain⟨k1,k2,_,_⟩:=FB h3;unfold lF;dsimp only;exact Ri (v:=(pF es a).1) (w:=((pF es a).1.1+1*(vF es (pF es a).2).1.1,(pF es a).1.2+1*(vF es (pF es a).2).1.2)) (by omega) (by omega) (by dsimp only;omega) (by dsimp only;omega)
def V6{l:aa}(h:LS l)(hb:BL l 8):lE (yb l):=by
 have ho:=XP h;have hr:(yb l).Red []:=Tr.restrict_red _ _;have hs:(yb l).size<=1:=Tr.restrict_size (.node l (.leaf true) (.leaf false)) [];have hd:=(yb l).depth_size;refine⟨ho.x hr (by decide),hr,Tr.restrict_all _ _ [] ⟨hb,trivial,trivial⟩,by omega,[l],by rw[gV];omega,sT J,fun m hm=>by rw[aS.1 hm];exact h.ok,?_⟩;exact fi.restrict (t:= .node l (.leaf true) (.leaf false)) ⟨⟨l,aS.2 J, .inl J⟩,trivial,trivial⟩ []
def Wo(ha:a<=es.length):lE (l6 es a).1/\(l6 es a).2<=es.length:=by
 have h0:=iw (n:=4) ha;unfold l6;dsimp only;split
 .obtain⟨h1,h2⟩:=PE h0
  exact⟨V6 h1 (aIi h0),h2⟩
 .split
  .exact⟨SS h0,(AU h0).2⟩
  .split
   .exact⟨(SS h0).compl,(AU h0).2⟩
   .refine⟨J6 Ng (fun p hp=>?_) (by have:=Wc;simp only[vl,bJ,eX] at*;omega),h0⟩
    simp only[vl,aW,dR,or_false] at hp;rcases hp with rfl|rfl|rfl|rfl|rfl|rfl<;>exact⟨by decide,by decide⟩
def J1(hV:j0 V){t:Tr}(h:lE t):oG 1 (Tr.leaf false) ((eu (t.restrict [])).map (fj V (b8 V)))=some (m6 V (b8 V) t)/\fB 54 (m6 V (b8 V) t)/\(m6 V (b8 V) t).Red []/\(m6 V (b8 V) t).all (fun l=>BL l 26):=by
 obtain⟨K,h1,h2,h3,h4⟩:=h.k;have hE:(b8 V).length<=4:=by unfold b8;rw[aX,lQ];exact hV.le
 have ho:=h.x.ok;have hcl:(eu (t.restrict [])).length<=t.size+1:=cS (Sg _) (Nat.succ_le_succ (t.restrict_size []));have hKl:(s7 V (b8 V) K (eu (t.restrict []))).length<=52:=by
  have:=azI (V:=V) (E:=b8 V) (K:=K) (cs:=eu (t.restrict []));have:(eu (t.restrict [])).length*(b8 V).length<=(t.size+1)*4:=gX hcl hE;omega
 have hs: ∀c∈eu (t.restrict []),c.length+(b8 V).length<=600:=fun c hc=>by
  have:=IU (t.restrict_all LB [] h.x.lb) (t.restrict_all aa.ok [] ho) c hc;have:=t.restrict_depth [];have:=h.dp;omega
 obtain⟨a1,a2⟩:=YC hV.br ho h3 h4 hs (by omega);have hb:=Xe hV.br hV.zb ho h.bl;obtain⟨b1,b2⟩:=a2.size (Jg hV.br h3);have b3:(s7 V (b8 V) K (eu (t.restrict []))).length*((s7 V (b8 V) K (eu (t.restrict []))).length+1)<=52*53:=gX hKl (by omega);exact⟨a1,⟨⟨⟨Tr.all_imp (fun l h=>⟨h.mono (by decide)⟩) hb,a2.ok⟩,by omega,_,by omega,Jg hV.br h3,a2.am⟩,by omega⟩,a2.rd,hb⟩
section
variable {own:aH}{lk:LK}{bk:BM}
variable {dst:Option Nat}{t t' ty':TypeId}{pos:String}{af:Array Edge}{gd:Option (Nat×Bool)}{x y:Operand}
end
section
variable {own:aH}{ops:Array Oper}{r:List Oper}{K:List Kt}
end
section
variable (hE:EG GB ai al ae){k:Nat}{a b:Tr}(ha:fB j a)(hb:fB k b)
include hE ha
include hb
def M0{v:Bool}(h:ml 3 a b=v)(hk:j+k<=200:=by decide):PF GB prog 39 [eA a,eA b] (.tp [vB v, .v .nilIface]):=h▸Up hE ha hb hk
end
section
variable (hE:EG GB ai al ae)
include hE
end

def Ut(l:List ah):cP 6 (l.map eZ):=fun d hd=>by
 obtain⟨x,_,rfl⟩:=aT.1 hd;exact⟨J,J⟩
def Uw[h:aG p i](hi:i<=900000000:=by decide):PF GB prog 262 [eZ p] (eZ (bG p)):=by
 refine fn func262 J J ntmps262 J J (fun C=>?_);refine cl J (pI (q:=p.x) (i:=i) hi) J<|cl J (pI (q:=p.y) (i:=i) hi) J<|?_;exact rz J J
def aEc[h:aG p i](hi:i<=900000000:=by decide):PF GB prog 200 [eZ p] (eZ (iz p)):=by
 refine fn func200 J J ntmps200 J J (fun C=>?_);refine cl J (pI (q:=p.y) (i:=i) hi) J<|?_;exact rz J J
def Qv[h:BQ q i](hi:i<=400000000:=by decide):PF GB prog 144 [eR q] (eF q):=by
 haveI:BN q.num.natAbs i:=⟨h.hn⟩;haveI:BN q.den i:=⟨h.hd⟩;refine fn func144 J J ntmps144 J J (fun C=>?_);refine cl (fu:=⟨0⟩) J (vE (n:=decide (q.num<0)) (a:=q.num.natAbs) (d:=q.den) (i:=i) (j:=i) (by omega) (by omega)) J<|?_;refine ak 7 (.d (eF q)) J (by rw[mo,sV]) ?_;refine gx J<|?_;exact rz J J
def W1[h:aG p i](hi:i<=400000000:=by decide):PF GB prog 65 [pp p] (eZ p):=by
 refine fn func65 J J ntmps65 J J (fun C=>?_);refine cl J (Qv (q:=p.x) (i:=i) hi) J<|cl J (Qv (q:=p.y) (i:=i) hi) J<|?_;exact rz J J
def Mv{q:ah}[hp:aG p i][hq:aG q i](hi:i<=1000000:=by decide):PF GB prog 225 [eZ p,eZ q] (vB (decide (p.x=q.x/\p.y=q.y))):=by
 refine fn func225 J J ntmps225 J J (fun C=>?_);refine cl J (x9 (p:=p.x) (q:=q.x) (i:=i) (j:=i) (by omega) (by omega)) J<|?_;refine csd 10 J J J (fun hg10=>?_) (fun hg10=>?_)
 .
  refine cl J (x9 (p:=p.y) (q:=q.y) (i:=i) (j:=i) (by omega) (by omega)) J<|?_;exact rz J (by show DV.v (.bool _)= .v (.bool _);simp_all)
 .
  exact rz J (by show DV.v (.bool _)= .v (.bool _);simp_all)
def Ia{q:ah}[hp:aG p i][hq:aG q j](hi:i<=10000000:=by decide)(hj:j<=10000000:=by decide):PF GB prog 199 [eZ p,eZ q] (eZ ⟨p.x-q.x,p.y-q.y⟩):=by
 refine fn func199 J J ntmps199 J J (fun C=>?_);refine cl J (qE (p:=p.x) (q:=q.x) (i:=i) (j:=j) (by omega) (by omega)) J<|cl J (qE (p:=p.y) (q:=q.y) (i:=i) (j:=j) (by omega) (by omega)) J<|?_;exact rz J J
def aHK(h: ¬gA q)(hy:Is G (dm q) y):y= .pointer none:=by
 unfold dm at hy;rw[decide_eq_false h] at hy;rcases ur.1 hy with⟨_,e⟩|⟨e,_⟩
 .exact e
 .cases e
def XQ(h: ¬gA q):Is G (dm q) (.pointer none):=by
 unfold dm;rw[decide_eq_false h];exact ur.2 (.inl ⟨J,J⟩)
def xF(q:Rat):List Value:=[.int .i64 (dw q), .int .i64 (dx q), .pointer none]
def Xh{m:List Value}(h: ¬gA q)(hm:IsLs G (vI (dw q)::vI (dx q)::dm q::t) m): ∃n,m=xF q++n/\IsLs G t n:=by
 obtain⟨y1,m1,rfl,h1,hm1⟩:=aI.1 hm;obtain⟨y2,m2,rfl,h2,hm2⟩:=aI.1 hm1;obtain⟨y3,m3,rfl,h3,hm3⟩:=aI.1 hm2;obtain rfl:=aB.1 h1;obtain rfl:=aB.1 h2;obtain rfl:=aHK h h3;exact⟨m3,J,hm3⟩
def aBZ{n:List Value}(h: ¬gA q)(k:IsLs G t n):IsLs G (vI (dw q)::vI (dx q)::dm q::t) (xF q++n):= .cons (aB.2 J) (.cons (aB.2 J) (.cons (XQ h) k))
def rV(q:Rat):Value:= .agg ⟨xF q⟩
def VT(h: ¬gA q)(hy:Is G (eF q) y):y=rV q:=by
 obtain⟨m,rfl,hm⟩:=d9.1 hy;obtain⟨n,rfl,hn⟩:=Xh h hm;rw[dE.1 hn];rfl
def Tq(h: ¬gA q):Is G (eF q) (rV q):=d9.2 ⟨_,J,aBZ h (dE.2 J)⟩

def nG(v:List ah):List (List DV):=(List.range v.length).map fun i=>[vI (i:Nat),F2 (v.getD i ⟨0,0⟩) (v.getD ((i+1)%v.length) ⟨0,0⟩)]
def S1{q:ah}(h1:v[i]? =some p)(h2:v[(i+1)%v.length]? =some q):(nG v)[i]? =some [vI (i:Nat),F2 p q]:=by
 have hi:=(aY.1 h1).1;unfold nG;rw[bS,oT hi,kJ,aK,aK,h1,h2];rfl
def Ir(h:(nG v)[i]? =some e): ∃p q,v[i]? =some p/\v[(i+1)%v.length]? =some q/\e=[vI (i:Nat),F2 p q]:=by
 have hi:i<v.length:=by
  have:=(aY.1 h).1;unfold nG at this;simpa using this
 have h1:v[i]? =some v[i]:=aZ hi;have hm:(i+1)%v.length<v.length:=dV _ (by omega);have h2:v[(i+1)%v.length]? =some v[(i+1)%v.length]:=aZ hm;refine⟨_,_,h1,h2,?_⟩;rw[S1 h1 h2] at h;exact(Option.some.inj h).symm
def HZ: ∀e∈nG v,e.length=2:=fun e he=>by
 obtain⟨i,_,rfl⟩:=aT.1 he;rfl
def GF(hn:v.length<=100000:=by omega):It GB prog 226 [.pt [.sl (v.map eZ)]] (nG v):=by
 have hml:(v.map eZ).length=v.length:=aX ..;have hrl:(nG v).length=v.length:=by unfold nG;simp
 refine VI func226 J J ntmps226 J (fun _=>J) (fun l Jv Jx GB' hg H C hp hJ=>?_);refine ptE 1 J<|gx J<|?_;refine ak 6 (.d (vI (v.length:Nat))) J (by rw[hml]<;>rfl) ?_;refine W5 (X:=Nat) (fun k=>[(0, .d (.v (.func (.yield l) #[] #[]))),(1, .ep [.sl (v.map eZ)]),(5, .d (.sl (v.map eZ))),(6, .d (vI (v.length:Nat))),(7, .d (vI (k:Nat)))]) (fun k C=>k<=v.length/\Jv k C.G0 C.w0) (fun k=>v.length-k) 0 hp ⟨bZ _,hJ⟩ (fun _=>J) (fun k C1 hp1 hk=>?_);obtain⟨hk1,hJ1⟩:=hk;refine br J J J (fun hc8=>?_) (fun hc8=>?_)
 .obtain⟨p,hpx⟩: ∃u,v[k]? =some u:=⟨_,aZ (by omega)⟩
  obtain⟨q,hqx⟩: ∃u,v[(k+1)%v.length]? =some u:=⟨_,aZ (dV _ (by omega))⟩;refine ix _ J (cH hpx) J<|?_;refine ak 20 (.d (vI (((k+1)%v.length:Nat):Int))) J (by rw[hml]<;>rfl) ?_;refine gx J<|ix _ J (cH hqx) J<|YI (len:=2) (s:=6) (e:=122) J (by kernel_rfl) (by kernel_rfl) J<|?_;refine drT (by kernel_rfl) J ?_;refine cy [(0, .d (.v (.func (.yield l) #[] #[]))),(1, .ep [.sl (v.map eZ)]),(5, .d (.sl (v.map eZ))),(6, .d (vI (v.length:Nat))),(7, .d (vI (k:Nat)))] H hp1 hJ1 J (S1 hpx hqx) J (by repeat (first|exact trivial|refine And.intro J ?_)) J J J (fun C3 hp3 hJ3=>?_) (fun C3 hp3 hJ3=>?_)
  .exact WA (k+1) hp3 ⟨⟨by omega,hJ3⟩,by omega⟩
  .exact Pm H hp3 (.inr hJ3) J
 .obtain rfl:k=v.length:=by omega
  exact Pm H hp1 (.inl (by rw[hrl];exact hJ1)) J
def Hk:GX GB prog 145 [.sl (v.map eZ)] 226 (.pt [.sl (v.map eZ)]):=by
 refine Vd func145 J J ntmps145 J J (fun C=>?_);refine fz 1 J J ?_;refine ZN 1 J (fun GB' pv hg hp=>?_);refine mkG J J ?_;exact aJ9 J J hp
def ZX:H9 120:=fun x w=>by kernel_rfl
def TQ(m:List Value):Ek 120 (.agg ⟨m⟩) "Mul" 245:=fun w=>by kernel_rfl
def VW(l:List Rat)(k:Nat)(y:Rat):(l.map eF).set k (eF y)=(l.set k y).map eF:=(kY ..).symm
def n9(L:List Rat)(k:Rat)(j:Nat):List Rat:=(L.take j).map (· *k)++L.drop j
def aEe(L:List Rat)(k:Rat)(j:Nat):(n9 L k j).length=L.length:=by
 unfold n9;rw[aU,aX,cR,gL];omega
def Ww{k a:Rat}(h:L[j]? =some a):(n9 L k j)[j]? =some a:=by
 have hj:=(aY.1 h).1;unfold n9;rw[jT (by rw[aX,cR];omega),aX,cR,mX,<-h];congr 1;omega
def aBR{k a:Rat}(h:L[j]? =some a):(n9 L k j).set j (a*k)=n9 L k (j+1):=by
 have hj:=(aY.1 h).1;unfold n9;rw[eM,h,nT _ _ (by rw[aX,cR];omega),aX,cR,show j-min j L.length=0 by omega,bQ hj];simp only[pU,bV,bT,iZ,List.set_cons_zero,dW,iJ,jN]
def NV{k:Rat}[hk:BQ k i](hL: ∀a∈L,¬gA a)(hb: ∀a∈L,BQ a i)(hn:L.length<=1000)(hi:i<=1000000:=by decide):PB GB prog 279 (fG [some (eF k),none]) 3 120 (L.map eF) (fun w=> .v (.slice w.a w.n w.c)) ((L.map (· *k)).map eF):=by
 have hml:(L.map eF).length=L.length:=aX ..;refine GG (fu:=⟨11⟩) func279 J J ntmps279 J J (fun C=>?_);refine ak 7 (.d (vI (L.length:Nat))) J (by rw[hml]<;>rfl) ?_;refine gx J<|?_;refine lp (X:=Nat) (fun j=>[(8, .d (vI (j:Nat)))]) (fun j=>[(1000000,some (.b 120 3 ((n9 L k j).map eF) false))]) (fun j=>j<=L.length) (fun j=>L.length-j) 0 J (bZ _) (fun _=>J) (fun j hk=>?_);have hsl:=aEe L k j;have hsm:((n9 L k j).map eF).length=(n9 L k j).length:=aX ..;refine br J J J (fun hc9=>?_) (fun hc9=>?_)
 .
  obtain⟨a,hx⟩: ∃u,L[j]? =some u:=⟨_,aZ (by omega)⟩;have ham:=aV hx;haveI:=hb a ham;have hga:(n9 L k j)[j]? =some a:=Ww hx;refine lb (fu:=⟨0⟩) _ J (cH hga) J<|mki (fu:=⟨1⟩) (rV a) J ZX (fun G y hy=>VT (hL a ham) hy) J<|ivk J (TQ _) (PF.arg0 (oC (p:=a) (q:=k) (i:=i) (j:=i) (by omega) (by omega)) (fun G y h=>by rw[aB.1 h];exact Tq (hL a ham))) J<|?_;refine sb (hv:=by simp only[aj];exact⟨by kernel_rfl,by omega⟩) _ ((n9 L k (j+1)).map eF) J (cH hga) J (by rw[<-aBR hx,<-VW]<;>rfl) J<|?_;exact at_ (j+1) ⟨(by omega),(by omega)⟩
 .
  obtain rfl:j=L.length:=by omega
  have hend:n9 L k L.length=L.map (· *k):=by unfold n9;rw[dQ,gQ,gK]
  exact xz J J J (by rw[hend])
def FY{a:Int}{g:Nat}(hg:0<g)(hd:g∣a.natAbs):(a:Rat)*(((g:Nat):Int):Rat)⁻¹=((zv (decide (a<0)) (a.natAbs/g):Int):Rat):=by
 obtain⟨q,hq⟩:=hd;have e:zv (decide (a<0)) (a.natAbs/g)*(g:Int)=a:=by
  rw[hq,rN q hg];unfold zv;have hc:((g*q:Nat):Int)=(g:Int)*(q:Int):=by simp
  have hm:=sZ (g:Int) (q:Int);split
  .rename_i h
   have h:=of_decide_eq_true h;rw[Int.neg_mul];omega
  .rename_i h
   have h: ¬a<0:=fun k=>h (decide_eq_true k);omega
 generalize zv (decide (a<0)) (a.natAbs/g)=z at*;have h0:((g:Int):Rat)≠0:=by
  intro k;have:(g:Int)=0:=by exact_mod_cast k
  omega
 rw[<-e,cW];generalize ((g:Int):Rat)=r at*;grind
def x5{k:Nat}(h:BQ q k)(hk:k<=62:=by decide): ¬gA q:=fun b=>b (by
 have hp:2^k<=2^62:=bR (by decide) hk;have e:(2:Nat)^62=4611686018427387904:=by decide
 obtain⟨h1,h2⟩:=h;exact⟨by omega,by omega⟩)
theorem Ex(p q:ah)[aG p i][aG q j]:aG ⟨p.x-q.x,p.y-q.y⟩ (i+j+1):=⟨inferInstanceAs (BQ (p.x-q.x) _),inferInstanceAs (BQ (p.y-q.y) _)⟩
theorem PU{z:Int}(h:z.natAbs<=1000000):BQ (z:Rat) 22:=by
 have e:(2:Nat)^21=2097152:=by decide
 haveI:BI z 21:=⟨by omega⟩;exact(inferInstance:BQ (z:Rat) 22)
theorem HM{z:ZP}(h:ZP.le 100 z):aG z.q 22:=⟨PU (by have:=h.1;omega),PU (by have:=h.2;omega)⟩
def RJ{k:Nat}(h:(r.map ZP.q)[k]? =some p):k<r.length/\p=(r.getD k (0,0)).q:=by
 rw[bS] at h
 cases e:r[k]? with
 |none=>rw[e] at h;cases h
 |some z=>
  rw[e] at h;cases h;exact⟨(aY.1 e).1,by rw[aK,e];rfl⟩
def aCQ[h:BN a i](hi:i<=1000000000:=by decide):PF GB prog 322 [dN a] (.v (.bool true)):=
 (M' (ds:=dg a) (eg _).2.1 (by have:=nA (a:=a) hi;omega)).to (by unfold vB;rw[decide_eq_true (eg a).2.2])
def O5[hq:BQ q i](hi:i<=1000000:=by decide):PF GB prog 297 [eR q] (.v (.bool true)):=by
 have hd:=q.den_pos;have hdl:0<(dg q.den).length:=iK fun e=>by have:=vO.1 e;omega
 have hml:((dg q.den).map dU).length=(dg q.den).length:=aX ..;have hco:Nat.gcd q.num.natAbs q.den=1:=q.reduced;refine fn func297 J J ntmps297 J J (fun C=>?_);refine cl (fu:=⟨0⟩) J (r9 (m:=q.num) (i:=i) (h:=⟨hq.hn⟩) (by omega)) J<|?_;refine kG 5 J ?_;refine gx J<|cl (fu:=⟨0⟩) J (aCQ (a:=q.den) (i:=i) (h:=⟨hq.hd⟩) (by omega)) J<|?_;refine kG 10 J ?_;refine gx (fu:=⟨6⟩) J<|cd J (by show some (decide _)=some false;rw[decide_eq_false (by omega)]) J<|cl (fu:=⟨0⟩) J (Kj (a:=q.num.natAbs) (b:=q.den) (i:=i) (j:=i) (h:=⟨hq.hn⟩) (k:=⟨hq.hd⟩) (by omega) (by omega)) J<|?_;refine ak 24 (.d (dN 1)) J (by rw[hco]) ?_;refine gx J<|cl J (vd (a:=1) (i:=1) (h:=⟨by decide⟩)) J<|?_;exact rz J J
def VB[hp:aG p i](hi:i<=1000000:=by decide):PF GB prog 222 [pp p] (.v (.bool true)):=by
 refine fn func222 J J ntmps222 J J (fun C=>?_);refine cl (fu:=⟨0⟩) J (O5 (q:=p.x) (i:=i) (by omega)) J<|?_;refine kG 5 J ?_;refine gx J<|cl J (O5 (q:=p.y) (i:=i) (by omega)) J<|?_;exact rz J J
def tu(l:List ah)(p:ah):Int:=match l.findIdx? (fun q=>decide (q.x=p.x/\q.y=p.y)) with
 |some i=>(i:Nat)
 |none=> -1
def Fw{q:ah}{k:Nat}(hx:l[k]? =some q)(h:(l.take k).all (fun q=>!decide (q.x=p.x/\q.y=p.y))=true)(hq:q.x=p.x/\q.y=p.y):tu l p=(k:Nat):=by
 have hk:=(aY.1 hx).1;have e:l.findIdx? (fun q=>decide (q.x=p.x/\q.y=p.y))=some k:=by
  rw[List.findIdx?_eq_some_iff_getElem];refine⟨hk,?_,fun j hj=>?_⟩
  .rw[(aY.1 hx).2];exact decide_eq_true hq
  .have:=dK.1 h l[j] (by rw[List.mem_take_iff_getElem];exact⟨j,by omega,J⟩)
   simp at this⊢;intro a b;rcases this with k|k
   .exact k a
   .exact k b
 unfold tu;rw[e]
def V'(h:l.all (fun q=>!decide (q.x=p.x/\q.y=p.y))=true):tu l p= -1:=by
 have e:l.findIdx? (fun q=>decide (q.x=p.x/\q.y=p.y))=none:=by
  rw[List.findIdx?_eq_none_iff];intro x hx;have:=dK.1 h x hx;simp at this⊢;intro a b;rcases this with k|k
  .exact k a
  .exact k b
 unfold tu;rw[e]
def ayT{k:Nat}{q:ah}{g:ah->Bool}(hx:l[k]? =some q)(h:(l.take k).all g=true)(hq:g q=true):(l.take (k+1)).all g=true:=by
 rw[eM,hx,List.all_append,h];simp[hq]
def aD6[hp:aG p i](hl: ∀q∈l,aG q i)(hn:l.length<=100000)(hi:i<=1000000:=by decide):PF GB prog 224 [.sl (l.map eZ),eZ p] (vI (tu l p)):=by
 have hml:(l.map eZ).length=l.length:=aX ..;refine fn (fu:=⟨11⟩) func224 J J ntmps224 J J (fun C=>?_);refine ak 8 (.d (vI (l.length:Nat))) J (by rw[hml]<;>rfl) ?_;refine gx J<|?_;refine lp (X:=Nat) (fun k=>[(9, .d (vI (k:Nat)))]) (fun k=>[]) (fun k=>k<=l.length/\(l.take k).all (fun q=>!decide (q.x=p.x/\q.y=p.y))=true) (fun k=>l.length-k) 0 J ⟨bZ _,J⟩ (fun _=>J) (fun k hk=>?_);obtain⟨hk,hall⟩:=hk;refine br J J J (fun hc10=>?_) (fun hc10=>?_)
 .
  obtain⟨q,hx⟩: ∃u,l[k]? =some u:=⟨_,aZ (by omega)⟩;haveI:=hl q (aV hx);refine ix _ J (cH hx) J<|cl J (Mv (p:=q) (q:=p) (i:=i) hi) J<|?_;refine bd J J J (fun hc16=>?_) (fun hc16=>?_)
  .
   exact rz J (by rw[Fw hx hall hc16];rfl)
  .
   exact at_ (k+1) ⟨⟨by omega,ayT hx hall (by rw[decide_eq_false hc16];rfl)⟩,(by omega)⟩
 .
  obtain rfl:k=l.length:=by omega
  rw[dQ] at hall;exact rz J (by rw[V' hall];rfl)
def fD(l:List ah):Nat->Nat
 |0=>0
 |k+1=>fD l k+if tu l (l.getD k ⟨0,0⟩)=(k:Nat) then 1 else 0
def lm(l:List ah)(k:Nat):Nat:=if 3<=fD l k then 3 else fD l k
def Xd{k:Nat}(h:lm l k<3)(e:fD l (k+1)=fD l k+1):((lm l k:Nat):Int)+1=((lm l (k+1):Nat):Int):=by
 have a:lm l k=if 3<=fD l k then 3 else fD l k:=J
 have b:lm l (k+1)=if 3<=fD l (k+1) then 3 else fD l (k+1):=J
 split at a<;>split at b<;>omega
def Np{k:Nat}(h: ¬lm l k<3\/fD l (k+1)=fD l k)(m:fD l k<=fD l (k+1)):((lm l k:Nat):Int)=((lm l (k+1):Nat):Int):=by
 have a:lm l k=if 3<=fD l k then 3 else fD l k:=J
 have b:lm l (k+1)=if 3<=fD l (k+1) then 3 else fD l (k+1):=J
 split at a<;>split at b<;>omega
def Z6(l:List ah)(k:Nat):lm l k<=3:=by unfold lm;split<;>omega
def WE{k:Nat}(h:3<=fD l k):lm l k=3:=by unfold lm;rw[if_pos h]
def E5{k:Nat}(hx:l[k]? =some p)(h:tu l p=(k:Nat)):fD l (k+1)=fD l k+1:=by
 rw[fD,aK,hx,kW,if_pos h]
def aFu{k:Nat}(hx:l[k]? =some p)(h: ¬tu l p=(k:Nat)):fD l (k+1)=fD l k:=by
 rw[fD,aK,hx,kW,if_neg h];rfl
def MH{k:Nat}:fD l k<=fD l (k+1):=by rw[fD];split<;>omega
def awK{k:Nat}(h:v[k]? =some p):((v.take k).map eZ)++[eZ p]=(v.take (k+1)).map eZ:=by
 rw[eM,h,bV];rfl
def TU(h:ew r){k:Nat}(hk:k<r.length):decide ((r.getD k (0,0)).q.x=(iC r k).q.x/\(r.getD k (0,0)).q.y=(iC r k).q.y)=false:=decide_eq_false fun e=>h.ne k hk (Em (by
 obtain⟨e1,e2⟩:=e;generalize (r.getD k (0,0)).q=a at*;generalize (iC r k).q=b at*
 cases a;cases b
 simp only[ah.mk.injEq];exact⟨e1,e2⟩))
def ayH(h:ew r)(h3:3<=fD (r.map ZP.q) (r.map ZP.q).length):PF GB prog 142 [mm r] (.tp [.sl ((r.map ZP.q).map eZ), .v .nilIface]):=by
 have hn:=h.n6;obtain⟨v,hv⟩: ∃v,v=r.map ZP.q:=⟨_,rfl⟩;have hvl:v.length=r.length:=by rw[hv,aX]
 have hb: ∀p∈v,aG p 22:=fun p hp=>by rw[hv] at hp;obtain⟨z,hz,rfl⟩:=aT.1 hp;exact HM (h.le z hz)
 unfold mm;rw[<-hv] at h3⊢;have hm1:(v.map pp).length=v.length:=aX ..;have hm2:(v.map eZ).length=v.length:=aX ..;have hrl:(nG v).length=v.length:=by unfold nG;rw[aX,lQ]
 refine IX (fu:=⟨11⟩) func142 J J ntmps142 J J (fun C h0=>?_);refine ak 13 (.d (vI (v.length:Nat))) J (by rw[hm1]<;>rfl) ?_;refine gx (fu:=⟨0⟩) J<|cd (fu:=⟨15⟩) J (by show some (decide _)=some false;rw[decide_eq_false (by omega)]) J<|?_;refine ak 20 (.d (vI (v.length:Nat))) J (by rw[hm1]<;>rfl) ?_;refine gx J<|?_;refine nr 4 4 122 6 J J J ?_;refine lp (X:=Nat) (fun k=>[(21, .d (vI (k:Nat))),(4, .rw 4)]) (fun k=>[(4,some (.b 122 6 ((v.take k).map eZ) true))]) (fun k=>k<=v.length) (fun k=>v.length-k) 0 J (bZ _) (fun _=>J) (fun k hk=>?_);have hm3:((v.take k).map eZ).length<=k:=by rw[aX,cR];omega
 refine br (fu2:=⟨0⟩) J J J (fun hc22=>?_) (fun hc22=>?_)
 .
  obtain⟨p,hx⟩: ∃u,v[k]? =some u:=⟨_,aZ (by omega)⟩;haveI:=hb p (aV hx);refine ix _ J (cH hx) J<|cl (fu:=⟨0⟩) J (VB (p:=p) (i:=22)) J<|?_;refine kG 27 J ?_;refine gx J<|cl J (W1 (p:=p) (i:=22)) J<|rf J J<|ap ((v.take (k+1)).map eZ) J (awK hx) (Ut [p]) J<|?_;refine fH 41 4 J ?_;exact at_ (k+1) ⟨(by omega),(by omega)⟩
 .
  obtain rfl:k=v.length:=by omega
  rw[dQ];refine tj 4 J ?_;refine gx (fu:=⟨15⟩) J<|?_;refine ak 44 (.d (vI (v.length:Nat))) J (by rw[hm2]<;>rfl) ?_;refine gx J<|?_;refine lp (X:=Nat) (fun k=>[(45, .d (vI (k:Nat))),(7, .d (vI ((lm v k):Nat)))]) (fun k=>[]) (fun k=>k<=v.length) (fun k=>v.length-k) 0 J (bZ _) (fun _=>J) (fun k hk=>?_);have hdm:=Z6 v k;refine br (fu2:=⟨9⟩) J J J (fun hc46=>?_) (fun hc46=>?_)
  .
   obtain⟨p,hx⟩: ∃u,v[k]? =some u:=⟨_,aZ (by omega)⟩;haveI:=hb p (aV hx);have hcm:=MH (l:=v) (k:=k);refine ix _ J (cH hx) J<|?_;refine cs 52 J J J (fun hg52=>?_) (fun hg52=>?_)
   .
    refine cl J (aD6 (l:=v) (p:=p) (i:=22) hb (by omega)) J<|?_;refine br J J J (fun hc58=>?_) (fun hc58=>?_)
    .
     have he7:=Xd (by omega) (E5 hx (by omega));refine ak 7 (.d (vI (lm v (k+1):Nat))) J (by rw[he7]<;>rfl) ?_;exact at_ (k+1) ⟨(by omega),(by omega)⟩
    .
     have he7:=Np (.inr (aFu hx (by omega))) hcm;refine ak 7 (.d (vI (lm v (k+1):Nat))) J (by rw[he7]<;>rfl) ?_;exact at_ (k+1) ⟨(by omega),(by omega)⟩
   .
    have he7:=Np (l:=v) (k:=k) (.inl (by omega)) hcm;refine ak 7 (.d (vI (lm v (k+1):Nat))) J (by rw[he7]<;>rfl) ?_;exact at_ (k+1) ⟨(by omega),(by omega)⟩
  .
   obtain rfl:k=v.length:=by omega
   have hd3:=WE h3;refine cd (fu:=⟨9⟩) J (by show some (decide _)=some false;rw[decide_eq_false (by omega)]) J<|?_;refine Gv J J J Hk (fun _=>J) (fun GB1 pv hg1 hpv=>?_);refine yh 2 2000002 h0.fx J<|yh 3 2000003 h0.fx J ?_;refine J3 (σ:=Empty) (fun _=>[(2000002,some (.o 125 [.nl] true)),(2000003,some (.o 41 [.d (.v .nilIface)] true))]) (fun _=>True) (fun _=>[]) (fun _=>False) [(2, .ov 2000002 0),(3, .ov 2000003 0),(4, .d (.sl (v.map eZ)))] h0 J (GF) (.cons hpv .nil) ⟨J,J,J,trivial⟩ J ⟨J,J,trivial⟩ trivial HZ J J (fun k e GB' hE hg hp=>?_) (fun D hD hx hp=>?_) (fun D s hD hx hq=>hq.elim)
   .obtain⟨p,q,hpx,hqx,rfl⟩:=Ir hE
    rw[hvl] at hqx;rw[hv] at hpx hqx;obtain⟨hk,rfl⟩:=RJ hpx;obtain⟨hk2,rfl⟩:=RJ hqx;haveI:=HM (h.le _ (uR hk));haveI:=HM (h.le _ (y7 hk));have hne:=TU h hk;refine⟨?_,?_,fun C2=>?_,fun C2=>?_⟩
    rotate_left 2
    .refine gx J<|Ip J J J ⟨J,J,J⟩ J ?_
     exact atR
    .refine gx J<|o9 0 (e:=122) (len:=2) (s:=6) J (by kernel_rfl) (by kernel_rfl) (by decide) J<|o9 1 (e:=122) (len:=2) (s:=6) J (by kernel_rfl) (by kernel_rfl) (by decide) J<|?_
     refine cl J (Mv (p:=(r.getD k (0,0)).q) (q:=(iC r k).q) (i:=22)) J<|?_;refine bd J J J (fun hc=>absurd (decide_eq_true hc) (by rw[hne];decide)) (fun hc=>?_);exact rq trivial ⟨J,J,trivial⟩
   .refine gx J<|?_
    exact ET hD hx J J
structure th (r:List ZP):Prop where
 ok:ew r
 c3:3<=fD (r.map ZP.q) (r.map ZP.q).length




section
variable {α:Type}[Inhabited α]
end

end Go.Sx
end
section
namespace Go.Proofs
open Go.Shelf

end Go.Proofs
end
section
namespace Go.Sx
open Go Go.Proofs Tryz
variable {GB:Gh}{t l v:List ah}{p n q:ah}{L:List aa}{R D g x m:Rat}{i j k:Nat}{s:bz}





def Wu{a:ah}:tu (a::t) a=((0:Nat):Int):=Fw (k:=0) (q:=a) J J ⟨J,J⟩
def Wa{a b c:ah}(h1:a≠b)(h2:a≠c)(h3:b≠c):3<=fD (a::b::c::t) (a::b::c::t).length:=by
 have ne: ∀{x y:ah},x≠y->(!decide (x.x=y.x/\x.y=y.y))=true:=fun{x y} h=>by
  rw[decide_eq_false (fun k=>h (by cases x;cases y;simp only[ah.mk.injEq] at*;exact k))];rfl
 have e0:=E5 (l:=a::b::c::t) (k:=0) (p:=a) J Wu;have e1:=E5 (l:=a::b::c::t) (k:=1) (p:=b) J (Fw (k:=1) (q:=b) J (by simp only[List.take,List.all_cons,List.all_nil,Bool.and_true,ne h1]) ⟨J,J⟩);have e2:=E5 (l:=a::b::c::t) (k:=2) (p:=c) J (Fw (k:=2) (q:=c) J (by simp only[List.take,List.all_cons,List.all_nil,Bool.and_true,ne h2,ne h3]) ⟨J,J⟩);have mono: ∀n m,n<=m->fD (a::b::c::t) n<=fD (a::b::c::t) m:=by
  intro n m h
  induction m with
  |zero=>rw[show n=0 by omega];exact bX _
  |succ m ih=>
   by_cases k:n=m+1
   .rw[k];exact bX _
   .exact cS (ih (by omega)) MH
 have:=mono 3 (a::b::c::t).length (by simp);have z:fD (a::b::c::t) 0=0:=J;rw[eJ] at e0;rw[show 1+1=2 from J] at e1;rw[show 2+1=3 from J] at e2;omega
def JQ{a b c:ZP}{t:List ZP}(ho:ew (a::b::c::t))(h1:a≠b)(h2:a≠c)(h3:b≠c):th (a::b::c::t):=
 ⟨ho,Wa (t:=t.map ZP.q) (fun e=>h1 (Em e)) (fun e=>h2 (Em e)) (fun e=>h3 (Em e))⟩
def NU{a b c d:Int}(ho:ew (eo a b c d))(h1:a<c)(h2:b<d):th (eo a b c d):=
 JQ ho (fun e=>by have:=congrArg Prod.fst e;dsimp only at this;omega) (fun e=>by have:=congrArg Prod.fst e;dsimp only at this;omega) (fun e=>by have:=congrArg Prod.snd e;dsimp only at this;omega)
def Vx{p u v:ZP}(ho:ew (gu p u v))(h:kd u v≠0):th (gu p u v):=by
 have hu: ∀{a b:ZP},(a=(0,0)\/b=(0,0)\/a=b)->kd a b=0:=fun{a b} k=>by
  unfold kd;rcases k with rfl|rfl|rfl
  .simp
  .simp
  .rw[sZ];omega
 refine JQ ho (fun e=>h (hu (.inl ?_))) (fun e=>h (hu (.inr (.inl ?_)))) (fun e=>h (hu (.inr (.inr ?_))))
 .have e1:=congrArg Prod.fst e
  have e2:=congrArg Prod.snd e;unfold kC at e1 e2;dsimp only at e1 e2;exact Prod.ext (by dsimp only;omega) (by dsimp only;omega)
 .have e1:=congrArg Prod.fst e
  have e2:=congrArg Prod.snd e;unfold kC at e1 e2;dsimp only at e1 e2;exact Prod.ext (by dsimp only;omega) (by dsimp only;omega)
 .have e1:=congrArg Prod.fst e
  have e2:=congrArg Prod.snd e;unfold kC at e1 e2;dsimp only at e1 e2;exact Prod.ext (by omega) (by omega)
def aCB{es:List Int}{a:Nat}(ha:a<=es.length):th (gp es a).1:=by
 have hok:=(AU ha).1;unfold gp at*;dsimp only at*;split
 .rename_i h
  rw[if_pos h] at hok;unfold yu at*;dsimp only at*;exact NU hok (by omega) (by omega)
 .rename_i h
  rw[if_neg h] at hok;dsimp only at*;split
  .rename_i k
   rw[if_pos k] at hok;exact Vx hok (by omega)
  .exact JQ Mt (by decide) (by decide) (by decide)







section
variable {r:List ZP}
end





section
variable {C:aD}{n:Nat}{Q0:Exit->Act->World->Prop}{fr fr' fr1 fr2:aC}{own own' own1 own2:aH}{cf cf' cf1 cf2:Cf}{vc vc1 vc2:List Prop}
end





def IC{a:Rat}(hg:g≠0)(hR:R*D=g)(ha:a*D=x):a*R⁻¹=x*g⁻¹:=by
 have h1:g*g⁻¹=1:=Rat.mul_inv_cancel g hg;have hR0:R≠0:=fun e=>hg (by rw[<-hR,e];grind);have h2:R*R⁻¹=1:=Rat.mul_inv_cancel R hR0;generalize R⁻¹=r at*;generalize g⁻¹=s at*;have:r=D*s:=by
  have h3:R*(r-D*s)=0:=by grind
  have:=(fW.1 h3).resolve_left hR0;grind
 grind
def XD{a b c:Rat}(h0: ¬(a=0/\b=0)):a*(rgcd (rgcd a b) c)⁻¹=((d7 a b c).a:Rat)/\b*(rgcd (rgcd a b) c)⁻¹=((d7 a b c).b:Rat)/\c*(rgcd (rgcd a b) c)⁻¹=((d7 a b c).c:Rat):=by
 obtain⟨k1,k2,k3⟩:=Qt a b c;have hn:=JI (c:=c) h0;have hD:=So a b c;have hr:=My hD (My hD k1 k2) k3;unfold d7;generalize a.num*(b.den*c.den:Nat)=x at*;generalize b.num*(a.den*c.den:Nat)=y at*;generalize c.num*(a.den*b.den:Nat)=z at*;rw[fU] at hr;have hgn:Nat.gcd x.natAbs y.natAbs≠0:=fun h=>hn ⟨kX.1 (mZ h),kX.1 (lM h)⟩;have hgp:0<Nat.gcd (Nat.gcd x.natAbs y.natAbs) z.natAbs:=mL _ (iK hgn);have hg:(((Nat.gcd (Nat.gcd x.natAbs y.natAbs) z.natAbs:Nat):Int):Rat)≠0:=fun e=>by
  have:((Nat.gcd (Nat.gcd x.natAbs y.natAbs) z.natAbs:Nat):Int)=0:=by exact_mod_cast e
  omega
 refine⟨?_,?_,?_⟩
 .rw[IC hg hr k1];exact FY hgp (rW (kS _ _) (kS _ _))
 .rw[IC hg hr k2];exact FY hgp (rW (kS _ _) (lL _ _))
 .rw[IC hg hr k3];exact FY hgp (lL _ _)
def Si{a b c:Rat}[ha:BQ a 62][hb:BQ b 62][hc:BQ c 62](h0: ¬(a=0/\b=0)):PF GB prog 196 [eF a,eF b,eF c] (.tp [cO (d7 a b c),vB true]):=by
 obtain⟨e1,e2,e3⟩:=XD (c:=c) h0;haveI:BQ (rgcd a b) 260:=BQ.mono (inferInstance:BQ (rgcd a b) _);haveI:BQ (rgcd (rgcd a b) c) 700:=BQ.mono (inferInstance:BQ (rgcd (rgcd a b) c) _);haveI:BQ (rgcd (rgcd a b) c)⁻¹ 700:=BQ.mono (inferInstance:BQ (rgcd (rgcd a b) c)⁻¹ _);have hl4:([((d7 a b c).a:Rat),((d7 a b c).b:Rat),((d7 a b c).c:Rat)].map eF).length=3:=J;have hl3:[((d7 a b c).a:Rat),((d7 a b c).b:Rat),((d7 a b c).c:Rat)].length=3:=J;refine fn func196 J J ntmps196 J J (fun C=>?_);refine cl J (uB (q:=a)) J<|?_;refine csd 11 J J J (fun hg11=>?_) (fun hg11=>?_)
 .
  refine cl J (uB (q:=b)) J<|?_;refine bd J J J (fun hc14=>?_) (fun hc14=>?_)
  .
   exact absurd ⟨hg11,hc14⟩ h0
  .
   refine cl J (pE (p:=a) (q:=b) (i:=62) (j:=62)) J<|cl J (pE (p:=rgcd a b) (q:=c) (i:=260) (j:=62)) J<|cl J (J5 (q:=rgcd (rgcd a b) c) (i:=700)) J<|?_;refine ro (fu:=⟨0⟩) J J<|cq (hv:=by simp only[aj];exact⟨by kernel_rfl,by omega⟩) ([((d7 a b c).a:Rat),((d7 a b c).b:Rat),((d7 a b c).c:Rat)].map eF) rfl (NV (L:=[a,b,c]) (k:=(rgcd (rgcd a b) c)⁻¹) (i:=700) (by intro q hq;simp only[aW,dR,or_false] at hq;rcases hq with rfl|rfl|rfl;exact x5 ha;exact x5 hb;exact x5 hc) (by intro q hq;simp only[aW,dR,or_false] at hq;rcases hq with rfl|rfl|rfl;exact ha.mono (by decide);exact hb.mono (by decide);exact hc.mono (by decide)) (nb rfl)) (by simp only[bT,iZ,e1,e2,e3]) rfl<|?_;refine lb _ J J J<|lb _ J J J<|lb _ J J J<|?_;exact rz J J
 .
  refine cl J (pE (p:=a) (q:=b) (i:=62) (j:=62)) J<|cl J (pE (p:=rgcd a b) (q:=c) (i:=260) (j:=62)) J<|cl J (J5 (q:=rgcd (rgcd a b) c) (i:=700)) J<|?_;refine ro (fu:=⟨0⟩) J J<|cq (hv:=by simp only[aj];exact⟨by kernel_rfl,by omega⟩) ([((d7 a b c).a:Rat),((d7 a b c).b:Rat),((d7 a b c).c:Rat)].map eF) rfl (NV (L:=[a,b,c]) (k:=(rgcd (rgcd a b) c)⁻¹) (i:=700) (by intro q hq;simp only[aW,dR,or_false] at hq;rcases hq with rfl|rfl|rfl;exact x5 ha;exact x5 hb;exact x5 hc) (by intro q hq;simp only[aW,dR,or_false] at hq;rcases hq with rfl|rfl|rfl;exact ha.mono (by decide);exact hb.mono (by decide);exact hc.mono (by decide)) (nb rfl)) (by simp only[bT,iZ,e1,e2,e3]) rfl<|?_;refine lb _ J J J<|lb _ J J J<|lb _ J J J<|?_;exact rz J J
def U6{a b c:ah}[ha:aG a i][hb:aG b j][hc:aG c k](hi:i<=80000:=by decide)(hj:j<=80000:=by decide)(hk:k<=80000:=by decide):PF GB prog 146 [eZ a,eZ b,eZ c] (vI (bu a b c).num.sign):=by
 haveI h1:=Ex b a;haveI h2:=Ex c a;have e:(⟨b.x-a.x,b.y-a.y⟩:ah).cross ⟨c.x-a.x,c.y-a.y⟩=bu a b c:=by unfold ah.cross bu;grind
 refine fn func146 J J ntmps146 J J (fun C=>?_);refine cl J (Ia (p:=b) (q:=a) (i:=j) (j:=i) (by omega) (by omega)) J<|cl J (Ia (p:=c) (q:=a) (i:=k) (j:=i) (by omega) (by omega)) J<|?_;refine cl J (D5 (p:=⟨b.x-a.x,b.y-a.y⟩) (q:=⟨c.x-a.x,c.y-a.y⟩) (i:=j+i+1) (j:=k+i+1) (hp:=h1) (hq:=h2) (by omega) (by omega)) J<|?_;refine cl J (m8 (q:=(⟨b.x-a.x,b.y-a.y⟩:ah).cross ⟨c.x-a.x,c.y-a.y⟩) (h:= @BQ.cross _ _ _ _ h1 h2) (by omega)) J<|?_;exact rz J (by rw[e]<;>rfl)
def rm(n p:ah)(t:List ah)(k:Nat):Rat:=(t.take k).foldl (fun b q=>if n.dot q<b then n.dot q else b) (n.dot p)
def QH(h:t[k]? =some q):rm n p t (k+1)=if n.dot q<rm n p t k then n.dot q else rm n p t k:=by
 unfold rm;rw[eM,h];simp only[pU,oV,kK,List.foldl_nil]
theorem Fv{n p:ah}{t:List ah}{i j:Nat}[hn:aG n i](hb: ∀q∈p::t,aG q j): ∀k,BQ (rm n p t k) (i+j+(i+j)+1)
 |0=>by
  haveI:=hb p aQ;exact(inferInstance:BQ (n.dot p) _)
 |k+1=>by
  cases h:t[k]? with
  |none=>
   have e:rm n p t (k+1)=rm n p t k:=by
    unfold rm;rw[eM,h];simp
   rw[e];exact Fv hb k
  |some q=>
   rw[QH h];haveI:=hb q (aJ _ (aV h));split
   .exact(inferInstance:BQ (n.dot q) _)
   .exact Fv hb k
theorem Qd[aG n i](hb: ∀q∈l,aG q j)(hne:l≠[]):BQ (kg n l) (i+j+(i+j)+1):=by
 cases l with
 |nil=>exact absurd J hne
 |cons p t=>
  have:=Fv (n:=n) (i:=i) hb t.length;unfold rm at this;rwa [dQ] at this
def Ds(l:List ah):cP 6 (l.map eZ):=fun d hd=>by
 obtain⟨x,_,rfl⟩:=aT.1 hd;exact⟨J,J⟩
def OF[hn:aG n i](hb: ∀q∈l,aG q j)(hne:l≠[])(hi:i<=20000)(hj:j<=20000)(hk:l.length<=100000):PF GB prog 198 [eZ n, .sl (l.map eZ)] (eF (kg n l)):=by
 obtain⟨p,t,rfl⟩: ∃p t,l=p::t:=by cases l with|nil=>exact absurd rfl hne|cons p t=>exact⟨p,t,rfl⟩
 have hml:((p::t).map eZ).length=t.length+1:=by simp
 have hml2:(t.map eZ).length=t.length:=aX ..;rw[bJ] at hk;have hp:=hb p aQ;obtain⟨S,hS⟩: ∃S,S=rm n p t:=⟨_,rfl⟩;have hSb: ∀k,BQ (S k) (i+j+(i+j)+1):=by rw[hS];exact Fv hb
 have hS0:n.dot p=S 0:=by rw[hS];rfl
 refine fn func198 J J ntmps198 J J (fun C=>?_);refine ix _ J J J<|cl (fu:=⟨0⟩) J (vV (p:=n) (q:=p) (i:=i) (j:=j) (by omega) (by omega)) J<|?_;refine ak 12 (.d (eF (S 0))) J (by rw[hS0]) ?_;refine gx J<|mE (fu:=⟨1⟩) 1 (t.length+1) (t.map eZ) J J (by rw[hml]) (by rw[aM (by rw[hml];exact bX _)];rfl) (Ds _) (by omega) (by omega) J<|?_;refine ak 15 (.d (vI (t.length:Nat))) J (by rw[hml2]<;>rfl) ?_;refine gx J<|?_;refine lp (X:=Nat) (fun k=>[(16, .d (vI (k:Nat))),(5, .ov 5 0)]) (fun k=>[(5,some (.o 120 [.d (vI (dw (S k))), .d (vI (dx (S k))), .d (dm (S k))] true))]) (fun k=>k<=t.length) (fun k=>t.length-k) 0 J (bZ _) (fun _=>J) (fun k hk=>?_);haveI:=hSb k;refine br J J J (fun hc17=>?_) (fun hc17=>?_)
 .
  obtain⟨q,hx⟩: ∃u,t[k]? =some u:=⟨_,aZ (by omega)⟩;haveI:=hb q (aJ _ (aV hx));have eS:S (k+1)=if n.dot q<S k then n.dot q else S k:=by rw[hS];exact QH hx
  refine ix _ J (cH hx) J<|cl J (vV (p:=n) (q:=q) (i:=i) (j:=j) (by omega) (by omega)) J<|cl (fu:=⟨0⟩) J (K8 (p:=S k) (q:=n.dot q) (i:=i+j+(i+j)+1) (j:=i+j+(i+j)+1) (by omega) (by omega)) J<|?_;refine ak 24 (.d (eF (S (k+1)))) J (by rw[eS]) ?_;refine gx (hv:=by simp only[aj];exact⟨by kernel_rfl,by omega⟩) J<|?_;exact at_ (k+1) ⟨(by omega),(by omega)⟩
 .
  obtain rfl:k=t.length:=by omega
  exact rz J (by rw[hS];unfold rm;rw[dQ]<;>rfl)
def aJT:Option Rat->DV
 |some m=> .tp [eF m,vB true]
 |none=> .tp [.ag [vI 0,vI 0, .v (.pointer none)],vB false]
theorem Sn{c:ar}(hc:ek c): ∀q∈jx c,aG q 3500:=fun q hq=>by
 rcases bW.1 hq with h|h
 .obtain⟨s,hs,rfl⟩:=aT.1 h
  exact ayr (hc s hs)
 .have hlb: ∀l∈c.map (fun s=>s.l),LB l:=fun l hl=>by
   obtain⟨s,hs,rfl⟩:=aT.1 hl;exact(hc s hs).lb
  exact aG.mono (azf hlb q h)
def KV{c:ar}(h:c=[]\/tN n c=true):hH c n=none:=by
 unfold hH;rw[if_pos];rcases h with h|h
 .rw[h];rfl
 .rw[h,sU]
def KA{c:ar}(hs:s∈c)(h:je n s=true):hH c n=none:=by
 unfold hH;split
 .rfl
 .rw[if_pos (jS.2 ⟨s,hs,h⟩)]
def aCR{c:ar}(h0:c≠[])(h1:tN n c=false)(h: ∀s∈c,je n s=false):hH c n=some (kg n (jx c)):=by
 unfold hH;have e:c.isEmpty=false:=by cases c with|nil=>exact absurd J h0|cons s t=>rfl
 rw[e,h1,if_neg (by decide),if_neg (fun k=>by obtain⟨s,hs,k⟩:=jS.1 k;rw[h s hs] at k;cases k)]
def se(c:ar):List ah:=c.map fun s=>s.l.at s.v.sample
def Xp{c:ar}(h:c[k]? =some s):((se (c.take k)).map eZ)++[eZ (s.l.at s.v.sample)]=(se (c.take (k+1))).map eZ:=by
 unfold se;rw[eM,h,bV,bV];rfl
def WH{c:ar}(h:c.length≠1):tN n c=false:=by
 match c,h with
 |[],_=>rfl
 |[s],h=>exact absurd J h
 |_::_::_,_=>rfl
def CL:x.num.sign<0↔x<0:=by
 rw[<-Rat.not_le,<-sW];constructor
 .intro h k
  rcases(show x.num=0\/0<x.num by omega) with e|e
  .rw[e] at h;exact absurd h (by decide)
  .rw[fS e] at h;omega
 .intro h
  rw[fZ (by omega)];decide
def XJ:0<x.num↔0<x:=by
 constructor
 .intro h
  refine Rat.not_le.1 fun k=>?_;have h2:=sW.2 (show 0<= -x by grind);rw[oK] at h2;omega
 .intro h
  have h1:=sW.2 (cM h);have h2:x.num≠0:=fun e=>by rw[mQ.1 e] at h;exact absurd h (by decide)
  omega
def DT:0<x.num.sign↔0<x:=by
 rw[<-XJ];constructor
 .intro h
  refine Decidable.not_not.1 fun k=>?_;rcases(show x.num=0\/x.num<0 by omega) with e|e
  .rw[e] at h;exact absurd h (by decide)
  .rw[fZ e] at h;exact absurd h (by decide)
 .intro h
  rw[fS h];decide
def aJ7(h:s.v.nh=true)(k:(s.l.dir.dot n).num.sign<0):je n s=true:=by
 unfold je;rw[h,decide_eq_true (CL.1 k)];rfl
def Mu(h:s.v.nl=true)(k:0<(s.l.dir.dot n).num.sign):je n s=true:=by
 unfold je;rw[h,decide_eq_true (DT.1 k),pN,sU]
def EJ(h1:s.v.nh=false\/ ¬(s.l.dir.dot n).num.sign<0)(h2:s.v.nl=false\/ ¬0<(s.l.dir.dot n).num.sign):je n s=false:=by
 unfold je;have e1:(s.v.nh&&decide (s.l.dir.dot n<0))=false:=by
  rcases h1 with h|h
  .rw[h];rfl
  .rw[decide_eq_false fun k=>h (CL.2 k),Bool.and_false]
 have e2:(s.v.nl&&decide (0<s.l.dir.dot n))=false:=by
  rcases h2 with h|h
  .rw[h];rfl
  .rw[decide_eq_false fun k=>h (DT.2 k),Bool.and_false]
 rw[e1,e2];rfl
def Yk{c:ar}(h:c[k]? =some s)(hk: ∀s∈c.take k,je n s=false)(hs:je n s=false): ∀s∈c.take (k+1),je n s=false:=fun u hu=>by
 rw[eM,h] at hu;rcases bW.1 hu with hu|hu
 .exact hk u hu
 .rw[show u=s by simpa using hu];exact hs
def RK{c:ar}(h:c≠[]):jx c≠[]:=fun e=>h (by
 have:=(List.append_eq_nil_iff.1 e).1;exact List.map_eq_nil_iff.1 this)
def W4(c:ar)(h:c.length<=20000):(jx c).length<=100000:=by
 unfold jx;have:=Pq (c.map (·.l));rw[aU,aX];rw[aX] at this;omega
def P4{c:ar}[hn:aG n j](hc:ek c)(hj:j<=10000)(hk:c.length<=20000):PF GB prog 201 [eC c,eZ n] (aJT (hH c n)):=by
 have hml:(c.map c7).length=c.length:=aX ..;have hback: ∀s,c[0]? =some s->c.length=1->tN n c=decide (s.l.nor.dot n<0):=fun s h1 h2=>by match c,h1,h2 with|[u],h1,_=>cases h1;rfl
 refine fn (fu:=⟨8⟩) func201 J J ntmps201 J J (fun C=>?_);refine mg (X:=Unit) (fun _=>[]) (fun _=>[]) (fun _=>c≠[]/\tN n c=false) [] [] rfl ?_ (fun _=>J) (fun _ hm=>?_)
 .
  refine gx (fu:=⟨4⟩) J<|?_;refine ak 11 (.d (vI (c.length:Nat))) J (by rw[hml]<;>rfl) ?_;refine gx (fu:=⟨0⟩) J<|?_;refine jr (v1:=fun hg12=>by simp only[aj];kernel_rfl) (fu2:=⟨3⟩) J J J J (fun hg12=>?_) (fun hg12=>?_)
  .
   exact rz J (by rw[KV (.inl (bM (by omega)))]<;>rfl)
  .
   have hc0:c≠[]:=fun e=>hg12 (by rw[e];rfl);refine ak 15 (.d (vI (c.length:Nat))) J (by rw[hml]<;>rfl) ?_;refine gx (fu:=⟨0⟩) J<|?_;refine jr (v2:=fun hg16=>by simp only[aj];kernel_rfl) J J J J (fun hg16=>?_) (fun hg16=>?_)
   .
    obtain⟨s,hx⟩: ∃s,c[0]? =some s:=⟨_,aZ (by omega)⟩;have hbe:=hback s hx (by omega);haveI:=(hc s (aV hx)).lb;haveI:=(hc s (aV hx)).v.lo;haveI:=(hc s (aV hx)).v.hi;refine ix _ J (Wg hx) J<|cl J (wj (l:=s.l)) J<|cl J (vV (p:=s.l.nor) (q:=n) (i:=97) (j:=j) (by decide) (by omega)) J<|?_;refine cl J (m8 (q:=s.l.nor.dot n) (by omega)) J<|?_;refine br J J J (fun hc28=>?_) (fun hc28=>?_)
    .
     exact rz J (by rw[KV (.inr (by rw[hbe];exact decide_eq_true (CL.1 hc28)))]<;>rfl)
    .
     exact at_ () ⟨hc0,by rw[hbe];exact decide_eq_false fun k=>hc28 (CL.2 k)⟩
   .
    exact at_ () ⟨hc0,WH (by omega)⟩
 .
  obtain⟨hne,hbk⟩:=hm;refine nr 6 6 122 6 J J J ?_;refine lp (X:=Nat) (fun k=>[(32, .d (vI (k:Nat))),(6, .rw 6)]) (fun k=>[(6,some (.b 122 6 ((se (c.take k)).map eZ) true))]) (fun k=>k<=c.length/\ ∀s∈c.take k,je n s=false) (fun k=>c.length-k) 0 J ⟨bZ _,fun s hs=>by simp at hs⟩ (fun _=>J) (fun k hk=>?_);obtain⟨hk1,hk2⟩:=hk;have hm4:(se (c.take k)).length<=k:=by unfold se;rw[aX,cR];omega
  have hm3:((se (c.take k)).map eZ).length<=k:=by rw[aX];exact hm4
  refine br J J J (fun hc33=>?_) (fun hc33=>?_)
  .
   obtain⟨s,hx⟩: ∃u,c[k]? =some u:=⟨_,aZ (by omega)⟩;haveI:=(hc s (aV hx)).lb;haveI:=(hc s (aV hx)).v.lo;haveI:=(hc s (aV hx)).v.hi;refine ix _ J (cH hx) J<|cl J (ww (l:=s.l)) J<|cl J (vV (p:=s.l.dir) (q:=n) (i:=97) (j:=j) (by decide) (by omega)) J<|?_;refine cl (fu:=⟨4⟩) J (m8 (q:=s.l.dir.dot n) (by omega)) J<|?_;refine mg (X:=Unit) (fun _=>[]) (fun _=>[]) (fun _=>je n s=false) [] [] rfl ?_ (fun _=>J) (fun _ hop=>?_)
   .
    refine gx J<|?_;refine ja 45 J J J (fun hg45=>?_) (fun hg45=>?_)
    .
     refine cs 49 J J J (fun hg49=>?_) (fun hg49=>?_)
     .
      exact rz J (by rw[KA (aV hx) (aJ7 hg45 hg49)]<;>rfl)
     .
      refine ja 53 J J J (fun hg53=>?_) (fun hg53=>?_)
      .
       refine br J J J (fun hc57=>?_) (fun hc57=>?_)
       .
        exact rz J (by rw[KA (aV hx) (Mu hg53 hc57)]<;>rfl)
       .
        exact at_ () (EJ (.inr hg49) (.inr hc57))
      .
       exact at_ () (EJ (.inr hg49) (.inl hg53))
    .
     refine ja 53 J J J (fun hg53=>?_) (fun hg53=>?_)
     .
      refine br J J J (fun hc57=>?_) (fun hc57=>?_)
      .
       exact rz J (by rw[KA (aV hx) (Mu hg53 hc57)]<;>rfl)
      .
       exact at_ () (EJ (.inl hg45) (.inr hc57))
     .
      exact at_ () (EJ (.inl hg45) (.inl hg53))
   .
    refine cl J (Ta (v:=s.v) (i:=1200)) J<|cl J (R6 (l:=s.l) (t:=s.v.sample)) J<|rf J J<|ap (hv:=by simp only[aj];exact⟨by kernel_rfl,by omega⟩) ((se (c.take (k+1))).map eZ) J (Xp hx) (Ds [_]) J<|?_;refine fH 67 6 J ?_;exact at_ (k+1) ⟨⟨by omega,Yk hx hk2 hop⟩,(by omega)⟩
  .
   obtain rfl:k=c.length:=by omega
   rw[dQ] at hk2⊢;have hm5:(se c).length=c.length:=aX ..;have hm6:=Pq (c.map (·.l));rw[aX] at hm6;refine cl J (ZC (c:=c) (fun s hs=>(hc s hs).lb) (by omega)) J<|mc ((jx c).map eZ) J (by unfold jx se;rw[bV]<;>rfl) (Ds _) J<|?_;refine cl J (OF (n:=n) (l:=jx c) (i:=j) (j:=3500) (Sn hc) (RK hne) (by omega) (by decide) (W4 c (by omega))) J<|?_;exact rz J (by rw[aCR hne hbk hk2]<;>rfl)
def Wq{c:ar}[hn:aG n j](hc:ek c)(hj:j<=10000)(hk:c.length<=20000)(h:hH c n=some m):PF GB prog 201 [eC c,eZ n] (.tp [eF m, .v (.bool true)]):=by
 have:=P4 (GB:=GB) (n:=n) hc hj hk;rw[h] at this;exact this
def VZ{c:ar}[hn:aG n j](hc:ek c)(hj:j<=10000)(hk:c.length<=20000)(h:hH c n=none):PF GB prog 201 [eC c,eZ n] (.tp [.ag [vI 0,vI 0, .v (.pointer none)], .v (.bool false)]):=by
 have:=P4 (GB:=GB) (n:=n) hc hj hk;rw[h] at this;exact this
def WU(h:l[k]? =some q):(((l.take k).map bG).map eZ)++[eZ (bG q)]=((l.take (k+1)).map bG).map eZ:=by
 rw[eM,h,bV,bV];rfl
def Xq(hb: ∀q∈l,aG q j)(hj:j<=20000)(hk:l.length<=100000):PF GB prog 183 [.sl (l.map eZ)] (.sl ((l.map bG).map eZ)):=by
 have hml:(l.map eZ).length=l.length:=aX ..;refine fn (fu:=⟨15⟩) func183 J J ntmps183 J J (fun C=>?_);refine ak 7 (.d (vI (l.length:Nat))) J (by rw[hml]<;>rfl) ?_;refine gx J<|?_;refine nr 3 3 122 6 J J J ?_;refine lp (X:=Nat) (fun k=>[(8, .d (vI (k:Nat))),(3, .rw 3)]) (fun k=>[(3,some (.b 122 6 (((l.take k).map bG).map eZ) true))]) (fun k=>k<=l.length) (fun k=>l.length-k) 0 J (bZ _) (fun _=>J) (fun k hk=>?_);have hm3:(((l.take k).map bG).map eZ).length<=k:=by rw[aX,aX,cR];omega
 refine br J J J (fun hc9=>?_) (fun hc9=>?_)
 .
  obtain⟨q,hx⟩: ∃u,l[k]? =some u:=⟨_,aZ (by omega)⟩;haveI:=hb q (aV hx);refine ix _ J (cH hx) J<|cl J (Uw (p:=q) (i:=j) (by omega)) J<|rf J J<|ap ((((l.take (k+1)).map bG)).map eZ) J (WU hx) (Ds [_]) J<|?_;refine fH 16 3 J ?_;exact at_ (k+1) ⟨(by omega),(by omega)⟩
 .
  obtain rfl:k=l.length:=by omega
  rw[dQ];refine ir 3 J ?_;exact rz J J
def EB{P:Nat->Prop}(h: ∀i<k,P i)(hk:P k): ∀i<k+1,P i:=fun i hi=>by
 rcases Nat.lt_succ_iff_lt_or_eq.1 hi with h1|h1
 .exact h i h1
 .rw[h1];exact hk
def V7(hb: ∀u∈v,aG u i)(hi:i<=80000)(hn:v.length<=100000):PF GB prog 143 [.sl (v.map eZ)] (vB (lI v)):=by
 have hrl:(nG v).length=v.length:=by unfold nG;rw[aX,lQ]
 have hml:(v.map eZ).length=v.length:=aX ..;refine IX func143 J J ntmps143 J J (fun C h0=>?_);refine Gv J J J Hk (fun _=>J) (fun GB1 pv hg1 hpv=>?_);refine yh 1 2000001 h0.fx J<|yh 2 2000002 h0.fx J ?_;refine J3 (σ:=Unit) (fun _=>[(2000001,some (.o 125 [.d (.sl (v.map eZ))] true)),(2000002,some (.o 4 [.ff] true))]) (fun k=> ∀k'<k,∀i<v.length,t8 v k' i=true) (fun _=>[(2000001,some (.o 125 [.d (.sl (v.map eZ))] true)),(2000002,some (.o 4 [.ff] true))]) (fun _=>lI v=false) [(1, .ov 2000001 0),(2, .ov 2000002 0)] h0 J (GF) (.cons hpv .nil) ⟨J,J,trivial⟩ J ⟨J,J,trivial⟩ (fun k hk=>absurd hk (pT k)) HZ J J (fun k e GB' hE hg hp=>?_) (fun D hD hx hp=>?_) (fun D s hD hx hq=>?_)
 .obtain⟨q1,q2,hpx,hqx,rfl⟩:=Ir hE
  haveI:=hb q1 (aV hpx);haveI:=hb q2 (aV hqx);have hkn:=(aY.1 hpx).1;refine⟨?_,?_,fun C2=>?_,fun C2=>?_⟩
  rotate_left 2
  .refine gx J<|Ip J J J ⟨J,J,J⟩ J ?_
   exact atR
  .skip
   refine gx (fu:=⟨5⟩) J<|?_;refine ak 12 (.d (vI (v.length:Nat))) J (by rw[hml]<;>rfl) ?_;refine gx J<|?_;refine lp (X:=Nat) (fun j=>[(13, .d (vI (j:Nat)))]) (fun j=>[]) (fun j=>j<=v.length/\ ∀i<j,t8 v k i=true) (fun j=>v.length-j) 0 J ⟨bZ _,fun i hi=>absurd hi (pT i)⟩ (fun _=>J) (fun j hk=>?_);obtain⟨hk1,hk2⟩:=hk;refine br J J J (fun hc14=>?_) (fun hc14=>?_)
   .
    obtain⟨w,hx⟩: ∃u,v[j]? =some u:=⟨_,aZ (by omega)⟩;haveI:=hb w (aV hx);have hcv:=Yr hpx hqx hx;refine ix _ J (cH hx) J<|?_;refine cs (fu1:=⟨5⟩) 21 J J J (fun hg21=>?_) (fun hg21=>?_)
    .
     refine ak 26 (.d (vI (v.length:Nat))) J (by rw[hml]<;>rfl) ?_;refine gx (fu:=⟨1⟩) J<|?_;refine ak 27 (.d (vI (((k+1)%v.length:Nat):Int))) J J ?_;refine gx J<|?_;refine cs 30 J J J (fun hg30=>?_) (fun hg30=>?_)
     .
      refine o9 0 (e:=122) (len:=2) (s:=6) J (by kernel_rfl) (by kernel_rfl) (by decide) J<|o9 1 (e:=122) (len:=2) (s:=6) J (by kernel_rfl) (by kernel_rfl) (by decide) J<|?_;refine cl J (U6 (a:=q1) (b:=q2) (c:=w) (i:=i) (j:=i) (k:=i) (by omega) (by omega) (by omega)) J<|?_;refine br J J J (fun hc38=>?_) (fun hc38=>?_)
      .
       exact VK () (aEy hkn (aY.1 hx).1 (by rw[hcv,decide_eq_false (by omega),decide_eq_false (by omega),decide_eq_false (fun q=>by have:=DT.2 q;omega)]<;>rfl))
      .
       exact at_ (j+1) ⟨⟨by omega,EB hk2 (by rw[hcv,decide_eq_true (DT.1 (by omega)),sU,sU])⟩,(by omega)⟩
     .
      exact at_ (j+1) ⟨⟨by omega,EB hk2 (by rw[hcv,decide_eq_true (show j=(k+1)%v.length by omega),Bool.true_or,sU])⟩,(by omega)⟩
    .
     exact at_ (j+1) ⟨⟨by omega,EB hk2 (by rw[hcv,decide_eq_true (show j=k by omega),Bool.true_or])⟩,(by omega)⟩
   .
    obtain rfl:j=v.length:=by omega
    exact rq (EB hp hk2) ⟨J,J,trivial⟩
 .refine gx J<|?_
  rw[hrl] at hp;exact ET hD hx J (by rw[PQ.2 hp]<;>rfl)
 .refine gx J<|?_
  exact ET hD hx J (by rw[hq]<;>rfl)
section
variable {ai al ae:Addr}(hE:EG GB ai al ae)
include hE
section
variable {t:Tr}(h:t.gd)(hs:t.size<=65536)(hd:t.depth<=1000)
include h hs hd
end
end
structure RL.wd (r:RL):Prop where
 a:bB r.da
 b:bB r.db
 c:bB r.dc

def Zs{l:aa}(h:L[j]? =some l):lO (L.drop j)= .node l (lO (L.drop (j+1))) (.leaf false):=by
 obtain⟨h1,h2⟩:=aY.1 h;rw[bQ h1,h2];rfl
def VU{c:ar}(h:c[j]? =some s):(c.map (·.l))[j]? =some s.l:=by rw[bS,h];rfl
def Vh{c:ar}(hn:c.length<=100000):PF GB prog 178 [.sl (c.map c7)] (eU (lO (c.map (·.l)))):=by
 have hml:(c.map c7).length=c.length:=aX ..;refine fn func178 J J ntmps178 J J (fun C=>?_);refine cl (fu:=⟨8⟩) J (nP (b:=true)) J<|?_;refine ak 7 (.d (vI (c.length:Nat))) J (by rw[hml]<;>rfl) ?_;refine gx J<|?_;refine ak 3 (.d (eU (lO ((c.map (·.l)).drop c.length)))) J (by rw[jJ (by simp)]<;>rfl) ?_;refine lp (X:=Nat) (fun k=>[(4, .d (vI ((k:Int)-1))),(3, .d (eU (lO ((c.map (·.l)).drop k))))]) (fun k=>[]) (fun k=>k<=c.length) (fun k=>k) c.length J (bX _) (fun _=>J) (fun k hk=>?_);refine br (fu1:=⟨7⟩) J J J (fun hc10=>?_) (fun hc10=>?_)
 .
  obtain⟨j,rfl⟩: ∃j,k=j+1:=⟨k-1,by omega⟩;obtain⟨s,hx⟩: ∃u,c[j]? =some u:=⟨_,aZ (by omega)⟩;refine ak 14 (.d (vI (j:Nat))) J (by congr 3;omega) ?_;refine gx J<|ix _ J (cH hx) J<|cl J (nP (b:=false)) J<|cl (hv:=by simp only[aj];exact⟨by kernel_rfl,by omega⟩) J (zd (l:=s.l)) J<|?_;refine ak 4 (.d (vI ((j:Int)-1))) J (by congr 3;omega) ?_;refine ak 3 (.d (eU (lO ((c.map (·.l)).drop j)))) J (by rw[Zs (VU hx)]<;>rfl) ?_;exact at_ j ⟨(by omega),(by omega)⟩
 .
  obtain rfl:k=0:=by omega
  exact rz J J

end Go.Sx
end
