import Derived.Test.YtliglnbeohlnnaaGreatDoorMq19
import Derived.RecoverIn
import Derived.Shelf.SlSortCmp.NoneTotal
import Derived.Test.YtliglnbeohlnnaaGreatDoorProg
import Derived.Shelf.SlicesQ.Reverse
set_option linter.all false
set_option maxHeartbeats 2000000
set_option maxRecDepth 100000
section
namespace Go.Sx
open Go Go.Proofs Tryz
variable {GB G:Gh}{v l V t:List ah}{i D j:Nat}{q1 q2 p q n:ah}{r:List ZP}{es:List Int}{R m:Rat}{K:List Kt}{C:aF}{Q0:Exit->Act->World->Prop}{fr fr' fr1 fr2:aC}{own' own1 own2:aO}{cf cf' cf1 cf2:Cf}{vc vc1 vc2:List Prop}{ops:Array Oper}{ai al ae:Addr}{L:List Rat}{s:bB}
def xL(p:Nat->Bool):Nat->Nat->Nat->Nat
 |0,i,_=>i
 |d+1,i,j=>if i<j then(if p ((i+j)/2) then xL p d ((i+j)/2+1) j else xL p d i ((i+j)/2)) else i
def Lh(p:Nat->Bool): ∀(d i j:Nat),j-i<=d->gg p i j=xL p d i j
 |0,i,j,h=>by
  rw[gg,xL,dif_neg we]
 |d+1,i,j,h=>by
  rw[gg,xL];by_cases k:i<j
  .rw[dif_pos k,if_pos k]
   split
   .exact Lh p d _ _ we
   .exact Lh p d _ _ we
  .rw[dif_neg k,if_neg k]
def Kh(c:av)(l:aa)(v:au):av:=c.take (xL (jf c l) c.length 0 c.length)++⟨l,v⟩::c.drop (xL (jf c l) c.length 0 c.length)
def yV(c:av)(l:aa):av:=match kv c l with
 |some v=>Kh (eu l c) l v
 |none=>c
def DD(c:av)(l:aa):bE c l=yV c l:=by
 unfold bE yV
 cases h:kv c l with
 |none=>rfl
 |some v=>
  show ma (eu l c) l v=Kh (eu l c) l v;unfold ma Kh;rw[Lh _ (eu l c).length _ _ we]
def Tr.restrictF:Tr->av->Tr
 | .leaf b,_=> .leaf b
 | .node l x y,c=>if !cx c l.rev then x.restrictF c else if !cx c l then y.restrictF c else joinQ l (x.restrictF (yV c l)) (y.restrictF (yV c l.rev))
def Tr.restrict_F: ∀(t:Tr) (c:av),t.restrict c=t.restrictF c
 | .leaf _,_=>rfl
 | .node l x y,c=>by
  rw[Tr.restrict,Tr.restrictF,x.restrict_F c,y.restrict_F c,DD,DD,x.restrict_F,y.restrict_F]
def vV:List ZP:=[(0,0),(3,0),(3,1),(1,1),(1,3),(0,3)]
def aAP:(fm [vV] 2).size<=9:=by
 unfold fm;rw[Tr.restrict_F];decide+kernel
def ML:gk vV:=⟨oma,oma,fun p hp=>by
  simp only[vV,aW,fK,or_false] at hp;rcases hp with rfl|rfl|rfl|rfl|rfl|rfl<;>exact⟨oma,oma⟩,fun i hi=>by
  have:i=0\/i=1\/i=2\/i=3\/i=4\/i=5:=by simp[vV] at hi;omega
  rcases this with rfl|rfl|rfl|rfl|rfl|rfl<;>decide⟩
def od(v:List ah)(k i:Nat):Bool:=decide (i=k)||(decide (i=(k+1)%v.length)||decide (0<ck (v.getD k ⟨0,0⟩) (v.getD ((k+1)%v.length) ⟨0,0⟩) (v.getD i ⟨0,0⟩)))
def rj(v:List ah):Bool:=(List.range v.length).all fun k=>(List.range v.length).all fun i=>od v k i
def Io:rj v=true↔ ∀k<v.length,∀i<v.length,od v k i=true:=by
 unfold rj;simp only[dJ,jJ]
def UY{k:Nat}(hk:k<v.length)(hi:i<v.length)(h:od v k i=false):rj v=false:=by
 rw[<-kX,Io];exact fun f=>by rw[f k hk i hi] at h;cases h
def L0{k:Nat}{w:ah}(h1:v[k]? =some q1)(h2:v[(k+1)%v.length]? =some q2)(h3:v[i]? =some w):od v k i=(decide (i=k)||(decide (i=(k+1)%v.length)||decide (0<ck q1 q2 w))):=by
 unfold od;rw[aV,aV,aV,h1,h2,h3];rfl
structure A7 (V:List ah):Prop where
 br:lu V (cG V)
 zb: ∀v∈V,ZB v
 le:V.length<=4
def Y7(a b c d:ah):cG [a,b,c,d]=[(a,b),(b,c),(c,d),(d,a)]:=by unfold cG;simp[tU]
def aNI{a b c d:Rat}(h1:a<c)(h2:b<d):rj [⟨a,b⟩,⟨c,b⟩,⟨c,d⟩,⟨a,d⟩]=true:=by
 have k:=Rat.mul_pos (show(0:Rat)<c-a by grind) (show(0:Rat)<d-b by grind);have o1:0<ck ⟨a,b⟩ ⟨c,b⟩ ⟨c,d⟩:=by unfold ck;dsimp only;grind
 have o2:0<ck ⟨a,b⟩ ⟨c,b⟩ ⟨a,d⟩:=by unfold ck;dsimp only;grind
 have o3:0<ck ⟨c,b⟩ ⟨c,d⟩ ⟨a,b⟩:=by unfold ck;dsimp only;grind
 have o4:0<ck ⟨c,b⟩ ⟨c,d⟩ ⟨a,d⟩:=by unfold ck;dsimp only;grind
 have o5:0<ck ⟨c,d⟩ ⟨a,d⟩ ⟨a,b⟩:=by unfold ck;dsimp only;grind
 have o6:0<ck ⟨c,d⟩ ⟨a,d⟩ ⟨c,b⟩:=by unfold ck;dsimp only;grind
 have o7:0<ck ⟨a,d⟩ ⟨a,b⟩ ⟨c,b⟩:=by unfold ck;dsimp only;grind
 have o8:0<ck ⟨a,d⟩ ⟨a,b⟩ ⟨c,d⟩:=by unfold ck;dsimp only;grind
 simp[rj,od,tU,o1,o2,o3,o4,o5,o6,o7,o8]
def XX{a b c d:Int}(h1:a<c:=by decide)(h2:b<d:=by decide)(ha:a.natAbs<=8:=by decide)(hb:b.natAbs<=8:=by decide)(hc:c.natAbs<=8:=by decide)(hd:d.natAbs<=8:=by decide):A7 ((dt a b c d).map ZP.q)/\rj ((dt a b c d).map ZP.q)=true:=by
 have e:(dt a b c d).map ZP.q=[⟨(a:Rat),(b:Rat)⟩,⟨(c:Rat),(b:Rat)⟩,⟨(c:Rat),(d:Rat)⟩,⟨(a:Rat),(d:Rat)⟩]:=J;have q1:(a:Rat)<(c:Rat):=by exact_mod_cast h1
 have q2:(b:Rat)<(d:Rat):=by exact_mod_cast h2
 rw[e];refine⟨⟨?_,fun v hv=>?_,omc⟩,aNI q1 q2⟩
 .rw[Y7];exact ZM q1 q2
 .simp only[aW,fK,or_false] at hv
  rcases hv with rfl|rfl|rfl|rfl
  .exact⟨a,b,J,ha,hb⟩
  .exact⟨c,b,J,hc,hb⟩
  .exact⟨c,d,J,hc,hd⟩
  .exact⟨a,d,J,ha,hd⟩
def lA(es:List Int)(a:Nat):Tr×Nat:=
 let k:=ao es 4 a
 if(k.1:Int)=0 then(yC (lF es k.2).1,(lF es k.2).2)
 else if(k.1:Int)=1 then(fm [(jA es k.2).1] 2,(jA es k.2).2)
 else if(k.1:Int)=2 then((fm [(jA es k.2).1] 2).compl,(jA es k.2).2)
 else(fm [vV] 2,k.2)
def Mg{v w:ZP}(h1:v.1.natAbs<=8)(h2:v.2.natAbs<=8)(h3:(w.1-v.1).natAbs<=8)(h4:(w.2-v.2).natAbs<=7):BL (nO v.1 v.2 w.1 w.2) 8:=by
 obtain⟨r1,r2,r3⟩:=yH (lD v.2 w.2) (lO v.1 w.1) (tw v.1 v.2 w.1 w.2);have b1:(lD v.2 w.2*v.1).natAbs<=7*8:=l7 (by unfold lD;omega) h1;have b2:(lO v.1 w.1*v.2).natAbs<=8*8:=l7 (by unfold lO;omega) h2;have b3:(lD v.2 w.2).natAbs<=7:=by unfold lD;omega
 have b4:(lO v.1 w.1).natAbs<=8:=by unfold lO;omega
 have b5:(tw v.1 v.2 w.1 w.2).natAbs<=120:=by
  show(-(lD v.2 w.2*v.1+lO v.1 w.1*v.2)).natAbs<=120;omega
 exact⟨dZ r1 we,dZ r2 we,dZ r3 we⟩
def XK(hr:gk r)(h: ∀p∈r,p.1.natAbs<=3/\p.2.natAbs<=3)(fill:Int):(fm [r] fill).all fun l=>BL l 8:=by
 unfold fm ux;refine Tr.restrict_all _ _ [] (zr fun f hf=>?_);unfold tG at hf;rw[kJ,List.flatMap_nil,gX] at hf;have key: ∀n,n<=r.length-> ∀f∈ur r n,BL f.l 8:=fun n=>by
  induction n with
  |zero=>intro _ f hf;cases hf
  |succ n ih=>
   intro hn f hf;rw[ur] at hf;rcases bX.1 hf with hf|hf
   .exact ih we f hf
   .rw[aR.1 hf]
    have a1:=h _ (An (r:=r) (i:=n));have a2:=h _ (Ir (r:=r) (i:=n));exact Mg we we we we
 exact key _ (bJ _) f hf
structure oy (t:Tr):Prop where
 x:gP 18 t
 rd:t.Red []
 bl:t.all fun l=>BL l 8
 dp:t.depth<=6
 k: ∃K:List aa,K.length*2+4*(t.size+1)<=52/\K.length<=6/\(∀l∈K,l.ok)/\gi K t
def oy.compl{t:Tr}(h:oy t):oy t.compl:=by
 obtain⟨K,h1,h2,h3,h4⟩:=h.k;exact⟨h.x.compl,Tr.compl_red h.rd,t.compl_all _ h.bl,by rw[t.compl_depth];exact h.dp,K,by rw[t.compl_size];exact h1,h2,h3,h4.compl⟩
def I'(hr:gk r)(h: ∀p∈r,p.1.natAbs<=3/\p.2.natAbs<=3)(hn:r.length*2+4*((fm [r] 2).size+1)<=52):oy (fm [r] 2):=by
 have ho:=JE (rs:=[r]) (fill:=2) (fun q hq=>by rw[aR.1 hq];exact hr) omc;obtain⟨e1,e2⟩:=HR hr;have hR:ux [r] 2=jv (vM [r] 2) r.length (yL r) []:=by
  unfold ux tG;rw[kJ,List.flatMap_nil,gX,e1]
 have hro:jz r.length (fm [r] 2):=by
  unfold fm;rw[hR];exact(DF (acc:=vM [r] 2) e2 e1).restrict []
 have h6:=hr.n6;obtain⟨K,k1,k2,k3⟩:=hro.am;exact⟨ho.x (Cx _ _) oma,Cx _ _,XK hr h 2,cN hro.dp h6,K,we,we,k2,k3⟩
def Qg(hr:gk r)(hn:r.length<=4):(fm [r] 2).size<=10:=by
 obtain⟨e1,e2⟩:=HR hr;have hR:ux [r] 2=jv (vM [r] 2) r.length (yL r) []:=by
  unfold ux tG;rw[kJ,List.flatMap_nil,gX,e1]
 have hro:jz r.length (fm [r] 2):=by
  unfold fm;rw[hR];exact(DF (acc:=vM [r] 2) e2 e1).restrict []
 obtain⟨K,k1,k2,k3⟩:=hro.am;have:=Mi k2 (Tr.red_prp (Cx [r] 2)) hro.gd.ok bF.nil k3;have h4:K.length*(K.length+1)<=4*5:=fU we we;omega
def aGW{a:Nat}(ha:a<=es.length):(∀p∈(jA es a).1,p.1.natAbs<=3/\p.2.natAbs<=3)/\(jA es a).1.length<=4:=by
 have h0:=fI (n:=2) ha;unfold jA;dsimp only;split
 .unfold AP
  dsimp only;generalize (ao es 2 a).2=k at*;have e1:=e8 (es:=es) (n:=3) (a:=k);generalize ao es 3 k=x at*;have e2:=e8 (es:=es) (n:=3) (a:=x.2);generalize ao es 3 x.2=y at*;have e3:=e8 (es:=es) (n:=2) (a:=y.2);generalize ao es 2 y.2=z at*;have e4:=e8 (es:=es) (n:=2) (a:=z.2);generalize ao es 2 z.2=w at*;refine⟨fun p hp=>?_,by simp[dt]⟩;simp only[dt,aW,fK,or_false] at hp;rcases hp with rfl|rfl|rfl|rfl<;>exact⟨by dsimp only;omega,by dsimp only;omega⟩
 .generalize (ao es 2 a).2=k at*
  have e1:=e8 (es:=es) (n:=3) (a:=k);generalize ao es 3 k=x at*;have e2:=e8 (es:=es) (n:=3) (a:=x.2);generalize ao es 3 x.2=y at*;have e3:=e8 (es:=es) (n:=2) (a:=y.2);generalize ao es 2 y.2=u1 at*;have e4:=e8 (es:=es) (n:=3) (a:=u1.2);generalize ao es 3 u1.2=u2 at*;have e5:=e8 (es:=es) (n:=3) (a:=u2.2);generalize ao es 3 u2.2=v1 at*;have e6:=e8 (es:=es) (n:=2) (a:=v1.2);generalize ao es 2 v1.2=v2 at*;split
  .refine⟨fun p hp=>?_,by simp[gE]⟩
   simp only[gE,uN,aW,fK,or_false] at hp;rcases hp with rfl|rfl|rfl<;>exact⟨by dsimp only;omega,by dsimp only;omega⟩
  .refine⟨fun p hp=>?_,sW J⟩
   simp only[Bq,aW,fK,or_false] at hp;rcases hp with rfl|rfl|rfl<;>exact⟨oma,oma⟩
def QK{a:Nat}(ha:a<=es.length):oy (fm [(jA es a).1] 2):=by
 obtain⟨h1,h2⟩:=aGW ha;have hr:=(Ga ha).1;have:=Qg hr h2;exact I' hr h1 we
def VC{a:Nat}(ha:a<=es.length):BL (lF es a).1 8:=by
 obtain⟨h1,h2,h3⟩:=ua ha;obtain⟨k1,k2,_,_⟩:=xA h3;unfold lF;dsimp only;exact Mg (v:=(pF es a).1) (w:=((pF es a).1.1+1*(vF es (pF es a).2).1.1,(pF es a).1.2+1*(vF es (pF es a).2).1.2)) we we (by dsimp only;omega) (by dsimp only;omega)
def ZA{l:aa}(h:LS l)(hb:BL l 8):oy (yC l):=by
 have ho:=aEq h;have hr:(yC l).Red []:=Tr.restrict_red _ _;have hs:(yC l).size<=1:=Tr.restrict_size (.node l (.leaf true) (.leaf false)) [];have hd:=(yC l).depth_size;refine⟨ho.x hr oma,hr,Tr.restrict_all _ _ [] ⟨hb,trivial,trivial⟩,we,[l],by rw[fY];omega,sW J,fun m hm=>by rw[aR.1 hm];exact h.ok,?_⟩;exact gi.restrict (t:= .node l (.leaf true) (.leaf false)) ⟨⟨l,aR.2 J, .inl J⟩,trivial,trivial⟩ []
def XT{a:Nat}(ha:a<=es.length):oy (lA es a).1/\(lA es a).2<=es.length:=by
 have h0:=fI (n:=4) ha;unfold lA;dsimp only;split
 .obtain⟨h1,h2⟩:=Q7 h0
  exact⟨ZA h1 (VC h0),h2⟩
 .split
  .exact⟨QK h0,(Ga h0).2⟩
  .split
   .exact⟨(QK h0).compl,(Ga h0).2⟩
   .refine⟨I' ML (fun p hp=>?_) (by have:=aAP;simp only[vV,bZ,fX] at*;omega),h0⟩
    simp only[vV,aW,fK,or_false] at hp;rcases hp with rfl|rfl|rfl|rfl|rfl|rfl<;>exact⟨oma,oma⟩
def On(hV:A7 V){t:Tr}(h:oy t):mE 1 (Tr.leaf false) ((dE (t.restrict [])).map (nn V (cG V)))=some (qt V (cG V) t)/\gP 54 (qt V (cG V) t)/\(qt V (cG V) t).Red []/\(qt V (cG V) t).all (fun l=>BL l 26):=by
 obtain⟨K,h1,h2,h3,h4⟩:=h.k;have hE:(cG V).length<=4:=by unfold cG;rw[aX,kL];exact hV.le
 have ho:=h.x.ok;have hcl:(dE (t.restrict [])).length<=t.size+1:=cN (J1 _) (Nat.succ_le_succ (t.restrict_size []));have hKl:(n0 V (cG V) K (dE (t.restrict []))).length<=52:=by
  have:=Uc (V:=V) (E:=cG V) (K:=K) (cs:=dE (t.restrict []));have:(dE (t.restrict [])).length*(cG V).length<=(t.size+1)*4:=fU hcl hE;omega
 have hs: ∀c∈dE (t.restrict []),c.length+(cG V).length<=600:=fun c hc=>by
  have:=H3 (t.restrict_all LB [] h.x.lb) (t.restrict_all aa.ok [] ho) c hc;have:=t.restrict_depth [];have:=h.dp;omega
 obtain⟨a1,a2⟩:=aGz hV.br ho h3 h4 hs we;have hb:=aDN hV.br hV.zb ho h.bl;obtain⟨b1,b2⟩:=a2.size (IB hV.br h3);have b3:(n0 V (cG V) K (dE (t.restrict []))).length*((n0 V (cG V) K (dE (t.restrict []))).length+1)<=52*53:=fU hKl we;exact⟨a1,⟨⟨⟨Tr.all_imp (fun l h=>⟨h.mono oma⟩) hb,a2.ok⟩,we,_,we,IB hV.br h3,a2.am⟩,we⟩,a2.rd,hb⟩
def tD(v w:ah):Prop:= ¬(v.x=w.x/\v.y=w.y)
def I5{a:Int}{g:Nat}(hg:0<g)(hd:g∣a.natAbs):(a:Rat)*(((g:Nat):Int):Rat)⁻¹=((zv (decide (a<0)) (a.natAbs/g):Int):Rat):=by
 obtain⟨q,hq⟩:=hd;have e:zv (decide (a<0)) (a.natAbs/g)*(g:Int)=a:=by
  rw[hq,rT q hg];unfold zv;have hc:((g*q:Nat):Int)=(g:Int)*(q:Int):=by simp
  have hm:=uV (g:Int) (q:Int);split
  .rename_i h
   have h:=of_decide_eq_true h;rw[Int.neg_mul];omega
  .rename_i h
   have h: ¬a<0:=fun k=>h (decide_eq_true k);omega
 generalize zv (decide (a<0)) (a.natAbs/g)=z at*;have h0:((g:Int):Rat)≠0:=by
  intro k;have:(g:Int)=0:=by exact_mod_cast k
  omega
 rw[<-e,cS];generalize ((g:Int):Rat)=r at*;grind
def F5{a D g x:Rat}(hg:g≠0)(hR:R*D=g)(ha:a*D=x):a*R⁻¹=x*g⁻¹:=by
 have h1:g*g⁻¹=1:=rW g hg;have hR0:R≠0:=fun e=>hg (by rw[<-hR,e];grind);have h2:R*R⁻¹=1:=rW R hR0;generalize R⁻¹=r at*;generalize g⁻¹=s at*;have:r=D*s:=by
  have h3:R*(r-D*s)=0:=by grind
  have:=(fJ.1 h3).resolve_left hR0;grind
 grind
def OE{a b c:Rat}(h0: ¬(a=0/\b=0)):a*(rgcd (rgcd a b) c)⁻¹=((dB a b c).a:Rat)/\b*(rgcd (rgcd a b) c)⁻¹=((dB a b c).b:Rat)/\c*(rgcd (rgcd a b) c)⁻¹=((dB a b c).c:Rat):=by
 obtain⟨k1,k2,k3⟩:=Ls a b c;have hn:=Co (c:=c) h0;have hD:=Ob a b c;have hr:=Dq hD (Dq hD k1 k2) k3;unfold dB;generalize a.num*(b.den*c.den:Nat)=x at*;generalize b.num*(a.den*c.den:Nat)=y at*;generalize c.num*(a.den*b.den:Nat)=z at*;rw[dS] at hr;have hgn:Nat.gcd x.natAbs y.natAbs≠0:=fun h=>hn ⟨jU.1 (kN h),jU.1 (kM h)⟩;have hgp:0<Nat.gcd (Nat.gcd x.natAbs y.natAbs) z.natAbs:=mJ _ (fZ hgn);have hg:(((Nat.gcd (Nat.gcd x.natAbs y.natAbs) z.natAbs:Nat):Int):Rat)≠0:=fun e=>by
  have:((Nat.gcd (Nat.gcd x.natAbs y.natAbs) z.natAbs:Nat):Int)=0:=by exact_mod_cast e
  omega
 refine⟨?_,?_,?_⟩
 .rw[F5 hg hr k1];exact I5 hgp (rQ (lW _ _) (lW _ _))
 .rw[F5 hg hr k2];exact I5 hgp (rQ (lW _ _) (mV _ _))
 .rw[F5 hg hr k3];exact I5 hgp (mV _ _)
def YA{a b c:Rat}(h0: ¬(a=0/\b=0)){x y z:Int}(hD:0<D)(ha:a*((D:Int):Rat)=(x:Rat))(hb:b*((D:Int):Rat)=(y:Rat))(hc:c*((D:Int):Rat)=(z:Rat)):
  (dB a b c).a.natAbs<=x.natAbs/\(dB a b c).b.natAbs<=y.natAbs/\(dB a b c).c.natAbs<=z.natAbs:=by
 obtain⟨e1,e2,e3⟩:=OE (c:=c) h0;have hr:=Dq hD (Dq hD ha hb) hc;rw[dS] at hr;have hz: ∀{u:Rat} {v:Int},u*((D:Int):Rat)=(v:Rat)->v=0->u=0:=fun{u v} h k=>by
  rw[k] at h;exact(fJ.1 h).resolve_right (fun e=>absurd (show(D:Int)=0 by exact_mod_cast e) we)
 have hgn:Nat.gcd x.natAbs y.natAbs≠0:=fun h=>h0 ⟨hz ha (jU.1 (kN h)),hz hb (jU.1 (kM h))⟩;have hgp:0<Nat.gcd (Nat.gcd x.natAbs y.natAbs) z.natAbs:=mJ _ (fZ hgn);generalize Nat.gcd (Nat.gcd x.natAbs y.natAbs) z.natAbs=g at*;have hg:((g:Int):Rat)≠0:=fun e=>by
  have:(g:Int)=0:=by exact_mod_cast e
  omega
 have key: ∀{u:Rat} {v w:Int},u*((D:Int):Rat)=(v:Rat)->u*(rgcd (rgcd a b) c)⁻¹=(w:Rat)->w.natAbs<=v.natAbs:=fun{u v w} h k=>by
  have h1:=F5 hg hr h;have h2:((g:Int):Rat)*((g:Int):Rat)⁻¹=1:=rW _ hg;have h3:(w:Rat)*((g:Int):Rat)=(v:Rat):=by
   rw[<-k,h1];generalize ((g:Int):Rat)⁻¹=s at*;generalize ((g:Int):Rat)=r at*;grind
  have h4:w*(g:Int)=v:=by exact_mod_cast h3
  rw[<-h4,eY,dS];exact mZ _ hgp
 exact⟨key ha e1,key hb e2,key hc e3⟩
def aF6(h:tD p q): ¬(p.y-q.y=0/\q.x-p.x=0):=fun⟨h1,h2⟩=>h ⟨omb,omb⟩
def L2(h:tD p q):(qi p q).ok:=Bv (aF6 h)
structure Cj (p:ah):Prop where
 xn:p.x.num.natAbs<=2^96
 xd:p.x.den<=2^96
 yn:p.y.num.natAbs<=2^96
 yd:p.y.den<=2^96
def yR(q:Rat):q*((q.den:Int):Rat)=((q.num:Int):Rat):=by
 exact Vh q
def gu{a b:Int}(m n k:Nat)(ha:a.natAbs<=2^m)(hb:b.natAbs<=2^n)(e:m+n<=k:=by decide):(a*b).natAbs<=2^k:=by
 rw[eY];have h:=fU ha hb;rw[<-fT] at h;exact cN h (AN e)
def Fc{a b:Int}(m n k:Nat)(ha:a.natAbs<=2^m)(hb:b.natAbs<=2^n)(e:m<k:=by decide)(f:n<k:=by decide):(a+b).natAbs<=2^k:=by
 cases k with
 |zero=>omega
 |succ k=>
  have h1:=AN (Nat.le_of_lt_succ e);have h2:=AN (Nat.le_of_lt_succ f);rw[iL];omega
def FA{a b:Int}(m n k:Nat)(ha:a.natAbs<=2^m)(hb:b.natAbs<=2^n)(e:m<k:=by decide)(f:n<k:=by decide):(a-b).natAbs<=2^k:=by
 have:=Fc m n k ha (show(-b).natAbs<=2^n by rw[jX];exact hb) e f;rwa [<-Int.sub_eq_add_neg] at this
def vP{a:Nat}(m k:Nat)(h:a<=2^m)(e:m<k:=by decide):a<2^k:=dZ h (Nat.pow_lt_pow_right oma e)
def BD{a b:Nat}(m n k:Nat)(ha:a<=2^m)(hb:b<=2^n)(e:m+n<=k:=by decide):a*b<=2^k:=by
 have h:=fU ha hb;rw[<-fT] at h;exact cN h (AN e)
def OV{c:av}(hc:bF c)(ha:f9 c)(hk: ∀s∈c,BL s.l 96){f:ah×ah}(hn: ¬((bG f).x=0/\(bG f).y=0))(h1:Cj f.1)(h2:Cj f.2)(hf:hH c (bG f)=some m):
  ∃(W:Nat) (x y z:Int),0<W/\W<2^582/\x.natAbs<2^582/\y.natAbs<2^582/\z.natAbs<2^582/\(bG f).x*((W:Int):Rat)=(x:Rat)/\(bG f).y*((W:Int):Rat)=(y:Rat)/\ -(m+(bG f).dot f.1)*((W:Int):Rat)=(z:Rat):=by
 obtain⟨e1,e2⟩:=UI hc ha hn hf;obtain⟨q,hq,e3⟩:=(s8 (n:=bG f) e2).2;rw[e1] at e3;have hqd:QD 193 q:=by
  unfold Bb at hq;split at hq
  .obtain⟨l,hl,rfl⟩:=aU.1 hq
   obtain⟨s,hs,rfl⟩:=aU.1 hl;exact Oz (hk s hs) (hc.ok s hs)
  .obtain⟨l,hl,m,hm,hx,rfl⟩:=RF hq
   obtain⟨s,hs,rfl⟩:=aU.1 hl;obtain⟨u,hu,rfl⟩:=aU.1 hm;exact P3 (hk s hs) (hk u hu) hx
 obtain⟨D,X,Y,hD0,hD,hX,hY,x1,y1⟩:=hqd;obtain⟨⟨a,b⟩,⟨c',d⟩⟩:=f;dsimp only at h1 h2;have ea:=yR a;have eb:=yR b;have ec:=yR c';have ed:=yR d;have pa:=a.den_pos;have pb:=b.den_pos;have pc:=c'.den_pos;have pd:=d.den_pos;obtain⟨xn1,xd1,yn1,yd1⟩:=h1;obtain⟨xn2,xd2,yn2,yd2⟩:=h2;dsimp only at xn1 xd1 yn1 yd1 xn2 xd2 yn2 yd2;generalize a.num=na at*;generalize b.num=nb at*;generalize c'.num=nc at*;generalize d.num=nd at*;generalize a.den=da at*;generalize b.den=db at*;generalize c'.den=dc at*;generalize d.den=dd at*;push_cast at ea eb ec ed x1 y1;have ia:((da:Int)).natAbs<=2^96:=xd1;have ib:((db:Int)).natAbs<=2^96:=yd1;have ic:((dc:Int)).natAbs<=2^96:=xd2;have id:((dd:Int)).natAbs<=2^96:=yd2;have iD:((D:Int)).natAbs<=2^193:=hD;have bx:=gu 193 192 385 (FA 192 192 193 (gu 96 96 192 yn1 id) (gu 96 96 192 yn2 ib)) (gu 96 96 192 ia ic);have by':=gu 193 192 385 (FA 192 192 193 (gu 96 96 192 xn2 ia) (gu 96 96 192 xn1 ic)) (gu 96 96 192 ib id);have bz:=FA 384 384 385 (gu 192 192 384 (gu 96 96 192 xn2 ia) (gu 96 96 192 yn1 id)) (gu 192 192 384 (gu 96 96 192 xn1 ic) (gu 96 96 192 yn2 ib));refine⟨da*dc*(db*dd)*D,(nb*dd-nd*db)*((da:Int)*dc)*D,(nc*da-na*dc)*((db:Int)*dd)*D, -((nb*dd-nd*db)*((da:Int)*dc)*X+(nc*da-na*dc)*((db:Int)*dd)*Y+(nc*da*(nb*dd)-na*dc*(nd*db))*D),?_,?_,?_,?_,?_,?_,?_,?_⟩
 .exact iY (iY (iY pa pc) (iY pb pd)) hD0
 .exact vP 577 582 (BD 384 193 577 (BD 192 192 384 (BD 96 96 192 xd1 xd2) (BD 96 96 192 yd1 yd2)) hD)
 .exact vP 578 582 (gu 385 193 578 bx iD)
 .exact vP 578 582 (gu 385 193 578 by' iD)
 .rw[jX]
  exact vP 580 582 (Fc 579 578 580 (Fc 578 578 579 (gu 385 193 578 bx hX) (gu 385 193 578 by' hY)) (gu 385 193 578 bz iD))
 .unfold bG
  dsimp only;push_cast;rw[<-eb,<-ed];grind
 .unfold bG
  dsimp only;push_cast;rw[<-ea,<-ec];grind
 .rw[e3]
  unfold bG ah.dot;dsimp only;push_cast;rw[<-ea,<-eb,<-ec,<-ed,<-x1,<-y1];grind
def LF{l:aa}(hk:BL l 96)(hV:V≠[])(hz: ∀v∈V,Cj v):
  ∃(W:Nat) (x y z:Int),0<W/\W<2^582/\x.natAbs<2^582/\y.natAbs<2^582/\z.natAbs<2^582/\(l.a:Rat)*((W:Int):Rat)=(x:Rat)/\(l.b:Rat)*((W:Int):Rat)=(y:Rat)/\((l.c:Rat)-kz l.nor V)*((W:Int):Rat)=(z:Rat):=by
 obtain⟨v,hv,e⟩:=(s8 (n:=l.nor) hV).2;obtain⟨xn,xd,yn,yd⟩:=hz v hv;rw[e];obtain⟨a,b⟩:=v;dsimp only at xn xd yn yd;have ea:=yR a;have eb:=yR b;have pa:=a.den_pos;have pb:=b.den_pos;generalize a.num=na at*;generalize b.num=nb at*;generalize a.den=da at*;generalize b.den=db at*;push_cast at ea eb;have ia:((da:Int)).natAbs<=2^96:=xd;have ib:((db:Int)).natAbs<=2^96:=yd;have ka:=fR hk.a;have kb:=fR hk.b;have kc:=fR hk.c;refine⟨da*db,l.a*((da:Int)*db),l.b*((da:Int)*db),l.c*((da:Int)*db)-(l.a*(na*db)+l.b*(nb*da)),iY pa pb,?_,?_,?_,?_,?_,?_,?_⟩
 .exact vP 192 582 (BD 96 96 192 xd yd)
 .exact vP 288 582 (gu 96 192 288 ka (gu 96 96 192 ia ib))
 .exact vP 288 582 (gu 96 192 288 kb (gu 96 96 192 ia ib))
 .exact vP 290 582 (FA 288 289 290 (gu 96 192 288 kc (gu 96 96 192 ia ib)) (Fc 288 288 289 (gu 96 192 288 ka (gu 96 96 192 xn ib)) (gu 96 192 288 kb (gu 96 96 192 yn ia))))
 .push_cast;rfl
 .push_cast;rfl
 .unfold ah.dot aa.nor
  dsimp only;push_cast;rw[<-ea,<-eb];grind
def Uf{a b c:Rat}(h0: ¬(a=0/\b=0))(h: ∃(W:Nat) (x y z:Int),0<W/\W<2^582/\x.natAbs<2^582/\y.natAbs<2^582/\z.natAbs<2^582/\a*((W:Int):Rat)=(x:Rat)/\b*((W:Int):Rat)=(y:Rat)/\c*((W:Int):Rat)=(z:Rat)):BL (dB a b c) 582:=by
 obtain⟨W,x,y,z,hW,_,hx,hy,hz,e1,e2,e3⟩:=h;obtain⟨r1,r2,r3⟩:=YA h0 hW e1 e2 e3;exact⟨dZ r1 hx,dZ r2 hy,dZ r3 hz⟩
structure oz (V:List ah):Prop where
 bd: ∀v∈V,Cj v
 vne:V≠[]
 le:V.length<=7
 nz: ∀f∈cG V,¬((bG f).x=0/\(bG f).y=0)
def Nk{f:ah×ah}(h:f∈cG V):f.1∈V/\f.2∈V:=by
 unfold cG at h;obtain⟨k,hk,rfl⟩:=aU.1 h;rw[jJ] at hk;have e: ∀{j:Nat},j<V.length->V.getD j ⟨0,0⟩∈V:=fun{j} hj=>by
  rw[aV,aQ hj];exact cR hj
 exact⟨e hk,e (dK _ we)⟩
def wS(hB:oz V){c:av}(hc:bF c)(ha:f9 c)(hk: ∀s∈c,BL s.l 96): ∀l∈iH c V (cG V),BL l 582/\l.ok:=fun l hl=>by
 rcases bX.1 hl with h|h
 .obtain⟨s,hs,rfl⟩:=aU.1 h
  exact⟨Uf (Fg (hc.ok s hs)) (LF (hk s hs) hB.vne hB.bd),(vA (hc.ok s hs) V).1⟩
 .obtain⟨f,hf,h⟩:=gV.1 h
  obtain⟨m,h1,h2,_⟩:=yz (hB.nz f hf) h;refine⟨?_,h2⟩;unfold lB at h;rw[h1] at h
  cases h
  exact Uf (hB.nz f hf) (OV hc ha hk (hB.nz f hf) (hB.bd _ (Nk hf).1) (hB.bd _ (Nk hf).2) h1)
def mh(V:List ah)(c:av):av:=(eO (iH c V (cG V)) []).getD []
def AE(hB:oz V){c:av}(hc:bF c)(ha:f9 c)(hk: ∀s∈c,BL s.l 96):(∀s∈mh V c,s.l∈iH c V (cG V))/\(mh V c).length<=c.length+V.length:=by
 have ho: ∀l∈iH c V (cG V),l.ok:=fun l hl=>(wS hB hc ha hk l hl).2;unfold mh
 cases h:eO (iH c V (cG V)) [] with
 |none=>exact⟨fun s hs=>(by cases hs),aS _⟩
 |some d=>
  obtain⟨g1,g2⟩:=AH bF.nil ho h;have g2: ∀p,bA d p↔gq (iH c V (cG V)) p:=fun p=>by
   rw[g2];exact⟨fun h=>h.2,fun h=>⟨fun s hs=>absurd hs omc,h⟩⟩
  have e:=JA ho g1 (DI bF.nil .nil ho h) g2;refine⟨fun s hs=>JK _ (by rw[e];exact aU.2 ⟨s,hs,J⟩),?_⟩;have h2:=EF (iH c V (cG V));have h3:=Ts (V:=V) (E:=cG V) (c:=c);have h4:(cG V).length=V.length:=by unfold cG;rw[aX,kL]
  rw[e,aX] at h2;show d.length<=_;omega
def kB(V:List ah)(c:av):Tr:=mC ((mh V c).map (·.l))
def Xx(hB:oz V){t:Tr}(ht:t.all aa.ok){K:List aa}(hK: ∀l∈K,l.ok)(hA:gi K t)(hb:t.all fun l=>BL l 96)(hd:t.depth<=500)(hs:K.length*2+7*(t.size+1)<=361):
  ∃u,mE 1 (Tr.leaf false) ((dE (t.restrict [])).map (kB V))=some u/\(u.all fun l=>BL l 582)/\u.all aa.ok/\u.size<=65536:=by
 have hcell: ∀c∈dE (t.restrict []),bF c/\f9 c/\(∀s∈c,BL s.l 96)/\c.length<=500:=fun c hc=>by
  obtain⟨g1,g2⟩:=B7 ht c hc;refine⟨g1,g2,zP (P:=fun l=>BL l 96) (fun l h=>h.rev) (t.restrict_all _ [] hb) (fun s hs=>by cases hs) (vR.1 hc),?_⟩;exact cN (H3 (t.restrict_all _ [] (Tr.all_imp (fun l h=>(⟨BL.mono h⟩:LB l)) hb)) (t.restrict_all _ [] ht) c hc) (cN (t.restrict_depth []) hd)
 have hpl:(cG V).length=V.length:=by unfold cG;rw[aX,kL]
 have hKo: ∀l∈n0 V (cG V) K (dE (t.restrict [])),l.ok:=fun l hl=>by
  rcases bX.1 hl with h|h
  .obtain⟨k,hk,h⟩:=iR.1 h
   simp only[aW,fK,or_false] at h;rcases h with rfl|rfl
   .exact(vA (hK k hk) V).1
   .exact(vA (hK k hk).rev V).1
  .obtain⟨c,_,h⟩:=iR.1 h
   obtain⟨f,hf,h⟩:=gV.1 h;obtain⟨_,_,h1,_⟩:=yz (hB.nz f hf) h;exact h1
 have hlen:=Uc (V:=V) (E:=cG V) (K:=K) (cs:=dE (t.restrict []));have hcl:=J1 (t.restrict []);have hrs:=t.restrict_size [];have hmul:(dE (t.restrict [])).length*(cG V).length<=(t.size+1)*7:=fU we (by have:=hB.le;omega);obtain⟨h1,h2⟩:=HX (K:=n0 V (cG V) K (dE (t.restrict []))) hKo we (op:=1) (us:=(dE (t.restrict [])).map (kB V)) (t:= .leaf false) (fun u hu=>by
  obtain⟨c,hc,rfl⟩:=aU.1 hu;obtain⟨g1,g2,g3,g4⟩:=hcell c hc;obtain⟨k1,k2⟩:=AE hB g1 g2 g3;unfold kB;refine⟨xt fun l hl=>?_,xt fun l hl=>?_,?_⟩
  .obtain⟨s,hs,rfl⟩:=aU.1 hl
   exact(wS hB g1 g2 g3 _ (k1 s hs)).2
  .obtain⟨s,hs,rfl⟩:=aU.1 hl
   exact⟨s.l,MG hc (Um (hA.restrict []) hc) _ (k1 s hs), .inl J⟩
  .rw[Ix,aX]
   have:=hB.le;omega) ⟨trivial,trivial,trivial⟩
 refine⟨_,h1,?_,h2.ok,?_⟩
 .have key: ∀{us:List Tr} {t:Tr},(∀u∈us,u.all fun l=>BL l 582)->(t.all fun l=>BL l 582)->(us.foldl (fun t u=>t.mergeQ 1 u []) t).all fun l=>BL l 582:=fun{us}=>by
   induction us with
   |nil=>intro t _ h;exact h
   |cons u us ih=>intro t h k;exact ih (fun v hv=>h v (aJ _ hv)) (Tr.mergeQ_all _ 1 (h u aZ) t [] k)
  refine key (fun u hu=>?_) trivial;obtain⟨c,hc,rfl⟩:=aU.1 hu;obtain⟨g1,g2,g3,g4⟩:=hcell c hc;refine xt fun l hl=>?_;obtain⟨s,hs,rfl⟩:=aU.1 hl;exact(wS hB g1 g2 g3 _ ((AE hB g1 g2 g3).1 s hs)).1
 .have:=(h2.size hKo).1
  have hm:(n0 V (cG V) K (dE (t.restrict []))).length*((n0 V (cG V) K (dE (t.restrict []))).length+1)<=361*362:=fU we we;omega
section
variable {n:Nat}{own:aO}{lk:LK}{bk:BM}
variable {dst:Option Nat}{t t' ty':TypeId}{pos:String}{af:Array Edge}{gd:Option (Nat×Bool)}{x y:Operand}
end
section
variable {n:Nat}{own:aO}{r:List Oper}
end
section
variable (hE:EG GB ai al ae){k:Nat}{a b:Tr}(ha:gP j a)(hb:gP k b)
include hE ha
include hb
end
section
variable (hE:EG GB ai al ae)
include hE
end

section
variable {n:Nat}{own:aO}{r:List Oper}
end
def Fe(l:List ah):cI 6 (l.map eZ):=fun d hd=>by
 obtain⟨x,_,rfl⟩:=aU.1 hd;exact⟨J,J⟩
def aEH[h:aE p i](hi:i<=900000000:=by decide):PF GB prog 97 [eZ p] (eZ (iB p)):=by
 refine fn func97 J J ntmps97 J J (fun C=>?_);refine cl J (tj (q:=p.y) (i:=i) hi) J<|rz J J
def Rj{q:Rat}[h:BQ q i](hi:i<=400000000:=by decide):PF GB prog 216 [eR q] (eF q):=by
 haveI:BN q.num.natAbs i:=⟨h.hn⟩;haveI:BN q.den i:=⟨h.hd⟩;refine fn func216 J J ntmps216 J J (fun C=>?_);refine cl (fu:=⟨0⟩) J (wE (n:=decide (q.num<0)) (a:=q.num.natAbs) (d:=q.den) (i:=i) (j:=i) we we) J<|aj 7 (.d (eF q)) J (by rw[l5,oN])<|gx J<|rz J J
def FM[h:aE p i](hi:i<=400000000:=by decide):PF GB prog 153 [iz p] (eZ p):=by
 refine fn func153 J J ntmps153 J J (fun C=>?_);refine cl J (Rj (q:=p.x) (i:=i) hi) J<|cl J (Rj (q:=p.y) (i:=i) hi) J<|rz J J
theorem omD{p:Prop}(h:p:=by show DV.v (.bool _)= .v (.bool _);simp_all):p:=h
def Ie[hp:aE p i][hq:aE q i](hi:i<=1000000:=by decide):PF GB prog 155 [eZ p,eZ q] (vB (decide (p.x=q.x/\p.y=q.y))):=by
 refine fn func155 J J ntmps155 J J (fun C=>?_);refine cl J (yv (p:=p.x) (q:=q.x) (i:=i) (j:=i) we we) J<|csd 10 J J J (fun hg10=>?_) (fun hg10=>?_)
 .
  refine cl J (yv (p:=p.y) (q:=q.y) (i:=i) (j:=i) we we) J<|rz J omD
 .
  exact rz J omD
def Ki[hp:aE p i][hq:aE q j](hi:i<=10000000:=by decide)(hj:j<=10000000:=by decide):PF GB prog 96 [eZ p,eZ q] (eZ ⟨p.x-q.x,p.y-q.y⟩):=by
 refine fn func96 J J ntmps96 J J (fun C=>?_);refine cl J (rP (p:=p.x) (q:=q.x) (i:=i) (j:=j) we we) J<|cl J (rP (p:=p.y) (q:=q.y) (i:=i) (j:=j) we we) J<|rz J J

def mp(v:List ah):List (List DV):=(List.range v.length).map fun i=>[vI (i:Nat),I3 (v.getD i ⟨0,0⟩) (v.getD ((i+1)%v.length) ⟨0,0⟩)]
def Qk(h1:v[i]? =some p)(h2:v[(i+1)%v.length]? =some q):(mp v)[i]? =some [vI (i:Nat),I3 p q]:=by
 have hi:=(aT.1 h1).1;unfold mp;rw[bL,qU hi,lM,aV,aV,h1,h2];rfl
def Ep{e:List DV}(h:(mp v)[i]? =some e): ∃p q,v[i]? =some p/\v[(i+1)%v.length]? =some q/\e=[vI (i:Nat),I3 p q]:=by
 have hi:i<v.length:=by
  have:=(aT.1 h).1;unfold mp at this;simpa using this
 have h1:v[i]? =some v[i]:=aQ hi;have hm:(i+1)%v.length<v.length:=dK _ we;have h2:v[(i+1)%v.length]? =some v[(i+1)%v.length]:=aQ hm;refine⟨_,_,h1,h2,?_⟩;rw[Qk h1 h2] at h;exact(Option.some.inj h).symm
def DQ: ∀e∈mp v,e.length=2:=fun e he=>by
 obtain⟨i,_,rfl⟩:=aU.1 he;rfl
def D2(hn:v.length<=100000:=by omega):It GB prog 168 [.pt [.sl (v.map eZ)]] (mp v):=by
 have hml:(v.map eZ).length=v.length:=aX ..;have hrl:(mp v).length=v.length:=by unfold mp;simp
 refine aNA func168 J J ntmps168 J (fun _=>J) (fun l Jv Jx GB' hg H C hp hJ=>?_);refine XF 1 J<|gx J<|aj 6 (.d (vI (v.length:Nat))) J omo<|VP (X:=Nat) (fun k=>[(0, .d (.v (.func (.yield l) #[] #[]))),(1, .ep [.sl (v.map eZ)]),(5, .d (.sl (v.map eZ))),(6, .d (vI (v.length:Nat))),(7, .d (vI (k:Nat)))]) (fun k C=>k<=v.length/\Jv k C.G0 C.w0) (fun k=>v.length-k) 0 hp ⟨aS _,hJ⟩ (fun _=>J) (fun k C1 hp1 hk=>?_);obtain⟨hk1,hJ1⟩:=hk;refine br J J J (fun hc8=>?_) (fun hc8=>?_)
 .obtain⟨p,hpx⟩: ∃u,v[k]? =some u:=⟨_,aQ we⟩
  obtain⟨q,hqx⟩: ∃u,v[(k+1)%v.length]? =some u:=⟨_,aQ (dK _ we)⟩;refine ix _ J (ce hpx) J<|aj 20 (.d (vI (((k+1)%v.length:Nat):Int))) J omo<|gx J<|ix _ J (ce hqx) J<|bar (len:=2) (s:=6) (e:=181) J omd omd J<|YX omd J ?_;refine cy [(0, .d (.v (.func (.yield l) #[] #[]))),(1, .ep [.sl (v.map eZ)]),(5, .d (.sl (v.map eZ))),(6, .d (vI (v.length:Nat))),(7, .d (vI (k:Nat)))] H hp1 hJ1 J (Qk hpx hqx) J (by repeat (first|exact trivial|refine And.intro J ?_)) J J J (fun C3 hp3 hJ3=>?_) (fun C3 hp3 hJ3=>?_)
  .exact atC (k+1) hp3 ⟨⟨we,hJ3⟩,we⟩
  .exact Uq H hp3 (.inr hJ3) J
 .obtain rfl:k=v.length:=by omega
  exact Uq H hp1 (.inl (by rw[hrl];exact hJ1)) J
def EE:IN GB prog 95 [.sl (v.map eZ)] 168 (.pt [.sl (v.map eZ)]):=by
 refine aNZ func95 J J ntmps95 J J (fun C=>?_);refine fz 1 J J<|YF 1 J (fun GB' pv hg hp=>?_);refine V4 J J<|aNH J J hp
def YY:yK 170:=fun x w=>by kernel_rfl
def ZY(m:List Value):Av 170 (.agg ⟨m⟩) "Mul" 181:=fun w=>by kernel_rfl
def aLd{q:Rat}{u:Value}(h:Is G (eF q) u):Av 170 u "Mul" 181:=by
 obtain⟨m,rfl,_⟩:=eG.1 h;exact ZY m
def aBp(l:List Rat)(k:Nat)(y:Rat):(l.map eF).set k (eF y)=(l.set k y).map eF:=(kK ..).symm
def nG(L:List Rat)(k:Rat)(j:Nat):List Rat:=(L.take j).map (· *k)++L.drop j
def aGw(L:List Rat)(k:Rat)(j:Nat):(nG L k j).length=L.length:=by
 unfold nG;rw[aY,aX,bT,gW];omega
def aEi{k a:Rat}(h:L[j]? =some a):(nG L k j)[j]? =some a:=by
 have hj:=(aT.1 h).1;unfold nG;rw[jZ (by rw[aX,bT];omega),aX,bT,mQ,<-h];congr 1;omega
def aER{k a:Rat}(h:L[j]? =some a):(nG L k j).set j (a*k)=nG L k (j+1):=by
 have hj:=(aT.1 h).1;unfold nG;rw[dW,h,nM _ _ (by rw[aX,bT];omega),aX,bT,show j-min j L.length=0 by omega,bK hj];simp only[pW,aM,bV,iU,List.set_cons_zero,dV,iJ,kV]
def TE{k:Rat}[hk:BQ k i](hb: ∀a∈L,BQ a i)(hn:L.length<=1000)(hi:i<=1000000:=by decide):PB GB prog 165 (f7 [some (eF k),none]) 3 170 (L.map eF) (fun w=> .v (.slice w.a w.n w.c)) ((L.map (· *k)).map eF):=by
 have hml:(L.map eF).length=L.length:=aX ..;refine DR (fu:=⟨11⟩) func165 J J ntmps165 J J (fun C=>?_);refine aj 7 (.d (vI (L.length:Nat))) J omo<|gx J<|lp (X:=Nat) (fun j=>[(8, .d (vI (j:Nat)))]) (fun j=>[(1000000,some (.b 170 3 ((nG L k j).map eF) false))]) (fun j=>j<=L.length) (fun j=>L.length-j) 0 J (aS _) (fun _=>J) (fun j hk=>?_);have hsl:=aGw L k j;have hsm:((nG L k j).map eF).length=(nG L k j).length:=aX ..;refine br J J J (fun hc9=>?_) (fun hc9=>?_)
 .
  obtain⟨a,hx⟩: ∃u,L[j]? =some u:=⟨_,aQ we⟩;have ham:=aK hx;haveI:=hb a ham;have hga:(nG L k j)[j]? =some a:=aEi hx;refine lb (fu:=⟨0⟩) _ J (ce hga) J<|Wv (fu:=⟨1⟩) J YY J<|Yb J (fun G u h=>aLd h) (py (p:=a) (q:=k) (i:=i) (j:=i) we we) J<|sb (hv:=by simp only[ak];exact⟨omd,we⟩) _ ((nG L k (j+1)).map eF) J (ce hga) J (by rw[<-aER hx,<-aBp]<;>rfl) J<|at_ (j+1) ⟨we,we⟩
 .
  obtain rfl:j=L.length:=by omega
  have hend:nG L k L.length=L.map (· *k):=by unfold nG;rw[dQ,gT,gX]
  exact wg J J J (by rw[hend])
theorem DK(p q:ah)[aE p i][aE q j]:aE ⟨p.x-q.x,p.y-q.y⟩ (i+j+1):=⟨inferInstanceAs (BQ (p.x-q.x) _),inferInstanceAs (BQ (p.y-q.y) _)⟩

def aFS{a:Nat}[h:BN a i](hi:i<=1000000000:=by decide):PF GB prog 208 [dN a] (.v (.bool true)):=
 (E9 (ds:=dg a) (eE _).2.1 (by have:=jl (a:=a) hi;omega)).to (by unfold vB;rw[decide_eq_true (eE a).2.2])
def Qp{q:Rat}[hq:BQ q i](hi:i<=1000000:=by decide):PF GB prog 214 [eR q] (.v (.bool true)):=by
 have hd:=q.den_pos;have hdl:0<(dg q.den).length:=fZ fun e=>by have:=qn.1 e;omega
 have hml:((dg q.den).map dU).length=(dg q.den).length:=aX ..;have hco:Nat.gcd q.num.natAbs q.den=1:=q.reduced;refine fn func214 J J ntmps214 J J (fun C=>?_);refine cl (fu:=⟨0⟩) J (sE (m:=q.num) (i:=i) (h:=⟨hq.hn⟩) we) J<|fD 5 J<|gx J<|cl (fu:=⟨0⟩) J (aFS (a:=q.den) (i:=i) (h:=⟨hq.hd⟩) we) J<|fD 10 J<|gx (fu:=⟨6⟩) J<|bO J (omh we) J<|cl (fu:=⟨0⟩) J (CK (a:=q.num.natAbs) (b:=q.den) (i:=i) (j:=i) (h:=⟨hq.hn⟩) (k:=⟨hq.hd⟩) we we) J<|aj 24 (.d (dN 1)) J (by rw[hco])<|gx J<|cl J (uM (a:=1) (i:=1) (h:=⟨oma⟩)) J<|rz J J
def JL[hp:aE p i](hi:i<=1000000:=by decide):PF GB prog 151 [iz p] (.v (.bool true)):=by
 refine fn func151 J J ntmps151 J J (fun C=>?_);refine cl (fu:=⟨0⟩) J (Qp (q:=p.x) (i:=i) we) J<|fD 5 J<|gx J<|cl J (Qp (q:=p.y) (i:=i) we) J<|rz J J
def lE(l:List ah)(p:ah):Int:=match l.findIdx? (fun q=>decide (q.x=p.x/\q.y=p.y)) with
 |some i=>(i:Nat)
 |none=> -1
def Fa{k:Nat}(hx:l[k]? =some q)(h:(l.take k).all (fun q=>!decide (q.x=p.x/\q.y=p.y))=true)(hq:q.x=p.x/\q.y=p.y):lE l p=(k:Nat):=by
 have hk:=(aT.1 hx).1;have e:l.findIdx? (fun q=>decide (q.x=p.x/\q.y=p.y))=some k:=by
  rw[List.findIdx?_eq_some_iff_getElem];refine⟨hk,?_,fun j hj=>?_⟩
  .rw[(aT.1 hx).2];exact decide_eq_true hq
  .have:=dJ.1 h l[j] (by rw[List.mem_take_iff_getElem];exact⟨j,we,J⟩)
   simp at this⊢;intro a b;rcases this with k|k
   .exact k a
   .exact k b
 unfold lE;rw[e]
def WU(h:l.all (fun q=>!decide (q.x=p.x/\q.y=p.y))=true):lE l p= -1:=by
 have e:l.findIdx? (fun q=>decide (q.x=p.x/\q.y=p.y))=none:=by
  rw[List.findIdx?_eq_none_iff];intro x hx;have:=dJ.1 h x hx;simp at this⊢;intro a b;rcases this with k|k
  .exact k a
  .exact k b
 unfold lE;rw[e]
def aAw{k:Nat}{g:ah->Bool}(hx:l[k]? =some q)(h:(l.take k).all g=true)(hq:g q=true):(l.take (k+1)).all g=true:=by
 rw[dW,hx,List.all_append,h];simp[hq]
def JT[hp:aE p i](hl: ∀q∈l,aE q i)(hn:l.length<=100000)(hi:i<=1000000:=by decide):PF GB prog 154 [.sl (l.map eZ),eZ p] (vI (lE l p)):=by
 have hml:(l.map eZ).length=l.length:=aX ..;refine fn (fu:=⟨11⟩) func154 J J ntmps154 J J (fun C=>?_);refine aj 8 (.d (vI (l.length:Nat))) J omo<|gx J<|lp (X:=Nat) (fun k=>[(9, .d (vI (k:Nat)))]) (fun k=>[]) (fun k=>k<=l.length/\(l.take k).all (fun q=>!decide (q.x=p.x/\q.y=p.y))=true) (fun k=>l.length-k) 0 J ⟨aS _,J⟩ (fun _=>J) (fun k hk=>?_);obtain⟨hk,hall⟩:=hk;refine br J J J (fun hc10=>?_) (fun hc10=>?_)
 .
  obtain⟨q,hx⟩: ∃u,l[k]? =some u:=⟨_,aQ we⟩;haveI:=hl q (aK hx);refine ix _ J (ce hx) J<|cl J (Ie (p:=q) (q:=p) (i:=i) hi) J<|bd J J J (fun hc16=>?_) (fun hc16=>?_)
  .
   exact rz J (by rw[Fa hx hall hc16];rfl)
  .
   exact at_ (k+1) ⟨⟨we,aAw hx hall (by rw[decide_eq_false hc16];rfl)⟩,we⟩
 .
  obtain rfl:k=l.length:=by omega
  rw[dQ] at hall;exact rz J (by rw[WU hall];rfl)
def dC(l:List ah):Nat->Nat
 |0=>0
 |k+1=>dC l k+if lE l (l.getD k ⟨0,0⟩)=(k:Nat) then 1 else 0
def gz(l:List ah)(k:Nat):Nat:=if 3<=dC l k then 3 else dC l k
def H4{k:Nat}(h:gz l k<3)(e:dC l (k+1)=dC l k+1):((gz l k:Nat):Int)+1=((gz l (k+1):Nat):Int):=by
 have a:gz l k=if 3<=dC l k then 3 else dC l k:=J
 have b:gz l (k+1)=if 3<=dC l (k+1) then 3 else dC l (k+1):=J
 split at a<;>split at b<;>omega
def yG{k:Nat}(h: ¬gz l k<3\/dC l (k+1)=dC l k)(m:dC l k<=dC l (k+1)):((gz l k:Nat):Int)=((gz l (k+1):Nat):Int):=by
 have a:gz l k=if 3<=dC l k then 3 else dC l k:=J
 have b:gz l (k+1)=if 3<=dC l (k+1) then 3 else dC l (k+1):=J
 split at a<;>split at b<;>omega
def Iz(l:List ah)(k:Nat):gz l k<=3:=by unfold gz;split<;>omega
def QI{k:Nat}(h:3<=dC l k):gz l k=3:=by unfold gz;rw[if_pos h]
def cnt_le(l:List ah): ∀k,dC l k<=k
 |0=>bJ _
 |k+1=>by
  have:=cnt_le l k;rw[dC];split<;>omega
def yD{k:Nat}(hx:l[k]? =some p)(h:lE l p=(k:Nat):=by omega):dC l (k+1)=dC l k+1:=by
 rw[dC,aV,hx,lK,if_pos h]
def J7{k:Nat}(hx:l[k]? =some p)(h: ¬lE l p=(k:Nat):=by omega):dC l (k+1)=dC l k:=by
 rw[dC,aV,hx,lK,if_neg h];rfl
def FG{k:Nat}:dC l k<=dC l (k+1):=by rw[dC];split<;>omega
def Dz{k:Nat}(h:v[k]? =some p):((v.take k).map eZ)++[eZ p]=(v.take (k+1)).map eZ:=by
 rw[dW,h,aM];rfl
def aEw(h:gk r){k:Nat}(hk:k<r.length):decide ((r.getD k (0,0)).q.x=(iv r k).q.x/\(r.getD k (0,0)).q.y=(iv r k).q.y)=false:=decide_eq_false fun e=>h.ne k hk (E0 (by
 obtain⟨e1,e2⟩:=e;generalize (r.getD k (0,0)).q=a at*;generalize (iv r k).q=b at*
 cases a;cases b
 simp only[ah.mk.injEq];exact⟨e1,e2⟩))
structure HP (r:List ZP):Prop where
 ok:gk r
 c3:3<=dC (r.map ZP.q) (r.map ZP.q).length




section
variable {α:Type}[Inhabited α]
end







def Zc{a:ah}:lE (a::t) a=((0:Nat):Int):=Fa (k:=0) (q:=a) J J ⟨J,J⟩
def avv{a b c:ah}(h1:a≠b)(h2:a≠c)(h3:b≠c):3<=dC (a::b::c::t) (a::b::c::t).length:=by
 have ne: ∀{x y:ah},x≠y->(!decide (x.x=y.x/\x.y=y.y))=true:=fun{x y} h=>by
  rw[decide_eq_false (fun k=>h (by cases x;cases y;simp only[ah.mk.injEq] at*;exact k))];rfl
 have e0:=yD (l:=a::b::c::t) (k:=0) (p:=a) J Zc;have e1:=yD (l:=a::b::c::t) (k:=1) (p:=b) J (Fa (k:=1) (q:=b) J (by simp only[List.take,tZ,List.all_nil,Bool.and_true,ne h1]) ⟨J,J⟩);have e2:=yD (l:=a::b::c::t) (k:=2) (p:=c) J (Fa (k:=2) (q:=c) J (by simp only[List.take,tZ,List.all_nil,Bool.and_true,ne h2,ne h3]) ⟨J,J⟩);have mono: ∀n m,n<=m->dC (a::b::c::t) n<=dC (a::b::c::t) m:=by
  intro n m h
  induction m with
  |zero=>rw[show n=0 by omega];exact bJ _
  |succ m ih=>
   by_cases k:n=m+1
   .rw[k];exact bJ _
   .exact cN (ih we) FG
 have:=mono 3 (a::b::c::t).length omc;have z:dC (a::b::c::t) 0=0:=J;rw[eM] at e0;rw[show 1+1=2 from J] at e1;rw[show 2+1=3 from J] at e2;omega
def aBe{a b c:ZP}{t:List ZP}(ho:gk (a::b::c::t))(h1:a≠b)(h2:a≠c)(h3:b≠c):HP (a::b::c::t):=
 ⟨ho,avv (t:=t.map ZP.q) (fun e=>h1 (E0 e)) (fun e=>h2 (E0 e)) (fun e=>h3 (E0 e))⟩
def aLf{a b c d:Int}(ho:gk (dt a b c d))(h1:a<c)(h2:b<d):HP (dt a b c d):=
 aBe ho (fun e=>by have:=congrArg Prod.fst e;dsimp only at this;omega) (fun e=>by have:=congrArg Prod.fst e;dsimp only at this;omega) (fun e=>by have:=congrArg Prod.snd e;dsimp only at this;omega)


def J8{x:ah}(h:x∈l): ∃i:Nat,i<l.length/\lE l x=(i:Int)/\l.getD i ⟨0,0⟩=x:=by
 cases e:l.findIdx? (fun q=>decide (q.x=x.x/\q.y=x.y)) with
 |none=>
  rw[List.findIdx?_eq_none_iff] at e;have:=e x h;simp at this
 |some i=>
  have e0:=e;rw[List.findIdx?_eq_some_iff_getElem] at e;obtain⟨h1,h2,_⟩:=e;refine⟨i,h1,by unfold lE;rw[e0],?_⟩;have h3:=of_decide_eq_true h2;rw[aV,aQ h1,lK];generalize l[i]=q at*
  cases q;cases x
  simp only[ah.mk.injEq] at*;exact h3
def HB(l:List ah): ∀n,dC l n=((List.range n).filter fun k=>decide (lE l (l.getD k ⟨0,0⟩)=((k:Nat):Int))).length
 |0=>rfl
 |n+1=>by
  rw[dC,tU,List.filter_append,aY,HB l n];congr 1;by_cases h:lE l (l.getD n ⟨0,0⟩)=((n:Nat):Int)
  .rw[if_pos h];simp only[qK,decide_eq_true h,if_true];rfl
  .rw[if_neg h];simp only[qK,decide_eq_false h];rfl
def awj{F:List Nat}{k:Nat}(hi:i∈F)(hj:j∈F)(hk:k∈F)(h1:i≠j)(h2:i≠k)(h3:j≠k):3<=F.length:=by
 match F with
 |[]=>cases hi
 |[a]=>simp at hi hj;omega
 |[a,b]=>simp at hi hj hk;omega
 |a::b::c::t=>simp
def ZD{a b c:ah}(ha:a∈l)(hb:b∈l)(hc:c∈l)(h1:a≠b)(h2:a≠c)(h3:b≠c):3<=dC l l.length:=by
 obtain⟨i,i1,i2,i3⟩:=J8 ha;obtain⟨j,j1,j2,j3⟩:=J8 hb;obtain⟨k,k1,k2,k3⟩:=J8 hc;rw[HB];have mk: ∀{x:ah} {m:Nat},m<l.length->lE l x=(m:Int)->l.getD m ⟨0,0⟩=x->m∈(List.range l.length).filter fun k=>decide (lE l (l.getD k ⟨0,0⟩)=((k:Nat):Int)):=fun{x m} q1 q2 q3=>nX.2 ⟨jJ.2 q1,decide_eq_true (by rw[q3];exact q2)⟩;exact awj (mk i1 i2 i3) (mk j1 j2 j3) (mk k1 k2 k3) (fun e=>h1 (by rw[<-i3,<-j3,e])) (fun e=>h2 (by rw[<-i3,<-k3,e])) (fun e=>h3 (by rw[<-j3,<-k3,e]))




section
variable {L:List aa}
end





section
variable {n:Nat}{own:aO}
end





def JH{a b c:Rat}{k n:Nat}(ha:BQ a i)(hb:BQ b j)(hc:BQ c k)(hn:7*(i+(j+k))<=n:=by omega):(a.num*(b.den*c.den:Nat)).natAbs<2^n:=by
 rw[eY,dS];exact CN (kg ha.hn (kg hb.hd hc.hd)) hn
def R5[hp:aE p i][hq:aE q j](hi:i<=20000:=by decide)(hj:j<=20000:=by decide):PF GB prog 36 [eP p,eP q] (.v (.bool (decide (p.x=q.x/\p.y=q.y)))):=by
 refine fn func36 J J ntmps36 J J (fun C=>?_);refine cl J (jF (a:=p.x) (b:=q.x) (i:=i) (j:=j) we we) J<|cs 11 J J J (fun hg11=>?_) (fun hg11=>?_)
 .
  refine cl J (jF (a:=p.y) (b:=q.y) (i:=i) (j:=j) we we) J<|rz J (by rw[pz] at hg11;exact congrArg (fun z=>DV.v (.bool z)) (decide_eq_decide.2 (by rw[pz];simp[hg11])))
 .
  exact rz J (by rw[pz] at hg11;show DV.v (.bool false)=DV.v (.bool _);rw[decide_eq_false (fun h=>hg11 h.1)])
def Zg{a b c:ah}{k:Nat}[ha:aE a i][hb:aE b j][hc:aE c k](hi:i<=80000:=by decide)(hj:j<=80000:=by decide)(hk:k<=80000:=by decide):PF GB prog 156 [eZ a,eZ b,eZ c] (vI (ck a b c).num.sign):=by
 haveI h1:=DK b a;haveI h2:=DK c a;have e:(⟨b.x-a.x,b.y-a.y⟩:ah).cross ⟨c.x-a.x,c.y-a.y⟩=ck a b c:=by unfold ah.cross ck;grind
 refine fn func156 J J ntmps156 J J (fun C=>?_);refine cl J (Ki (p:=b) (q:=a) (i:=j) (j:=i) we we) J<|cl J (Ki (p:=c) (q:=a) (i:=k) (j:=i) we we) J<|cl J (Ek (p:=⟨b.x-a.x,b.y-a.y⟩) (q:=⟨c.x-a.x,c.y-a.y⟩) (i:=j+i+1) (j:=k+i+1) (hp:=h1) (hq:=h2) we we) J<|cl J (nA (q:=(⟨b.x-a.x,b.y-a.y⟩:ah).cross ⟨c.x-a.x,c.y-a.y⟩) (h:= @BQ.cross _ _ _ _ h1 h2) we) J<|rz J (by rw[e]<;>rfl)
def q7(n p:ah)(t:List ah)(k:Nat):Rat:=(t.take k).foldl (fun b q=>if n.dot q<b then n.dot q else b) (n.dot p)
def Or{k:Nat}(h:t[k]? =some q):q7 n p t (k+1)=if n.dot q<q7 n p t k then n.dot q else q7 n p t k:=by
 unfold q7;rw[dW,h];simp only[pW,oK,iK,List.foldl_nil]
theorem Eg{n p:ah}{t:List ah}{i j:Nat}[hn:aE n i](hb: ∀q∈p::t,aE q j): ∀k,BQ (q7 n p t k) (i+j+(i+j)+1)
 |0=>by
  haveI:=hb p aZ;exact(inferInstance:BQ (n.dot p) _)
 |k+1=>by
  cases h:t[k]? with
  |none=>
   have e:q7 n p t (k+1)=q7 n p t k:=by
    unfold q7;rw[dW,h];simp
   rw[e];exact Eg hb k
  |some q=>
   rw[Or h];haveI:=hb q (aJ _ (aK h));split
   .exact(inferInstance:BQ (n.dot q) _)
   .exact Eg hb k
theorem Qj[aE n i](hb: ∀q∈l,aE q j)(hne:l≠[]):BQ (kz n l) (i+j+(i+j)+1):=by
 cases l with
 |nil=>exact absurd J hne
 |cons p t=>
  have:=Eg (n:=n) (i:=i) hb t.length;unfold q7 at this;rwa [dQ] at this
def J3(l:List ah):cI 6 (l.map eZ):=fun d hd=>by
 obtain⟨x,_,rfl⟩:=aU.1 hd;exact⟨J,J⟩
def LN[hn:aE n i](hb: ∀q∈l,aE q j)(hne:l≠[])(hi:i<=20000)(hj:j<=20000)(hk:l.length<=100000):PF GB prog 94 [eZ n, .sl (l.map eZ)] (eF (kz n l)):=by
 obtain⟨p,t,rfl⟩: ∃p t,l=p::t:=by cases l with|nil=>exact absurd rfl hne|cons p t=>exact⟨p,t,rfl⟩
 have hml:((p::t).map eZ).length=t.length+1:=by simp
 have hml2:(t.map eZ).length=t.length:=aX ..;rw[bZ] at hk;have hp:=hb p aZ;obtain⟨S,hS⟩: ∃S,S=q7 n p t:=⟨_,rfl⟩;have hSb: ∀k,BQ (S k) (i+j+(i+j)+1):=by rw[hS];exact Eg hb
 have hS0:n.dot p=S 0:=by rw[hS];rfl
 refine fn func94 J J ntmps94 J J (fun C=>?_);refine ix _ J J J<|cl (fu:=⟨0⟩) J (wv (p:=n) (q:=p) (i:=i) (j:=j) we we) J<|aj 12 (.d (eF (S 0))) J (by rw[hS0])<|gx J<|je (fu:=⟨1⟩) 1 (t.length+1) (t.map eZ) J J (by rw[hml]) (by rw[bS (by rw[hml];exact bJ _)];rfl) (J3 _) we we J<|aj 15 (.d (vI (t.length:Nat))) J (by rw[hml2]<;>rfl)<|gx J<|lp (X:=Nat) (fun k=>[(16, .d (vI (k:Nat))),(5, .ov 5 0)]) (fun k=>[(5,some (.o 170 [.d (vI (ew (S k))), .d (vI (et (S k))), .d (ez (S k))] true))]) (fun k=>k<=t.length) (fun k=>t.length-k) 0 J (aS _) (fun _=>J) (fun k hk=>?_);haveI:=hSb k;refine br J J J (fun hc17=>?_) (fun hc17=>?_)
 .
  obtain⟨q,hx⟩: ∃u,t[k]? =some u:=⟨_,aQ we⟩;haveI:=hb q (aJ _ (aK hx));have eS:S (k+1)=if n.dot q<S k then n.dot q else S k:=by rw[hS];exact Or hx
  refine ix _ J (ce hx) J<|cl J (wv (p:=n) (q:=q) (i:=i) (j:=j) we we) J<|cl (fu:=⟨0⟩) J (RT (p:=S k) (q:=n.dot q) (i:=i+j+(i+j)+1) (j:=i+j+(i+j)+1) we we) J<|aj 24 (.d (eF (S (k+1)))) J (by rw[eS])<|gx (hv:=by simp only[ak];exact⟨omd,we⟩) J<|at_ (k+1) ⟨we,we⟩
 .
  obtain rfl:k=t.length:=by omega
  exact rz J (by rw[hS];unfold q7;rw[dQ]<;>rfl)
def aNx:Option Rat->DV
 |some m=> .tp [eF m,vB true]
 |none=> .tp [.ag [vI 0,vI 0, .v (.pointer none)],vB false]
theorem RR{c:av}(hc:d5 c): ∀q∈jm c,aE q 3500:=fun q hq=>by
 rcases bX.1 hq with h|h
 .obtain⟨s,hs,rfl⟩:=aU.1 h
  exact aA2 (hc s hs)
 .have hlb: ∀l∈c.map (fun s=>s.l),LB l:=fun l hl=>by
   obtain⟨s,hs,rfl⟩:=aU.1 hl;exact(hc s hs).lb
  exact aE.mono (V3 hlb q h)
def Mu{c:av}(h:c=[]\/uu n c=true):hH c n=none:=by
 unfold hH;rw[if_pos];rcases h with h|h
 .rw[h];rfl
 .rw[h,sJ]
def Lx{c:av}(hs:s∈c)(h:i5 n s=true):hH c n=none:=by
 unfold hH;split
 .rfl
 .rw[if_pos (kZ.2 ⟨s,hs,h⟩)]
def aF7{c:av}(h0:c≠[])(h1:uu n c=false)(h: ∀s∈c,i5 n s=false):hH c n=some (kz n (jm c)):=by
 unfold hH;have e:c.isEmpty=false:=by cases c with|nil=>exact absurd J h0|cons s t=>rfl
 rw[e,h1,if_neg oma,if_neg (fun k=>by obtain⟨s,hs,k⟩:=kZ.1 k;rw[h s hs] at k;cases k)]
def td(c:av):List ah:=c.map fun s=>s.l.at s.v.sample
def aAJ{c:av}{k:Nat}(h:c[k]? =some s):((td (c.take k)).map eZ)++[eZ (s.l.at s.v.sample)]=(td (c.take (k+1))).map eZ:=by
 unfold td;rw[dW,h,aM,aM];rfl
def aBM{c:av}(h:c.length≠1):uu n c=false:=by
 match c,h with
 |[],_=>rfl
 |[s],h=>exact absurd J h
 |_::_::_,_=>rfl
def DL{x:Rat}:x.num.sign<0↔x<0:=by
 rw[<-Rat.not_le,<-rM];constructor
 .intro h k
  rcases(show x.num=0\/0<x.num by omega) with e|e
  .rw[e] at h;exact absurd h oma
  .rw[fS e] at h;omega
 .intro h
  rw[eK we];decide
def aJk{x:Rat}:0<x.num↔0<x:=by
 constructor
 .intro h
  refine Rat.not_le.1 fun k=>?_;have h2:=rM.2 (show 0<= -x by grind);rw[oX] at h2;omega
 .intro h
  have h1:=rM.2 (dX h);have h2:x.num≠0:=fun e=>by rw[mW.1 e] at h;exact absurd h oma
  omega
def E2{x:Rat}:0<x.num.sign↔0<x:=by
 rw[<-aJk];constructor
 .intro h
  refine Decidable.not_not.1 fun k=>?_;rcases(show x.num=0\/x.num<0 by omega) with e|e
  .rw[e] at h;exact absurd h oma
  .rw[eK e] at h;exact absurd h oma
 .intro h
  rw[fS h];decide
def aNU(h:s.v.nh=true)(k:(s.l.dir.dot n).num.sign<0):i5 n s=true:=by
 unfold i5;rw[h,decide_eq_true (DL.1 k)];rfl
def T8(h:s.v.nl=true)(k:0<(s.l.dir.dot n).num.sign):i5 n s=true:=by
 unfold i5;rw[h,decide_eq_true (E2.1 k),pR,sJ]
def F1(h1:s.v.nh=false\/ ¬(s.l.dir.dot n).num.sign<0)(h2:s.v.nl=false\/ ¬0<(s.l.dir.dot n).num.sign):i5 n s=false:=by
 unfold i5;have e1:(s.v.nh&&decide (s.l.dir.dot n<0))=false:=by
  rcases h1 with h|h
  .rw[h];rfl
  .rw[decide_eq_false fun k=>h (DL.2 k),Bool.and_false]
 have e2:(s.v.nl&&decide (0<s.l.dir.dot n))=false:=by
  rcases h2 with h|h
  .rw[h];rfl
  .rw[decide_eq_false fun k=>h (E2.2 k),Bool.and_false]
 rw[e1,e2];rfl
def aDK{c:av}{k:Nat}(h:c[k]? =some s)(hk: ∀s∈c.take k,i5 n s=false)(hs:i5 n s=false): ∀s∈c.take (k+1),i5 n s=false:=fun u hu=>by
 rw[dW,h] at hu;rcases bX.1 hu with hu|hu
 .exact hk u hu
 .rw[show u=s by simpa using hu];exact hs
def T9{c:av}(h:c≠[]):jm c≠[]:=fun e=>h (by
 have:=(List.append_eq_nil_iff.1 e).1;exact uX.1 this)
def Zm(c:av)(h:c.length<=20000):(jm c).length<=100000:=by
 unfold jm;have:=NP (c.map (·.l));rw[aY,aX];rw[aX] at this;omega
def QZ{c:av}[hn:aE n j](hc:d5 c)(hj:j<=10000)(hk:c.length<=20000):PF GB prog 98 [eC c,eZ n] (aNx (hH c n)):=by
 have hml:(c.map di).length=c.length:=aX ..;have hback: ∀s,c[0]? =some s->c.length=1->uu n c=decide (s.l.nor.dot n<0):=fun s h1 h2=>by match c,h1,h2 with|[u],h1,_=>cases h1;rfl
 refine fn (fu:=⟨8⟩) func98 J J ntmps98 J J (fun C=>?_);refine mg (X:=Unit) (fun _=>[]) (fun _=>[]) (fun _=>c≠[]/\uu n c=false) [] [] rfl ?_ (fun _=>J) (fun _ hm=>?_)
 .
  refine gx (fu:=⟨4⟩) J<|aj 11 (.d (vI (c.length:Nat))) J omo<|gx (fu:=⟨0⟩) J<|gF (v1:=fun hg12=>by simp only[ak];kernel_rfl) (fu2:=⟨3⟩) J J J J (fun hg12=>?_) (fun hg12=>?_)
  .
   exact rz J (by rw[Mu (.inl (cJ we))]<;>rfl)
  .
   have hc0:c≠[]:=fun e=>hg12 (by rw[e];rfl);refine aj 15 (.d (vI (c.length:Nat))) J omo<|gx (fu:=⟨0⟩) J<|gF (v2:=fun hg16=>by simp only[ak];kernel_rfl) J J J J (fun hg16=>?_) (fun hg16=>?_)
   .
    obtain⟨s,hx⟩: ∃s,c[0]? =some s:=⟨_,aQ we⟩;have hbe:=hback s hx we;haveI:=(hc s (aK hx)).lb;haveI:=(hc s (aK hx)).v.lo;haveI:=(hc s (aK hx)).v.hi;refine ix _ J (Yc hx) J<|cl J (xm (l:=s.l)) J<|cl J (wv (p:=s.l.nor) (q:=n) (i:=97) (j:=j) oma we) J<|cl J (nA (q:=s.l.nor.dot n) we) J<|br J J J (fun hc28=>?_) (fun hc28=>?_)
    .
     exact rz J (by rw[Mu (.inr (by rw[hbe];exact decide_eq_true (DL.1 hc28)))]<;>rfl)
    .
     exact at_ () ⟨hc0,by rw[hbe];exact decide_eq_false fun k=>hc28 (DL.2 k)⟩
   .
    exact at_ () ⟨hc0,aBM we⟩
 .
  obtain⟨hne,hbk⟩:=hm;refine nr 6 6 181 6 J J J<|lp (X:=Nat) (fun k=>[(32, .d (vI (k:Nat))),(6, .rw 6)]) (fun k=>[(6,some (.b 181 6 ((td (c.take k)).map eZ) true))]) (fun k=>k<=c.length/\ ∀s∈c.take k,i5 n s=false) (fun k=>c.length-k) 0 J ⟨aS _,fun s hs=>by simp at hs⟩ (fun _=>J) (fun k hk=>?_);obtain⟨hk1,hk2⟩:=hk;have hm4:(td (c.take k)).length<=k:=by unfold td;rw[aX,bT];omega
  have hm3:((td (c.take k)).map eZ).length<=k:=by rw[aX];exact hm4
  refine br J J J (fun hc33=>?_) (fun hc33=>?_)
  .
   obtain⟨s,hx⟩: ∃u,c[k]? =some u:=⟨_,aQ we⟩;haveI:=(hc s (aK hx)).lb;haveI:=(hc s (aK hx)).v.lo;haveI:=(hc s (aK hx)).v.hi;refine ix _ J (ce hx) J<|cl J (xh (l:=s.l)) J<|cl J (wv (p:=s.l.dir) (q:=n) (i:=97) (j:=j) oma we) J<|cl (fu:=⟨4⟩) J (nA (q:=s.l.dir.dot n) we) J<|mg (X:=Unit) (fun _=>[]) (fun _=>[]) (fun _=>i5 n s=false) [] [] rfl ?_ (fun _=>J) (fun _ hop=>?_)
   .
    refine gx J<|iE 45 J J J (fun hg45=>?_) (fun hg45=>?_)
    .
     refine cs 49 J J J (fun hg49=>?_) (fun hg49=>?_)
     .
      exact rz J (by rw[Lx (aK hx) (aNU hg45 hg49)]<;>rfl)
     .
      refine iE 53 J J J (fun hg53=>?_) (fun hg53=>?_)
      .
       refine br J J J (fun hc57=>?_) (fun hc57=>?_)
       .
        exact rz J (by rw[Lx (aK hx) (T8 hg53 hc57)]<;>rfl)
       .
        exact at_ () (F1 (.inr hg49) (.inr hc57))
      .
       exact at_ () (F1 (.inr hg49) (.inl hg53))
    .
     refine iE 53 J J J (fun hg53=>?_) (fun hg53=>?_)
     .
      refine br J J J (fun hc57=>?_) (fun hc57=>?_)
      .
       exact rz J (by rw[Lx (aK hx) (T8 hg53 hc57)]<;>rfl)
      .
       exact at_ () (F1 (.inl hg45) (.inr hc57))
     .
      exact at_ () (F1 (.inl hg45) (.inl hg53))
   .
    refine cl J (MW (v:=s.v) (i:=1200)) J<|cl J (QM (l:=s.l) (t:=s.v.sample)) J<|rf J J<|ap (hv:=by simp only[ak];exact⟨omd,we⟩) ((td (c.take (k+1))).map eZ) J (aAJ hx) (J3 [_]) J<|d8 67 6 J<|at_ (k+1) ⟨⟨we,aDK hx hk2 hop⟩,we⟩
  .
   obtain rfl:k=c.length:=by omega
   rw[dQ] at hk2⊢;have hm5:(td c).length=c.length:=aX ..;have hm6:=NP (c.map (·.l));rw[aX] at hm6;refine cl J (Xp (c:=c) (fun s hs=>(hc s hs).lb) we) J<|kp ((jm c).map eZ) J (by unfold jm td;rw[aM]<;>rfl) (J3 _) J<|cl J (LN (n:=n) (l:=jm c) (i:=j) (j:=3500) (RR hc) (T9 hne) we oma (Zm c we)) J<|rz J (by rw[aF7 hne hbk hk2]<;>rfl)
def aKh{c:av}[hn:aE n j](hc:d5 c)(hj:j<=10000)(hk:c.length<=20000)(h:hH c n=some m):PF GB prog 98 [eC c,eZ n] (.tp [eF m, .v (.bool true)]):=by
 have:=QZ (GB:=GB) (n:=n) hc hj hk;rw[h] at this;exact this
def aHr{c:av}[hn:aE n j](hc:d5 c)(hj:j<=10000)(hk:c.length<=20000)(h:hH c n=none):PF GB prog 98 [eC c,eZ n] (.tp [.ag [vI 0,vI 0, .v (.pointer none)], .v (.bool false)]):=by
 have:=QZ (GB:=GB) (n:=n) hc hj hk;rw[h] at this;exact this
def EA{P:Nat->Prop}{k:Nat}(h: ∀i<k,P i)(hk:P k): ∀i<k+1,P i:=fun i hi=>by
 rcases Nat.lt_succ_iff_lt_or_eq.1 hi with h1|h1
 .exact h i h1
 .rw[h1];exact hk
def L9(hb: ∀u∈v,aE u i)(hi:i<=80000)(hn:v.length<=100000):PF GB prog 89 [.sl (v.map eZ)] (vB (rj v)):=by
 have hrl:(mp v).length=v.length:=by unfold mp;rw[aX,kL]
 have hml:(v.map eZ).length=v.length:=aX ..;refine K9 func89 J J ntmps89 J J (fun C h0=>?_);refine Eh J J J EE (fun _=>J) (fun GB1 pv hg1 hpv=>?_);refine wq 1 2000001 h0.fx J<|wq 2 2000002 h0.fx J ?_;refine CE (σ:=Unit) (fun _=>[(2000001,some (.o 108 [.d (.sl (v.map eZ))] true)),(2000002,some (.o 4 [.ff] true))]) (fun k=> ∀k'<k,∀i<v.length,od v k' i=true) (fun _=>[(2000001,some (.o 108 [.d (.sl (v.map eZ))] true)),(2000002,some (.o 4 [.ff] true))]) (fun _=>rj v=false) [(1, .ov 2000001 0),(2, .ov 2000002 0)] h0 J (D2) (.cons hpv .nil) ⟨J,J,trivial⟩ J ⟨J,J,trivial⟩ (fun k hk=>absurd hk (pU k)) DQ J J (fun k e GB' hE hg hp=>?_) (fun D hD hx hp=>?_) (fun D s hD hx hq=>?_)
 .obtain⟨q1,q2,hpx,hqx,rfl⟩:=Ep hE
  haveI:=hb q1 (aK hpx);haveI:=hb q2 (aK hqx);have hkn:=(aT.1 hpx).1;refine⟨?_,?_,fun C2=>?_,fun C2=>?_⟩
  rotate_left 2
  .refine gx J<|Cu J J J ⟨J,J,J⟩ J ?_
   exact atR
  .skip
   refine gx (fu:=⟨5⟩) J<|aj 12 (.d (vI (v.length:Nat))) J omo<|gx J<|lp (X:=Nat) (fun j=>[(13, .d (vI (j:Nat)))]) (fun j=>[]) (fun j=>j<=v.length/\ ∀i<j,od v k i=true) (fun j=>v.length-j) 0 J ⟨aS _,fun i hi=>absurd hi (pU i)⟩ (fun _=>J) (fun j hk=>?_);obtain⟨hk1,hk2⟩:=hk;refine br J J J (fun hc14=>?_) (fun hc14=>?_)
   .
    obtain⟨w,hx⟩: ∃u,v[j]? =some u:=⟨_,aQ we⟩;haveI:=hb w (aK hx);have hcv:=L0 hpx hqx hx;refine ix _ J (ce hx) J<|cs (fu1:=⟨5⟩) 21 J J J (fun hg21=>?_) (fun hg21=>?_)
    .
     refine aj 26 (.d (vI (v.length:Nat))) J omo<|gx (fu:=⟨1⟩) J<|aj 27 (.d (vI (((k+1)%v.length:Nat):Int))) J J<|gx J<|cs 30 J J J (fun hg30=>?_) (fun hg30=>?_)
     .
      refine m6 0 (e:=181) (len:=2) (s:=6) J omd omd oma J<|m6 1 (e:=181) (len:=2) (s:=6) J omd omd oma J<|cl J (Zg (a:=q1) (b:=q2) (c:=w) (i:=i) (j:=i) (k:=i) we we we) J<|br J J J (fun hc38=>?_) (fun hc38=>?_)
      .
       exact Tm () (UY hkn (aT.1 hx).1 (by rw[hcv,decide_eq_false we,decide_eq_false we,decide_eq_false (fun q=>by have:=E2.2 q;omega)]<;>rfl))
      .
       exact at_ (j+1) ⟨⟨we,EA hk2 (by rw[hcv,decide_eq_true (E2.1 we),sJ,sJ])⟩,we⟩
     .
      exact at_ (j+1) ⟨⟨we,EA hk2 (by rw[hcv,decide_eq_true (show j=(k+1)%v.length by omega),Bool.true_or,sJ])⟩,we⟩
    .
     exact at_ (j+1) ⟨⟨we,EA hk2 (by rw[hcv,decide_eq_true (show j=k by omega),Bool.true_or])⟩,we⟩
   .
    obtain rfl:j=v.length:=by omega
    exact rq (EA hp hk2) ⟨J,J,trivial⟩
 .refine gx J<|?_
  rw[hrl] at hp;exact FE hD hx J (by rw[Io.2 hp]<;>rfl)
 .refine gx J<|?_
  exact FE hD hx J (by rw[hq]<;>rfl)
def RL.lnC(r:RL):(r.ln=none/\r.nm)\/(r.ln=none/\ ¬r.nm)\/ ∃l,r.ln=some l:=by
 cases h:r.ln with
 |some l=>exact .inr (.inr ⟨l,J⟩)
 |none=>by_cases hn:r.nm;exact .inl ⟨J,hn⟩;exact .inr (.inl ⟨J,hn⟩)
def RL.ln_iff{r:RL}:r.ln=none↔ ¬(r.nm/\r.l.ok):=by
 unfold RL.ln;split
 .rename_i h;simp[h]
 .rename_i h;simp[h]
def aLv{r:RL}{l:aa}(s:r.sm)(h:r.ln=some l):PF GB prog 52 [r.d] (.tp [eL l,vB true]):=by
 have:=GT (GB:=GB) s;have hh:r.nm/\r.l.ok:=Decidable.not_not.1 fun e=>by rw[RL.ln_iff.2 e] at h;cases h
 rw[nF,if_pos hh.1,decide_eq_true hh] at this;have e:r.l=l:=by unfold RL.ln at h;rw[if_pos hh] at h;cases h;rfl
 rwa [e] at this
def XS{r:RL}(s:r.sm)(h:r.ln=none)(hn:r.nm):PF GB prog 52 [r.d] (.tp [eL r.l,vB false]):=by
 have:=GT (GB:=GB) s;rw[nF,if_pos hn,decide_eq_false (RL.ln_iff.1 h)] at this;exact this
def W3{r:RL}(s:r.sm)(h:r.ln=none)(hn: ¬r.nm):PF GB prog 52 [r.d] (.tp [.ag [.v (.bool false), .sl [], .v (.bool false), .sl [], .v (.bool false), .sl []],vB false]):=by
 have:=GT (GB:=GB) s;rw[nF,if_neg hn,decide_eq_false (RL.ln_iff.1 h)] at this;exact this
def Zf:Option (List aa)->DV
 |some ls=> .tp [.sl (ls.map eL),vB true]
 |none=> .tp [.sl [],vB false]
def TX{cs:List RL}(hs: ∀r∈cs,r.sm)(hn:cs.length<=1000):PF GB prog 16 [.ag [.sl (cs.map RL.d)]] (Zf (i8 cs)):=by
 have hm:=nj RL.d cs;refine fn (fu:=⟨18⟩) func16 J J ntmps16 J J (fun C=>?_);refine aj 11 (.d (vI (cs.length:Nat))) J omn<|gx J<|nr 4 4 99 6 J J J<|lp (X:=Nat) (fun k=>[(12, .d (vI (k:Nat))),(4, .rw 4)]) (fun k=>[(4,some (.b 99 6 (((cs.take k).filterMap RL.ln).map eL) true))]) (fun k=>k<=cs.length/\(cs.take k).all (fun r=>r.ln.isSome)=true) (fun k=>cs.length-k) 0 J ⟨aS _,J⟩ (fun _=>J) (fun k hk=>?_);obtain⟨h1,h2⟩:=hk;have hfl:=jT RL.ln (cs.take k);have hml:=nj eL ((cs.take k).filterMap RL.ln);rw[bT] at hfl;refine br (fu2:=⟨11⟩) J J J (fun hc13=>?_) (fun hc13=>?_)
 .
  obtain⟨r,hx0⟩: ∃s,cs[k]? =some s:=⟨_,aQ we⟩;have hx:=hs r (aK hx0);refine ix _ J (ce hx0) J<|?_;rcases RL.lnC r with⟨hr,hrn⟩|⟨hr,hrn⟩|⟨l,hr⟩
  .
   refine cl (fu:=⟨3⟩) J (XS hx hr hrn) J<|iG 20 J<|gx J<|rz J (by rw[He hx0 hr];rfl)
  .
   refine cl (fu:=⟨3⟩) J (W3 hx hr hrn) J<|iG 20 J<|gx J<|rz J (by rw[He hx0 hr];rfl)
  .
   refine cl (fu:=⟨3⟩) J (aLv hx hr) J<|fD 20 J<|gx J<|rf J J<|ap (((cs.take (k+1)).filterMap RL.ln).map eL) J (by rw[Mk hx0 hr,aM];rfl) (dO [l]) J<|d8 26 4 J<|at_ (k+1) ⟨⟨we,Pk hx0 h2 (by rw[hr];rfl)⟩,we⟩
 .
  obtain rfl:k=cs.length:=by omega
  refine kT 31 J we<|gx J<|gD 4 J<|rz J (by rw[Oh h2];rfl)
def Jw{cs:List RL}{ls:List aa}(hs: ∀r∈cs,r.sm)(hn:cs.length<=1000)(h:i8 cs=some ls):PF GB prog 16 [.ag [.sl (cs.map RL.d)]] (.tp [.sl (ls.map eL),vB true]):=by
 have:=TX (GB:=GB) hs hn;rw[h] at this;exact this
def Ih{cs:List RL}(hs: ∀r∈cs,r.sm)(hn:cs.length<=1000)(h:i8 cs=none):PF GB prog 16 [.ag [.sl (cs.map RL.d)]] (.tp [.sl [],vB false]):=by
 have:=TX (GB:=GB) hs hn;rw[h] at this;exact this
section
variable (hE:EG GB ai al ae)
include hE
section
variable {t:Tr}(h:t.gd)(hs:t.size<=65536)(hd:t.depth<=1000)
include h hs hd
end
end
structure RL.wd (r:RL):Prop where
 a:bt r.da
 b:bt r.db
 c:bt r.dc
def RL.sm_of{r:RL}(h:r.wd)(k:r.smB 3=true):r.sm:=by
 unfold RL.smB Sx.smB at k;simp at k;exact⟨⟨h.a,we⟩,⟨h.b,we⟩,⟨h.c,we⟩⟩
def aIm{cs:List RL}(h: ∀r∈cs,r.wd)(k:sD 3 cs=true): ∀r∈cs,r.sm:=fun r hr=>by
 unfold sD at k;exact RL.sm_of (h r hr) (dJ.1 k r hr)
def Om(L:List aa):DV:= .ag [.sl (L.map eL)]
def aHs(l:List aa):cI 6 (l.map eL):=fun d hd=>by
 obtain⟨x,_,rfl⟩:=aU.1 hd;exact⟨J,J⟩
def aHT{c:av}(hb: ∀s∈c,LB s.l)(hn:c.length<=100000):PF GB prog 51 [eC c] (Om (c.map (·.l))):=by
 have hml:(c.map di).length=c.length:=aX ..;refine fn (fu:=⟨15⟩) func51 J J ntmps51 J J (fun C=>?_);refine aj 7 (.d (vI (c.length:Nat))) J omo<|gx J<|FP 3 0 33 68 6 J J J J J<|lp (X:=Nat) (fun k=>[(8, .d (vI (k:Nat))),(3, .ov 3 0)]) (fun k=>[(3,some (.o 27 [.rw 33] true)),(33,some (.b 68 6 (((c.take k).map (·.l)).map eL) true))]) (fun k=>k<=c.length) (fun k=>c.length-k) 0 J (aS _) (fun _=>J) (fun k hk=>?_);have hkl:(((c.take k).map (·.l)).map eL).length<=k:=by rw[aX,aX,bT];omega
 refine br (fu2:=⟨0⟩) J J J (fun hc9=>?_) (fun hc9=>?_)
 .
  obtain⟨s,hx⟩: ∃u,c[k]? =some u:=⟨_,aQ we⟩;haveI:=hb s (aK hx);refine ix _ J (ce hx) J<|cl J (Ny (l:=s.l)) J<|rf J J<|ap (hv:=by simp only[ak];exact⟨omd,we⟩) (((c.take (k+1)).map (·.l)).map eL) J (by rw[dW,hx];simp only[aM];rfl) (aHs [s.l]) J<|d8 18 33 J<|at_ (k+1) ⟨we,we⟩
 .
  obtain rfl:k=c.length:=by omega
  rw[dQ];refine lv 33 J<|gx J<|rz J J
def az2{L:List aa}{l:aa}(h:L[j]? =some l):mC (L.drop j)= .node l (mC (L.drop (j+1))) (.leaf false):=by
 obtain⟨h1,h2⟩:=aT.1 h;rw[bK h1,h2];rfl
def aBk{c:av}(h:c[j]? =some s):(c.map (·.l))[j]? =some s.l:=by rw[bL,h];rfl
def XB{c:av}(hn:c.length<=100000):PF GB prog 79 [.sl (c.map di)] (eU (mC (c.map (·.l)))):=by
 have hml:(c.map di).length=c.length:=aX ..;refine fn func79 J J ntmps79 J J (fun C=>?_);refine cl (fu:=⟨8⟩) J (rg (b:=true)) J<|aj 7 (.d (vI (c.length:Nat))) J omo<|gx J<|aj 3 (.d (eU (mC ((c.map (·.l)).drop c.length)))) J (by rw[jW omc]<;>rfl)<|lp (X:=Nat) (fun k=>[(4, .d (vI ((k:Int)-1))),(3, .d (eU (mC ((c.map (·.l)).drop k))))]) (fun k=>[]) (fun k=>k<=c.length) (fun k=>k) c.length J (bJ _) (fun _=>J) (fun k hk=>?_);refine br (fu1:=⟨7⟩) J J J (fun hc10=>?_) (fun hc10=>?_)
 .
  obtain⟨j,rfl⟩: ∃j,k=j+1:=⟨k-1,we⟩;obtain⟨s,hx⟩: ∃u,c[j]? =some u:=⟨_,aQ we⟩;refine aj 14 (.d (vI (j:Nat))) J omQ<|gx J<|ix _ J (ce hx) J<|cl J (rg (b:=false)) J<|cl (hv:=by simp only[ak];exact⟨omd,we⟩) J (yq (l:=s.l)) J<|aj 4 (.d (vI ((j:Int)-1))) J omQ<|aj 3 (.d (eU (mC ((c.map (·.l)).drop j)))) J (by rw[az2 (aBk hx)]<;>rfl)<|at_ j ⟨we,we⟩
 .
  obtain rfl:k=0:=by omega
  exact rz J J
end Go.Sx
end
