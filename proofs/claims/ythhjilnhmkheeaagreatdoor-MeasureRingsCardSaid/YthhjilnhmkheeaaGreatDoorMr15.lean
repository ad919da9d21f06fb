import Derived.Test.YthhjilnhmkheeaaGreatDoorMr14
set_option linter.all false
set_option maxHeartbeats 4000000
set_option maxRecDepth 100000
section
namespace Go.Sx
open Go Go.Proofs Tryz
variable {GB:Gh}
def fk(v:aa):aa:=v.scale (rgcd v.x v.y)⁻¹
def fi(t:Tr)(p:aa):List aa:=(mh t p).flatMap fun l=>[fk l.dir,bP (fk l.dir)]
def jb(ds:List aa):List aa:=ul cF ds
def q6{t:Tr}{p d:aa}:d∈fi t p↔ ∃l∈mh t p,d=fk l.dir\/d=bP (fk l.dir):=by
 unfold fi;rw[dK];constructor
 .rintro ⟨l,h1,h2⟩
  refine⟨l,h1,?_⟩;rcases aW.1 h2 with h|h
  .exact .inl h
  .exact .inr (aV.1 h)
 .rintro ⟨l,h1,rfl|rfl⟩
  .exact⟨l,h1,aQ⟩
  .exact⟨l,h1,aX _ aQ⟩
def azO{x y:Rat}(h:x≠0\/y≠0):0<rgcd x y:=by
 unfold rgcd;have hd:0<x.den*y.den:=gM x.den_pos y.den_pos;have hg:0<Nat.gcd (x.num.natAbs*y.den) (y.num.natAbs*x.den):=by
  rcases h with h|h
  .exact mV _ (gM (Int.natAbs_pos.2 fun e=>h (mW.1 e)) y.den_pos)
  .exact oW _ (gM (Int.natAbs_pos.2 fun e=>h (mW.1 e)) x.den_pos)
 generalize Nat.gcd (x.num.natAbs*y.den) (y.num.natAbs*x.den)=g at*;generalize x.den*y.den=d at*;rw[<-JI];have h1:mkRat (g:Int) d=(g:Rat)/(d:Rat):=by rw[pX];rfl
 rw[JI,h1];have hg':(0:Rat)<(g:Rat):=by exact_mod_cast hg
 have hd':(0:Rat)<(d:Rat):=by exact_mod_cast hd
 have e:(g:Rat)/(d:Rat)*(d:Rat)=(g:Rat):=by grind
 exact(gi (k:=(d:Rat)) hd').1 (by rw[e];exact hg')
def Z4{v:aa}(h:v.half≠0):v.x≠0\/v.y≠0:=by
 rcases lI v with⟨_,k⟩|⟨_,k⟩|⟨k,_⟩
 .rcases k with k|⟨_,k⟩
  .exact .inr omb
  .exact .inl omb
 .rcases k with k|⟨_,k⟩
  .exact .inr omb
  .exact .inl omb
 .exact absurd k h
theorem ozc{p:Prop}(h:p:=by rw[e];decide):p:=h
def Aw{v:aa}(h:v.half≠0): ∃a:Rat,0<a/\fk v=⟨a*v.x,a*v.y⟩:=by
 have hg:=azO (Z4 h);refine⟨(rgcd v.x v.y)⁻¹,?_,?_⟩
 .generalize rgcd v.x v.y=g at*
  have e:g⁻¹*g=1:=by grind
  exact(gi (k:=g) hg).1 ozc
 .unfold fk aa.scale
  simp only[aa.mk.injEq];constructor<;>grind
def YP(v:aa):fk (bP v)=bP (fk v):=by
 have e:rgcd (-v.x) (-v.y)=rgcd v.x v.y:=by
  unfold rgcd;rw[nQ,nQ,qZ,qZ,iJ,iJ]
 unfold fk aa.scale bP;simp only[aa.mk.injEq,e];constructor<;>grind
def Hv{v:aa}(h:v.half≠0):(fk v).half=v.half:=by
 obtain⟨a,a1,e⟩:=Aw h;have:=Ju (a:=a) (b:=a) (u:=v) (w:=v) a1 a1 J h;rw[<-this];have h2:fk v=iA (a*(1/2)) (a*(1/2)) v v:=by rw[e];unfold iA;simp only[aa.mk.injEq];constructor<;>grind
 have h3:=Ju (a:=a*(1/2)) (b:=a*(1/2)) (u:=v) (w:=v) (bg a1 omb) (bg a1 omb) J h;rw[h2,h3,this]
def QF{u v:aa}:cF u v=0↔u.half=v.half/\u.cross v=0:=by
 unfold cF;split
 .constructor
  .intro h;exact absurd h oma
  .intro h;omega
 .split
  .constructor
   .intro h;exact absurd h oma
   .intro h;omega
  .constructor
   .intro h
    exact⟨we,(l5 _).1 we⟩
   .intro h
    rw[(l5 _).2 h.2];rfl
def vY{u v w:aa}(h:cp u v)(k:cp v w):cp u w:=by
 by_cases hu:u.half=0
 .by_cases hw:w.half=0
  .have z: ∀x y:aa,x.half=0->x.cross y=0:=fun x y hx=>by
    rcases lI x with⟨e,_⟩|⟨e,_⟩|⟨_,e1,e2⟩
    .rw[hx] at e;exact absurd e oma
    .rw[hx] at e;exact absurd e oma
    .unfold aa.cross;rw[e1,e2];grind
   rcases h with h|⟨h,h'⟩
   .rcases k with k|⟨k,k'⟩
    .omega
    .have hv:v.half≠0:=by omega
     omega
   .rw[z u v hu] at h';exact absurd h' oma
  .refine .inl ?_
   have h1:=ig hw;omega
 .have hv:v.half≠0:=by
   intro e;rcases h with h|⟨h,_⟩
   .have:=ig hu;omega
   .omega
  have hw:w.half≠0:=by
   intro e;rcases k with k|⟨k,_⟩
   .have:=ig hv;omega
   .omega
  exact cp.trans hu hv hw h k
section
variable {α:Type} (c:α->α->Int)
def R6{x y:α}: ∀{xs:List α},y∈xs->y∈dO c x xs
 |[],h=>by cases h
 |u::t,h=>by
  rw[dO];split
  .rcases aW.1 h with rfl|h
   .exact aQ
   .exact aX _ (R6 h)
  .split
   .exact h
   .exact aX _ h
def Th{x:α}: ∀{xs:List α},∃e∈dO c x xs,e=x\/c e x=0
 |[]=>⟨x,aQ, .inl J⟩
 |u::t=>by
  rw[dO];split
  .obtain⟨e,h1,h2⟩:=Th (x:=x) (xs:=t)
   exact⟨e,aX _ h1,h2⟩
  .split
   .exact⟨u,aQ, .inr ome⟩
   .exact⟨x,aQ, .inl J⟩
def Tx{y:α}: ∀{l o:List α},y∈o->y∈l.foldl (fun out x=>dO c x out) o
 |[],o,h=>h
 |x::t,o,h=>Tx (l:=t) (R6 c h)
def IF{d:α}: ∀{l o:List α},d∈l-> ∃e∈l.foldl (fun out x=>dO c x out) o,e=d\/c e d=0
 |[],o,h=>by cases h
 |x::t,o,h=>by
  rcases aW.1 h with rfl|h
  .obtain⟨e,h1,h2⟩:=Th c (x:=d) (xs:=o)
   exact⟨e,Tx c (l:=t) h1,h2⟩
  .exact IF (l:=t) h
end
def Oe(ds:List aa):(jb ds).Pairwise cp:=by
 have:=HV (c:=cF) (fun u v w h k=>nC.2 (vY (nC.1 h) (nC.1 k))) (fun u v h k=>nC.2 (UD.1 we)) (l:=ds) (o:=[]) List.Pairwise.nil;exact this.imp fun h=>nC.1 h
def LH{l m:ab}(hl:l.ok)(hm:m.ok){p:aa}(h1:l.value p=0)(h2:m.value p=0){d e:aa}(hd:d=fk l.dir\/d=bP (fk l.dir))(he:e=fk m.dir\/e=bP (fk m.dir))(h:cF d e=0):d=e:=by
 obtain⟨hh,hc⟩:=QF.1 h;have zl:=vm hl;have zm:=vm hm;have zpl:(fk l.dir).half≠0:=by rw[Hv zl];exact zl
 have zpm:(fk m.dir).half≠0:=by rw[Hv zm];exact zm
 have cr:l.dir.cross m.dir=0:=by
  obtain⟨a,a1,e1⟩:=Aw zl;obtain⟨b,b1,e2⟩:=Aw zm;have c0:(fk l.dir).cross (fk m.dir)=0:=by
   rcases hd with rfl|rfl<;>rcases he with rfl|rfl
   .exact hc
   .rw[mB] at hc;grind
   .rw[fH,mB] at hc;rw[fH];grind
   .rw[mB,fH,mB] at hc;rw[fH];grind
  have e3:(fk l.dir).cross (fk m.dir)=(a*b)*l.dir.cross m.dir:=by rw[e1,e2];unfold aa.cross;grind
  have hab:=bg a1 b1;rw[e3] at c0;clear e1 e2 e3;generalize a*b=k at*;generalize l.dir.cross m.dir=z at*;rcases cP z with q|q|q
  .exact q
  .have:=bg hab q;grind
  .have:=bg (a:=k) (b:= -z) hab omb;grind
 have dirR: ∀k:ab,k.rev.dir=bP k.dir:=fun k=>by
  unfold ab.dir ab.rev bP;simp only[aa.mk.injEq,iX]
  try constructor<;>grind
 have cdir: ∀k:ab,k.canon.dir=k.dir\/k.canon.dir=bP k.dir:=fun k=>by
  unfold ab.canon;split
  .exact .inr (dirR k)
  .exact .inl J
 have cval: ∀k:ab,k.value p=0->k.canon.value p=0:=fun k hk=>by rcases J2 k p with e|e<;>rw[e,hk]<;>rfl
 have okc: ∀k:ab,k.ok->k.canon.ok:=fun k hk=>by unfold ab.canon;split;exact hk.rev;exact hk
 have ec:l.canon=m.canon:=aDs (okc l hl) (okc m hm) (Jf hl) (Jf hm) (cval l h1) (cval m h2) (by
  rcases cdir l with e1|e1<;>rcases cdir m with e2|e2<;>rw[e1,e2]
  .exact cr
  .rw[mB,cr];rfl
  .rw[fH,mB,fH,cr];rfl
  .rw[mB,fH,mB,fH,cr];rfl)
 have hdir:l.dir=m.dir\/l.dir=bP m.dir:=by
  have e1:=cdir l;have e2:=cdir m;rw[ec] at e1;rcases e1 with e1|e1<;>rcases e2 with e2|e2
  .exact .inl (e1.symm.trans e2)
  .exact .inr (e1.symm.trans e2)
  .right;rw[<-e2,e1,A5]
  .left;rw[<-A5 l.dir,<-e1,e2,A5]
 have hP:fk l.dir=fk m.dir\/fk l.dir=bP (fk m.dir):=by
  rcases hdir with e|e
  .exact .inl okC
  .exact .inr (by rw[e,YP])
 have hn:=uA zpm;have h3:=ig zpm;have key:d=fk m.dir\/d=bP (fk m.dir):=by
  rcases hd with rfl|rfl<;>rcases hP with e|e
  .exact .inl e
  .exact .inr e
  .exact .inr okC
  .exact .inl (by rw[e,A5])
 rcases key with rfl|rfl<;>rcases he with rfl|rfl
 .rfl
 .exfalso;omega
 .exfalso;omega
 .rfl
def Rl{t:Tr}(ht:t.all ab.ok)(p:aa):(jb (fi t p)).Pairwise cp/\vS (jb (fi t p))/\ ∀y,y∈jb (fi t p)↔y∈fi t p:=by
 have h2: ∀y,y∈jb (fi t p)->y∈fi t p:=fun y hy=>by
  rcases BU cF hy with h|h
  .exact h
  .cases h
 have h3: ∀y,y∈fi t p->y∈jb (fi t p):=fun y hy=>by
  obtain⟨e,e1,e2⟩:=IF cF (o:=[]) hy;rcases e2 with rfl|e2
  .exact e1
  .obtain⟨l,k1,k2⟩:=q6.1 hy
   obtain⟨m,k3,k4⟩:=q6.1 (h2 e e1);obtain⟨a1,a2⟩:=pq k1;obtain⟨b1,b2⟩:=pq k3;rw[<-LH (jO ht _ b1) (jO ht _ a1) b2 a2 k4 k2 e2];exact e1
 refine⟨Oe _,⟨fun d hd=>?_,fun d hd=>?_⟩,fun y=>⟨h2 y,h3 y⟩⟩
 .obtain⟨l,k1,k2⟩:=q6.1 (h2 d hd)
  have z:=vm (jO ht _ (pq k1).1);have z2:(fk l.dir).half≠0:=by rw[Hv z];exact z
  rcases k2 with rfl|rfl
  .exact z2
  .exact WU z2
 .obtain⟨l,k1,k2⟩:=q6.1 (h2 d hd)
  refine h3 _ (q6.2 ⟨l,k1,?_⟩);rcases k2 with rfl|rfl
  .exact .inr J
  .exact .inl (A5 _)
def Rv{t:Tr}(ht:t.all ab.ok){p v:aa}(hv:v∈lE (jb (fi t p))):Gn (mh t p) p v:=by
 obtain⟨h1,h2,h3⟩:=Rl ht p;have key:(∀d∈jb (fi t p),d.cross v≠0)->Gn (mh t p) p v:=fun k l hl hz e=>by
  have z:=vm (jO ht _ (pq hl).1);obtain⟨a,a1,a2⟩:=Aw z;refine k _ ((h3 _).2 (q6.2 ⟨l,hl, .inl J⟩)) ?_;rw[<-rj] at e;have:(fk l.dir).cross v=a*l.dir.cross v:=by rw[a2];unfold aa.cross;grind
  rw[this,e];grind
 generalize jb (fi t p)=ds at*;unfold lE at hv;split at hv
 .rename_i hn
  refine key fun d hd=>?_;rw[List.length_eq_zero_iff.1 hn] at hd;cases hd
 .obtain⟨i,hi,rfl⟩:=aS.1 hv
  rw[dS] at hi;have hj:(i+1)%ds.length<ds.length:=dQ _ we;have hx:=Tw h1 h2 hi hj;have mu:=bN hi;have mw:=bN hj;have hp:=hx.pos h2 mu mw;refine key ?_;unfold pO;rw[Dp hi,Dp hj];split
  .rename_i k
   have hc:=(k9 _).1 k;rw[Ul];exact hx.gen h2 mu mw omb oma oma
  .rename_i k
   exact hx.turn h2 mu mw (by have: ¬0<ds[i].cross ds[(i+1)%ds.length]:=fun e=>k ((k9 _).2 e);grind)
def Ta{t:Tr}(ht:t.all ab.ok){p x:aa}(hx:Gn (mh t p) p x): ∃v∈lE (jb (fi t p)),(gI t p v).1=(gI t p x).1:=by
 obtain⟨h1,h2,h3⟩:=Rl ht p;have cr: ∀l∈mh t p,∃a:Rat,0<a/\ ∀y,(fk l.dir).cross y=a*l.nor.dot y:=fun l hl=>by
  obtain⟨a,a1,a2⟩:=Aw (vm (jO ht _ (pq hl).1));exact⟨a,a1,fun y=>by rw[a2,<-rj];unfold aa.cross;grind⟩
 by_cases hn:jb (fi t p)=[]
 .refine⟨⟨1,0⟩,by unfold lE;rw[if_pos (by rw[hn];rfl)];exact aQ,?_⟩
  rw[BZ fun l hl=>?_];have:=(h3 _).2 (q6.2 ⟨l,hl, .inl J⟩);rw[hn] at this;cases this
 .obtain⟨i,hi,hs⟩:=aAL h1 h2 hn (x:=x) fun d hd=>by
   obtain⟨l,k1,k2⟩:=q6.1 ((h3 d).1 hd);obtain⟨a,a1,a2⟩:=cr l k1;have hz:=hx l k1 (pq k1).2;have e:(fk l.dir).cross x≠0:=by rw[a2];grind
   rcases k2 with rfl|rfl
   .exact e
   .intro q;apply e;unfold aa.cross bP at*;grind
  refine⟨pO (jb (fi t p)) i,?_,?_⟩
  .unfold lE
   rw[if_neg we];exact aS.2 ⟨i,dS.2 hi,J⟩
  .rw[BZ fun l hl=>?_]
   have:=hs _ ((h3 _).2 (q6.2 ⟨l,hl, .inl J⟩));obtain⟨a,a1,a2⟩:=cr l hl;rw[a2,a2] at this;have sg: ∀z:Rat,Int.sign (a*z).num=Int.sign z.num:=fun z=>by
    rcases cP z with k|k|k
    .subst k;rw[show a*0=0 by grind]
    .rw[(m8 _).2 k,(m8 _).2 (bg a1 k)]
    .rw[yx k,yx (by have:=bg (a:=a) (b:= -z) a1 omb;grind)]
   rw[sg,sg] at this;exact this.symm
def uj(t:Tr)(p:aa):Bool:=(lE (jb (fi t p))).any fun v=>(gI t p v).1
def zr(t:Tr)(p:aa):Bool:=(lE (jb (fi t p))).all fun v=>(gI t p v).1
def pe(t:Tr)(p:aa):Int:=if uj t p&&zr t p then 2 else if uj t p then 1 else 0
def Ir{t:Tr}(ht:t.all ab.ok){p:aa}:uj t p=true↔uW t p true:=by
 unfold uj;rw[jY];constructor
 .rintro ⟨v,h1,h2⟩;exact⟨v,Rv ht h1,h2⟩
 .rintro ⟨x,h1,h2⟩
  obtain⟨v,k1,k2⟩:=Ta ht h1;exact⟨v,k1,by rw[k2,h2]⟩
def Pt{t:Tr}(ht:t.all ab.ok){p:aa}:zr t p=true↔ ¬uW t p false:=by
 unfold zr;rw[cN];constructor
 .rintro h ⟨x,h1,h2⟩
  obtain⟨v,k1,k2⟩:=Ta ht h1;have:=h v k1;rw[k2,h2] at this;cases this
 .intro h v hv
  cases hb:(gI t p v).1 with
  |true=>rfl
  |false=>exact absurd ⟨v,Rv ht hv,hb⟩ h
def aqN(t:Tr)(p:aa):pe t p=0\/pe t p=1\/pe t p=2:=by
 unfold pe;split
 .exact .inr (.inr J)
 .split
  .exact .inr (.inl J)
  .exact .inl J
def RE{t:Tr}(ht:t.all ab.ok){p:aa}:pe t p=2↔ ¬uW t p false:=by
 unfold pe;constructor
 .intro h
  split at h
  .rename_i k;rw[bT] at k;exact(Pt ht).1 k.2
  .split at h<;>exact absurd h oma
 .intro h
  have h1:=(Pt ht).2 h;have h2:=(Ir ht).2 ((ZV ht p).resolve_right h);rw[h1,h2];rfl
def F5{t:Tr}(ht:t.all ab.ok){p:aa}:pe t p=0↔ ¬uW t p true:=by
 unfold pe;constructor
 .intro h k
  rw[(Ir ht).2 k] at h;split at h
  .exact absurd h oma
  .exact absurd h oma
 .intro h
  have h1:uj t p=false:=by
   cases e:uj t p with
   |false=>rfl
   |true=>exact absurd ((Ir ht).1 e) h
  rw[h1];rfl
def so(u:aa): ¬cp u u:=by
 rintro (h|⟨_,h⟩)
 .omega
 .have:u.cross u=0:=by unfold aa.cross;grind
  rw[this] at h;exact absurd h oma
def zb{u v:aa}(h:cp u v)(k:cp v u):False:=so u (vY h k)
def EK{x y:aa}(h: ¬cp x y)(k: ¬cp y x):cF x y=0:=by
 rw[<-nC] at h k;unfold cF at*;split at h<;>try omega
 split at h<;>try omega
 split at k<;>try omega
 rw[show y.cross x= -(x.cross y) by unfold aa.cross;grind,nQ,Int.sign_neg] at k;omega
section
variable {GB:Gh} {C:aH} {n:Nat} {Q0:Exit->Act->World->Prop} {fr fr':aD} {own own':aO} {cf cf':Cf} {vc:List Prop}
def aHi{lk:LK}{bk:BM}{dst:Option Nat}{t ty':TypeId}{pos:String}{af:Array Edge}{gd:Option (Nat×Bool)}{x y:Operand}{e len s nm off:Nat}{k:IntKind}{i:Nat}(hu:prog.underlying t=some (.array len e))(hs:(prog.info? e).map (·.size)=some s)
  (e1:ba lk x=some (.ov nm off))(e2:ba lk y=some (.d (.v (.int k (i:Nat)))))(hi:i<len):cg prog GB C n lk bk ⟨dst, .indexAddr t x y,ty',pos,af,gd⟩ (.ov nm (off+i*s)) [] []:= .yd fun ρ G ov a w r=>by
 obtain⟨p,h1,h2⟩:=r.ev e1;obtain⟨q,h3,h4⟩:=r.ev e2;rw[dq] at h4;subst h4;obtain⟨b,hb,rfl⟩:=h2;refine⟨_,⟨b,hb,J⟩,?_⟩;obtain⟨j,hj,hjs⟩: ∃j,prog.info? e=some j/\j.size=s:=by
  cases h:prog.info? e with
  |none=>rw[h] at hs;cases hs
  |some j=>rw[h] at hs;exact⟨j,J,by simpa using hs⟩
 intro a' w' hf hh;simp only[execOp,bu hf h1,bu hf h3];have:(Instr.indexAt t (.pointer (some ⟨b,off,none⟩)) (.int k (i:Nat))).run prog w'= .ok (.pointer (some ⟨b,off+i*s,none⟩)) w':=by
  unfold Instr.indexAt;show(underlying t>>=_).run prog w'=_;rw[bc (qD hu w')];show(underlying t>>=_).run prog w'=_;rw[bc (qD hu w')];have h0:0<=((i:Nat):Int):=rX i;have h1:((i:Nat):Int)<((len:Nat):Int):=by omega
  simp only[h0,h1,and_self,if_true];show(sizeOf e>>=_).run prog w'=_;rw[bc (vC hj w'),rH,hjs,dR];rfl
 exact dC this
def QS(fr:aD)(cf:Cf):Option (TypeId×Nat×Nat×Int):=match dw fr cf with
 |some ⟨_, .indexAddr t x y,_,_,_,_⟩=>match ba (co fr cf) x with
  |some (.ov nm off)=>match ba (co fr cf) y with
   |some (.d (.v (.int _ i)))=>some (t,nm,off,i)
   |_=>none
  |_=>none
 |_=>none
def lm[fu:Fu](i:Nat){t nm off e len s:Nat}(h:QS fr cf=some (t,nm,off,((i:Nat):Int)))(hu:prog.underlying t=some (.array len e))(hs:(prog.info? e).map (·.size)=some s)(hi:i<len)
  (hgo:dl tt n fu.n fr own cf (.ov nm (off+i*s)) [] []=⟨vc,fr',own',cf'⟩)(k:ao prog GB C n Q0 fr' own' cf')
  (hv:autoParam (ae vc) cL._auto_1):ao prog GB C n Q0 fr own cf:=by
 unfold QS at h;split at h<;>try (cases h;done)
 rename_i hh;split at h<;>try (cases h;done)
 rename_i hx;split at h<;>cases h;rename_i hy;exact us hh (aHi hu hs hx hy hi) hgo hv k
def Wd{lk:LK}{bk:BM}{d s:Nat}{e t ty':TypeId}{pos:String}{af:Array Edge}{gd:Option (Nat×Bool)}{ps:List (Nat×Operand)}{fo:List (Nat×Nat×Nat)}{i:TI}{z zx:List FX}{k:Nat}{pre post:List DV}(hi:gh prog t=some i)(hk:i.k= .st fo)(hz:i.z=some z)
  (hb:uZ lk fo z ps=some zx)(h0:zx[k]? =some .nl)(h1:jy (zx.take k)=some pre)(h2:jy (zx.drop (k+1))=some post):cg prog GB C n lk bk ⟨some d, .build t ⟨ps⟩,ty',pos,af,gd⟩ (.bx false pre d post) [(d,some (.b e s [] true))] [d]:=by
 intro hd tl tb K' s1 s2 hf hk';refine⟨fun ρ G ov a w r Q=>?_⟩;obtain⟨v,hv,hv'⟩:=As hi hz;have:=Or hi hk;have hsp:zx=zx.take k++ .nl::zx.drop (k+1):=by
  obtain⟨hk1,hk2⟩:=bQ.1 h0
  conv=>lhs;rw[<-jZ k zx,bU hk1,hk2]
 obtain⟨l,h1',h2'⟩:=Dh (r.mono s1 s2) (fo:=fo) ps _ _ _ hb (hv' ρ G);rw[hsp] at h2';obtain⟨m1,m2',rfl,k1,y,m2,rfl,k2,k3⟩:=PE h2'
 cases (show y= .slice none 0 0 from k2)
 have hy:Yd prog C (de a) ov G ⟨some d, .build t ⟨ps⟩,ty',pos,af,gd⟩ (.agg ⟨m1++Value.slice none 0 0::m2⟩):=F3 h1';have r3:=r.new' (x:=⟨none,0,0⟩) (B':= .b e s [] true) (os:=[]) (ov':=ov) (f:= .bx false pre d post) (y:= .agg ⟨m1++Value.slice none 0 0::m2⟩) hf (cc.refl G) r.h
  ⟨[],by simp only[if_true];exact .inl ⟨J,J,J⟩, .nil,omc,fun _ o ho=>by cases ho⟩ (fun o ho=>by cases ho) (fun m B _ _ o ho _=>⟨ho,omc⟩)
  ⟨m1,m2,omc,rF k1 h1,rF k3 h2⟩ (r.putA _ hd)
 exact ly (hy a w (dt a) r.h) (hk'.run _ G ov _ w r3)
def ME(fr:aD)(cf:Cf):Option (Nat×List FX):=match dw fr cf with
 |some ⟨some d, .build t ⟨ps⟩,_,_,_,_⟩=>match eH tt t with
  |some ⟨.st fo,_,some zx,_⟩=>match uZ (co fr cf) fo zx ps with
   |some l=>some (d,l)
   |none=>none
  |_=>none
 |_=>none
def Zk[fu:Fu]{d:Nat}{zx:List FX}(e s kk:Nat)(pre post:List DV)(h:ME fr cf=some (d,zx))(h0:zx[kk]? =some .nl)(h1:jy (zx.take kk)=some pre)(h2:jy (zx.drop (kk+1))=some post)(hgo:dl tt n fu.n fr own cf (.bx false pre d post) [(d,some (.b e s [] true))] [d]=⟨vc,fr',own',cf'⟩)(k:ao prog GB C n Q0 fr' own' cf')
  (hv:autoParam (ae vc) cL._auto_1):ao prog GB C n Q0 fr own cf:=by
 unfold ME at h;split at h<;>try (cases h;done)
 rename_i hh;split at h<;>try (cases h;done)
 rename_i hT;split at h<;>cases h;rename_i hb;exact us hh (Wd (fp _ _ hT) J J hb h0 h1 h2) hgo hv k
end
def sp1(f:aI)(m:ab)(k:Nat):List aI:=if k=0 then [] else fG f m 1
def sp2(f:aI)(m:ab)(k:Nat):List aI:=if k<=1 then [] else fG f m (-1)
def L3{l m:ab}(hl:LB l)(hm:LB m)(hlo:l.ok){side:Int}: ∀v∈jk l m side,nn v:=fun v hv=>⟨(Ke hl hm hlo v hv).2.1,(Ke hl hm hlo v hv).2.2⟩
def By{l m:ab}{side:Int}:(jk l m side).length<=1:=by
 unfold jk;split
 .split<;>simp
 .split<;>simp
def Rr(op:Int)(a b:List ai):(ke op a b).length<=2*(a.length+b.length)+1:=by
 unfold ke wo;refine dJ F1 ?_;rw[aK,A'];have:=Kh (a++b);rw[aR] at this;omega
theorem omW{p:Prop}(h:p:=by first|(unfold fG;rw[if_pos hon,if_pos hon];rfl)|rfl):p:=h
theorem okU{p:Prop}(h:p:=by show 1<=100;decide):p:=h
def aGp{f:aI}{m:ab}(h:mP f)[hm:LB m](hmo:m.ok):PF GB prog 92 [d8 f,eL m] (.tp [.sl ((fG f m 1).map d8), .sl ((fG f m (-1)).map d8)]):=by
 haveI:=h.lb;refine fn func92 J J ntmps92 J J (fun C=>?_);refine rf (fu:=⟨1⟩) J J<|ah 14 (.d (vI (2:Nat))) J J<|gx J<|LJ 6 0 60 87 14 J J J J J<|LJ 6 1 61 87 14 J J J J J<|lp (X:=Nat) (fun k=>[(15, .d (vI (k:Nat))),(6, .ov 6 0)]) (fun k=>[(6,some (.o 239 [.rw 60, .rw 61] true)),(60,some (.b 87 14 ((sp1 f m k).map d8) true)),(61,some (.b 87 14 ((sp2 f m k).map d8) true))]) (fun k=>k<=2) (fun k=>2-k) 0 J we (fun _=>J) (fun k hk=>?_);refine br J J J (fun hc16=>?_) (fun hc16=>?_)
 .
  rcases(show k=0\/k=1 by omega) with rfl|rfl
  .
   refine ix _ J J J<|cl (fu:=⟨0⟩) J (T5 (l:=f.l) (m:=m) (side:=1) h.ok hmo (.inl J)) J<|?_;obtain⟨cs,hcs⟩: ∃c,c=ke 2 [f.v] (jk f.l m 1):=⟨_,rfl⟩;have hcl:cs.length<=5:=by rw[hcs];have h1:=Rr 2 [f.v] (jk f.l m 1);have h2:=By (l:=f.l) (m:=m) (side:=1);simp only[iS] at h1;omega
   refine ah 25 (.d (.tp [.sl ((jk f.l m 1).map eV),vB (l7 f.l m)])) J J<|gx J<|bb J J J (fun hc28=>?_) (fun hc28=>?_)
   .
    have hon:l7 f.l m=true:=hc28;exact rz J omW
   .
    have hon:l7 f.l m=false:=by simpa using hc28
    refine rf J J<|cl (fu:=⟨0⟩) J (GN (a:=[f.v]) (b:=jk f.l m 1) (fun v hv=>by rw[aV] at hv;subst hv;exact⟨h.lo,h.hi⟩) (L3 h.lb hm h.ok) okU (by have:=By (l:=f.l) (m:=m) (side:=1);omega)) J<|ah 33 (.d (.sl (cs.map eV))) J (by rw[hcs])<|gx (fu:=⟨1⟩) J<|ah 34 (.d (vI (cs.length:Nat))) J (by rw[ik eV cs]<;>rfl)<|gx J<|lp (X:=Nat) (fun j=>[(35, .d (vI (j:Nat)))]) (fun j=>[(60,some (.b 87 14 (((cs.take j).map fun v=>(⟨f.l,v⟩:aI)).map d8) true))]) (fun j=>j<=cs.length) (fun j=>cs.length-j) 0 J (bS _) (fun _=>J) (fun j hk=>?_);have hml:(((cs.take j).map fun v=>(⟨f.l,v⟩:aI)).map d8).length<=j:=by rw[aK,aK,cR];omega
    refine br J J J (fun hc36=>?_) (fun hc36=>?_)
    .
     obtain⟨z,hz⟩: ∃s,cs[j]? =some s:=⟨_,aZ we⟩;refine ix _ J (dP hz) J<|lm 0 (e:=80) (len:=2) (s:=1) J omd omd oma J<|rf J J<|ap (((cs.take (j+1)).map fun v=>(⟨f.l,v⟩:aI)).map d8) J (by rw[<-vv hz,bL];rfl) (yW [⟨f.l,z⟩]) J<|lm (hv:=by simp only[ae];exact⟨omd,we⟩) 0 (e:=80) (len:=2) (s:=1) J omd omd oma J<|iE 48 60 J<|at_ (j+1) ⟨we,we⟩
    .
     obtain rfl:j=cs.length:=by omega
     rw[show(cs.take cs.length).map (fun v=>(⟨f.l,v⟩:aI))=fG f m 1 from by rw[dV];unfold fG;rw[if_neg (by rw[hon];decide),<-hcs]];exact at_ (0+1) ⟨we,we⟩
  .
   refine ix _ J J J<|cl (fu:=⟨0⟩) J (T5 (l:=f.l) (m:=m) (side:= -1) h.ok hmo (.inr J)) J<|?_;obtain⟨cs,hcs⟩: ∃c,c=ke 2 [f.v] (jk f.l m (-1)):=⟨_,rfl⟩;have hcl:cs.length<=5:=by rw[hcs];have h1:=Rr 2 [f.v] (jk f.l m (-1));have h2:=By (l:=f.l) (m:=m) (side:=(-1));simp only[iS] at h1;omega
   refine ah 25 (.d (.tp [.sl ((jk f.l m (-1)).map eV),vB (l7 f.l m)])) J J<|gx J<|bb J J J (fun hc28=>?_) (fun hc28=>?_)
   .
    have hon:l7 f.l m=true:=hc28;exact rz J omW
   .
    have hon:l7 f.l m=false:=by simpa using hc28
    refine rf J J<|cl (fu:=⟨0⟩) J (GN (a:=[f.v]) (b:=jk f.l m (-1)) (fun v hv=>by rw[aV] at hv;subst hv;exact⟨h.lo,h.hi⟩) (L3 h.lb hm h.ok) okU (by have:=By (l:=f.l) (m:=m) (side:=(-1));omega)) J<|ah 33 (.d (.sl (cs.map eV))) J (by rw[hcs])<|gx (fu:=⟨1⟩) J<|ah 34 (.d (vI (cs.length:Nat))) J (by rw[ik eV cs]<;>rfl)<|gx J<|lp (X:=Nat) (fun j=>[(35, .d (vI (j:Nat)))]) (fun j=>[(61,some (.b 87 14 (((cs.take j).map fun v=>(⟨f.l,v⟩:aI)).map d8) true))]) (fun j=>j<=cs.length) (fun j=>cs.length-j) 0 J (bS _) (fun _=>J) (fun j hk=>?_);have hml:(((cs.take j).map fun v=>(⟨f.l,v⟩:aI)).map d8).length<=j:=by rw[aK,aK,cR];omega
    refine br J J J (fun hc36=>?_) (fun hc36=>?_)
    .
     obtain⟨z,hz⟩: ∃s,cs[j]? =some s:=⟨_,aZ we⟩;refine ix _ J (dP hz) J<|lm 1 (e:=80) (len:=2) (s:=1) J omd omd oma J<|rf J J<|ap (((cs.take (j+1)).map fun v=>(⟨f.l,v⟩:aI)).map d8) J (by rw[<-vv hz,bL];rfl) (yW [⟨f.l,z⟩]) J<|lm (hv:=by simp only[ae];exact⟨omd,we⟩) 1 (e:=80) (len:=2) (s:=1) J omd omd oma J<|iE 48 61 J<|at_ (j+1) ⟨we,we⟩
    .
     obtain rfl:j=cs.length:=by omega
     rw[show(cs.take cs.length).map (fun v=>(⟨f.l,v⟩:aI))=fG f m (-1) from by rw[dV];unfold fG;rw[if_neg (by rw[hon];decide),<-hcs]];exact at_ (1+1) ⟨we,we⟩
 .
  obtain rfl:k=2:=by omega
  refine lm 0 (e:=80) (len:=2) (s:=1) J omd omd oma J<|lm 1 (e:=80) (len:=2) (s:=1) J omd omd oma J<|jd 60 J<|jd 61 J<|rz J omW
def gP(p:ZP):DV:=eP p.q
def mC(r:List ZP):DV:= .sl (r.map gP)
def Id(l:List ZP):dH 6 (l.map gP):=fun d hd=>by
 obtain⟨u,_,rfl⟩:=aS.1 hd;exact⟨rfl,rfl⟩
def UG(l:List (List ZP)):dH 1 (l.map mC):=fun d hd=>by
 obtain⟨u,_,rfl⟩:=aS.1 hd;exact⟨rfl,rfl⟩
def avu{k n:Nat}:Int.tmod (((k:Nat):Int)+1) ((n:Nat):Int)=(((k+1)%n:Nat):Int):=rfl
def vA{r:List ZP}{i:Nat}(h:i<r.length):(r.map gP)[((i:Nat):Int).toNat]? =some (gP (r.getD i (0,0))):=by
 rw[dR,cV,aJ,aZ h];rfl
def Hi{r:List ZP}{i:Nat}(h:i<r.length):(r.map gP)[(((i+1)%r.length:Nat):Int).toNat]? =some (gP (cj r i)):=vA (dQ _ we)
def XH(v w p:aa):(rG v w p).natAbs<=1:=by
 unfold rG;split<;>split<;>decide
def FG(r:List ZP)(p:aa): ∀k,(pA r p k).natAbs<=k
 |0=>bV _
 |k+1=>by rw[pA];have:=FG r p k;have:=XH (r.getD k (0,0)).q (cj r k).q p;omega
def H8{r:List ZP}(h:bD r):PF GB prog 30 [.sl (r.map gP)] (.sl ((kh r).map d8)):=by
 have hm:=ik gP r;have h3:=h.n3;have h6:=h.n6;refine fn (fu:=⟨15⟩) func30 J J ntmps30 J J (fun C=>?_);refine ah 8 (.d (vI (r.length:Nat))) J omu<|gx J<|nr 3 3 87 14 J J J<|lp (X:=Nat) (fun k=>[(9, .d (vI (k:Nat))),(3, .rw 3)]) (fun k=>[(3,some (.b 87 14 ((oa r k).map d8) true))]) (fun k=>k<=r.length) (fun k=>r.length-k) 0 J (bS _) (fun _=>J) (fun k hk=>?_);have hel:=fun hh=>(Je (k:=k) h hh).1;refine br J J J (fun hc10=>?_) (fun hc10=>?_)
 .
  have hkr:k<r.length:=by omega
  have hel:=hel we;have hem:=ik d8 (oa r k);refine ix (fu:=⟨7⟩) _ J (vA hkr) J<|ah 22 (.d (vI ((k+1)%r.length:Nat))) J omu<|gx J<|ix _ J (Hi hkr) J<|cl J (Xd (v:=r.getD k (0,0)) (w:=cj r k) (h.le _ (qv hkr)) (h.le _ (xz hkr)) (h.ne k hkr)) J<|rf J J<|ap ((oa r (k+1)).map d8) J (by rw[oa,bL];rfl) (yW [cH (r.getD k (0,0)) (cj r k)]) J<|iE 31 3 J<|at_ (k+1) ⟨we,we⟩
 .
  obtain rfl:k=r.length:=by omega
  refine jd 3 J<|rz J J
theorem omn{p:Prop}(h:p:=by dsimp only;exact⟨⟨by rw[pA,<-h1,<-hv,<-hw];unfold rG;split<;>split<;>omega,we⟩,we⟩):p:=h
def azf{r:List ZP}{p:aa}{i:Nat}[hp:aE p i](h:bD r)(hi:i<=80000:=by decide):PF GB prog 149 [.sl (r.map gP),eP p] (vI (cx r p)):=by
 have hm:=ik gP r;have h3:=h.n3;have h6:=h.n6;refine fn (fu:=⟨16⟩) func149 J J ntmps149 J J (fun C=>?_);refine ah 12 (.d (vI (r.length:Nat))) J omu<|gx J<|lp (X:=Nat×Int) (fun⟨k,c⟩=>[(13, .d (vI (k:Nat))),(5, .d (vI c))]) (fun⟨k,c⟩=>[]) (fun⟨k,c⟩=>c=pA r p k/\k<=r.length) (fun⟨k,c⟩=>r.length-k) (0,0) J ⟨J,bS _⟩ (fun _=>J) (fun⟨k,c⟩ hk=>?_);dsimp only at hk⊢;obtain⟨h1,h2⟩:=hk;have hcl:c.natAbs<=k:=by rw[h1];exact FG r p k
 refine br J J J (fun hc14=>?_) (fun hc14=>?_)
 .
  have hkr:k<r.length:=by omega
  obtain⟨v,hv⟩: ∃v,v=r.getD k (0,0):=⟨_,rfl⟩;obtain⟨w,hw⟩: ∃v,v=cj r k:=⟨_,rfl⟩;haveI hvb:aE v.q 12:=by rw[hv];exact nE (h.le _ (qv hkr))
  haveI hwb:aE w.q 12:=by rw[hw];exact nE (h.le _ (xz hkr))
  refine ix (fu:=⟨1⟩) _ J (vA hkr) J<|ah 19 (.d (eP v.q)) J (by rw[hv];rfl)<|gx (fu:=⟨6⟩) J<|ah 25 (.d (vI ((k+1)%r.length:Nat))) J omu<|gx J<|ix (fu:=⟨1⟩) _ J (Hi hkr) J<|ah 27 (.d (eP w.q)) J (by rw[hw];rfl)<|gx J<|cl J (lg (a:=v.q.y) (b:=p.y) (i:=12) (j:=i) oma we) J<|cl (fu:=⟨9⟩) J (lg (a:=w.q.y) (b:=p.y) (i:=12) (j:=i) oma we) J<|?_;rcases(show(bt v.q.y p.y<=0/\bt w.q.y p.y<=0)\/(bt v.q.y p.y<=0/\ ¬bt w.q.y p.y<=0)\/(¬bt v.q.y p.y<=0/\bt w.q.y p.y<=0)\/(¬bt v.q.y p.y<=0/\ ¬bt w.q.y p.y<=0) by omega) with⟨ca,cb⟩|⟨ca,cb⟩|⟨ca,cb⟩|⟨ca,cb⟩
  .
   refine d9 (fu:=⟨3⟩) J (omg we) J<|ew (fu:=⟨15⟩) J (omh we) J<|ew (fu:=⟨20⟩) J (omh we) J<|at_ (k+1,c) omn
  .
   refine d9 (fu:=⟨3⟩) J (omg we) J<|d9 J (omg we) J<|cl J (IH (a:=v.q) (b:=w.q) (c:=p) (i:=12) (j:=12) (k:=i) oma oma hi) J<|br (fu1:=⟨10⟩) (fu2:=⟨6⟩) J J J (fun hc51=>?_) (fun hc51=>?_)
   .
    refine ew J (omh we) J<|at_ (k+1,c+1) omn
   .
    refine ew (fu:=⟨20⟩) J (omh we) J<|at_ (k+1,c) omn
  .
   refine ew (fu:=⟨19⟩) J (omh we) J<|d9 (fu:=⟨2⟩) J (omg we) J<|d9 J (omg we) J<|cl J (IH (a:=v.q) (b:=w.q) (c:=p) (i:=12) (j:=12) (k:=i) oma oma hi) J<|br (fu2:=⟨8⟩) J J J (fun hc65=>?_) (fun hc65=>?_)
   .
    exact at_ (k+1,c-1) omn
   .
    exact at_ (k+1,c) omn
  .
   refine ew (fu:=⟨19⟩) J (omh we) J<|d9 (fu:=⟨2⟩) J (omg we) J<|ew J (omh we) J<|at_ (k+1,c) omn
 .
  obtain rfl:k=r.length:=by omega
  have hfin:cx r p=c:=h1.symm;exact rz J omV
theorem omE{p:Prop}(h:p:=by show vB _=vB _;unfold p8;congr 1;simp_all):p:=h
def awj{fill n:Int}(hn:n.natAbs<=1000):PF GB prog 150 [vI fill,vI n] (vB (p8 fill n)):=by
 refine fn func150 J J ntmps150 J J (fun C=>?_);refine cs 7 J J J (fun hg7=>?_) (fun hg7=>?_)
 .
  refine cs 12 J J J (fun hg12=>?_) (fun hg12=>?_)
  .
   exact rz J omE
  .
   refine cs 15 J J J (fun hg15=>?_) (fun hg15=>?_)
   .
    exact rz J omE
   .
    exact rz J omE
 .
  refine cs 15 J J J (fun hg15=>?_) (fun hg15=>?_)
  .
   exact rz J omE
  .
   exact rz J omE
def H9(rs:List (List ZP)):List ab:=(gm rs).map aI.l
def xK(rs:List (List ZP))(fill:Int):DV:= .ag [.sl (rs.map mC), .v (.int .i64 fill), .sl ((vr (H9 rs)).map eL)]
def aI8{rs:List (List ZP)}{p:aa}(h: ∀r∈rs,bD r)(k:Nat):((rs.take k).foldl (fun n r=>n+cx r p) 0).natAbs<=6*k:=by
 induction k with
 |zero=>rw[rW];exact bS _
 |succ k ih=>
  rw[iT,rS]
  cases e:rs[k]? with
  |none=>exact dJ ih we
  |some r=>
   have h1:(cx r p).natAbs<=r.length:=FG r p r.length;have h2:=(h r (aT e)).n6;show(List.foldl _ 0 (rs.take k)+cx r p).natAbs<=_;omega
def aK7{rs:List (List ZP)}{fill:Int}{p:aa}{i:Nat}[hp:aE p i](h: ∀r∈rs,bD r)(hn:rs.length<=100)(hi:i<=80000:=by decide):PF GB prog 91 [xK rs fill,eP p] (vB (iH rs fill p)):=by
 have hm:=ik mC rs;refine fn (fu:=⟨18⟩) func91 J J ntmps91 J J (fun C=>?_);refine ah 10 (.d (vI (rs.length:Nat))) J omu<|gx J<|lp (X:=Nat×Int) (fun⟨k,c⟩=>[(11, .d (vI (k:Nat))),(5, .d (vI c))]) (fun⟨k,c⟩=>[]) (fun⟨k,c⟩=>c=(rs.take k).foldl (fun n r=>n+cx r p) 0/\k<=rs.length) (fun⟨k,c⟩=>rs.length-k) (0,0) J ⟨by rw[rW];rfl,bS _⟩ (fun _=>J) (fun⟨k,c⟩ hk=>?_);dsimp only at hk⊢;obtain⟨h1,h2⟩:=hk;have hcl:c.natAbs<=6*k:=by rw[h1];exact aI8 h k
 refine br J J J (fun hc12=>?_) (fun hc12=>?_)
 .
  obtain⟨r,hz⟩: ∃s,rs[k]? =some s:=⟨_,aZ we⟩;have hr:=h r (aT hz);have hnz:(cx r p).natAbs<=6:=dJ (FG r p r.length) hr.n6;refine ix _ J (dP hz) J<|cl J (azf (r:=r) (p:=p) hr hi) J<|at_ (k+1,c+cx r p) (by dsimp only;exact⟨⟨by rw[iT,hz,rS,<-h1];rfl,we⟩,we⟩)
 .
  obtain rfl:k=rs.length:=by omega
  rw[dV] at h1;refine cl J (awj (fill:=fill) (n:=c) we) J<|rz J (by unfold iH;rw[<-h1];rfl)
def xL(r:List ZP):DV:= .sl ((r.map ZP.q).map o5)
def aIF(l:List (List ZP)):dH 1 (l.map xL):=fun d hd=>by
 obtain⟨u,_,rfl⟩:=aS.1 hd;exact⟨rfl,rfl⟩
theorem H1{r:List ZP}(h: ∀p∈r,ZP.le 100 p): ∀p∈r.map ZP.q,aE p 1200:=fun p hp=>by
 obtain⟨z,hz,rfl⟩:=aS.1 hp;have:=nE (h z hz);exact⟨BQ.mono this.x,BQ.mono this.y⟩
def MA(r:List ZP):DV.sl ((r.map ZP.q).map eP)=mC r:=by unfold mC;rw[qK];rfl
def T4{rs:List (List ZP)}{k:Nat}{r:List ZP}(h:rs[k]? =some r):gm (rs.take (k+1))=gm (rs.take k)++kh r:=by
 unfold gm;rw[iT,h,mL];simp
def T7{rs:List (List ZP)}(h: ∀r∈rs,bD r)(k:Nat):(gm (rs.take k)).length<=6*k:=by
 have:=(pi (rs:=rs.take k) (fun r hr=>h r (dT hr))).1;have h2:(rs.take k).length<=k:=by rw[cR];omega
 omega
def PL{rs:List (List ZP)}{fill:Int}(h: ∀r∈rs,bD r)(hn:rs.length<=100):PF GB prog 12 [.sl (rs.map xL), .v (.int .i64 fill)] (xK rs fill):=by
 have hm:=ik xL rs;refine fn (fu:=⟨8⟩) func12 J J ntmps12 J J (fun C=>?_);refine Zk (fu:=⟨14⟩) 25 1 0 [] [.v (.int .i64 fill), .sl []] J J J J J<|ah 15 (.d (vI (rs.length:Nat))) J omu<|gx J<|nr 6 6 83 6 J J J<|lp (X:=Nat) (fun k=>[(16, .d (vI (k:Nat))),(6, .rw 6),(5, .ov 5 0)]) (fun k=>[(5,some (.o 39 [.rw 13, .d (.v (.int .i64 fill)), .d (.sl [])] true)),(13,some (.b 25 1 ((rs.take k).map mC) true)),(6,some (.b 83 6 (((gm (rs.take k)).map aI.l).map eL) true))]) (fun k=>k<=rs.length) (fun k=>rs.length-k) 0 J (bS _) (fun _=>J) (fun k hk=>?_);refine br (fu2:=⟨0⟩) J J J (fun hc17=>?_) (fun hc17=>?_)
 .
  obtain⟨r,hz⟩: ∃s,rs[k]? =some s:=⟨_,aZ we⟩;have hr:=h r (aT hz);have hel:(kh r).length<=6:=by have:=(Dl hr).1;have:=hr.n6;omega
  have het:=T7 h k;have hrl:((rs.take k).map mC).length=k:=by rw[aK,cR];omega
  refine ix _ J (dP hz) J<|cl (fu:=⟨0⟩) J (aKA (ps:=r.map ZP.q) (H1 hr.le) (by rw[aK];have:=hr.n6;omega)) J<|ah 21 (.d (mC r)) J (by rw[MA])<|gx J<|rf J J<|ap ((rs.take (k+1)).map mC) J (vv hz) (UG [r]) J<|cl (fu:=⟨1⟩) J (H8 (r:=r) hr) J<|ah 30 (.d (vI ((kh r).length:Nat))) J (by rw[ik d8 (kh r)]<;>rfl)<|gx J<|?_;rw[<-lZ (gm (rs.take k)),<-rW (l:=kh r)];refine lp (X:=Nat) (fun j=>[(31, .d (vI (j:Nat))),(6, .rw 6)]) (fun j=>[(6,some (.b 83 6 (((gm (rs.take k)++(kh r).take j).map aI.l).map eL) true))]) (fun j=>j<=(kh r).length) (fun j=>(kh r).length-j) 0 J (bS _) (fun _=>J) (fun j hk=>?_);have hml:(((gm (rs.take k)++(kh r).take j).map aI.l).map eL).length<=6*k+6:=by rw[aK,aK,aR,cR];omega
  refine br J J J (fun hc32=>?_) (fun hc32=>?_)
  .
   obtain⟨e,he⟩: ∃s,(kh r)[j]? =some s:=⟨_,aZ we⟩;refine ix _ J (dP he) J<|rf J J<|ap (((gm (rs.take k)++(kh r).take (j+1)).map aI.l).map eL) J (by rw[iT,he];simp only[bL,gX];rfl) (ir [e.l]) J<|iE 39 6 J<|at_ (j+1) ⟨we,we⟩
  .
   obtain rfl:j=(kh r).length:=by omega
   rw[dV,<-T4 hz];refine iE 26 13 J<|at_ (k+1) ⟨we,we⟩
 .
  obtain rfl:k=rs.length:=by omega
  rw[dV];refine vL 6 rfl<|vL 13 rfl<|gx rfl<|cl rfl (atX (ls:=H9 rs) (fun l hl=>by obtain⟨f,hf,rfl⟩:=aS.1 hl;exact((pi h).2 f hf).lb) (by unfold H9;rw[aK];have:=(pi h).1;omega)) rfl<|rz J J
def aJX{rs:List (List ZP)}(h: ∀r∈rs,bD r)(hn:rs.length<=100):PF GB prog 13 [.sl (rs.map mC)] (.sl (rs.map xL)):=by
 have hm:=ik mC rs;refine fn (fu:=⟨15⟩) func13 J J ntmps13 J J (fun C=>?_);refine ah 7 (.d (vI (rs.length:Nat))) J omu<|gx J<|nr 3 3 105 1 J J J<|lp (X:=Nat) (fun k=>[(8, .d (vI (k:Nat))),(3, .rw 3)]) (fun k=>[(3,some (.b 105 1 ((rs.take k).map xL) true))]) (fun k=>k<=rs.length) (fun k=>rs.length-k) 0 J (bS _) (fun _=>J) (fun k hk=>?_);have hml:((rs.take k).map xL).length<=k:=by rw[aK,cR];omega
 refine br J J J (fun hc9=>?_) (fun hc9=>?_)
 .
  obtain⟨r,hz⟩: ∃s,rs[k]? =some s:=⟨_,aZ we⟩;have hr:=h r (aT hz);refine ix (fu:=⟨1⟩) _ J (dP hz) J<|ah 11 (.d (.sl ((r.map ZP.q).map eP))) J (by rw[MA])<|gx J<|cl J (Sv (ps:=r.map ZP.q) (H1 hr.le) (by rw[aK];have:=hr.n6;omega)) J<|rf J J<|ap ((rs.take (k+1)).map xL) J (vv hz) (aIF [r]) J<|iE 16 3 J<|at_ (k+1) ⟨we,we⟩
 .
  obtain rfl:k=rs.length:=by omega
  refine jd 3 J<|rz J (by rw[dV];rfl)
def aoq(out:List ab)(l:ab):(qB out l).length<=out.length+1:=by
 unfold qB;split
 .omega
 .simp;omega
def Md(c:List ab): ∀(t out:List ab),(pg c t out).length<=out.length+t.length
 |[],out=>by simp[pg]
 |l::t,out=>by
  rw[pg];refine dJ (Md c t _) ?_;have:=aoq out l;split<;>simp<;>omega
def NZ(c:List ab):(im c).length<=c.length:=dJ (Md c c []) omc
theorem Lc{c:List ab}(h: ∀m∈c,LB m): ∀m∈im c,LB m:=fun m hm=>h m (r8.1 hm).1
def Qp{c:List ab}(h: ∀m∈c,m.ok): ∀m∈im c,m.ok:=fun m hm=>h m (r8.1 hm).1
def Po{c:List ab}{l:ab}(hc: ∀m∈c,LB m)(hok: ∀m∈c,m.ok)(hn:c.length<=900)(hl:LB l)(hlo:l.ok):PF GB prog 144 [.sl (c.map eL),eL l] (.sl ((im (c++[l])).map eL)):=by
 have hcl:=wY c;refine fn func144 J J ntmps144 J J (fun C=>?_);refine tg J J<|ap (c.map eL) J J (ir _) J<|rf J J<|mH ((c++[l]).map eL) J omO (ir [l]) J<|cl J (V' (c:=c++[l]) (xD hc hl) (mI hok hlo) omo) J<|rz J J
def aAC{l l1:ab}{x y u:Tr}:PF GB prog 143 [eL l,eT (.node l1 x y),eT u] (eT (.node l (.node l1 x y) u)):=by
 refine fn (fu:=⟨12⟩) func143 J J ntmps143 J J (fun C=>?_);refine ew J J J<|jd 33 J<|rz J J
def Zg{l l1:ab}{x y:Tr}{p:Bool}:PF GB prog 143 [eL l,eT (.leaf p),eT (.node l1 x y)] (eT (.node l (.leaf p) (.node l1 x y))):=by
 refine fn (fu:=⟨12⟩) func143 J J ntmps143 J J (fun C=>?_);refine d9 (fu:=⟨4⟩) J J J<|ew J J J<|jd 33 J<|rz J J
def ava{l:ab}{p q:Bool}:PF GB prog 143 [eL l,eT (.leaf p),eT (.leaf q)] (eT (Tr.joinQ l (.leaf p) (.leaf q))):=by
 refine fn (fu:=⟨12⟩) func143 J J ntmps143 J J (fun C=>?_);refine d9 (fu:=⟨4⟩) J J J<|d9 J J J<|bd J J J (fun hc27=>?_) (fun hc27=>?_)
 .
  exact rz J (by rw[show Tr.joinQ l (.leaf p) (.leaf q)= .leaf p by simp[Tr.joinQ,Tr.isLeaf,Tr.code,hc27]];rfl)
 .
  refine jd 33 J<|rz J (by rw[show Tr.joinQ l (.leaf p) (.leaf q)= .node l (.leaf p) (.leaf q) by simp[Tr.joinQ,Tr.isLeaf,Tr.code,hc27]];rfl)
def YQ{l:ab}: ∀{x y:Tr},PF GB prog 143 [eL l,eT x,eT y] (eT (Tr.joinQ l x y))
 | .leaf _, .leaf _=>ava
 | .leaf _, .node .. =>Zg
 | .node ..,_=>aAC
def XT{b:Bool}{c:List ab}:PF GB prog 88 [eT (.leaf b), .sl (c.map eL)] (eT (Tr.restrictL (.leaf b) c)):=by
 refine fn (fu:=⟨11⟩) func88 J J ntmps88 J J (fun C=>?_);refine d9 J J J<|rz J J
def Zr{l:ab}{x y:Tr}{c:List ab}(hl:LB l)(hlo:l.ok)(hc: ∀m∈c,LB m)(hok: ∀m∈c,m.ok)(hn:c.length+(Tr.node l x y).depth<=900)(ihx: ∀{c:List ab},(∀m∈c,LB m)->(∀m∈c,m.ok)->c.length+x.depth<=900->PF GB prog 88 [eT x, .sl (c.map eL)] (eT (Tr.restrictL x c)))(ihy: ∀{c:List ab},(∀m∈c,LB m)->(∀m∈c,m.ok)->c.length+y.depth<=900->PF GB prog 88 [eT y, .sl (c.map eL)] (eT (Tr.restrictL y c))):PF GB prog 88 [eT (.node l x y), .sl (c.map eL)] (eT (Tr.restrictL (.node l x y) c)):=by
 have hdp:(Tr.node l x y).depth=1+Nat.max x.depth y.depth:=J;have hdx:x.depth<=Nat.max x.depth y.depth:=Nat.le_max_left _ _;have hdy:y.depth<=Nat.max x.depth y.depth:=Nat.le_max_right _ _;have hca:=NZ (c++[l]);have hcb:=NZ (c++[l.rev]);rw[aR,iS] at hca hcb;refine fn (fu:=⟨11⟩) func88 J J ntmps88 J J (fun C=>?_);refine ew J J J<|cl J (UQ (c:=c) (l:=l) hc hok we hl hlo) J<|br J J J (fun hc16=>?_) (fun hc16=>?_)
 .
  refine cl J (ihx hc hok we) J<|rz J (by rw[Tr.restrictL,if_pos hc16];rfl)
 .
  refine br J J J (fun hc24=>?_) (fun hc24=>?_)
  .
   refine cl J (ihy hc hok we) J<|rz J (by rw[Tr.restrictL,if_neg hc16,if_pos hc24];rfl)
  .
   refine cl J (Po (c:=c) (l:=l) hc hok we hl hlo) J<|cl J (ihx (c:=im (c++[l])) (Lc (xD hc hl)) (Qp (mI hok hlo)) we) J<|cl J (wX (l:=l)) J<|cl J (Po (c:=c) (l:=l.rev) hc hok we hl.rev hlo.rev) J<|cl J (ihy (c:=im (c++[l.rev])) (Lc (xD hc hl.rev)) (Qp (mI hok hlo.rev)) we) J<|cl J YQ J<|rz J (by rw[Tr.restrictL,if_neg hc16,if_neg hc24];rfl)
def J3: ∀{t:Tr} {c:List ab},t.all LB->t.all ab.ok->(∀m∈c,LB m)->(∀m∈c,m.ok)->c.length+t.depth<=900->PF GB prog 88 [eT t, .sl (c.map eL)] (eT (Tr.restrictL t c))
 | .leaf _,_,_,_,_,_,_=>XT
 | .node l x y,c,hb,ho,hc,hok,hn=>Zr hb.1 ho.1 hc hok hn (fun h1 h2 h3=>J3 hb.2.1 ho.2.1 h1 h2 h3) (fun h1 h2 h3=>J3 hb.2.2 ho.2.2 h1 h2 h3)
def aDE{n d:Nat}(hn:n<=1000)(hd:0<d)(hd1:d<=1000):PF GB prog 39 [.v (.int .i64 (n:Int)), .v (.int .i64 (d:Nat))] (eQ (mkRat n d)):=by
 haveI:BI (n:Int) 10:=BV (by rw[jL];omega);haveI:BN d 10:=⟨we⟩;refine fn func39 J J ntmps39 J J (fun C=>?_);refine cl J (TD (n:=(n:Int))) J<|cl J (uc (u:=d)) J<|cl J (xT (x:=(n:Int)) (d:=d) hd) J<|rz J J
def Lw(xs ys:List NQ)(n:NQ):((xs++(n::ys)).map eN)[((xs.length:Nat):Int).toNat]? =some (eN n):=by simp
def Sp(xs ys:List NQ)(n m:NQ)(e:DV)(h:e=eN m):((xs++(n::ys)).map eN).set ((xs.length:Nat):Int).toNat e=(xs++(m::ys)).map eN:=by subst h;simp
def apR{ns:List NQ}:PB GB prog 40 (e8 [some (eT (.leaf true)),none]) 8 166 (ns.map eN) (fun w=> .tp ([]++ .v (.slice w.a w.n w.c)::[.v (.int .i64 (Tr.num (.leaf true) ns.length))])) ((ns++Tr.wr (.leaf true) ns.length).map eN):=by
 refine Iu (fu:=⟨12⟩) func40 J J ntmps40 J J (fun C=>?_);refine d9 (fu:=⟨9⟩) J J J<|d9 J J J<|?_;exact GR J J J J J (by simp[Tr.wr]) J
def X9{ns:List NQ}:PB GB prog 40 (e8 [some (eT (.leaf false)),none]) 8 166 (ns.map eN) (fun w=> .tp ([]++ .v (.slice w.a w.n w.c)::[.v (.int .i64 (Tr.num (.leaf false) ns.length))])) ((ns++Tr.wr (.leaf false) ns.length).map eN):=by
 refine Iu (fu:=⟨12⟩) func40 J J ntmps40 J J (fun C=>?_);refine d9 (fu:=⟨9⟩) J J J<|ew J J J<|?_;exact GR J J J J J (by simp[Tr.wr]) J
theorem okt{p:Prop}(h:p:=by rw[bL]<;>rfl):p:=h
def apL{l:ab}{s u:Tr}{ns:List NQ}(hl:BL l 96)(hs:ns.length+(1+s.size+u.size)<=1000000)(ihs: ∀{ns:List NQ},ns.length+s.size<=1000000->PB GB prog 40 (e8 [some (eT s),none]) 8 166 (ns.map eN) (fun w=> .tp ([]++ .v (.slice w.a w.n w.c)::[.v (.int .i64 (Tr.num s ns.length))])) ((ns++Tr.wr s ns.length).map eN))(ihu: ∀{ns:List NQ},ns.length+u.size<=1000000->PB GB prog 40 (e8 [some (eT u),none]) 8 166 (ns.map eN) (fun w=> .tp ([]++ .v (.slice w.a w.n w.c)::[.v (.int .i64 (Tr.num u ns.length))])) ((ns++Tr.wr u ns.length).map eN)):PB GB prog 40 (e8 [some (eT (.node l s u)),none]) 8 166 (ns.map eN) (fun w=> .tp ([]++ .v (.slice w.a w.n w.c)::[.v (.int .i64 (Tr.num (.node l s u) ns.length))])) ((ns++Tr.wr (.node l s u) ns.length).map eN):=by
 refine Iu (fu:=⟨12⟩) func40 J J ntmps40 J J (fun C=>?_);refine ew (fu:=⟨9⟩) J J J<|ah 20 (.d (.v (.int .i64 (ns.length:Nat)))) J omc<|gx J<|cl J (aKe hl) J<|rf J J<|Iv ((ns++[(⟨l,0,0⟩:NQ)]).map eN) J okt (aKt [(⟨l,0,0⟩:NQ)]) J<|cb _ J (ihs (ns:=ns++[(⟨l,0,0⟩:NQ)]) omo) J J<|cb (hv:=by simp only[ae];exact omo) ((ns++((⟨l,0,0⟩:NQ)::(s.wr (ns.length+1)++u.wr (ns.length+1+s.size)))).map eN) J (ihu (ns:=ns++[(⟨l,0,0⟩:NQ)]++s.wr (ns++[(⟨l,0,0⟩:NQ)]).length) (by simp[Tr.wr_len];omega)) (by simp[Tr.wr_len,kM,kX 1]) J<|sb (hv:=by simp only[ae];exact omo) (eN ⟨l,0,0⟩) ((ns++((⟨l,s.num (ns.length+1),0⟩:NQ)::(s.wr (ns.length+1)++u.wr (ns.length+1+s.size)))).map eN) J (Lw ns _ ⟨l,0,0⟩) J (by rw[Sp _ _ _ ⟨l,s.num (ns.length+1),0⟩ _ (by simp[eN,DV.cells])]) J<|sb (eN ⟨l,s.num (ns.length+1),0⟩) ((ns++Tr.wr (.node l s u) ns.length).map eN) J (Lw ns _ ⟨l,s.num (ns.length+1),0⟩) J (by rw[Sp _ _ _ ⟨l,s.num (ns.length+1),u.num (ns.length+1+s.size)⟩ _ (by simp[eN,DV.cells,Tr.wr_len,kM,kX 1])];simp[Tr.wr]) J<|?_;exact GR J J J J J J J
def FH: ∀{t:Tr} {ns:List NQ},t.all (fun l=>BL l 96)->ns.length+t.size<=1000000->PB GB prog 40 (e8 [some (eT t),none]) 8 166 (ns.map eN) (fun w=> .tp ([]++ .v (.slice w.a w.n w.c)::[.v (.int .i64 (Tr.num t ns.length))])) ((ns++Tr.wr t ns.length).map eN)
 | .leaf true,ns,_,_=>apR
 | .leaf false,ns,_,_=>X9
 | .node l s u,ns,hb,hs=>apL hb.1 hs (fun h=>FH hb.2.1 h) (fun h=>FH hb.2.2 h)
def aDV{t:Tr}(hb:t.all (fun l=>BL l 96))(hs:t.size<=1000000):PF GB prog 10 [eT t] (eA t):=by
 refine fn func10 J J ntmps10 J J (fun C=>?_);refine cbn _ J (FH (t:=t) (ns:=[]) hb (by simpa using hs)) J J<|jd 6 J<|rz J J
def aLm(ds:List Int):dH 1 (ds.map vI):=fun d hd=>by
 obtain⟨n,_,rfl⟩:=aS.1 hd;exact⟨rfl,rfl⟩
def YV(es:List Int):(es.map vI).take (min es.length 400)=(es.take 400).map vI:=by
 rw[gR];rcases Nat.le_total es.length 400 with h|h
 .rw[iU h,cZ omc,cZ omy]
 .rw[Nat.min_eq_right h]
def aJ1{es:List Int}(hb:es.length<=1125899906842624):PN GB prog 4 [.sl (es.map vI)] 70 Unit (fun _=>[.sl ((es.take 400).map vI), .v (.int .i64 (0:Nat))]):=by
 have hel:(es.map vI).length=es.length:=by simp
 refine fnN func4 J J ntmps4 J J (fun C hmb=>?_);refine mc 0 (min es.length 400) ((es.take 400).map vI) J J (by rw[hel];show(if _ then _ else _:Int)=_;split<;>omega) (YV es) (aLm _) we we J<|?_;exact rzN () J J J J J
def XL{t:Tr}(hb:t.all LB)(hok:t.all ab.ok)(hd:t.depth<=900):PF GB prog 41 [eT t] (eT (t.restrict [])):=by
 refine fn func41 J J ntmps41 J J (fun C=>?_);refine cl J (J3 (t:=t) (c:=[]) hb hok omc omc (by simpa using hd)) J<|rz J (by rw[<-Tr.restrictL_eq t [] [] hok omc bw.nil (fun p=>by unfold bm du;simp)];rfl)
def Qj{cuts:List Rat}{marks:List Bool}: ∀k,2*(gz cuts marks k).length<=k+(if 0<k/\marks.getD (k-1) false=true then 1 else 0)
 |0=>by rw[gz];simp
 |k+1=>by
  have ih:=Qj (cuts:=cuts) (marks:=marks) k;rw[gz];simp only[lK];by_cases hm:marks.getD k false=true
  .rw[if_pos hm,if_pos (show 0<k+1/\marks.getD k false=true from⟨we,hm⟩)]
   by_cases hp:0<k/\marks.getD (k-1) false=true
   .rw[if_pos hp] at ih⊢
    cases hv:(gz cuts marks k).getLast? with
    |some v=>
     have:0<(gz cuts marks k).length:=by
      cases e:gz cuts marks k with
      |nil=>rw[e] at hv;simp at hv
      |cons a t=>simp
     show 2*((gz cuts marks k).dropLast++[_]).length<=_;rw[aR,iV,iS];omega
    |none=>
     have:gz cuts marks k=[]:=List.getLast?_eq_none_iff.1 hv;simp only[this];simp
   .rw[if_neg hp] at ih⊢
    rw[aR,iS];omega
  .rw[if_neg hm]
   split at ih<;>split<;>omega
def azJ(op:Int)(a b:List ai):(ke op a b).length<=a.length+b.length+1:=by
 unfold ke wo;have h:=Qj (cuts:=iI (a++b)) (marks:=(gt (iI (a++b))).map fun t=>o9 op (gy a t) (gy b t)) ((gt (iI (a++b))).map fun t=>o9 op (gy a t) (gy b t)).length;have h2:=Kh (a++b);rw[aR] at h2;have h3:((gt (iI (a++b))).map fun t=>o9 op (gy a t) (gy b t)).length=(iI (a++b)).length+1:=by rw[aK,A']
 split at h<;>omega
def Jn(f:aI)(m:ab)(side:Int):(fG f m side).length<=3:=by
 unfold fG;split
 .simp
 .rw[aK]
  have:=azJ 2 [f.v] (jk f.l m side);have h2:=By (l:=f.l) (m:=m) (side:=side);rw[iS] at this;omega
theorem aqz{p v:aa}{m:ab}{s:Rat}[hp:aE p 4500][hv:aE v 97][hm:LB m](hs:BQ s 60000):BQ (pB p v m s) 60000:=by
 unfold pB um;split
 .exact hs
 .split
  .exact hs
  .split
   .split
    .haveI:BQ (-(m.value p/(m.value (av p v ((1:Int):Rat))-m.value p))) 45000:=BQ.mono inferInstance
     exact BQ.mono (inferInstance:BQ (-(m.value p/(m.value (av p v ((1:Int):Rat))-m.value p))/2) _)
    .exact hs
   .exact hs
theorem NF{p v:aa}[hp:aE p 4500][hv:aE v 97]: ∀{c:List ab} {s:Rat},(∀m∈c,LB m)->BQ s 60000->BQ (nO p v c s) 60000
 |[],_,_,hs=>hs
 |m::t,s,hc,hs=>by
  haveI:=hc m aQ;exact NF (c:=t) (fun q hq=>hc q (aX _ hq)) (aqz hs)
theorem O3{c:List ab}(hc: ∀m∈c,LB m)(hok: ∀m∈c,m.ok): ∀{t:List ab},(∀m∈t,m∈c)->aE (jo c t) 70000
 |[],_=>by
  have h0:BQ (0:Rat) 70000:=BQ.mono (k:=1) ⟨oma,oma⟩;exact⟨h0,h0⟩
 |m::t,h=>by
  have hm:=h m aQ;haveI:=hc m hm;rw[jo];split
  .have hbd:=CK (v:=ai.all) (hok m hm).ne hc iF.all (BQ.mono (k:=1) ⟨oma,oma⟩) (BQ.mono (k:=1) ⟨oma,oma⟩)
   haveI:=hbd.1;haveI:=hbd.2;haveI hsb:=N6 (v:=(gl m c ai.all).1) (i:=1200);haveI hpt:aE (m.at (kr (gl m c ai.all).1)) 4500:=by have:=aE.at m (kr (gl m c ai.all).1) (1200+1200+5);exact⟨this.x.mono oma,this.y.mono oma⟩
   haveI hvt:aE (eG m.dir) 97:=inferInstance;haveI hns:BQ (nO (m.at (kr (gl m c ai.all).1)) (eG m.dir) c ((1:Int):Rat)) 60000:=NF hc (BQ.mono (k:=2) ⟨oma,oma⟩);have:=aE.mov (m.at (kr (gl m c ai.all).1)) (eG m.dir) (nO (m.at (kr (gl m c ai.all).1)) (eG m.dir) c ((1:Int):Rat)) 4500 97 60000;exact⟨this.x.mono oma,this.y.mono oma⟩
  .exact O3 hc hok (fun q hq=>h q (aX _ hq))
def Ly{l:List aI}{k:Nat}{g:aI}{m:ab}{side:Int}(h:l[k]? =some g):(l.take (k+1)).flatMap (fun g=>fG g m side)=(l.take k).flatMap (fun g=>fG g m side)++fG g m side:=by
 rw[iT,h,mL];simp
def Fd(l:List aI)(m:ab)(side:Int):(l.flatMap fun g=>fG g m side).length<=3*l.length:=by
 induction l with
 |nil=>simp
 |cons a t ih=>rw[kL,aR,bZ];have:=Jn a m side;omega
def azG{acc:aa->Bool}{n:Nat}{c:List ab}:jA acc n [] c= .leaf (acc (jo c c)):=by cases n<;>rfl
def Ze{rs:List (List ZP)}{fill:Int}(hrs: ∀r∈rs,bD r)(hrn:rs.length<=100){n:Nat}{c:List ab}(hc: ∀m∈c,LB m)(hok: ∀m∈c,m.ok)(hn:c.length<=900):PF GB prog 42 [xK rs fill, .sl [], .sl (c.map eL)] (eT (jA (iH rs fill) n [] c)):=by
 haveI hpb:=O3 hc hok (t:=c) (fun _ h=>h);refine fn (fu:=⟨11⟩) func42 J J ntmps42 J J (fun C=>?_);refine d9 J J J<|cl J (IJ (c:=c) hc hok we) J<|cl J (aK7 (p:=jo c c) (i:=70000) hrs hrn oma) J<|cl J (aDw (p:=iH rs fill (jo c c))) J<|rz J (by rw[azG];rfl)
def XZ{rs:List (List ZP)}{fill:Int}(hrs: ∀r∈rs,bD r)(hrn:rs.length<=100){n:Nat}{f:aI}{t:List aI}{c:List ab}(hfew:sE (n+1) (f::t))(hfo: ∀g∈f::t,mP g)(hlen:(f::t).length*3^(n+1)<=6973568802)(hc: ∀m∈c,LB m)(hok: ∀m∈c,m.ok)(hn:c.length+(n+1)<=900)(ih: ∀{l:List aI} {c:List ab},sE n l->(∀f∈l,mP f)->l.length*3^n<=6973568802->(∀m∈c,LB m)->(∀m∈c,m.ok)->c.length+n<=900->PF GB prog 42 [xK rs fill, .sl (l.map d8), .sl (c.map eL)] (eT (jA (iH rs fill) n l c))):PF GB prog 42 [xK rs fill, .sl ((f::t).map d8), .sl (c.map eL)] (eT (jA (iH rs fill) (n+1) (f::t) c)):=by
 obtain⟨l,hl⟩: ∃l,l=f::t:=⟨_,rfl⟩;have hl0:l[0]? =some f:=by rw[hl];rfl
 rw[<-hl] at hfew hfo hlen⊢;have hm:=ik d8 l;have hfl:=hfo f (aT hl0);haveI:=hfl.lb;have hlp:0<l.length:=by rw[hl];simp
 have hlb:l.length<=6973568802:=dJ (rJ _ (gL oma)) hlen;refine fn (fu:=⟨11⟩) func42 J J ntmps42 J J (fun C=>?_);refine ah 17 (.d (vI (l.length:Nat))) J omu<|gx (fu:=⟨0⟩) J<|ew J (omh we) J<|ix (fu:=⟨17⟩) _ J (dP (i:=0) hl0) J<|ah 33 (.d (vI (l.length:Nat))) J omu<|gx J<|nr 10 10 87 14 J J J<|nr 11 11 87 14 J J J<|lp (X:=Nat) (fun k=>[(34, .d (vI (k:Nat))),(10, .rw 10),(11, .rw 11)]) (fun k=>[(10,some (.b 87 14 (((l.take k).flatMap fun g=>fG g f.l 1).map d8) true)),(11,some (.b 87 14 (((l.take k).flatMap fun g=>fG g f.l (-1)).map d8) true))]) (fun k=>k<=l.length) (fun k=>l.length-k) 0 J (bS _) (fun _=>J) (fun k hk=>?_);have htk:(l.take k).length<=6973568802:=by rw[cR];omega
 have hb1:(((l.take k).flatMap fun g=>fG g f.l 1).map d8).length<=20920706406:=by rw[aK];have:=Fd (l.take k) f.l 1;omega
 have hb2:(((l.take k).flatMap fun g=>fG g f.l (-1)).map d8).length<=20920706406:=by rw[aK];have:=Fd (l.take k) f.l (-1);omega
 refine br (fu2:=⟨0⟩) J J J (fun hc35=>?_) (fun hc35=>?_)
 .
  obtain⟨g,hz⟩: ∃s,l[k]? =some s:=⟨_,aZ we⟩;have hg:=hfo g (aT hz);have hs1:((fG g f.l 1).map d8).length<=3:=by rw[aK];exact Jn _ _ _
  have hs2:((fG g f.l (-1)).map d8).length<=3:=by rw[aK];exact Jn _ _ _
  refine ix _ J (dP hz) J<|cl J (aGp (f:=g) (m:=f.l) hg hfl.ok) J<|ap (hbd:=we) (((l.take (k+1)).flatMap fun g=>fG g f.l 1).map d8) J (by rw[Ly hz,bL]) (yW _) J<|ap (hbd:=we) (((l.take (k+1)).flatMap fun g=>fG g f.l (-1)).map d8) J (by rw[Ly hz,bL]) (yW _) J<|iE 46 10 J<|iE 49 11 J<|at_ (k+1) ⟨we,we⟩
 .
  obtain rfl:k=l.length:=by omega
  rw[dV];refine vL 10 rfl<|vL 11 rfl<|gx rfl<|tg J J<|ap (c.map eL) J J (ir c) rfl<|rf J J<|mH ((c++[f.l]).map eL) rfl omO (ir [f.l]) rfl<|cl rfl (ih (c:=c++[f.l]) (by subst hl;exact sE.split hfew hfo) (fun g hg=>by obtain⟨q,hq,hg⟩:=dK.1 hg;exact(Dd (hfo q hq) hfl.lb g hg).1) (by have:=Fd l f.l 1;rw[iQ] at hlen;exact dJ (bR _ this) (by rw[cK 3,cM];rw[cK (3^n)] at hlen;exact hlen)) (xD hc hfl.lb) (mI hok hfl.ok) (by rw[aR,iS];omega)) rfl<|tg J J<|ap (c.map eL) J J (ir c) rfl<|cl rfl (wX (l:=f.l)) rfl<|rf J J<|mH ((c++[f.l.rev]).map eL) rfl omO (ir [f.l.rev]) rfl<|cl (fu:=⟨1⟩) rfl (ih (c:=c++[f.l.rev]) (by subst hl;exact sE.split hfew hfo) (fun g hg=>by obtain⟨q,hq,hg⟩:=dK.1 hg;exact(Dd (hfo q hq) hfl.lb g hg).1) (by have:=Fd l f.l (-1);rw[iQ] at hlen;exact dJ (bR _ this) (by rw[cK 3,cM];rw[cK (3^n)] at hlen;exact hlen)) (xD hc hfl.lb.rev) (mI hok hfl.ok.rev) (by rw[aR,iS];omega)) rfl<|RJ J J<|rz rfl (by subst hl;rfl)
def Ol{rs:List (List ZP)}{fill:Int}(hrs: ∀r∈rs,bD r)(hrn:rs.length<=100): ∀{n:Nat} {l:List aI} {c:List ab},sE n l->(∀f∈l,mP f)->l.length*3^n<=6973568802->(∀m∈c,LB m)->(∀m∈c,m.ok)->c.length+n<=900->PF GB prog 42 [xK rs fill, .sl (l.map d8), .sl (c.map eL)] (eT (jA (iH rs fill) n l c))
 |n,[],c,_,_,_,hc,hok,hn=>Ze hrs hrn hc hok we
 |0,f::t,c,hf,_,_,_,_,_=>by
  obtain⟨K,h1,h2⟩:=hf;obtain⟨m,hm,_⟩:=h2 f aQ;rw[cW (l:=K) we] at hm
  cases hm
 |n+1,f::t,c,hf,ho,hl,hc,hok,hn=>XZ hrs hrn hf ho hl hc hok hn (fun a1 a2 a3 a4 a5 a6=>Ol hrs hrn a1 a2 a3 a4 a5 a6)
def UX(l:List aI):sE l.length l:=⟨l.map aI.l,by rw[aK];exact bV _,fun f hf=>⟨f.l,eX hf, .inl J⟩⟩
def aGj{n:Nat}(h:n<=18):n*3^n<=6973568802:=dJ (iK h (cY oma h)) oma
def Qx{rs:List (List ZP)}{fill:Int}(hrs: ∀r∈rs,bD r)(hrn:rs.length<=3):PF GB prog 11 [xK rs fill] (eT (d7 rs fill)):=by
 have hm:=ik mC rs;have hE:=pi hrs;have hraw:=GT (acc:=iH rs fill) hE.2 J;refine fn (fu:=⟨17⟩) func11 J J ntmps11 J J (fun C=>?_);refine ah 8 (.d (vI (rs.length:Nat))) J omu<|gx J<|nr 3 3 87 14 J J J<|lp (X:=Nat) (fun k=>[(9, .d (vI (k:Nat))),(3, .rw 3)]) (fun k=>[(3,some (.b 87 14 ((gm (rs.take k)).map d8) true))]) (fun k=>k<=rs.length) (fun k=>rs.length-k) 0 J (bS _) (fun _=>J) (fun k hk=>?_);have het:((gm (rs.take k)).map d8).length<=6*k:=by rw[aK];exact T7 hrs k
 refine br J J J (fun hc10=>?_) (fun hc10=>?_)
 .
  obtain⟨r,hz⟩: ∃s,rs[k]? =some s:=⟨_,aZ we⟩;have hr:=hrs r (aT hz);have hel:((kh r).map d8).length<=6:=by rw[aK];have:=(Dl hr).1;have:=hr.n6;omega
  refine ix _ J (dP hz) J<|cl J (H8 (r:=r) hr) J<|ap (hbd:=we) ((gm (rs.take (k+1))).map d8) J (by rw[T4 hz,bL]) (yW _) J<|iE 16 3 J<|at_ (k+1) ⟨we,we⟩
 .
  obtain rfl:k=rs.length:=by omega
  rw[dV];refine fz 3 J J<|cl J (Ol (n:=(gm rs).length) (l:=gm rs) (c:=[]) hrs we (UX _) hE.2 (aGj (by have:=hE.1;omega)) (fun m h=>by cases h) (fun m h=>by cases h) (by have:=hE.1;rw[gQ];omega)) J<|cl J (XL (t:=lH rs fill) hraw.gd.lb hraw.gd.ok (by have:=hraw.dp;have:=hE.1;show(jA _ _ _ _).depth<=900;omega)) J<|rz J J
def aIi(p r:ZP):(ii p.q r.q<0↔xI p r<0)/\(ii p.q r.q=0↔xI p r=0):=by
 have e1: ∀a b:Int,bt (a:Rat) (b:Rat)<0↔a<b:=fun a b=>by rw[zy,Rat.intCast_lt_intCast]
 have e2: ∀a b:Int,bt (a:Rat) (b:Rat)=0↔a=b:=fun a b=>by rw[ou,pU]
 have f1:=e1 p.1 r.1;have f2:=e2 p.1 r.1;have f3:=e1 p.2 r.2;have f4:=e2 p.2 r.2;show(ii ⟨(p.1:Rat),(p.2:Rat)⟩ ⟨(r.1:Rat),(r.2:Rat)⟩<0↔_)/\(ii ⟨(p.1:Rat),(p.2:Rat)⟩ ⟨(r.1:Rat),(r.2:Rat)⟩=0↔_);unfold ii xI;dsimp only;generalize bt (p.1:Rat) (r.1:Rat)=u at*;generalize bt (p.2:Rat) (r.2:Rat)=v at*;by_cases h:p.1<r.1
 .rw[if_pos we,if_pos h];omega
 .by_cases h2:r.1<p.1
  .rw[if_pos we,if_neg h,if_pos h2];omega
  .rw[if_neg we,if_neg h,if_neg h2]
   by_cases h3:p.2<r.2
   .rw[if_pos h3];omega
   .rw[if_neg h3]
    split<;>omega
def LR(x:ZP): ∀l:List ZP,dO ii x.q (l.map ZP.q)=(uE x l).map ZP.q
 |[]=>rfl
 |u::t=>by
  obtain⟨h1,h2⟩:=aIi u x;rw[cJ,dO,uE,LR x t];by_cases k1:xI u x<0
  .rw[if_pos (h1.2 k1),if_pos k1];rfl
  .rw[if_neg (fun e=>k1 (h1.1 e)),if_neg k1]
   by_cases k2:xI u x=0
   .rw[if_pos (h2.2 k2),if_pos k2];rfl
   .rw[if_neg (fun e=>k2 (h2.1 e)),if_neg k2];rfl
def aDz(l:List ZP):ul ii (l.map ZP.q)=(wm l).map ZP.q:=by
 have key: ∀(l o:List ZP),(l.map ZP.q).foldl (fun out x=>dO ii x out) (o.map ZP.q)=(l.foldl (fun out x=>uE x out) o).map ZP.q:=by
  intro l
  induction l with
  |nil=>intro o;rfl
  |cons x t ih=>intro o;rw[cJ,jV,jV,LR,ih]
 exact key l []
def Ra(l:List ZP):(l.map ZP.q).map eP=l.map gP:=by rw[qK];rfl
def Nj{l:List ZP}(h: ∀p∈l,ZP.le 100 p)(hn:l.length<=100000:=by omega):PF GB prog 29 [.sl (l.map gP)] (.sl ((wm l).map gP)):=by
 have:=Xz (GB:=GB) (ps:=l.map ZP.q) (H1 h) (by rw[aK];exact hn);rw[aDz,Ra,Ra] at this;exact this
def Wv(u v:ZP):(aa.cross (iP u.1 u.2) (iP v.1 v.2))=((lf u v:Int):Rat):=by
 unfold aa.cross iP lf;push_cast;rfl
def Gy(u v:ZP):(aa.cross (iP u.1 u.2) (iP v.1 v.2)).num.sign≠0↔lf u v≠0:=by
 rw[Wv,pT];exact not_congr jR
def auf{α β:Type}(f:α->β)(l:List α):((l.map f).take (l.length-1)).drop 0=l.dropLast.map f:=by
 rw[gJ,<-gR,List.dropLast_eq_take]
def OS{l:List ZP}(h:0<l.length:=by omega): ∃u,l.getLast? =some u/\l[l.length-1]? =some u/\l.getD (l.length-1) (0,0)=u:=by
 refine⟨l[l.length-1],?_,aZ we,?_⟩
 .rw[lM];exact aZ we
 .rw[aJ,aZ we];rfl
def axR{l:List ZP}(h:0<l.length): ∃u,l[0]? =some u/\l.getD 0 (0,0)=u:=by
 refine⟨l[0],aZ we,?_⟩;rw[aJ,aZ we];rfl
def E1{u p:ZP}:(u.1=p.1/\u.2=p.2)↔u=p:=⟨fun h=>Prod.ext h.1 h.2,fun h=>by rw[h];exact⟨J,J⟩⟩
theorem okh{p:Prop}(h:p:=by dsimp only;exact⟨⟨by rw[<-h1,oo,if_neg hlast],hq3,h3.snoc ⟨we,we⟩ hlast,by simp;omega⟩,we⟩):p:=h
def aEm{b:Nat}{es:List Int}(hes:es.length<=400){a:Nat}(ha:a<=es.length):PM GB prog 5 (mO [none] b) b 70 [.sl (es.map vI), .v (.int .i64 (a:Nat))] (mC (lO es a).1) [.sl (es.map vI), .v (.int .i64 ((lO es a).2:Nat))]:=by
 have hk0:=gO (n:=4) ha;refine AC (fu:=⟨6⟩) func5 J J ntmps5 J J (fun C b m lo hmb=>?_);refine mg (X:=Nat) (fun a2=>[]) (fun a2=>[(1000000,some (.o 70 [.d (.sl (es.map vI)), .d (.v (.int .i64 (a2:Nat)))] false))]) (fun a2=>lO es a=tC es a2/\a2<=es.length) [] [1000000] rfl ?_ (fun _=>J) (fun a2 ⟨hR,ha2⟩=>?_)
 .
  refine gx J<|cm J (fun b=>(kw (n:=4) hes ha)) J<|br J J J (fun hc15=>?_) (fun hc15=>?_)
  .
   have hx1:=gO (n:=5) hk0;have hy1:=gO (n:=5) hx1;have hz1:=gO (n:=4) hy1;have hw1:=gO (n:=4) hz1;have hl0:=il (es:=es) (n:=5) (a:=(aj es 4 a).2);have hl1:=il (es:=es) (n:=5) (a:=(aj es 5 (aj es 4 a).2).2);have hl2:=il (es:=es) (n:=4) (a:=(aj es 5 (aj es 5 (aj es 4 a).2).2).2);have hl3:=il (es:=es) (n:=4) (a:=(aj es 4 (aj es 5 (aj es 5 (aj es 4 a).2).2).2).2);refine cm J (fun b=>(kw (n:=5) hes hk0)) J<|cm J (fun b=>(kw (n:=5) hes hx1)) J<|cm J (fun b=>(kw (n:=4) hes hy1)) J<|cm J (fun b=>(kw (n:=4) hes hz1)) J<|cl J (iG (m:=(((aj es 5 (aj es 4 a).2).1:Int)-4)) (n:=(((aj es 5 (aj es 5 (aj es 4 a).2).2).1:Int)-4))) J<|cl J (iG (m:=(((aj es 5 (aj es 4 a).2).1:Int)-4+1+((aj es 4 (aj es 5 (aj es 5 (aj es 4 a).2).2).2).1:Int))) (n:=(((aj es 5 (aj es 5 (aj es 4 a).2).2).1:Int)-4))) J<|cl J (iG (m:=(((aj es 5 (aj es 4 a).2).1:Int)-4+1+((aj es 4 (aj es 5 (aj es 5 (aj es 4 a).2).2).2).1:Int))) (n:=(((aj es 5 (aj es 5 (aj es 4 a).2).2).1:Int)-4+1+((aj es 4 (aj es 4 (aj es 5 (aj es 5 (aj es 4 a).2).2).2).2).1:Int)))) J<|cl J (iG (m:=(((aj es 5 (aj es 4 a).2).1:Int)-4)) (n:=(((aj es 5 (aj es 5 (aj es 4 a).2).2).1:Int)-4+1+((aj es 4 (aj es 4 (aj es 5 (aj es 5 (aj es 4 a).2).2).2).2).1:Int)))) J<|rf J J<|?_;exact nH hmb J J (by rw[show lO es a=_ from if_pos hc15];rfl) (by rw[show lO es a=_ from if_pos hc15];rfl)
  .
   refine br J J J (fun hc46=>?_) (fun hc46=>?_)
   .
    obtain⟨hp1,hp2,hp3⟩:=zk hk0;obtain⟨hu1,hu2,hu3,hu4⟩:=DW hp3;obtain⟨hv1,hv2,hv3,hv4⟩:=DW hu4;haveI:=jz (k:=10) (m:=(vF es (pF es (aj es 4 a).2).2).1.1) we;haveI:=jz (k:=10) (m:=(vF es (pF es (aj es 4 a).2).2).1.2) we;haveI:=jz (k:=10) (m:=(vF es (vF es (pF es (aj es 4 a).2).2).2).1.1) we;haveI:=jz (k:=10) (m:=(vF es (vF es (pF es (aj es 4 a).2).2).2).1.2) we;refine cm J (fun b=>(Gd hes hk0)) J<|cm J (fun b=>(NI hes hp3)) J<|cm J (fun b=>(NI hes hu4)) J<|cl J (Ak (p:=iP (vF es (pF es (aj es 4 a).2).2).1.1 (vF es (pF es (aj es 4 a).2).2).1.2) (q:=iP (vF es (vF es (pF es (aj es 4 a).2).2).2).1.1 (vF es (vF es (pF es (aj es 4 a).2).2).2).1.2)) J<|cl J (qA (q:=aa.cross (iP (vF es (pF es (aj es 4 a).2).2).1.1 (vF es (pF es (aj es 4 a).2).2).1.2) (iP (vF es (vF es (pF es (aj es 4 a).2).2).2).1.1 (vF es (vF es (pF es (aj es 4 a).2).2).2).1.2))) J<|br J J J (fun hc58=>?_) (fun hc58=>?_)
    .
     refine cl J (lh (n:=1)) J<|cl J (Ai (m:=(pF es (aj es 4 a).2).1.1) (n:=(pF es (aj es 4 a).2).1.2) (m':=(vF es (pF es (aj es 4 a).2).2).1.1) (n':=(vF es (pF es (aj es 4 a).2).2).1.2) (k:=1) we we we we) J<|cl J (lh (n:=1)) J<|cl J (Ai (m:=(pF es (aj es 4 a).2).1.1) (n:=(pF es (aj es 4 a).2).1.2) (m':=(vF es (vF es (pF es (aj es 4 a).2).2).2).1.1) (n':=(vF es (vF es (pF es (aj es 4 a).2).2).2).1.2) (k:=1) we we we we) J<|rf J J<|?_;exact nH hmb J J (by rw[show lO es a=_ from(if_neg hc15).trans ((if_pos hc46).trans (if_pos ((Gy _ _).1 hc58)))];rfl) (by rw[show lO es a=_ from(if_neg hc15).trans ((if_pos hc46).trans (if_pos ((Gy _ _).1 hc58)))])
    .
     exact at_ (vF es (vF es (pF es (aj es 4 a).2).2).2).2 ⟨(if_neg hc15).trans ((if_pos hc46).trans (if_neg (fun e=>hc58 ((Gy _ _).2 e)))),hv4⟩
   .
    exact at_ (aj es 4 a).2 ⟨(if_neg hc15).trans (if_neg hc46),hk0⟩
 .
  have hj1:=il (es:=es) (n:=4) (a:=a2);have hj2:=gO (n:=4) ha2;refine cm J (fun b=>(kw (n:=4) hes ha2)) J<|nr 10 10 72 6 J J J<|lp (X:=List ZP×Nat×Nat) (fun⟨r,i,a3⟩=>[(11, .d (vI (i:Nat))),(10, .rw 10)]) (fun⟨r,i,a3⟩=>[(1000000,some (.o 70 [.d (.sl (es.map vI)), .d (.v (.int .i64 (a3:Nat)))] false)),(10,some (.b 72 6 (r.map gP) true))]) (fun⟨r,i,a3⟩=>oo es i a3 r=oo es (3+(aj es 4 a2).1) (aj es 4 a2).2 []/\a3<=es.length/\mf r/\r.length+i<=6) (fun⟨r,i,a3⟩=>i) ⟨[],3+(aj es 4 a2).1,(aj es 4 a2).2⟩ J ⟨J,hj2,mf.nil,by simp;omega⟩ (fun _=>J) (fun⟨r,i,a3⟩ hk=>?_)
  try dsimp only at hk⊢
  obtain⟨h1,h2,h3,h4⟩:=hk;have hrl:(r.map gP).length=r.length:=by simp
  refine br (fu2:=⟨0⟩) J J J (fun hc73=>?_) (fun hc73=>?_)
  .
   obtain⟨j,rfl⟩: ∃j,i=j+1:=⟨i-1,we⟩;obtain⟨hq1,hq2,hq3⟩:=zk h2;refine cm (fu:=⟨8⟩) J (fun b=>(Gd hes h2)) J<|ji (v1:=fun hg80=>by simp only[ae];kernel_rfl) J J J J (fun hg80=>?_) (fun hg80=>?_)
   .
    have hlast: ¬r.getLast? =some (pF es a3).1:=by rw[cW (l:=r) we];simp
    refine rf J J<|ap ((r++[(pF es a3).1]).map gP) J omO (Id [_]) J<|iE 95 10 J<|at_ ⟨r++[(pF es a3).1],j,(pF es a3).2⟩ okh
   .
    obtain⟨q,hq,hqi,hqd⟩:=OS (l:=r);have hqm:=h3.le q (oX hq);unfold ZP.le at hqm;refine lb (gP q) J (by rw[show(((r.map gP).length:Nat):Int)-1=((r.length-1:Nat):Int) by omega];exact dP hqi) J<|cl J (IA (m:=q.1) (n:=q.2) (m':=(pF es a3).1.1) (n':=(pF es a3).1.2)) J<|bb J J J (fun hc91=>?_) (fun hc91=>?_)
    .
     have hlast: ¬r.getLast? =some (pF es a3).1:=by rw[hq];intro e;have:=E1.2 (Option.some.inj e);simp[this] at hc91
     refine rf J J<|ap ((r++[(pF es a3).1]).map gP) J omO (Id [_]) J<|iE 95 10 J<|at_ ⟨r++[(pF es a3).1],j,(pF es a3).2⟩ okh
    .
     have hlast:r.getLast? =some (pF es a3).1:=by rw[hq];congr 1;exact E1.1 (by simpa using hc91)
     exact at_ ⟨r,j,(pF es a3).2⟩ (by dsimp only;exact⟨⟨by rw[<-h1,oo,if_pos hlast],hq3,h3,we⟩,we⟩)
  .
   obtain rfl:i=0:=by omega
   have hg:=h1;rw[oo] at hg;refine vL 10 J<|gx J<|lp (fu:=⟨5⟩) (X:=List ZP×Nat) (fun⟨l,m⟩=>[(10, .d (.sl (l.map gP)))]) (fun⟨l,m⟩=>[]) (fun⟨l,m⟩=>lB m l=lB 6 r/\l.length<=m+1/\mf l/\l.length<=6) (fun⟨l,m⟩=>m) ⟨r,6⟩ J ⟨J,we,h3,we⟩ (fun _=>J) (fun⟨l,m⟩ hk=>?_)
   try dsimp only at hk⊢
   obtain⟨t1,t2,t3,t4⟩:=hk;have hll:(l.map gP).length=l.length:=by simp
   refine ji (v2:=fun hg98=>by simp only[ae];kernel_rfl) J J J J (fun hg98=>?_) (fun hg98=>?_)
   .
    obtain⟨q,hqi,hqd⟩:=axR (l:=l) we;obtain⟨q2,hq0,hqi2,hqd2⟩:=OS (l:=l);have hqm:=t3.le q (aT hqi);have hqm2:=t3.le q2 (aT hqi2);unfold ZP.le at hqm hqm2;refine ix _ J (dP (i:=0) hqi) J<|ix (gP q2) J (by rw[show(((l.map gP).length:Nat):Int)-1=((l.length-1:Nat):Int) by omega];exact dP hqi2) J<|cl J (IA (m:=q.1) (n:=q.2) (m':=q2.1) (n':=q2.2)) J<|bd J J J (fun hc110=>?_) (fun hc110=>?_)
    .
     have hcond:1<l.length/\l.getD 0 (0,0)=l.getD (l.length-1) (0,0):=⟨we,by rw[hqd,hqd2];exact E1.1 hc110⟩;refine mc 0 (l.length-1) (l.dropLast.map gP) J J we (auf gP l) (Id l) (bS _) we rfl<|at_ ⟨l.dropLast,m-1⟩ (by dsimp only;exact⟨⟨by rw[<-t1];obtain⟨m,rfl⟩: ∃q,m=q+1:=⟨m-1,we⟩;rw[lB,if_pos hcond];rfl,by rw[iV];omega,t3.drop,by rw[iV];omega⟩,we⟩)
    .
     have hcond: ¬(1<l.length/\l.getD 0 (0,0)=l.getD (l.length-1) (0,0)):=fun e=>hc110 (E1.2 (by rw[<-hqd,<-hqd2];exact e.2));refine cl (fu:=⟨1⟩) J (Nj (l:=l) t3.le) J<|?_;have hgen:lB 6 r=l:=by rw[<-t1];cases m with|zero=>rfl|succ m=>rw[lB,if_neg hcond]
     refine ah 118 (.d (vI ((wm l).length:Nat))) J (by rw[aK];rfl)<|gx J<|br J J J (fun hc119=>?_) (fun hc119=>?_)
     .
      have hfin:lO es a=(yT,a3):=by rw[hR,tC,<-hg,hgen,if_pos we]
      refine cl J (iG (m:=0) (n:=0) oma oma) J<|cl J (iG (m:=2) (n:=0) oma oma) J<|cl J (iG (m:=0) (n:=2) oma oma) J<|rf J J<|?_;exact nH hmb J J omV (by rw[hfin])
     .
      have hfin:lO es a=(l,a3):=by rw[hR,tC,<-hg,hgen,if_neg we]
      exact nH hmb J J omV (by rw[hfin])
   .
    have hcond: ¬(1<l.length/\l.getD 0 (0,0)=l.getD (l.length-1) (0,0)):=fun e=>by omega
    refine cl (fu:=⟨1⟩) J (Nj (l:=l) t3.le) J<|?_;have hgen:lB 6 r=l:=by rw[<-t1];cases m with|zero=>rfl|succ m=>rw[lB,if_neg hcond]
    refine ah 118 (.d (vI ((wm l).length:Nat))) J (by rw[aK];rfl)<|gx J<|br J J J (fun hc119=>?_) (fun hc119=>?_)
    .
     have hfin:lO es a=(yT,a3):=by rw[hR,tC,<-hg,hgen,if_pos we]
     refine cl J (iG (m:=0) (n:=0) oma oma) J<|cl J (iG (m:=2) (n:=0) oma oma) J<|cl J (iG (m:=0) (n:=2) oma oma) J<|rf J J<|?_;exact nH hmb J J omV (by rw[hfin])
    .
     have hfin:lO es a=(l,a3):=by rw[hR,tC,<-hg,hgen,if_neg we]
     exact nH hmb J J omV (by rw[hfin])

def RN.of(n:NQ):RN:=⟨⟨decide (n.l.a<0),dg n.l.a.natAbs,decide (n.l.b<0),dg n.l.b.natAbs,decide (n.l.c<0),dg n.l.c.natAbs⟩,n.a,n.b⟩
def Tr.all_imp{p q:ab->Prop}(h: ∀l,p l->q l): ∀{t:Tr},t.all p->t.all q
 | .leaf _,_=>trivial
 | .node _ _ _,⟨h0,h1,h2⟩=>⟨h _ h0,Tr.all_imp h h1,Tr.all_imp h h2⟩
def oC.red_size{k:Nat}{t:Tr}(h:oC k t)(hr:t.Red []):t.size<=k*(1+k):=by
 obtain⟨K,h1,h2,h3⟩:=h.am;exact dJ (Tr.size_le h2 hr h.gd.ok bw.nil h3) (iK h1 we)
structure ju (k:Nat) (t:Tr):Prop where
 o:oC k t
 s:t.size<=3000
def ju.lb{k:Nat}{t:Tr}(h:ju k t):t.all LB:=h.o.gd.lb
def ju.ok{k:Nat}{t:Tr}(h:ju k t):t.all ab.ok:=h.o.gd.ok
def ju.bl{k:Nat}{t:Tr}(h:ju k t):t.all (fun l=>BL l 96):=Tr.all_imp (fun _ h=>h.bl) h.o.gd.lb
def ju.dp{k:Nat}{t:Tr}(h:ju k t):t.depth<=k:=h.o.dp
def oC.x{k:Nat}{t:Tr}(h:oC k t)(hr:t.Red [])(hk:k<=54):ju k t:=
 ⟨h,dJ (h.red_size hr) (dJ (iK hk (show 1+k<=55 by omega)) oma)⟩
def Sw(rs:List (List ZP))(fill:Int):(d7 rs fill).Red []:=Tr.restrict_red _ _
end Go.Sx
end
