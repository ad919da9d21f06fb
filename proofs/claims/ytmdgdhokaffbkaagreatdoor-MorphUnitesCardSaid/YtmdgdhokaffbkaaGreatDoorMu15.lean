import Derived.Test.YtmdgdhokaffbkaaGreatDoorMu14
set_option linter.all false
set_option maxHeartbeats 4000000
set_option maxRecDepth 100000
section
namespace Go.Sx
open Go Go.Proofs Tryz
variable {GB G:Gh}{l m l1:aa}{a:List ao}{b q b1 b2 b3 lo:Bool}{C:aE}{n e len nm off k i d ty:Nat}{Q0:Exit->Act->World->Prop}{fr fr' fr1 fr2:aC}{own' own1 own2:aG}{cf cf' cf1 cf2:Cf}{vc vc1 vc2:List Prop}{lk:LK}{bk:BM}{t y:Tr}{ty':TypeId}{pos:String}{af:Array Edge}{z zx:List FX}{pre post l2 l3:List DV}{side fill:Int}{f g:bt}{r:List ZP}{p:ah}{rs:List (List ZP)}{c ls:List aa}{u:ZP}{ns:List NQ}{es es0:List Int}{v w:Value}
def IT{g:Rat}: ∀{l:List Rat},g∈iu l-> ∃a∈l,∃b∈l,g=(a+b)/2
 |[],h=>by cases h
 |[_],h=>by cases h
 |a::b::t,h=>by
  rw[iu] at h;rcases aK.1 h with rfl|h
  .exact⟨a,aQ,b,aJ _ aQ,J⟩
  .obtain⟨c,hc,d,hd,e⟩:=IT h
   exact⟨c,aJ _ hc,d,aJ _ hd,e⟩
theorem Yk{l:List Rat}(h: ∀q∈l,BQ q 1200): ∀g∈cd l,BQ g 2500:=fun g hg=>by
 cases l with
 |nil=>
  rw[cd,aU] at hg;subst hg;exact BQ.mono (k:=1) ⟨by decide,by decide⟩
 |cons a t=>
  rw[cd] at hg;rcases aK.1 hg with rfl|hg
  .haveI:=h a aQ
   exact BQ.mono (inferInstance:BQ (a-1) _) (by omega)
  .rcases aM.1 hg with hg|hg
   .obtain⟨c,hc,d,hd,rfl⟩:=IT hg
    haveI:=h c hc;haveI:=h d hd;exact BQ.mono (inferInstance:BQ ((c+d)/2) _) (by omega)
   .rw[aU] at hg
    haveI:=h _ (List.getLast_mem (l:=a::t) (by simp));subst hg;exact BQ.mono (inferInstance:BQ ((a::t).getLast (by simp)+1) _) (by omega)
def OE(l:List ao):pd l l.length=jy l:=by unfold pd;rw[dQ]
theorem ayH{l:List ao}(h: ∀v∈l,mh v): ∀y∈jy l,BQ y 1200:=by rw[<-OE];exact LT h
def JR(l:List ao):(jy l).length<=2*l.length:=by rw[<-OE];exact DB l _
def mh.app{b:List ao}(ha: ∀v∈a,mh v)(hb: ∀v∈b,mh v): ∀v∈a++b,mh v:=fun v hv=>(aM.1 hv).elim (ha v) (hb v)
def Pc{b:List ao}(ha: ∀v∈a,mh v)(hb: ∀v∈b,mh v)(hna:a.length<=100)(hnb:b.length<=100):PF GB prog 260 [vI 2, .sl (a.map eV), .sl (b.map eV)] (.sl ((pe 2 a b).map eV)):=by
 obtain⟨cuts,hcu⟩: ∃c,c=jy (a++b):=⟨_,rfl⟩;have hab:=mh.app ha hb;have hcb: ∀q∈cuts,BQ q 1200:=by rw[hcu];exact ayH hab
 have hcl:cuts.length<=2*(a.length+b.length):=by rw[hcu];have:=JR (a++b);rw[aY] at this;exact this
 have hgb:=Yk hcb;have hgl:=x5 (l:=cuts);have hmp:=d7 eQ (cd cuts);refine fn func260 J J ntmps260 J J (fun C=>?_);refine qz J J<|ap (a.map eV) J J (vY _) J<|kI ((a++b).map eV) J (by rw[bX]) (vY b) J<|cl (fu:=⟨0⟩) J (W0 (l:=a++b) hab (by rw[aY];omega)) J<|aj 19 (.d (.sl (cuts.map eQ))) J (by rw[hcu])<|gx J<|cl (fu:=⟨1⟩) J (axP (cuts:=cuts) hcb (by omega)) J<|aj 22 (.d (vI ((cuts.length+1:Nat):Int))) J (by rw[hmp,hgl]<;>rfl)<|gx J<|nr 8 8 4 1 J J J<|lp (X:=Nat) (fun k=>[(23, .d (vI (k:Nat))),(8, .rw 8)]) (fun k=>[(8,some (.b 4 1 ((((cd cuts).map (fun t=>m6 2 (gh a t) (gh b t))).take k).map vB) true))]) (fun k=>k<=cuts.length+1) (fun k=>cuts.length+1-k) 0 J (bJ _) (fun _=>J) (fun k hk=>?_);have hml:(((((cd cuts).map (fun t=>m6 2 (gh a t) (gh b t))).take k).map vB)).length=k:=by rw[aX,bL,aX,hgl];omega
 refine br (fu2:=⟨0⟩) J J J (fun hc24=>?_) (fun hc24=>?_)
 .
  obtain⟨t,hz⟩: ∃s,(cd cuts)[k]? =some s:=⟨_,aZ (by omega)⟩;haveI:=hgb t (aV hz);have hz2:((cd cuts).map (fun t=>m6 2 (gh a t) (gh b t)))[k]? =some (m6 2 (gh a t) (gh b t)):=by rw[cY,hz];rfl
  refine ix _ J (cO hz) J<|cl J (Pg (l:=a) (t:=t) ha (by omega)) J<|cl (fu:=⟨6⟩) J (Pg (l:=b) (t:=t) hb (by omega)) J<|?_
  cases hx:gh a t
  .
   refine cF (fu:=⟨15⟩) J J J<|dm (fu:=⟨5⟩) J J J<|cF J J J<|rf J J<|ap (fu:=⟨8⟩) ((((cd cuts).map (fun t=>m6 2 (gh a t) (gh b t))).take (k+1)).map vB) J (by rw[<-uj hz2,hx];rfl) (PD [false]) J<|fm 59 8 J<|at_ (k+1) ⟨(by omega),(by omega)⟩
  .
   refine dm (fu:=⟨15⟩) J J J<|dm (fu:=⟨5⟩) J J J<|dm J J J<|rf J J<|ap ((((cd cuts).map (fun t=>m6 2 (gh a t) (gh b t))).take (k+1)).map vB) J (by rw[<-uj hz2,hx];rfl) (PD [_]) J<|fm 59 8 J<|at_ (k+1) ⟨(by omega),(by omega)⟩
 .
  obtain rfl:k=cuts.length+1:=by omega
  have htk:((cd cuts).map (fun t=>m6 2 (gh a t) (gh b t))).take (cuts.length+1)=(cd cuts).map (fun t=>m6 2 (gh a t) (gh b t)):=cZ (by rw[aX,hgl];exact bW _);rw[htk];refine pO 8 J<|gx J<|cl J (SI (cuts:=cuts) (marks:=(cd cuts).map (fun t=>m6 2 (gh a t) (gh b t))) (by omega) (by rw[aX,hgl];exact bW _)) J<|rz J (by unfold pe;rw[<-hcu];rfl)
section
variable {own:aG}
def Vy{dst:Option Nat}{t:TypeId}{gd:Option (Nat×Bool)}{x y:Operand}{s:Nat}{k:IntKind}(hu:prog.underlying t=some (.array len e))(hs:(prog.info? e).map (·.size)=some s)
  (e1:bh lk x=some (.ov nm off))(e2:bh lk y=some (.d (.v (.int k (i:Nat)))))(hi:i<len):bP prog GB C n lk bk ⟨dst, .indexAddr t x y,ty',pos,af,gd⟩ (.ov nm (off+i*s)) [] []:= .yd fun ρ G ov a w r=>by
 obtain⟨p,h1,h2⟩:=r.ev e1;obtain⟨q,h3,h4⟩:=r.ev e2;rw[cH] at h4;subst h4;obtain⟨b,hb,rfl⟩:=h2;refine⟨_,⟨b,hb,J⟩,?_⟩;obtain⟨j,hj,hjs⟩: ∃j,prog.info? e=some j/\j.size=s:=by
  cases h:prog.info? e with
  |none=>rw[h] at hs;cases hs
  |some j=>rw[h] at hs;exact⟨j,J,by simpa using hs⟩
 intro a' w' hf hh;simp only[execOp,bw hf h1,bw hf h3];have:(Instr.indexAt t (.pointer (some ⟨b,off,none⟩)) (.int k (i:Nat))).run prog w'= .ok (.pointer (some ⟨b,off+i*s,none⟩)) w':=by
  unfold Instr.indexAt;show(underlying t>>=_).run prog w'=_;rw[aO (pj hu w')];show(underlying t>>=_).run prog w'=_;rw[aO (pj hu w')];have h0:0<=((i:Nat):Int):=Int.natCast_nonneg i;have h1:((i:Nat):Int)<((len:Nat):Int):=by omega
  simp only[h0,h1,and_self,if_true];show(sizeOf e>>=_).run prog w'=_;rw[aO (ul hj w'),qA,hjs,cK];rfl
 exact cD this
def OZ(fr:aC)(cf:Cf):Option (TypeId×Nat×Nat×Int):=match cE fr cf with
 |some ⟨_, .indexAddr t x y,_,_,_,_⟩=>match bh (b7 fr cf) x with
  |some (.ov nm off)=>match bh (b7 fr cf) y with
   |some (.d (.v (.int _ i)))=>some (t,nm,off,i)
   |_=>none
  |_=>none
 |_=>none
def nB[fu:Fu](i:Nat){t s:Nat}(h:OZ fr cf=some (t,nm,off,((i:Nat):Int)))(hu:prog.underlying t=some (.array len e))(hs:(prog.info? e).map (·.size)=some s)(hi:i<len)
  (hgo:cx tt n fu.n fr own cf (.ov nm (off+i*s)) [] []=⟨vc,fr',own',cf'⟩)(k:aA prog GB C n Q0 fr' own' cf')
  (hv:autoParam (ak vc) cL._auto_1):aA prog GB C n Q0 fr own cf:=by
 unfold OZ at h;split at h<;>try (cases h;done)
 rename_i hh;split at h<;>try (cases h;done)
 rename_i hx;split at h<;>cases h;rename_i hy;exact us hh (Vy hu hs hx hy hi) hgo hv k
def Xz{s:Nat}{e t:TypeId}{gd:Option (Nat×Bool)}{ps:List (Nat×Operand)}{fo:List (Nat×Nat×Nat)}{i:TI}(hi:et prog t=some i)(hk:i.k= .st fo)(hz:i.z=some z)
  (hb:so lk fo z ps=some zx)(h0:zx[k]? =some .nl)(h1:i8 (zx.take k)=some pre)(h2:i8 (zx.drop (k+1))=some post):bP prog GB C n lk bk ⟨some d, .build t ⟨ps⟩,ty',pos,af,gd⟩ (.bx false pre d post) [(d,some (.b e s [] true))] [d]:=by
 intro hd tl tb K' s1 s2 hf hk';refine⟨fun ρ G ov a w r Q=>?_⟩;obtain⟨v,hv,hv'⟩:=AI hi hz;have:=Q7 hi hk;have hsp:zx=zx.take k++ .nl::zx.drop (k+1):=by
  obtain⟨hk1,hk2⟩:=aT.1 h0
  conv=>lhs;rw[<-kQ k zx,bK hk1,hk2]
 obtain⟨l,h1',h2'⟩:=EY (r.mono s1 s2) (fo:=fo) ps _ _ _ hb (hv' ρ G);rw[hsp] at h2';obtain⟨m1,m2',rfl,k1,y,m2,rfl,k2,k3⟩:=NR h2'
 cases (show y= .slice none 0 0 from k2)
 have hy:Yd prog C (ck a) ov G ⟨some d, .build t ⟨ps⟩,ty',pos,af,gd⟩ (.agg ⟨m1++Value.slice none 0 0::m2⟩):=vk h1';have r3:=r.new' (x:=⟨none,0,0⟩) (B':= .b e s [] true) (os:=[]) (ov':=ov) (f:= .bx false pre d post) (y:= .agg ⟨m1++Value.slice none 0 0::m2⟩) hf (bH.refl G) r.h
  ⟨[],by simp only[if_true];exact .inl ⟨J,J,J⟩, .nil,by simp,fun _ o ho=>by cases ho⟩ (fun o ho=>by cases ho) (fun m B _ _ o ho _=>⟨ho,by simp⟩)
  ⟨m1,m2,by simp,qn k1 h1,qn k3 h2⟩ (r.putA _ hd)
 exact kv (hy a w (cw a) r.h) (hk'.run _ G ov _ w r3)
def OK(fr:aC)(cf:Cf):Option (Nat×List FX):=match cE fr cf with
 |some ⟨some d, .build t ⟨ps⟩,_,_,_,_⟩=>match dE tt t with
  |some ⟨.st fo,_,some zx,_⟩=>match so (b7 fr cf) fo zx ps with
   |some l=>some (d,l)
   |none=>none
  |_=>none
 |_=>none
def bzp[fu:Fu](e s kk:Nat)(pre post:List DV)(h:OK fr cf=some (d,zx))(h0:zx[kk]? =some .nl)(h1:i8 (zx.take kk)=some pre)(h2:i8 (zx.drop (kk+1))=some post)(hgo:cx tt n fu.n fr own cf (.bx false pre d post) [(d,some (.b e s [] true))] [d]=⟨vc,fr',own',cf'⟩)(k:aA prog GB C n Q0 fr' own' cf')
  (hv:autoParam (ak vc) cL._auto_1):aA prog GB C n Q0 fr own cf:=by
 unfold OK at h;split at h<;>try (cases h;done)
 rename_i hh;split at h<;>try (cases h;done)
 rename_i hT;split at h<;>cases h;rename_i hb;exact us hh (Xz (eh _ _ hT) J J hb h0 h1 h2) hgo hv k
end
def sp1(f:bt)(m:aa)(k:Nat):List bt:=if k=0 then [] else e7 f m 1
def sp2(f:bt)(m:aa)(k:Nat):List bt:=if k<=1 then [] else e7 f m (-1)
def Lx(hl:LB l)(hm:LB m)(hlo:l.ok): ∀v∈i5 l m side,mh v:=fun v hv=>⟨(Jm hl hm hlo v hv).2.1,(Jm hl hm hlo v hv).2.2⟩
def As:(i5 l m side).length<=1:=by
 unfold i5;split
 .split<;>simp
 .split<;>simp
def J8(op:Int)(a b:List ao):(pe op a b).length<=2*(a.length+b.length)+1:=by
 unfold pe vW;refine cS Jn ?_;rw[aX,x5];have:=JR (a++b);rw[aY] at this;omega
def TW(h:oH f)[hm:LB m](hmo:m.ok):PF GB prog 201 [fe f,eL m] (.tp [.sl ((e7 f m 1).map fe), .sl ((e7 f m (-1)).map fe)]):=by
 haveI:=h.lb;refine fn func201 J J ntmps201 J J (fun C=>?_);refine rf (fu:=⟨1⟩) J J<|aj 14 (.d (vI (2:Nat))) J J<|gx J<|IB 6 0 60 207 14 J J J J J<|IB 6 1 61 207 14 J J J J J<|lp (X:=Nat) (fun k=>[(15, .d (vI (k:Nat))),(6, .ov 6 0)]) (fun k=>[(6,some (.o 364 [.rw 60, .rw 61] true)),(60,some (.b 207 14 ((sp1 f m k).map fe) true)),(61,some (.b 207 14 ((sp2 f m k).map fe) true))]) (fun k=>k<=2) (fun k=>2-k) 0 J (by omega) (fun _=>J) (fun k hk=>?_);refine br J J J (fun hc16=>?_) (fun hc16=>?_)
 .
  rcases(show k=0\/k=1 by omega) with rfl|rfl
  .
   refine ix _ J J J<|cl (fu:=⟨0⟩) J (O7 (l:=f.l) (m:=m) (side:=1) h.ok hmo (.inl J)) J<|?_;obtain⟨cs,hcs⟩: ∃c,c=pe 2 [f.v] (i5 f.l m 1):=⟨_,rfl⟩;have hcl:cs.length<=5:=by rw[hcs];have h1:=J8 2 [f.v] (i5 f.l m 1);have h2:=As (l:=f.l) (m:=m) (side:=1);simp only[fM] at h1;omega
   refine aj 25 (.d (.tp [.sl ((i5 f.l m 1).map eV),vB (l9 f.l m)])) J J<|gx J<|bb J J J (fun hc28=>?_) (fun hc28=>?_)
   .
    have hon:l9 f.l m=true:=hc28;exact rz J (by first|(unfold e7;rw[if_pos hon,if_pos hon];rfl)|rfl)
   .
    have hon:l9 f.l m=false:=by simpa using hc28
    refine rf J J<|cl (fu:=⟨0⟩) J (Pc (a:=[f.v]) (b:=i5 f.l m 1) (fun v hv=>by rw[aU] at hv;subst hv;exact⟨h.lo,h.hi⟩) (Lx h.lb hm h.ok) (by show 1<=100;decide) (by have:=As (l:=f.l) (m:=m) (side:=1);omega)) J<|aj 33 (.d (.sl (cs.map eV))) J (by rw[hcs])<|gx (fu:=⟨1⟩) J<|aj 34 (.d (vI (cs.length:Nat))) J (by rw[d7 eV cs]<;>rfl)<|gx J<|lp (X:=Nat) (fun j=>[(35, .d (vI (j:Nat)))]) (fun j=>[(60,some (.b 207 14 (((cs.take j).map fun v=>(⟨f.l,v⟩:bt)).map fe) true))]) (fun j=>j<=cs.length) (fun j=>cs.length-j) 0 J (bJ _) (fun _=>J) (fun j hk=>?_);have hml:(((cs.take j).map fun v=>(⟨f.l,v⟩:bt)).map fe).length<=j:=by rw[aX,aX,bL];omega
    refine br J J J (fun hc36=>?_) (fun hc36=>?_)
    .
     obtain⟨z,hz⟩: ∃s,cs[j]? =some s:=⟨_,aZ (by omega)⟩;refine ix _ J (cO hz) J<|nB 0 (e:=200) (len:=2) (s:=1) J (by kernel_rfl) (by kernel_rfl) (by decide) J<|rf J J<|ap (((cs.take (j+1)).map fun v=>(⟨f.l,v⟩:bt)).map fe) J (by rw[<-uj hz,bX];rfl) (xl [⟨f.l,z⟩]) J<|nB (hv:=by simp only[ak];exact⟨by kernel_rfl,by omega⟩) 0 (e:=200) (len:=2) (s:=1) J (by kernel_rfl) (by kernel_rfl) (by decide) J<|fm 48 60 J<|at_ (j+1) ⟨(by omega),(by omega)⟩
    .
     obtain rfl:j=cs.length:=by omega
     rw[show(cs.take cs.length).map (fun v=>(⟨f.l,v⟩:bt))=e7 f m 1 from by rw[dQ];unfold e7;rw[if_neg (by rw[hon];decide),<-hcs]];exact at_ (0+1) ⟨(by omega),(by omega)⟩
  .
   refine ix _ J J J<|cl (fu:=⟨0⟩) J (O7 (l:=f.l) (m:=m) (side:= -1) h.ok hmo (.inr J)) J<|?_;obtain⟨cs,hcs⟩: ∃c,c=pe 2 [f.v] (i5 f.l m (-1)):=⟨_,rfl⟩;have hcl:cs.length<=5:=by rw[hcs];have h1:=J8 2 [f.v] (i5 f.l m (-1));have h2:=As (l:=f.l) (m:=m) (side:=(-1));simp only[fM] at h1;omega
   refine aj 25 (.d (.tp [.sl ((i5 f.l m (-1)).map eV),vB (l9 f.l m)])) J J<|gx J<|bb J J J (fun hc28=>?_) (fun hc28=>?_)
   .
    have hon:l9 f.l m=true:=hc28;exact rz J (by first|(unfold e7;rw[if_pos hon,if_pos hon];rfl)|rfl)
   .
    have hon:l9 f.l m=false:=by simpa using hc28
    refine rf J J<|cl (fu:=⟨0⟩) J (Pc (a:=[f.v]) (b:=i5 f.l m (-1)) (fun v hv=>by rw[aU] at hv;subst hv;exact⟨h.lo,h.hi⟩) (Lx h.lb hm h.ok) (by show 1<=100;decide) (by have:=As (l:=f.l) (m:=m) (side:=(-1));omega)) J<|aj 33 (.d (.sl (cs.map eV))) J (by rw[hcs])<|gx (fu:=⟨1⟩) J<|aj 34 (.d (vI (cs.length:Nat))) J (by rw[d7 eV cs]<;>rfl)<|gx J<|lp (X:=Nat) (fun j=>[(35, .d (vI (j:Nat)))]) (fun j=>[(61,some (.b 207 14 (((cs.take j).map fun v=>(⟨f.l,v⟩:bt)).map fe) true))]) (fun j=>j<=cs.length) (fun j=>cs.length-j) 0 J (bJ _) (fun _=>J) (fun j hk=>?_);have hml:(((cs.take j).map fun v=>(⟨f.l,v⟩:bt)).map fe).length<=j:=by rw[aX,aX,bL];omega
    refine br J J J (fun hc36=>?_) (fun hc36=>?_)
    .
     obtain⟨z,hz⟩: ∃s,cs[j]? =some s:=⟨_,aZ (by omega)⟩;refine ix _ J (cO hz) J<|nB 1 (e:=200) (len:=2) (s:=1) J (by kernel_rfl) (by kernel_rfl) (by decide) J<|rf J J<|ap (((cs.take (j+1)).map fun v=>(⟨f.l,v⟩:bt)).map fe) J (by rw[<-uj hz,bX];rfl) (xl [⟨f.l,z⟩]) J<|nB (hv:=by simp only[ak];exact⟨by kernel_rfl,by omega⟩) 1 (e:=200) (len:=2) (s:=1) J (by kernel_rfl) (by kernel_rfl) (by decide) J<|fm 48 61 J<|at_ (j+1) ⟨(by omega),(by omega)⟩
    .
     obtain rfl:j=cs.length:=by omega
     rw[show(cs.take cs.length).map (fun v=>(⟨f.l,v⟩:bt))=e7 f m (-1) from by rw[dQ];unfold e7;rw[if_neg (by rw[hon];decide),<-hcs]];exact at_ (1+1) ⟨(by omega),(by omega)⟩
 .
  obtain rfl:k=2:=by omega
  refine nB 0 (e:=200) (len:=2) (s:=1) J (by kernel_rfl) (by kernel_rfl) (by decide) J<|nB 1 (e:=200) (len:=2) (s:=1) J (by kernel_rfl) (by kernel_rfl) (by decide) J<|ik 60 J<|ik 61 J<|rz J (by first|(unfold e7;rw[if_pos hon,if_pos hon];rfl)|rfl)
def ou(p:ZP):DV:=eP p.q
def js(r:List ZP):DV:= .sl (r.map ou)
def Ui(l:List (List ZP)):cA 1 (l.map js):=fun d hd=>by
 obtain⟨u,_,rfl⟩:=aR.1 hd;exact⟨rfl,rfl⟩
def Bq(h:i<r.length):(r.map ou)[((i:Nat):Int).toNat]? =some (ou (r.getD i (0,0))):=by
 rw[cK,cY,aW,aZ h];rfl
def JG(h:i<r.length):(r.map ou)[(((i+1)%r.length:Nat):Int).toNat]? =some (ou (i0 r i)):=Bq (dK _ (by omega))
def Tq(v w p:ah):(r8 v w p).natAbs<=1:=by
 unfold r8;split<;>split<;>decide
def EZ(r:List ZP)(p:ah): ∀k,(pA r p k).natAbs<=k
 |0=>bW _
 |k+1=>by rw[pA];have:=EZ r p k;have:=Tq (r.getD k (0,0)).q (i0 r k).q p;omega
def OW(h:eg r):PF GB prog 118 [.sl (r.map ou)] (.sl ((jO r).map fe)):=by
 have hm:=d7 ou r;have h3:=h.n3;have h6:=h.n6;refine fn (fu:=⟨15⟩) func118 J J ntmps118 J J (fun C=>?_);refine aj 8 (.d (vI (r.length:Nat))) J (by rw[hm]<;>rfl)<|gx J<|nr 3 3 207 14 J J J<|lp (X:=Nat) (fun k=>[(9, .d (vI (k:Nat))),(3, .rw 3)]) (fun k=>[(3,some (.b 207 14 ((pi r k).map fe) true))]) (fun k=>k<=r.length) (fun k=>r.length-k) 0 J (bJ _) (fun _=>J) (fun k hk=>?_);have hel:=fun hh=>(Je (k:=k) h hh).1;refine br J J J (fun hc10=>?_) (fun hc10=>?_)
 .
  have hkr:k<r.length:=by omega
  have hel:=hel (by omega);have hem:=d7 fe (pi r k);refine ix (fu:=⟨7⟩) _ J (Bq hkr) J<|aj 22 (.d (vI ((k+1)%r.length:Nat))) J (by rw[hm]<;>rfl)<|gx J<|ix _ J (JG hkr) J<|cl J (au5 (v:=r.getD k (0,0)) (w:=i0 r k) (h.le _ (tN hkr)) (h.le _ (yk hkr)) (h.ne k hkr)) J<|rf J J<|ap ((pi r (k+1)).map fe) J (by rw[pi,bX];rfl) (xl [Es (r.getD k (0,0)) (i0 r k)]) J<|fm 31 3 J<|at_ (k+1) ⟨(by omega),(by omega)⟩
 .
  obtain rfl:k=r.length:=by omega
  refine ik 3 J<|rz J J
def Wq[hp:aI p i](h:eg r)(hi:i<=80000:=by decide):PF GB prog 257 [.sl (r.map ou),eP p] (vI (sG r p)):=by
 have hm:=d7 ou r;have h3:=h.n3;have h6:=h.n6;refine fn (fu:=⟨16⟩) func257 J J ntmps257 J J (fun C=>?_);refine aj 12 (.d (vI (r.length:Nat))) J (by rw[hm]<;>rfl)<|gx J<|lp (X:=Nat×Int) (fun⟨k,c⟩=>[(13, .d (vI (k:Nat))),(5, .d (vI c))]) (fun⟨k,c⟩=>[]) (fun⟨k,c⟩=>c=pA r p k/\k<=r.length) (fun⟨k,c⟩=>r.length-k) (0,0) J ⟨J,bJ _⟩ (fun _=>J) (fun⟨k,c⟩ hk=>?_);dsimp only at hk⊢;obtain⟨h1,h2⟩:=hk;have hcl:c.natAbs<=k:=by rw[h1];exact EZ r p k
 refine br J J J (fun hc14=>?_) (fun hc14=>?_)
 .
  have hkr:k<r.length:=by omega
  obtain⟨v,hv⟩: ∃v,v=r.getD k (0,0):=⟨_,rfl⟩;obtain⟨w,hw⟩: ∃v,v=i0 r k:=⟨_,rfl⟩;haveI hvb:aI v.q 12:=by rw[hv];exact uF (h.le _ (tN hkr))
  haveI hwb:aI w.q 12:=by rw[hw];exact uF (h.le _ (yk hkr))
  refine ix (fu:=⟨1⟩) _ J (Bq hkr) J<|aj 19 (.d (eP v.q)) J (by rw[hv];rfl)<|gx (fu:=⟨6⟩) J<|aj 25 (.d (vI ((k+1)%r.length:Nat))) J (by rw[hm]<;>rfl)<|gx J<|ix (fu:=⟨1⟩) _ J (JG hkr) J<|aj 27 (.d (eP w.q)) J (by rw[hw];rfl)<|gx J<|cl J (ld (a:=v.q.y) (b:=p.y) (i:=12) (j:=i) (by decide) (by omega)) J<|cl (fu:=⟨9⟩) J (ld (a:=w.q.y) (b:=p.y) (i:=12) (j:=i) (by decide) (by omega)) J<|?_;rcases(show(bA v.q.y p.y<=0/\bA w.q.y p.y<=0)\/(bA v.q.y p.y<=0/\ ¬bA w.q.y p.y<=0)\/(¬bA v.q.y p.y<=0/\bA w.q.y p.y<=0)\/(¬bA v.q.y p.y<=0/\ ¬bA w.q.y p.y<=0) by omega) with⟨ca,cb⟩|⟨ca,cb⟩|⟨ca,cb⟩|⟨ca,cb⟩
  .
   refine dm (fu:=⟨3⟩) J (by show some (decide _)=some true;rw[decide_eq_true (by omega)]) J<|cF (fu:=⟨15⟩) J (by show some (decide _)=some false;rw[decide_eq_false (by omega)]) J<|cF (fu:=⟨20⟩) J (by show some (decide _)=some false;rw[decide_eq_false (by omega)]) J<|at_ (k+1,c) (by dsimp only;exact⟨⟨by rw[pA,<-h1,<-hv,<-hw];unfold r8;split<;>split<;>omega,by omega⟩,(by omega)⟩)
  .
   refine dm (fu:=⟨3⟩) J (by show some (decide _)=some true;rw[decide_eq_true (by omega)]) J<|dm J (by show some (decide _)=some true;rw[decide_eq_true (by omega)]) J<|cl J (F6 (a:=v.q) (b:=w.q) (c:=p) (i:=12) (j:=12) (k:=i) (by decide) (by decide) hi) J<|br (fu1:=⟨10⟩) (fu2:=⟨6⟩) J J J (fun hc51=>?_) (fun hc51=>?_)
   .
    refine cF J (by show some (decide _)=some false;rw[decide_eq_false (by omega)]) J<|at_ (k+1,c+1) (by dsimp only;exact⟨⟨by rw[pA,<-h1,<-hv,<-hw];unfold r8;split<;>split<;>omega,by omega⟩,(by omega)⟩)
   .
    refine cF (fu:=⟨20⟩) J (by show some (decide _)=some false;rw[decide_eq_false (by omega)]) J<|at_ (k+1,c) (by dsimp only;exact⟨⟨by rw[pA,<-h1,<-hv,<-hw];unfold r8;split<;>split<;>omega,by omega⟩,(by omega)⟩)
  .
   refine cF (fu:=⟨19⟩) J (by show some (decide _)=some false;rw[decide_eq_false (by omega)]) J<|dm (fu:=⟨2⟩) J (by show some (decide _)=some true;rw[decide_eq_true (by omega)]) J<|dm J (by show some (decide _)=some true;rw[decide_eq_true (by omega)]) J<|cl J (F6 (a:=v.q) (b:=w.q) (c:=p) (i:=12) (j:=12) (k:=i) (by decide) (by decide) hi) J<|br (fu2:=⟨8⟩) J J J (fun hc65=>?_) (fun hc65=>?_)
   .
    exact at_ (k+1,c-1) (by dsimp only;exact⟨⟨by rw[pA,<-h1,<-hv,<-hw];unfold r8;split<;>split<;>omega,by omega⟩,(by omega)⟩)
   .
    exact at_ (k+1,c) (by dsimp only;exact⟨⟨by rw[pA,<-h1,<-hv,<-hw];unfold r8;split<;>split<;>omega,by omega⟩,(by omega)⟩)
  .
   refine cF (fu:=⟨19⟩) J (by show some (decide _)=some false;rw[decide_eq_false (by omega)]) J<|dm (fu:=⟨2⟩) J (by show some (decide _)=some true;rw[decide_eq_true (by omega)]) J<|cF J (by show some (decide _)=some false;rw[decide_eq_false (by omega)]) J<|at_ (k+1,c) (by dsimp only;exact⟨⟨by rw[pA,<-h1,<-hv,<-hw];unfold r8;split<;>split<;>omega,by omega⟩,(by omega)⟩)
 .
  obtain rfl:k=r.length:=by omega
  have hfin:sG r p=c:=h1.symm;exact rz J (by rw[hfin];rfl)
def Zm{n:Int}(hn:n.natAbs<=1000):PF GB prog 258 [vI fill,vI n] (vB (vg fill n)):=by
 refine fn func258 J J ntmps258 J J (fun C=>?_);refine cs 7 J J J (fun hg7=>?_) (fun hg7=>?_)
 .
  refine cs 12 J J J (fun hg12=>?_) (fun hg12=>?_)
  .
   exact rz J (by show vB _=vB _;unfold vg;congr 1;simp_all)
  .
   refine cs 15 J J J (fun hg15=>?_) (fun hg15=>?_)
   .
    exact rz J (by show vB _=vB _;unfold vg;congr 1;simp_all)
   .
    exact rz J (by show vB _=vB _;unfold vg;congr 1;simp_all)
 .
  refine cs 15 J J J (fun hg15=>?_) (fun hg15=>?_)
  .
   exact rz J (by show vB _=vB _;unfold vg;congr 1;simp_all)
  .
   exact rz J (by show vB _=vB _;unfold vg;congr 1;simp_all)
def Hw(rs:List (List ZP)):List aa:=(ir rs).map bt.l
def u7(rs:List (List ZP))(fill:Int):DV:= .ag [.sl (rs.map js), .v (.int .i64 fill), .sl ((mO (Hw rs)).map eL)]
def aDQ(h: ∀r∈rs,eg r)(k:Nat):((rs.take k).foldl (fun n r=>n+sG r p) 0).natAbs<=6*k:=by
 induction k with
 |zero=>rw[tJ];exact bJ _
 |succ k ih=>
  rw[eK,nL]
  cases e:rs[k]? with
  |none=>exact cS ih (by omega)
  |some r=>
   have h1:(sG r p).natAbs<=r.length:=EZ r p r.length;have h2:=(h r (aV e)).n6;show(List.foldl _ 0 (rs.take k)+sG r p).natAbs<=_;omega
def aHl[hp:aI p i](h: ∀r∈rs,eg r)(hn:rs.length<=100)(hi:i<=80000:=by decide):PF GB prog 200 [u7 rs fill,eP p] (vB (mj rs fill p)):=by
 have hm:=d7 js rs;refine fn (fu:=⟨18⟩) func200 J J ntmps200 J J (fun C=>?_);refine aj 10 (.d (vI (rs.length:Nat))) J (by rw[hm]<;>rfl)<|gx J<|lp (X:=Nat×Int) (fun⟨k,c⟩=>[(11, .d (vI (k:Nat))),(5, .d (vI c))]) (fun⟨k,c⟩=>[]) (fun⟨k,c⟩=>c=(rs.take k).foldl (fun n r=>n+sG r p) 0/\k<=rs.length) (fun⟨k,c⟩=>rs.length-k) (0,0) J ⟨by rw[tJ];rfl,bJ _⟩ (fun _=>J) (fun⟨k,c⟩ hk=>?_);dsimp only at hk⊢;obtain⟨h1,h2⟩:=hk;have hcl:c.natAbs<=6*k:=by rw[h1];exact aDQ h k
 refine br J J J (fun hc12=>?_) (fun hc12=>?_)
 .
  obtain⟨r,hz⟩: ∃s,rs[k]? =some s:=⟨_,aZ (by omega)⟩;have hr:=h r (aV hz);have hnz:(sG r p).natAbs<=6:=cS (EZ r p r.length) hr.n6;refine ix _ J (cO hz) J<|cl J (Wq (r:=r) (p:=p) hr hi) J<|at_ (k+1,c+sG r p) (by dsimp only;exact⟨⟨by rw[eK,hz,nL,<-h1];rfl,by omega⟩,(by omega)⟩)
 .
  obtain rfl:k=rs.length:=by omega
  rw[dQ] at h1;refine cl J (Zm (fill:=fill) (n:=c) (by omega)) J<|rz J (by unfold mj;rw[<-h1];rfl)
def lw(r:List ZP):DV:= .sl ((r.map ZP.q).map n7)
def Xc(l:List (List ZP)):cA 1 (l.map lw):=fun d hd=>by
 obtain⟨u,_,rfl⟩:=aR.1 hd;exact⟨rfl,rfl⟩
theorem Ke(h: ∀p∈r,ZP.le 100 p): ∀p∈r.map ZP.q,aI p 1200:=fun p hp=>by
 obtain⟨z,hz,rfl⟩:=aR.1 hp;have:=uF (h z hz);exact⟨BQ.mono this.x,BQ.mono this.y⟩
def JY(r:List ZP):DV.sl ((r.map ZP.q).map eP)=js r:=by unfold js;rw[List.map_map];rfl
def Ku(h:rs[k]? =some r):ir (rs.take (k+1))=ir (rs.take k)++jO r:=by
 unfold ir;rw[eK,h,sN];simp
def Qq(h: ∀r∈rs,eg r)(k:Nat):(ir (rs.take k)).length<=6*k:=by
 have:=(x9 (rs:=rs.take k) (fun r hr=>h r (eM hr))).1;have h2:(rs.take k).length<=k:=by rw[bL];omega
 omega
def TD(h: ∀r∈rs,eg r)(hn:rs.length<=100):PF GB prog 50 [.sl (rs.map lw), .v (.int .i64 fill)] (u7 rs fill):=by
 have hm:=d7 lw rs;refine fn (fu:=⟨8⟩) func50 J J ntmps50 J J (fun C=>?_);refine bzp (fu:=⟨14⟩) 44 1 0 [] [.v (.int .i64 fill), .sl []] J J J J J<|aj 15 (.d (vI (rs.length:Nat))) J (by rw[hm]<;>rfl)<|gx J<|nr 6 6 136 6 J J J<|lp (X:=Nat) (fun k=>[(16, .d (vI (k:Nat))),(6, .rw 6),(5, .ov 5 0)]) (fun k=>[(5,some (.o 115 [.rw 13, .d (.v (.int .i64 fill)), .d (.sl [])] true)),(13,some (.b 44 1 ((rs.take k).map js) true)),(6,some (.b 136 6 (((ir (rs.take k)).map bt.l).map eL) true))]) (fun k=>k<=rs.length) (fun k=>rs.length-k) 0 J (bJ _) (fun _=>J) (fun k hk=>?_);refine br (fu2:=⟨0⟩) J J J (fun hc17=>?_) (fun hc17=>?_)
 .
  obtain⟨r,hz⟩: ∃s,rs[k]? =some s:=⟨_,aZ (by omega)⟩;have hr:=h r (aV hz);have hel:(jO r).length<=6:=by have:=(AW hr).1;have:=hr.n6;omega
  have het:=Qq h k;have hrl:((rs.take k).map js).length=k:=by rw[aX,bL];omega
  refine ix _ J (cO hz) J<|cl (fu:=⟨0⟩) J (aHp (ps:=r.map ZP.q) (Ke hr.le) (by rw[aX];have:=hr.n6;omega)) J<|aj 21 (.d (js r)) J (by rw[JY])<|gx J<|rf J J<|ap ((rs.take (k+1)).map js) J (uj hz) (Ui [r]) J<|cl (fu:=⟨1⟩) J (OW (r:=r) hr) J<|aj 30 (.d (vI ((jO r).length:Nat))) J (by rw[d7 fe (jO r)]<;>rfl)<|gx J<|?_;rw[<-fL (ir (rs.take k)),<-tJ (l:=jO r)];refine lp (X:=Nat) (fun j=>[(31, .d (vI (j:Nat))),(6, .rw 6)]) (fun j=>[(6,some (.b 136 6 (((ir (rs.take k)++(jO r).take j).map bt.l).map eL) true))]) (fun j=>j<=(jO r).length) (fun j=>(jO r).length-j) 0 J (bJ _) (fun _=>J) (fun j hk=>?_);have hml:(((ir (rs.take k)++(jO r).take j).map bt.l).map eL).length<=6*k+6:=by rw[aX,aX,aY,bL];omega
  refine br J J J (fun hc32=>?_) (fun hc32=>?_)
  .
   obtain⟨e,he⟩: ∃s,(jO r)[j]? =some s:=⟨_,aZ (by omega)⟩;refine ix _ J (cO he) J<|rf J J<|ap (((ir (rs.take k)++(jO r).take (j+1)).map bt.l).map eL) J (by rw[eK,he];simp only[bX,dX];rfl) (fw [e.l]) J<|fm 39 6 J<|at_ (j+1) ⟨(by omega),(by omega)⟩
  .
   obtain rfl:j=(jO r).length:=by omega
   rw[dQ,<-Ku hz];refine fm 26 13 J<|at_ (k+1) ⟨(by omega),(by omega)⟩
 .
  obtain rfl:k=rs.length:=by omega
  rw[dQ];refine pO 6 rfl<|pO 13 rfl<|gx rfl<|cl rfl (Ol (ls:=Hw rs) (fun l hl=>by obtain⟨f,hf,rfl⟩:=aR.1 hl;exact((x9 h).2 f hf).lb) (by unfold Hw;rw[aX];have:=(x9 h).1;omega)) rfl<|rz J J
def Yp(h: ∀r∈rs,eg r)(hn:rs.length<=100):PF GB prog 10 [.sl (rs.map js)] (.sl (rs.map lw)):=by
 have hm:=d7 js rs;refine fn (fu:=⟨15⟩) func10 J J ntmps10 J J (fun C=>?_);refine aj 7 (.d (vI (rs.length:Nat))) J (by rw[hm]<;>rfl)<|gx J<|nr 3 3 45 1 J J J<|lp (X:=Nat) (fun k=>[(8, .d (vI (k:Nat))),(3, .rw 3)]) (fun k=>[(3,some (.b 45 1 ((rs.take k).map lw) true))]) (fun k=>k<=rs.length) (fun k=>rs.length-k) 0 J (bJ _) (fun _=>J) (fun k hk=>?_);have hml:((rs.take k).map lw).length<=k:=by rw[aX,bL];omega
 refine br J J J (fun hc9=>?_) (fun hc9=>?_)
 .
  obtain⟨r,hz⟩: ∃s,rs[k]? =some s:=⟨_,aZ (by omega)⟩;have hr:=h r (aV hz);refine ix (fu:=⟨1⟩) _ J (cO hz) J<|aj 11 (.d (.sl ((r.map ZP.q).map eP))) J (by rw[JY])<|gx J<|cl J (L1 (ps:=r.map ZP.q) (Ke hr.le) (by rw[aX];have:=hr.n6;omega)) J<|rf J J<|ap ((rs.take (k+1)).map lw) J (uj hz) (Xc [r]) J<|fm 16 3 J<|at_ (k+1) ⟨(by omega),(by omega)⟩
 .
  obtain rfl:k=rs.length:=by omega
  refine ik 3 J<|rz J (by rw[dQ];rfl)
def Sd(out:List aa)(l:aa):(oF out l).length<=out.length+1:=by
 unfold oF;split
 .omega
 .simp;omega
def Oc(c:List aa): ∀(t out:List aa),(me c t out).length<=out.length+t.length
 |[],out=>by simp[me]
 |l::t,out=>by
  rw[me];refine cS (Oc c t _) ?_;have:=Sd out l;split<;>simp<;>omega
def Ai(c:List aa):(ij c).length<=c.length:=cS (Oc c c []) (by simp)
theorem NH(h: ∀m∈c,LB m): ∀m∈ij c,LB m:=fun m hm=>h m (td.1 hm).1
def Ky(h: ∀m∈c,m.ok): ∀m∈ij c,m.ok:=fun m hm=>h m (td.1 hm).1
def N4(hc: ∀m∈c,LB m)(hok: ∀m∈c,m.ok)(hn:c.length<=900)(hl:LB l)(hlo:l.ok):PF GB prog 95 [.sl (c.map eL),eL l] (.sl ((ij (c++[l])).map eL)):=by
 have hcl:=vH c;refine fn func95 J J ntmps95 J J (fun C=>?_);refine qz J J<|ap (c.map eL) J J (fw _) J<|rf J J<|kI ((c++[l]).map eL) J (by rw[bX];rfl) (fw [l]) J<|cl J (aAW (c:=c++[l]) (uZ hc hl) (m7 hok hlo) (by simp;omega)) J<|rz J J
def Tx{x u:Tr}:PF GB prog 94 [eL l,eT (.node l1 x y),eT u] (eT (.node l (.node l1 x y) u)):=by
 refine fn (fu:=⟨12⟩) func94 J J ntmps94 J J (fun C=>?_);refine cF J J J<|ik 33 J<|rz J J
def Z3{x:Tr}{p:Bool}:PF GB prog 94 [eL l,eT (.leaf p),eT (.node l1 x y)] (eT (.node l (.leaf p) (.node l1 x y))):=by
 refine fn (fu:=⟨12⟩) func94 J J ntmps94 J J (fun C=>?_);refine dm (fu:=⟨4⟩) J J J<|cF J J J<|ik 33 J<|rz J J
def XD{p:Bool}:PF GB prog 94 [eL l,eT (.leaf p),eT (.leaf q)] (eT (Tr.joinQ l (.leaf p) (.leaf q))):=by
 refine fn (fu:=⟨12⟩) func94 J J ntmps94 J J (fun C=>?_);refine dm (fu:=⟨4⟩) J J J<|dm J J J<|bd J J J (fun hc27=>?_) (fun hc27=>?_)
 .
  exact rz J (by rw[show Tr.joinQ l (.leaf p) (.leaf q)= .leaf p by simp[Tr.joinQ,Tr.isLeaf,Tr.code,hc27]];rfl)
 .
  refine ik 33 J<|rz J (by rw[show Tr.joinQ l (.leaf p) (.leaf q)= .node l (.leaf p) (.leaf q) by simp[Tr.joinQ,Tr.isLeaf,Tr.code,hc27]];rfl)
def Wp: ∀{x y:Tr},PF GB prog 94 [eL l,eT x,eT y] (eT (Tr.joinQ l x y))
 | .leaf _, .leaf _=>XD
 | .leaf _, .node .. =>Z3
 | .node ..,_=>Tx
def Yf:PF GB prog 90 [eT (.leaf b), .sl (c.map eL)] (eT (Tr.restrictL (.leaf b) c)):=by
 refine fn (fu:=⟨11⟩) func90 J J ntmps90 J J (fun C=>?_);refine dm J J J<|rz J J
def US{x:Tr}(hl:LB l)(hlo:l.ok)(hc: ∀m∈c,LB m)(hok: ∀m∈c,m.ok)(hn:c.length+(Tr.node l x y).depth<=900)(ihx: ∀{c:List aa},(∀m∈c,LB m)->(∀m∈c,m.ok)->c.length+x.depth<=900->PF GB prog 90 [eT x, .sl (c.map eL)] (eT (Tr.restrictL x c)))(ihy: ∀{c:List aa},(∀m∈c,LB m)->(∀m∈c,m.ok)->c.length+y.depth<=900->PF GB prog 90 [eT y, .sl (c.map eL)] (eT (Tr.restrictL y c))):PF GB prog 90 [eT (.node l x y), .sl (c.map eL)] (eT (Tr.restrictL (.node l x y) c)):=by
 have hdp:(Tr.node l x y).depth=1+Nat.max x.depth y.depth:=J;have hdx:x.depth<=Nat.max x.depth y.depth:=qS _ _;have hdy:y.depth<=Nat.max x.depth y.depth:=pR _ _;have hca:=Ai (c++[l]);have hcb:=Ai (c++[l.rev]);rw[aY,fM] at hca hcb;refine fn (fu:=⟨11⟩) func90 J J ntmps90 J J (fun C=>?_);refine cF J J J<|cl J (aAI (c:=c) (l:=l) hc hok (by omega) hl hlo) J<|br J J J (fun hc16=>?_) (fun hc16=>?_)
 .
  refine cl J (ihx hc hok (by omega)) J<|rz J (by rw[Tr.restrictL,if_pos hc16];rfl)
 .
  refine br J J J (fun hc24=>?_) (fun hc24=>?_)
  .
   refine cl J (ihy hc hok (by omega)) J<|rz J (by rw[Tr.restrictL,if_neg hc16,if_pos hc24];rfl)
  .
   refine cl J (N4 (c:=c) (l:=l) hc hok (by omega) hl hlo) J<|cl J (ihx (c:=ij (c++[l])) (NH (uZ hc hl)) (Ky (m7 hok hlo)) (by omega)) J<|cl J (AU (l:=l)) J<|cl J (N4 (c:=c) (l:=l.rev) hc hok (by omega) hl.rev hlo.rev) J<|cl J (ihy (c:=ij (c++[l.rev])) (NH (uZ hc hl.rev)) (Ky (m7 hok hlo.rev)) (by omega)) J<|cl J Wp J<|rz J (by rw[Tr.restrictL,if_neg hc16,if_neg hc24];rfl)
def Fj: ∀{t:Tr} {c:List aa},t.all LB->t.all aa.ok->(∀m∈c,LB m)->(∀m∈c,m.ok)->c.length+t.depth<=900->PF GB prog 90 [eT t, .sl (c.map eL)] (eT (Tr.restrictL t c))
 | .leaf _,_,_,_,_,_,_=>Yf
 | .node l x y,c,hb,ho,hc,hok,hn=>US hb.1 ho.1 hc hok hn (fun h1 h2 h3=>Fj hb.2.1 ho.2.1 h1 h2 h3) (fun h1 h2 h3=>Fj hb.2.2 ho.2.2 h1 h2 h3)

def Qr(xs ys:List NQ)(n:NQ):((xs++(n::ys)).map eN)[((xs.length:Nat):Int).toNat]? =some (eN n):=by simp
def Qk(xs ys:List NQ)(n m:NQ)(e:DV)(h:e=eN m):((xs++(n::ys)).map eN).set ((xs.length:Nat):Int).toNat e=(xs++(m::ys)).map eN:=by subst h;simp
def am6:PB GB prog 67 (fi [some (eT (.leaf true)),none]) 8 233 (ns.map eN) (fun w=> .tp ([]++ .v (.slice w.a w.n w.c)::[.v (.int .i64 (Tr.num (.leaf true) ns.length))])) ((ns++Tr.wr (.leaf true) ns.length).map eN):=by
 refine Fp (fu:=⟨12⟩) func67 J J ntmps67 J J (fun C=>?_);refine dm (fu:=⟨9⟩) J J J<|dm J J J<|?_;exact Fo J J J J J (by simp[Tr.wr]) J
def Zq:PB GB prog 67 (fi [some (eT (.leaf false)),none]) 8 233 (ns.map eN) (fun w=> .tp ([]++ .v (.slice w.a w.n w.c)::[.v (.int .i64 (Tr.num (.leaf false) ns.length))])) ((ns++Tr.wr (.leaf false) ns.length).map eN):=by
 refine Fp (fu:=⟨12⟩) func67 J J ntmps67 J J (fun C=>?_);refine dm (fu:=⟨9⟩) J J J<|cF J J J<|?_;exact Fo J J J J J (by simp[Tr.wr]) J
def amJ{l:aa}{s u:Tr}{ns:List NQ}(hl:BL l 96)(hs:ns.length+(1+s.size+u.size)<=1000000)(ihs: ∀{ns:List NQ},ns.length+s.size<=1000000->PB GB prog 67 (fi [some (eT s),none]) 8 233 (ns.map eN) (fun w=> .tp ([]++ .v (.slice w.a w.n w.c)::[.v (.int .i64 (Tr.num s ns.length))])) ((ns++Tr.wr s ns.length).map eN))(ihu: ∀{ns:List NQ},ns.length+u.size<=1000000->PB GB prog 67 (fi [some (eT u),none]) 8 233 (ns.map eN) (fun w=> .tp ([]++ .v (.slice w.a w.n w.c)::[.v (.int .i64 (Tr.num u ns.length))])) ((ns++Tr.wr u ns.length).map eN)):PB GB prog 67 (fi [some (eT (.node l s u)),none]) 8 233 (ns.map eN) (fun w=> .tp ([]++ .v (.slice w.a w.n w.c)::[.v (.int .i64 (Tr.num (.node l s u) ns.length))])) ((ns++Tr.wr (.node l s u) ns.length).map eN):=by
 refine Fp (fu:=⟨12⟩) func67 J J ntmps67 J J (fun C=>?_);refine cF (fu:=⟨9⟩) J J J<|aj 20 (.d (.v (.int .i64 (ns.length:Nat)))) J (by simp)<|gx J<|cl J (Us hl) J<|rf J J<|Rv ((ns++[(⟨l,0,0⟩:NQ)]).map eN) J (by rw[bX]<;>rfl) (Z1 [(⟨l,0,0⟩:NQ)]) J<|cb _ J (ihs (ns:=ns++[(⟨l,0,0⟩:NQ)]) (by simp;omega)) J J<|cb (hv:=by simp only[ak];exact(by simp;omega)) ((ns++((⟨l,0,0⟩:NQ)::(s.wr (ns.length+1)++u.wr (ns.length+1+s.size)))).map eN) J (ihu (ns:=ns++[(⟨l,0,0⟩:NQ)]++s.wr (ns++[(⟨l,0,0⟩:NQ)]).length) (by simp[Tr.wr_len];omega)) (by simp[Tr.wr_len,kN,kU 1]) J<|sb (hv:=by simp only[ak];exact(by simp;omega)) (eN ⟨l,0,0⟩) ((ns++((⟨l,s.num (ns.length+1),0⟩:NQ)::(s.wr (ns.length+1)++u.wr (ns.length+1+s.size)))).map eN) J (Qr ns _ ⟨l,0,0⟩) J (by rw[Qk _ _ _ ⟨l,s.num (ns.length+1),0⟩ _ (by simp[eN,DV.cells])]) J<|sb (eN ⟨l,s.num (ns.length+1),0⟩) ((ns++Tr.wr (.node l s u) ns.length).map eN) J (Qr ns _ ⟨l,s.num (ns.length+1),0⟩) J (by rw[Qk _ _ _ ⟨l,s.num (ns.length+1),u.num (ns.length+1+s.size)⟩ _ (by simp[eN,DV.cells,Tr.wr_len,kN,kU 1])];simp[Tr.wr]) J<|?_;exact Fo J J J J J J J
def Gp: ∀{t:Tr} {ns:List NQ},t.all (fun l=>BL l 96)->ns.length+t.size<=1000000->PB GB prog 67 (fi [some (eT t),none]) 8 233 (ns.map eN) (fun w=> .tp ([]++ .v (.slice w.a w.n w.c)::[.v (.int .i64 (Tr.num t ns.length))])) ((ns++Tr.wr t ns.length).map eN)
 | .leaf true,ns,_,_=>am6
 | .leaf false,ns,_,_=>Zq
 | .node l s u,ns,hb,hs=>amJ hb.1 hs (fun h=>Gp hb.2.1 h) (fun h=>Gp hb.2.2 h)
def UF(hb:t.all (fun l=>BL l 96))(hs:t.size<=1000000):PF GB prog 23 [eT t] (eA t):=by
 refine fn func23 J J ntmps23 J J (fun C=>?_);refine XY _ J (Gp (t:=t) (ns:=[]) hb (by simpa using hs)) J J<|ik 6 J<|rz J J
def aGJ(ds:List Int):cA 1 (ds.map vI):=fun d hd=>by
 obtain⟨n,_,rfl⟩:=aR.1 hd;exact⟨rfl,rfl⟩
def Vp(es:List Int):(es.map vI).take (min es.length 400)=(es.take 400).map vI:=by
 rw[iW];rcases Nat.le_total es.length 400 with h|h
 .rw[jM h,cZ (by simp),cZ (by simpa using h)]
 .rw[Nat.min_eq_right h]
def Z8(hb:es.length<=1125899906842624):PN GB prog 6 [.sl (es.map vI)] 85 Unit (fun _=>[.sl ((es.take 400).map vI), .v (.int .i64 (0:Nat))]):=by
 have hel:(es.map vI).length=es.length:=by simp
 refine VG func6 J J ntmps6 J J (fun C hmb=>?_);refine km 0 (min es.length 400) ((es.take 400).map vI) J J (by rw[hel];show(if _ then _ else _:Int)=_;split<;>omega) (Vp es) (aGJ _) (by omega) (by omega) J<|?_;exact UB () J J J J J
def NZ(hb:t.all LB)(hok:t.all aa.ok)(hd:t.depth<=900):PF GB prog 35 [eT t] (eT (t.restrict [])):=by
 refine fn func35 J J ntmps35 J J (fun C=>?_);refine cl J (Fj (t:=t) (c:=[]) hb hok (by simp) (by simp) (by simpa using hd)) J<|rz J (by rw[<-Tr.restrictL_eq t [] [] hok (by simp) bu.nil (fun p=>by unfold bm fH;simp)];rfl)
def Rd{cuts:List Rat}{marks:List Bool}: ∀k,2*(gy cuts marks k).length<=k+(if 0<k/\marks.getD (k-1) false=true then 1 else 0)
 |0=>by rw[gy];simp
 |k+1=>by
  have ih:=Rd (cuts:=cuts) (marks:=marks) k;rw[gy];simp only[mN];by_cases hm:marks.getD k false=true
  .rw[if_pos hm,if_pos (show 0<k+1/\marks.getD k false=true from⟨by omega,hm⟩)]
   by_cases hp:0<k/\marks.getD (k-1) false=true
   .rw[if_pos hp] at ih⊢
    cases hv:(gy cuts marks k).getLast? with
    |some v=>
     have:0<(gy cuts marks k).length:=by
      cases e:gy cuts marks k with
      |nil=>rw[e] at hv;simp at hv
      |cons a t=>simp
     show 2*((gy cuts marks k).dropLast++[_]).length<=_;rw[aY,mJ,fM];omega
    |none=>
     have:gy cuts marks k=[]:=List.getLast?_eq_none_iff.1 hv;simp only[this];simp
   .rw[if_neg hp] at ih⊢
    rw[aY,fM];omega
  .rw[if_neg hm]
   split at ih<;>split<;>omega
def ayn(op:Int)(a b:List ao):(pe op a b).length<=a.length+b.length+1:=by
 unfold pe vW;have h:=Rd (cuts:=jy (a++b)) (marks:=(cd (jy (a++b))).map fun t=>m6 op (gh a t) (gh b t)) ((cd (jy (a++b))).map fun t=>m6 op (gh a t) (gh b t)).length;have h2:=JR (a++b);rw[aY] at h2;have h3:((cd (jy (a++b))).map fun t=>m6 op (gh a t) (gh b t)).length=(jy (a++b)).length+1:=by rw[aX,x5]
 split at h<;>omega
def Hn(f:bt)(m:aa)(side:Int):(e7 f m side).length<=3:=by
 unfold e7;split
 .simp
 .rw[aX]
  have:=ayn 2 [f.v] (i5 f.l m side);have h2:=As (l:=f.l) (m:=m) (side:=side);rw[fM] at this;omega
theorem YH{v:ah}{s:Rat}[hp:aI p 4500][hv:aI v 97][hm:LB m](hs:BQ s 60000):BQ (ry p v m s) 60000:=by
 unfold ry uM;split
 .exact hs
 .split
  .exact hs
  .split
   .split
    .haveI:BQ (-(m.value p/(m.value (cG p v ((1:Int):Rat))-m.value p))) 45000:=BQ.mono inferInstance
     exact BQ.mono (inferInstance:BQ (-(m.value p/(m.value (cG p v ((1:Int):Rat))-m.value p))/2) _)
    .exact hs
   .exact hs
theorem Rr{p v:ah}[hp:aI p 4500][hv:aI v 97]: ∀{c:List aa} {s:Rat},(∀m∈c,LB m)->BQ s 60000->BQ (qC p v c s) 60000
 |[],_,_,hs=>hs
 |m::t,s,hc,hs=>by
  haveI:=hc m aQ;exact Rr (c:=t) (fun q hq=>hc q (aJ _ hq)) (YH hs)
theorem QR{c:List aa}(hc: ∀m∈c,LB m)(hok: ∀m∈c,m.ok): ∀{t:List aa},(∀m∈t,m∈c)->aI (jF c t) 70000
 |[],_=>by
  have h0:BQ (0:Rat) 70000:=BQ.mono (k:=1) ⟨by decide,by decide⟩;exact⟨h0,h0⟩
 |m::t,h=>by
  have hm:=h m aQ;haveI:=hc m hm;rw[jF];split
  .have hbd:=ER (v:=ao.all) (hok m hm).ne hc gA.all (BQ.mono (k:=1) ⟨by decide,by decide⟩) (BQ.mono (k:=1) ⟨by decide,by decide⟩)
   haveI:=hbd.1;haveI:=hbd.2;haveI hsb:=Mv (v:=(fI m c ao.all).1) (i:=1200);haveI hpt:aI (m.at (kg (fI m c ao.all).1)) 4500:=by have:=aI.at m (kg (fI m c ao.all).1) (1200+1200+5);exact⟨this.x.mono (by decide),this.y.mono (by decide)⟩
   haveI hvt:aI (gF m.dir) 97:=inferInstance;haveI hns:BQ (qC (m.at (kg (fI m c ao.all).1)) (gF m.dir) c ((1:Int):Rat)) 60000:=Rr hc (BQ.mono (k:=2) ⟨by decide,by decide⟩);have:=aI.mov (m.at (kg (fI m c ao.all).1)) (gF m.dir) (qC (m.at (kg (fI m c ao.all).1)) (gF m.dir) c ((1:Int):Rat)) 4500 97 60000;exact⟨this.x.mono (by decide),this.y.mono (by decide)⟩
  .exact QR hc hok (fun q hq=>h q (aJ _ hq))
def NC{l:List bt}(h:l[k]? =some g):(l.take (k+1)).flatMap (fun g=>e7 g m side)=(l.take k).flatMap (fun g=>e7 g m side)++e7 g m side:=by
 rw[eK,h,sN];simp
def Em(l:List bt)(m:aa)(side:Int):(l.flatMap fun g=>e7 g m side).length<=3*l.length:=by
 induction l with
 |nil=>simp
 |cons a t ih=>rw[lS,aY,bQ];have:=Hn a m side;omega
def Vg{acc:ah->Bool}:jq acc n [] c= .leaf (acc (jF c c)):=by cases n<;>rfl
def UO(hrs: ∀r∈rs,eg r)(hrn:rs.length<=100)(hc: ∀m∈c,LB m)(hok: ∀m∈c,m.ok)(hn:c.length<=900):PF GB prog 119 [u7 rs fill, .sl [], .sl (c.map eL)] (eT (jq (mj rs fill) n [] c)):=by
 haveI hpb:=QR hc hok (t:=c) (fun _ h=>h);refine fn (fu:=⟨11⟩) func119 J J ntmps119 J J (fun C=>?_);refine dm J J J<|cl J (FZ (c:=c) hc hok (by omega)) J<|cl J (aHl (p:=jF c c) (i:=70000) hrs hrn (by decide)) J<|cl J (B4 (p:=mj rs fill (jF c c))) J<|rz J (by rw[Vg];rfl)
def Uz{rs:List (List ZP)}{fill:Int}(hrs: ∀r∈rs,eg r)(hrn:rs.length<=100){n:Nat}{f:bt}{t:List bt}{c:List aa}(hfew:r6 (n+1) (f::t))(hfo: ∀g∈f::t,oH g)(hlen:(f::t).length*3^(n+1)<=6973568802)(hc: ∀m∈c,LB m)(hok: ∀m∈c,m.ok)(hn:c.length+(n+1)<=900)(ih: ∀{l:List bt} {c:List aa},r6 n l->(∀f∈l,oH f)->l.length*3^n<=6973568802->(∀m∈c,LB m)->(∀m∈c,m.ok)->c.length+n<=900->PF GB prog 119 [u7 rs fill, .sl (l.map fe), .sl (c.map eL)] (eT (jq (mj rs fill) n l c))):PF GB prog 119 [u7 rs fill, .sl ((f::t).map fe), .sl (c.map eL)] (eT (jq (mj rs fill) (n+1) (f::t) c)):=by
 obtain⟨l,hl⟩: ∃l,l=f::t:=⟨_,rfl⟩;have hl0:l[0]? =some f:=by rw[hl];rfl
 rw[<-hl] at hfew hfo hlen⊢;have hm:=d7 fe l;have hfl:=hfo f (aV hl0);haveI:=hfl.lb;have hlp:0<l.length:=by rw[hl];simp
 have hlb:l.length<=6973568802:=cS (mK _ (fN (by decide))) hlen;refine fn (fu:=⟨11⟩) func119 J J ntmps119 J J (fun C=>?_);refine aj 17 (.d (vI (l.length:Nat))) J (by rw[hm]<;>rfl)<|gx (fu:=⟨0⟩) J<|cF J (by show some (decide _)=some false;rw[decide_eq_false (by omega)]) J<|ix (fu:=⟨17⟩) _ J (cO (i:=0) hl0) J<|aj 33 (.d (vI (l.length:Nat))) J (by rw[hm]<;>rfl)<|gx J<|nr 10 10 207 14 J J J<|nr 11 11 207 14 J J J<|lp (X:=Nat) (fun k=>[(34, .d (vI (k:Nat))),(10, .rw 10),(11, .rw 11)]) (fun k=>[(10,some (.b 207 14 (((l.take k).flatMap fun g=>e7 g f.l 1).map fe) true)),(11,some (.b 207 14 (((l.take k).flatMap fun g=>e7 g f.l (-1)).map fe) true))]) (fun k=>k<=l.length) (fun k=>l.length-k) 0 J (bJ _) (fun _=>J) (fun k hk=>?_);have htk:(l.take k).length<=6973568802:=by rw[bL];omega
 have hb1:(((l.take k).flatMap fun g=>e7 g f.l 1).map fe).length<=20920706406:=by rw[aX];have:=Em (l.take k) f.l 1;omega
 have hb2:(((l.take k).flatMap fun g=>e7 g f.l (-1)).map fe).length<=20920706406:=by rw[aX];have:=Em (l.take k) f.l (-1);omega
 refine br (fu2:=⟨0⟩) J J J (fun hc35=>?_) (fun hc35=>?_)
 .
  obtain⟨g,hz⟩: ∃s,l[k]? =some s:=⟨_,aZ (by omega)⟩;have hg:=hfo g (aV hz);have hs1:((e7 g f.l 1).map fe).length<=3:=by rw[aX];exact Hn _ _ _
  have hs2:((e7 g f.l (-1)).map fe).length<=3:=by rw[aX];exact Hn _ _ _
  refine ix _ J (cO hz) J<|cl J (TW (f:=g) (m:=f.l) hg hfl.ok) J<|ap (hbd:=by omega) (((l.take (k+1)).flatMap fun g=>e7 g f.l 1).map fe) J (by rw[NC hz,bX]) (xl _) J<|ap (hbd:=by omega) (((l.take (k+1)).flatMap fun g=>e7 g f.l (-1)).map fe) J (by rw[NC hz,bX]) (xl _) J<|fm 46 10 J<|fm 49 11 J<|at_ (k+1) ⟨(by omega),(by omega)⟩
 .
  obtain rfl:k=l.length:=by omega
  rw[dQ];refine pO 10 rfl<|pO 11 rfl<|gx rfl<|qz J J<|ap (c.map eL) J J (fw c) rfl<|rf J J<|kI ((c++[f.l]).map eL) rfl (by rw[bX];rfl) (fw [f.l]) rfl<|cl rfl (ih (c:=c++[f.l]) (by subst hl;exact r6.split hfew hfo) (fun g hg=>by obtain⟨q,hq,hg⟩:=iX.1 hg;exact(JE (hfo q hq) hfl.lb g hg).1) (by have:=Em l f.l 1;rw[gR] at hlen;exact cS (bT _ this) (by rw[cJ 3,cV];rw[cJ (3^n)] at hlen;exact hlen)) (uZ hc hfl.lb) (m7 hok hfl.ok) (by rw[aY,fM];omega)) rfl<|qz J J<|ap (c.map eL) J J (fw c) rfl<|cl rfl (AU (l:=f.l)) rfl<|rf J J<|kI ((c++[f.l.rev]).map eL) rfl (by rw[bX];rfl) (fw [f.l.rev]) rfl<|cl (fu:=⟨1⟩) rfl (ih (c:=c++[f.l.rev]) (by subst hl;exact r6.split hfew hfo) (fun g hg=>by obtain⟨q,hq,hg⟩:=iX.1 hg;exact(JE (hfo q hq) hfl.lb g hg).1) (by have:=Em l f.l (-1);rw[gR] at hlen;exact cS (bT _ this) (by rw[cJ 3,cV];rw[cJ (3^n)] at hlen;exact hlen)) (uZ hc hfl.lb.rev) (m7 hok hfl.ok.rev) (by rw[aY,fM];omega)) rfl<|Cd J J<|rz rfl (by subst hl;rfl)
def ON{rs:List (List ZP)}{fill:Int}(hrs: ∀r∈rs,eg r)(hrn:rs.length<=100): ∀{n:Nat} {l:List bt} {c:List aa},r6 n l->(∀f∈l,oH f)->l.length*3^n<=6973568802->(∀m∈c,LB m)->(∀m∈c,m.ok)->c.length+n<=900->PF GB prog 119 [u7 rs fill, .sl (l.map fe), .sl (c.map eL)] (eT (jq (mj rs fill) n l c))
 |n,[],c,_,_,_,hc,hok,hn=>UO hrs hrn hc hok (by omega)
 |0,f::t,c,hf,_,_,_,_,_=>by
  obtain⟨K,h1,h2⟩:=hf;obtain⟨m,hm,_⟩:=h2 f aQ;rw[cR (l:=K) (by omega)] at hm
  cases hm
 |n+1,f::t,c,hf,ho,hl,hc,hok,hn=>Uz hrs hrn hf ho hl hc hok hn (fun a1 a2 a3 a4 a5 a6=>ON hrs hrn a1 a2 a3 a4 a5 a6)
def Zd(l:List bt):r6 l.length l:=⟨l.map bt.l,by rw[aX];exact bW _,fun f hf=>⟨f.l,dY hf, .inl J⟩⟩
def Wt(h:n<=18):n*3^n<=6973568802:=cS (fJ h (bR (by decide) h)) (by decide)
def aCv(hrs: ∀r∈rs,eg r)(hrn:rs.length<=3):PF GB prog 49 [u7 rs fill] (eT (fq rs fill)):=by
 have hm:=d7 js rs;have hE:=x9 hrs;have hraw:=CA (acc:=mj rs fill) hE.2 J;refine fn (fu:=⟨17⟩) func49 J J ntmps49 J J (fun C=>?_);refine aj 8 (.d (vI (rs.length:Nat))) J (by rw[hm]<;>rfl)<|gx J<|nr 3 3 207 14 J J J<|lp (X:=Nat) (fun k=>[(9, .d (vI (k:Nat))),(3, .rw 3)]) (fun k=>[(3,some (.b 207 14 ((ir (rs.take k)).map fe) true))]) (fun k=>k<=rs.length) (fun k=>rs.length-k) 0 J (bJ _) (fun _=>J) (fun k hk=>?_);have het:((ir (rs.take k)).map fe).length<=6*k:=by rw[aX];exact Qq hrs k
 refine br J J J (fun hc10=>?_) (fun hc10=>?_)
 .
  obtain⟨r,hz⟩: ∃s,rs[k]? =some s:=⟨_,aZ (by omega)⟩;have hr:=hrs r (aV hz);have hel:((jO r).map fe).length<=6:=by rw[aX];have:=(AW hr).1;have:=hr.n6;omega
  refine ix _ J (cO hz) J<|cl J (OW (r:=r) hr) J<|ap (hbd:=by omega) ((ir (rs.take (k+1))).map fe) J (by rw[Ku hz,bX]) (xl _) J<|fm 16 3 J<|at_ (k+1) ⟨(by omega),(by omega)⟩
 .
  obtain rfl:k=rs.length:=by omega
  rw[dQ];refine fz 3 J J<|cl J (ON (n:=(ir rs).length) (l:=ir rs) (c:=[]) hrs (by omega) (Zd _) hE.2 (Wt (by have:=hE.1;omega)) (fun m h=>by cases h) (fun m h=>by cases h) (by have:=hE.1;rw[eY];omega)) J<|cl J (NZ (t:=sB rs fill) hraw.gd.lb hraw.gd.ok (by have:=hraw.dp;have:=hE.1;show(jq _ _ _ _).depth<=900;omega)) J<|rz J J
def V1:PF GB prog 70 [eT (.leaf b)] (eT (Tr.compl (.leaf b))):=by
 refine fn (fu:=⟨11⟩) func70 J J ntmps70 J J (fun C=>?_);refine dm J J J<|cl J (B4 (p:=!b)) J<|rz J J
def Xe{x:Tr}(ihx:PF GB prog 70 [eT x] (eT x.compl))(ihy:PF GB prog 70 [eT y] (eT y.compl)):PF GB prog 70 [eT (.node l x y)] (eT (Tr.compl (.node l x y))):=by
 refine fn (fu:=⟨11⟩) func70 J J ntmps70 J J (fun C=>?_);refine cF J J J<|cl J ihx J<|cl (fu:=⟨1⟩) J ihy J<|Cd J J<|rz J J
def JM: ∀{t:Tr},PF GB prog 70 [eT t] (eT t.compl)
 | .leaf _=>V1
 | .node _ _ _=>Xe JM JM

def VJ(l:aa)(p q:DV):List DV:=[.v (.bool false), .v (.bool false), .v (.bool (decide (l.a<0))),dN l.a.natAbs, .v (.bool (decide (l.b<0))),dN l.b.natAbs, .v (.bool (decide (l.c<0))),dN l.c.natAbs,p,q]
def SO{l1:List DV}(h:Is G (.ag [.v (.bool b1), .sl l1, .v (.bool b2), .sl l2, .v (.bool b3), .sl l3]) v): ∃x1 x2 x3:SV,v= .agg ⟨[.bool b1, .slice x1.a x1.n x1.c, .bool b2, .slice x2.a x2.n x2.c, .bool b3, .slice x3.a x3.n x3.c]⟩:=by
 obtain⟨m,rfl,g⟩:=d9.1 h;clear h;obtain⟨v1,m,rfl,h1,h⟩:=bi.1 g;obtain⟨v2,m,rfl,h2,h⟩:=bi.1 h;obtain⟨v3,m,rfl,h3,h⟩:=bi.1 h;obtain⟨v4,m,rfl,h4,h⟩:=bi.1 h;obtain⟨v5,m,rfl,h5,h⟩:=bi.1 h;obtain⟨v6,m,rfl,h6,h⟩:=bi.1 h;rw[d8] at h;subst h;obtain⟨_,x1,_,rfl,_,_⟩:=gp.1 h2;obtain⟨_,x2,_,rfl,_,_⟩:=gp.1 h4;obtain⟨_,x3,_,rfl,_,_⟩:=gp.1 h6;rw[aH.1 h1,aH.1 h3,aH.1 h5];exact⟨x1,x2,x3,J⟩
def Qw:IsLs G (cT (.leaf b)) [.bool true, .bool b, .bool false, .slice none 0 0, .bool false, .slice none 0 0, .bool false, .slice none 0 0, .pointer none, .pointer none]:=by
 have hs:Is G (.sl []) (.slice none 0 0):=gp.2 ⟨0,⟨none,0,0⟩,[],J, .nil G 0, .nil⟩;exact .cons (aH.2 J) (.cons (aH.2 J) (.cons (aH.2 J) (.cons hs (.cons (aH.2 J) (.cons hs (.cons (aH.2 J) (.cons hs (.cons (aH.2 J) (.cons (aH.2 J) .nil)))))))))
def asj{acs:List Value}{o:Nat}{a b c d e f l r:Value}(h:co acs o 8=some [a,b,c,d,e,f,l,r]):co acs (o+0) 6=some [a,b,c,d,e,f]/\acs[o+6]? =some l/\acs[o+7]? =some r:=by
 obtain⟨_,hg⟩:=pn _ _ _ _ h;have h7:=hg 7 (by decide);have hlen:=(aT.1 h7).1;refine⟨?_,hg 6 (by decide),h7⟩;rw[k9 _ _ _ (by omega)];congr 1;apply lW;intro i;rw[oR];split
 .rename_i hi
  rw[lN];have:=hg i (by omega);rw[gX,this]
  match i,hi with
  |0,_=>rfl
  |1,_=>rfl
  |2,_=>rfl
  |3,_=>rfl
  |4,_=>rfl
  |5,_=>rfl
 .rename_i hi
  rw[eJ (by simp only[bQ,eY];omega)]
def aDp{p q:DV}{a b c d e f:Value}(h:Is G (eL l) (.agg ⟨[a,b,c,d,e,f]⟩))(hp:Is G p v)(hq:Is G q w):IsLs G (VJ l p q) [.bool false, .bool false,a,b,c,d,e,f,v,w]:=by
 obtain⟨m,e',g⟩:=d9.1 h
 cases e'
 obtain⟨h1,g⟩:=g.uncons;obtain⟨h2,g⟩:=g.uncons;obtain⟨h3,g⟩:=g.uncons;obtain⟨h4,g⟩:=g.uncons;obtain⟨h5,g⟩:=g.uncons;obtain⟨h6,g⟩:=g.uncons;exact .cons (aH.2 J) (.cons (aH.2 J) (.cons h1 (.cons h2 (.cons h3 (.cons h4 (.cons h5 (.cons h6 (.cons hp (.cons hq .nil)))))))))
def RN.of(n:NQ):RN:=⟨⟨decide (n.l.a<0),dg n.l.a.natAbs,decide (n.l.b<0),dg n.l.b.natAbs,decide (n.l.c<0),dg n.l.c.natAbs⟩,n.a,n.b⟩
def ayz(a:Int):pp (decide (a<0)) (dg a.natAbs)=a:=by
 unfold pp;rw[(fE _).1];split
 .rename_i h;have:=of_decide_eq_true h;omega
 .rename_i h;have: ¬a<0:=fun e=>h (decide_eq_true e);omega
def Hl(a:Int):sr (decide (a<0)) (dg a.natAbs):=⟨(fE _).2.2,fun h=>tO.2 (by have:=of_decide_eq_true h;omega)⟩
def RN.of_l(n:NQ):(RN.of n).g.l=n.l:=by
 unfold RN.of RL.l;simp only[ayz]
def RN.of_sm{n:NQ}(h:LB n.l):(RN.of n).g.sm:=by
 have key: ∀a:Int,a.natAbs<2^96->bB (dg a.natAbs)/\(dg a.natAbs).length<=3:=fun a ha=>⟨(fE _).2.1,by have:=kt ha;omega⟩;exact⟨key _ h.bl.a,key _ h.bl.b,key _ h.bl.c⟩
def Tr.all_imp{p q:aa->Prop}(h: ∀l,p l->q l): ∀{t:Tr},t.all p->t.all q
 | .leaf _,_=>trivial
 | .node _ _ _,⟨h0,h1,h2⟩=>⟨h _ h0,Tr.all_imp h h1,Tr.all_imp h h2⟩
def fP.red_size(h:fP k t)(hr:t.Red []):t.size<=k*(1+k):=by
 obtain⟨K,h1,h2,h3⟩:=h.am;exact cS (Tr.size_le h2 hr h.gd.ok bu.nil h3) (fJ h1 (by omega))
structure fA (k:Nat) (t:Tr):Prop where
 o:fP k t
 s:t.size<=3000
def fA.gd{k:Nat}{t:Tr}(h:fA k t):t.gd:=h.o.gd
def fA.lb{k:Nat}{t:Tr}(h:fA k t):t.all LB:=h.o.gd.lb
def fA.ok{k:Nat}{t:Tr}(h:fA k t):t.all aa.ok:=h.o.gd.ok
def fA.bl{k:Nat}{t:Tr}(h:fA k t):t.all (fun l=>BL l 96):=Tr.all_imp (fun _ h=>h.bl) h.o.gd.lb
def fA.dp{k:Nat}{t:Tr}(h:fA k t):t.depth<=k:=h.o.dp
def fA.compl{k:Nat}{t:Tr}(h:fA k t):fA k t.compl:=⟨h.o.compl,by rw[t.compl_size];exact h.s⟩
def fP.x(h:fP k t)(hr:t.Red [])(hk:k<=54):fA k t:=
 ⟨h,cS (h.red_size hr) (cS (fJ hk (show 1+k<=55 by omega)) (by decide))⟩
def fA.merge{j k:Nat}{op:Int}{t u:Tr}(h:fA j t)(hu:fA k u)(hk:j+k<=54):fA (j+k) (t.mergeQ op u []):=(h.o.merge hu.o).x (Tr.merge_red op u t []) hk
def fA.lim{j k:Nat}{op:Int}{t u:Tr}(h:fA j t)(hu:fA k u)(hk:j+k<=200):hH op t u=some (t.mergeQ op u []):=h.o.lim hu.o hk
def Cc(rs:List (List ZP))(fill:Int):(fq rs fill).Red []:=Tr.restrict_red _ _
def iA(r:List ZP)(i k:Nat):Bool:=decide (k=i)||decide (k=(i+1)%r.length)||decide (0<tY (r.getD i (0,0)).q (i0 r i).q (r.getD k (0,0)).q)
def D7(r:List ZP):Bool:=(List.range r.length).all fun i=>(List.range r.length).all fun k=>iA r i k
def Np(hi:i<r.length)(hk:k<r.length)(h:iA r i k=false):D7 r=false:=by
 rw[Bool.eq_false_iff];intro e;have:=(dJ.1 ((dJ.1 e) i (kV.2 hi))) k (kV.2 hk);rw[h] at this;cases this
def N2(h: ∀i,i<r.length-> ∀k,k<r.length->iA r i k=true):D7 r=true:=
 dJ.2 fun i hi=>dJ.2 fun k hk=>h i (kV.1 hi) k (kV.1 hk)
def GJ(a b c:ZP):tY a.q b.q c.q=(jr (b.1-a.1,b.2-a.2) (c.1-a.1,c.2-a.2)).sign:=by
 have e:ah.cross (cG b.q a.q (-1)) (cG c.q a.q (-1))=((jr (b.1-a.1,b.2-a.2) (c.1-a.1,c.2-a.2):Int):Rat):=by
  unfold ah.cross cG jr ZP.q iP;push_cast;grind
 unfold tY;rw[e,nY]
def IE{a:Int}:0<a.sign↔0<a:=by
 rcases pJ a 0 with h|h|h
 .rw[dS h];omega
 .subst h;simp
 .rw[fY h];omega
def WI{p v:ZP}:D7 (ge p u v)=decide (0<jr u v):=by
 obtain⟨p1,p2⟩:=p;obtain⟨u1,u2⟩:=u;obtain⟨v1,v2⟩:=v;have e1:iA (ge (p1,p2) (u1,u2) (v1,v2)) 0 2=decide (0<jr (u1,u2) (v1,v2)):=by
  unfold iA i0 ge jH;simp only[bQ,eY,qZ,oX,Nat.reduceAdd,Nat.reduceMod,GJ,IE];simp[jr];congr 2
  all_goals (first|omega|grind)
 have e2:iA (ge (p1,p2) (u1,u2) (v1,v2)) 1 0=decide (0<jr (u1,u2) (v1,v2)):=by
  unfold iA i0 ge jH;simp only[bQ,eY,qZ,oX,Nat.reduceAdd,Nat.reduceMod,GJ,IE];simp[jr];constructor<;>intro h<;>grind
 have e3:iA (ge (p1,p2) (u1,u2) (v1,v2)) 2 1=decide (0<jr (u1,u2) (v1,v2)):=by
  unfold iA i0 ge jH;simp only[bQ,eY,qZ,oX,Nat.reduceAdd,Nat.reduceMod,GJ,IE];simp[jr];constructor<;>intro h<;>grind
 by_cases h:0<jr (u1,u2) (v1,v2)
 .rw[decide_eq_true h] at e1 e2 e3⊢
  refine N2 fun i hi k hk=>?_;have hl:(ge (p1,p2) (u1,u2) (v1,v2)).length=3:=J;rw[hl] at hi hk;have hs: ∀j,iA (ge (p1,p2) (u1,u2) (v1,v2)) j j=true:=fun j=>by unfold iA;simp
  have hn: ∀j,iA (ge (p1,p2) (u1,u2) (v1,v2)) j ((j+1)%3)=true:=fun j=>by unfold iA;simp[hl]
  have h1:i=0\/i=1\/i=2:=by omega
  have h2:k=0\/k=1\/k=2:=by omega
  rcases h1 with rfl|rfl|rfl<;>rcases h2 with rfl|rfl|rfl<;>first|assumption|exact hs _|exact hn _
 .rw[decide_eq_false h] at e1⊢
  exact Np (i:=0) (k:=2) (by simp[ge]) (by simp[ge]) e1
def UE(hle: ∀p∈r,ZP.le 100 p)(h6:r.length<=6):PF GB prog 72 [.sl (r.map ou)] (vB (D7 r)):=by
 have hm:=d7 ou r;refine fn (fu:=⟨9⟩) func72 J J ntmps72 J J (fun C=>?_);refine aj 7 (.d (vI (r.length:Nat))) J (by rw[hm]<;>rfl)<|gx (fu:=⟨8⟩) J<|aj 9 (.d (vI (r.length:Nat))) J (by rw[hm]<;>rfl)<|gx J<|lp (X:=Nat) (fun i=>[(10, .d (vI (i:Nat)))]) (fun i=>[]) (fun i=>i<=r.length/\ ∀j,j<i-> ∀q,q<r.length->iA r j q=true) (fun i=>r.length-i) 0 J ⟨bJ _,fun j hj=>absurd hj (by omega)⟩ (fun _=>J) (fun i hk=>?_);obtain⟨i1,i2⟩:=hk;refine br (fu1:=⟨14⟩) J J J (fun hc11=>?_) (fun hc11=>?_)
 .
  have hir:i<r.length:=by omega
  refine aj 14 (.d (vI (r.length:Nat))) J (by rw[hm]<;>rfl)<|gx J<|lp (X:=Nat) (fun k=>[(15, .d (vI (k:Nat)))]) (fun k=>[]) (fun k=>k<=r.length/\ ∀q,q<k->iA r i q=true) (fun k=>r.length-k) 0 J ⟨bJ _,fun j hj=>absurd hj (by omega)⟩ (fun _=>J) (fun k hk=>?_);obtain⟨k1,k2⟩:=hk;refine br (fu1:=⟨14⟩) J J J (fun hc16=>?_) (fun hc16=>?_)
  .
   have hkr:k<r.length:=by omega
   haveI hvb:aI (r.getD i (0,0)).q 12:=uF (hle _ (tN hir));haveI hwb:aI (i0 r i).q 12:=uF (hle _ (yk hir));haveI hub:aI (r.getD k (0,0)).q 12:=uF (hle _ (tN hkr));refine i7 (fu1:=⟨6⟩) (v2:=fun hg20=>by simp only[ak];exact⟨by kernel_rfl,by omega⟩) J J J J (fun hg20=>?_) (fun hg20=>?_)
   .
    refine aj 26 (.d (vI ((i+1)%r.length:Nat))) J (by rfl)<|gx (fu:=⟨0⟩) J<|i7 (v2:=fun hg27=>by simp only[ak];exact⟨by kernel_rfl,by omega⟩) J J J J (fun hg27=>?_) (fun hg27=>?_)
    .
     refine ix (fu:=⟨6⟩) _ J (Bq hir) J<|aj 38 (.d (vI ((i+1)%r.length:Nat))) J (by rfl)<|gx J<|ix _ J (JG hir) J<|ix _ J (Bq hkr) J<|cl J (F6 (a:=(r.getD i (0,0)).q) (b:=(i0 r i).q) (c:=(r.getD k (0,0)).q) (i:=12) (j:=12) (k:=12)) J<|br J J J (fun hc47=>?_) (fun hc47=>?_)
     .
      have hcv:iA r i k=false:=by unfold iA;rw[decide_eq_false (show¬k=i by omega),decide_eq_false (show¬k=(i+1)%r.length by omega),decide_eq_false (show¬0<(tY (r.getD i (0,0)).q (i0 r i).q (r.getD k (0,0)).q) by omega)];rfl
      exact rz J (by rw[Np hir hkr hcv];rfl)
     .
      have hcv:iA r i k=true:=by unfold iA;rw[decide_eq_true (show 0<tY _ _ _ by omega)];simp
      exact at_ (k+1) ⟨⟨by omega,fun q hq=>by by_cases e:q=k;(subst e;exact hcv);exact k2 q (by omega)⟩,(by omega)⟩
    .
     have hcv:iA r i k=true:=by unfold iA;rw[decide_eq_true (show k=(i+1)%r.length by omega)];simp
     exact at_ (k+1) ⟨⟨by omega,fun q hq=>by by_cases e:q=k;(subst e;exact hcv);exact k2 q (by omega)⟩,(by omega)⟩
   .
    have hcv:iA r i k=true:=by unfold iA;rw[decide_eq_true (show k=i by omega)];rfl
    exact at_ (k+1) ⟨⟨by omega,fun q hq=>by by_cases e:q=k;(subst e;exact hcv);exact k2 q (by omega)⟩,(by omega)⟩
  .
   obtain rfl:k=r.length:=by omega
   exact at_ (i+1) ⟨⟨by omega,fun j hj q hq=>by by_cases e:j=i;(subst e;exact k2 q (by omega));exact i2 j (by omega) q hq⟩,(by omega)⟩
 .
  obtain rfl:i=r.length:=by omega
  exact rz J (by rw[N2 fun j hj q hq=>i2 j hj q hq];rfl)
def UU{p v:ZP}(h1:ZP.le 40 p)(h2:ZP.le 40 u)(h3:ZP.le 40 v): ∀q∈ge p u v,ZP.le 100 q:=fun q hq=>by
 unfold ZP.le at*;simp only[ge,jH,aK,dT,or_false] at hq;rcases hq with rfl|rfl|rfl<;>((try dsimp only);omega)
def Z6{p v:ZP}(h1:ZP.le 40 p)(h2:ZP.le 40 u)(h3:ZP.le 40 v):PF GB prog 72 [.sl ((ge p u v).map ou)] (vB (decide (0<jr u v))):=by
 have:=UE (GB:=GB) (r:=ge p u v) (UU h1 h2 h3) (by simp[ge]);rw[WI] at this;exact this
def Fz{b:Nat}(hes:es.length<=400){a:Nat}(ha:a<=es.length):PM GB prog 25 (ku [none] b) b 85 [.sl (es.map vI), .v (.int .i64 (a:Nat))] (js (f8 es a).1) [.sl (es.map vI), .v (.int .i64 ((f8 es a).2:Nat))]:=by
 have hk0:=gO (n:=2) ha;have hx1:=gO (n:=3) hk0;have hy1:=gO (n:=3) hx1;have l1:=dx (es:=es) (n:=3) (a:=(au es 2 a).2);have l2:=dx (es:=es) (n:=3) (a:=(au es 3 (au es 2 a).2).2);refine yg func25 J J ntmps25 J J (fun C b m lo hmb=>?_);refine cm J (fun b=>(mv (n:=2) hes ha)) J<|br J J J (fun hc13=>?_) (fun hc13=>?_)
 .
  have hz1:=gO (n:=2) hy1;have l3:=dx (es:=es) (n:=2) (a:=(au es 3 (au es 3 (au es 2 a).2).2).2);have l4:=dx (es:=es) (n:=2) (a:=(au es 2 (au es 3 (au es 3 (au es 2 a).2).2).2).2);refine cm J (fun b=>(mv (n:=3) hes hk0)) J<|cm J (fun b=>(mv (n:=3) hes hx1)) J<|cm J (fun b=>(mv (n:=2) hes hy1)) J<|cm J (fun b=>(mv (n:=2) hes hz1)) J<|cl J (iF (m:=(((au es 3 (au es 2 a).2).1:Int)-1)) (n:=(((au es 3 (au es 3 (au es 2 a).2).2).1:Int)-1))) J<|cl J (iF (m:=(((au es 3 (au es 2 a).2).1:Int)-1+1+((au es 2 (au es 3 (au es 3 (au es 2 a).2).2).2).1:Int))) (n:=(((au es 3 (au es 3 (au es 2 a).2).2).1:Int)-1))) J<|cl J (iF (m:=(((au es 3 (au es 2 a).2).1:Int)-1+1+((au es 2 (au es 3 (au es 3 (au es 2 a).2).2).2).1:Int))) (n:=(((au es 3 (au es 3 (au es 2 a).2).2).1:Int)-1+1+((au es 2 (au es 2 (au es 3 (au es 3 (au es 2 a).2).2).2).2).1:Int)))) J<|cl J (iF (m:=(((au es 3 (au es 2 a).2).1:Int)-1)) (n:=(((au es 3 (au es 3 (au es 2 a).2).2).1:Int)-1+1+((au es 2 (au es 2 (au es 3 (au es 3 (au es 2 a).2).2).2).2).1:Int)))) J<|rf J J<|?_;exact m5 hmb J J (by rw[show f8 es a=_ from if_pos hc13];rfl) (by rw[show f8 es a=_ from if_pos hc13];rfl)
 .
  have hu1:=gO (n:=2) hy1;have hu2:=gO (n:=3) hu1;have hv1:=gO (n:=3) hu2;have m1:=dx (es:=es) (n:=2) (a:=(au es 3 (au es 3 (au es 2 a).2).2).2);have m2:=dx (es:=es) (n:=3) (a:=(au es 2 (au es 3 (au es 3 (au es 2 a).2).2).2).2);have m3:=dx (es:=es) (n:=3) (a:=(au es 3 (au es 2 (au es 3 (au es 3 (au es 2 a).2).2).2).2).2);have m4:=dx (es:=es) (n:=2) (a:=(au es 3 (au es 3 (au es 2 (au es 3 (au es 3 (au es 2 a).2).2).2).2).2).2);refine cm J (fun b=>(mv (n:=3) hes hk0)) J<|cm J (fun b=>(mv (n:=3) hes hx1)) J<|cl J (iF (m:=(((au es 3 (au es 2 a).2).1:Int)-1)) (n:=(((au es 3 (au es 3 (au es 2 a).2).2).1:Int)-1))) J<|cm J (fun b=>(mv (n:=2) hes hy1)) J<|cm J (fun b=>(mv (n:=3) hes hu1)) J<|cl J (iF (m:=(1+((au es 2 (au es 3 (au es 3 (au es 2 a).2).2).2).1:Int))) (n:=(((au es 3 (au es 2 (au es 3 (au es 3 (au es 2 a).2).2).2).2).1:Int)-1))) J<|cm J (fun b=>(mv (n:=3) hes hu2)) J<|cm J (fun b=>(mv (n:=2) hes hv1)) J<|cl J (iF (m:=(((au es 3 (au es 3 (au es 2 (au es 3 (au es 3 (au es 2 a).2).2).2).2).2).1:Int)-1)) (n:=(1+((au es 2 (au es 3 (au es 3 (au es 2 (au es 3 (au es 3 (au es 2 a).2).2).2).2).2).2).1:Int)))) J<|cl J (jE (n:=1)) J<|cl J (DF (m:=(((au es 3 (au es 2 a).2).1:Int)-1)) (n:=(((au es 3 (au es 3 (au es 2 a).2).2).1:Int)-1)) (m':=(1+((au es 2 (au es 3 (au es 3 (au es 2 a).2).2).2).1:Int))) (n':=(((au es 3 (au es 2 (au es 3 (au es 3 (au es 2 a).2).2).2).2).1:Int)-1)) (k:=1) (by omega) (by omega) (by omega) (by omega)) J<|cl J (jE (n:=1)) J<|cl J (DF (m:=(((au es 3 (au es 2 a).2).1:Int)-1)) (n:=(((au es 3 (au es 3 (au es 2 a).2).2).1:Int)-1)) (m':=(((au es 3 (au es 3 (au es 2 (au es 3 (au es 3 (au es 2 a).2).2).2).2).2).1:Int)-1)) (n':=(1+((au es 2 (au es 3 (au es 3 (au es 2 (au es 3 (au es 3 (au es 2 a).2).2).2).2).2).2).1:Int))) (k:=1) (by omega) (by omega) (by omega) (by omega)) J<|rf J J<|cl J (Z6 (p:=((((au es 3 (au es 2 a).2).1:Int)-1),(((au es 3 (au es 3 (au es 2 a).2).2).1:Int)-1))) (u:=((1+((au es 2 (au es 3 (au es 3 (au es 2 a).2).2).2).1:Int)),(((au es 3 (au es 2 (au es 3 (au es 3 (au es 2 a).2).2).2).2).1:Int)-1))) (v:=((((au es 3 (au es 3 (au es 2 (au es 3 (au es 3 (au es 2 a).2).2).2).2).2).1:Int)-1),(1+((au es 2 (au es 3 (au es 3 (au es 2 (au es 3 (au es 3 (au es 2 a).2).2).2).2).2).2).1:Int)))) ⟨by omega,by omega⟩ ⟨by omega,by omega⟩ ⟨by omega,by omega⟩) J<|bb J J J (fun hc76=>?_) (fun hc76=>?_)
  .
   refine cl J (iF (m:=0) (n:=0) (by decide) (by decide)) J<|cl J (iF (m:=1) (n:=0) (by decide) (by decide)) J<|cl J (iF (m:=0) (n:=1) (by decide) (by decide)) J<|rf J J<|?_;exact m5 hmb J J (by rw[show f8 es a=_ from(if_neg hc13).trans (congrArg (fun r=>(r,(au es 2 (au es 3 (au es 3 (au es 2 (au es 3 (au es 3 (au es 2 a).2).2).2).2).2).2).2)) (if_neg (by simpa using hc76)))];rfl) (by rw[show f8 es a=_ from if_neg hc13])
  .
   exact m5 hmb J J (by rw[show f8 es a=_ from(if_neg hc13).trans (congrArg (fun r=>(r,(au es 2 (au es 3 (au es 3 (au es 2 (au es 3 (au es 3 (au es 2 a).2).2).2).2).2).2).2)) (if_pos (by simpa using hc76)))];rfl) (by rw[show f8 es a=_ from if_neg hc13])
section
variable {own:aG}
end
def aDF(hb:es0.length<=1125899906842624)(he:es=es0.take 400):PN GB prog 6 [.sl (es0.map vI)] 85 Unit (fun _=>[.sl (es.map vI), .v (.int .i64 (0:Nat))]):=by
 subst he;exact Z8 hb
def HA(h:fA k t):PF GB prog 23 [eT t] (eA t):=UF h.bl (by have:=h.s;omega)
def WE:Option ar->DV
 |some c=> .tp [.sl (c.map cI),vB true]
 |none=> .tp [.sl [],vB false]
def L7{c:ar}(h:ls[k]? =some l):iI (ls.drop k) c=if cg c l then iI (ls.drop (k+1)) (bz c l) else none:=by
 obtain⟨hk,rfl⟩:=aT.1 h;rw[bK hk,iI]
def dP.nil:dP []:=fun s hs=>by cases hs
def Zs(hb: ∀l∈ls,LB l)(ho: ∀l∈ls,l.ok)(hn:ls.length<=10000):PF GB prog 223 [.sl (ls.map cB)] (WE (iI ls [])):=by
 have hm:=r7 cB ls;refine fn (fu:=⟨25⟩) func223 J J ntmps223 J J (fun C=>?_);refine aj 9 (.d (vI (ls.length:Nat))) J (by rw[hm]<;>rfl)<|gx J<|Bp 4 J<|ZU 5 (vB true) J J<|lp (X:=ar×Nat) (fun⟨c,k⟩=>[(10, .d (vI (k:Nat))),(4, .d (.sl (c.map cI))),(5, .d (vB true))]) (fun⟨c,k⟩=>[]) (fun⟨c,k⟩=>k<=ls.length/\dP c/\c.length<=k/\iI (ls.drop k) c=iI ls []) (fun⟨c,k⟩=>ls.length-k) ([],0) J ⟨bJ _,dP.nil,bW _,J⟩ (fun _=>J) (fun⟨c,k⟩ hk=>?_);obtain⟨h1,h2,h3,h4⟩:=hk;dsimp only at*;refine br J J J (fun hc11=>?_) (fun hc11=>?_)
 .
  obtain⟨l,hx0⟩: ∃s,ls[k]? =some s:=⟨_,aZ (by omega)⟩;haveI:=hb l (aV hx0);have hlo:=ho l (aV hx0);refine ix _ J (cO hx0) J<|cl J (Gs (c:=c) (l:=l) hlo h2 (by omega)) J<|bb J J J (fun hc21=>?_) (fun hc21=>?_)
  .
   refine bb J J J (fun hc24=>?_) (fun hc24=>?_)
   .
    exact rz J (by rw[<-h4,L7 hx0,if_neg (by simpa using hc21)];rfl)
   .
    exact rz J (by simp only[hc21] at hc24;simp at hc24)
  .
   refine aj 5 (.d (vB true)) J (by rw[show cg c l=true by simpa using hc21])<|at_ (bz c l,k+1) (by dsimp only;exact⟨⟨by omega,qH (ho l (aV hx0)) h2,by have:=rG c l;omega,by rw[<-h4,L7 hx0,if_pos (by simpa using hc21)]⟩,(by omega)⟩)
 .
  refine bb J J J (fun hc24=>?_) (fun hc24=>?_)
  .
   exact rz J (absurd hc24 (by decide))
  .
   exact rz J (by rw[<-h4,iS (by omega)];rfl)
def Vd{c:ar}(hb: ∀l∈ls,LB l)(ho: ∀l∈ls,l.ok)(hn:ls.length<=10000)(h:iI ls []=some c):PF GB prog 223 [.sl (ls.map cB)] (.tp [.sl (c.map cI),vB true]):=by
 have:=Zs (GB:=GB) hb ho hn;rw[h] at this;exact this

section
variable {own:aG}{ops:Array Oper}{r:List Oper}{K:List Kt}
def aGv(k:Nat){d:DV}(hl:aP fr k=some (.d d))(h: ∀(GB':Gh) (pv:Value),bH GB GB'->Is GB' d pv->aA prog GB' C n Q0 ((k, .d (.v pv))::fr) own (.ops ops r K)):aA prog GB C n Q0 fr own (.ops ops r K):=by
 refine⟨fun ρ G ov a w r0=>?_⟩;obtain⟨y,hy,hy'⟩:=r0.fx k _ hl;refine(h G y r0.gb hy').run ρ G ov a w ⟨bH.refl _,r0.h,r0.sz,r0.df,fun j f e=>?_,r0.bx,r0.dj,r0.fxd⟩;rw[jP] at e;split at e
 .rename_i hj
  cases e;subst hj
  exact⟨y,hy,(aH (G:=G)).2 J⟩
 .exact r0.fx j f e
def Pu(fr:aC)(own:aG)(cf:Cf):Option (TypeId×Nat×Nat×List FX×Bool×FX):=match cE fr cf with
 |some ⟨_, .store t x y,_,_,_,_⟩=>match bh (b7 fr cf) x with
  |some (.ov nm 0)=>match iH fr own cf nm with
   |some (.o ty cs lo)=>match bh (b7 fr cf) y with
    |some fv=>some (t,nm,ty,cs,lo,fv)
    |_=>none
   |_=>none
  |_=>none
 |_=>none
def Gg[fu:Fu]{t:Nat}{cs:List FX}{fv:FX}{j:TypeInfo}(h:Pu fr own cf=some (t,nm,ty,cs,lo,fv))(hu:prog.underlying t=some (.array len e))(hj:prog.info? t=some j)(hc:fv.okc=true/\fv.cells.length=j.size/\j.size=cs.length)
  (hgo:cx tt n fu.n fr own cf .un [(nm,some (.o ty (uW cs 0 fv.cells) lo))] []=⟨vc,fr',own',cf'⟩)(k:aA prog GB C n Q0 fr' own' cf')
  (hv:autoParam (ak vc) cL._auto_1):aA prog GB C n Q0 fr own cf:=by
 unfold Pu at h;split at h<;>try (cases h;done)
 rename_i hh;split at h<;>try (cases h;done)
 rename_i e1;split at h<;>try (cases h;done)
 rename_i hb;split at h<;>cases h;rename_i e2;obtain⟨c1,c2,c3⟩:=hc;have:kl prog t j.size:=⟨fun w=>Bz hu w,fun w=>ul hj w⟩;refine us hh ?_ hgo hv k;intro hd tl tb K s1 s2 hf hk;refine⟨fun ρ G ov a w r Q=>?_⟩;have r1:=r.mono s1 s2;obtain⟨p,h1,h2⟩:=r1.ev e1;obtain⟨q,h3,h4⟩:=r1.ev e2;obtain⟨b,m,rfl,ha,h5,h6⟩:=r1.own h2 hb;obtain⟨h7,h8⟩:=h4.cells c1;obtain⟨own',u1,u2,u3⟩:=gP.of_mem (cs':=cp m 0 (aF q)) h6;exact Ev h1 h3 u1 (by rw[h7.len,c2]) (by rw[h5.len,c3];omega) (dJ.2 h8) hd (fun a' w' rl=>r.wrote (m:=m) (s2 _ _ hb) ha (h5.ov h7) u2 u3 hk rl) a w Q ⟨r.h,r.sz,cw a,r.df⟩
def ZO:TypeDesc->Bool
 | .struct _=>false
 | .array _ _=>false
 |_=>true
end
end Go.Sx
end
