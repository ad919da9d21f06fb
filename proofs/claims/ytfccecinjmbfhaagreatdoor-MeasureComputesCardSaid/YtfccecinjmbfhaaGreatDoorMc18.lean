/- Part 18 of a proof. -/
import Derived.Test.YtfccecinjmbfhaaGreatDoorMc17
set_option linter.unusedSimpArgs false
set_option maxHeartbeats 2000000
set_option maxRecDepth 100000
set_option linter.unusedVariables false
section
namespace Go.Sx
open Go Go.Proofs Tryz
variable {GB:Gh}
theorem arA(l m:LnQ):l.dir.cross m.dir=(crossI l m:Rat):=by
 unfold PtQ.cross LnQ.dir crossI
 rw[kW,cV,cV]
 grind
theorem az2{l m:LnQ}(h:0<Int.sign (l.dir.cross m.dir).num):crossI l m≠0:=fun e=>by
 rw[acV,arA,e] at h;exact absurd h (by decide)
theorem anT{l m:LnQ}(h:crossI l m≠0):l.nor.cross m.nor≠0:=fun e=>by
 have:l.nor.cross m.nor=(crossI l m:Rat):=by
  unfold PtQ.cross LnQ.nor crossI
  rw[kW,cV,cV]
  grind
 rw[this] at e
 exact h (dQ.1 e)
theorem ay6{l m:LnQ}(h:crossI l m≠0):abq l m=⟨((l.b:Rat)*(m.c:Rat)-(l.c:Rat)*(m.b:Rat))/l.nor.cross m.nor,((l.c:Rat)*(m.a:Rat)-(l.a:Rat)*(m.c:Rat))/l.nor.cross m.nor⟩:=by
 have e1:(meetX l m:Rat)=(l.b:Rat)*(m.c:Rat)-(l.c:Rat)*(m.b:Rat):=by unfold meetX;rw[kW,cV,cV];grind
 have e2:(meetY l m:Rat)=(l.c:Rat)*(m.a:Rat)-(l.a:Rat)*(m.c:Rat):=by unfold meetY;rw[kW,cV,cV];grind
 have e3:(crossI l m:Rat)=l.nor.cross m.nor:=by unfold PtQ.cross LnQ.nor crossI;rw[kW,cV,cV];grind
 unfold abq
 rw[if_neg h,e1,e2,e3]
theorem agu: ∀{t:Tr} {c:aag} {x:Bool×aag},t.all LB→t.all LnQ.ok→acv c→x∈t.parts c→acv x.2∧x.2.length≤c.length+t.depth
 | .leaf b,c,x,_,_,hc,h=>by
  rw[Tr.parts,aV] at h
  subst h
  exact⟨hc,mV _ _⟩
 | .node l u v,c,x,hb,ho,hc,h=>by
  have hl:=hb.1
  have hd:(Tr.node l u v).depth=1+max u.depth v.depth:=rfl
  rw[Tr.parts] at h
  rcases bY.1 h with h|h
  ·split at h
   ·obtain⟨k1,k2⟩:=agu hb.2.1 ho.2.1 (ajs ho.1 hc) h
    have:=agw c l
    exact⟨k1,by omega⟩
   ·cases h
  ·split at h
   ·obtain⟨k1,k2⟩:=agu hb.2.2 ho.2.2 (ajs ho.1.rev hc) h
    have:=agw c l.rev
    exact⟨k1,by omega⟩
   ·cases h
theorem agI(t:Tr):(aal t).length≤t.size+1:=by
 unfold aal
 rw[aK]
 exact cY (kX ..) (afl t [])
theorem aeL{t:Tr}(hb:t.all LB)(ho:t.all LnQ.ok): ∀c∈aal t,c.length≤t.depth:=fun c hc=>by
 have:=(agu hb ho acv.nil (adC.1 hc)).2
 simpa using this
theorem aix{t:Tr}(hb:t.all LB)(ho:t.all LnQ.ok): ∀c∈aal t,∀s∈c,LB s.l:=fun c hc s hs=>((agu hb ho acv.nil (adC.1 hc)).1 s hs).lb
theorem aDn(l:List PtQ):adh 6 (l.map eZ):=fun d hd=>by
 obtain⟨x,_,rfl⟩:=bK.1 hd
 exact⟨rfl,rfl⟩
def eRz(v:List PtQ):DV:= .sl (v.map eZ)
def eRa(v:List PtQ):DV:= .sl (v.map ePt)
theorem afq{α:Type}{vs:List α}{f:α→Bool}{k:Nat}{v:α}(h:vs[k]? =some v):(vs.drop k).all f=(f v&&(vs.drop (k+1)).all f):=by
 obtain⟨h1,h2⟩:=aL.1 h
 rw[bZ h1,h2,List.all_cons]
theorem aAJ{l m:LnQ}[hl:LB l][hm:LB m](hz:crossI l m≠0):PF GB prog 163 [eLn l,eLn m] (.tp [eZ (abq l m),vB true]):=by
 haveI:=BPt.nor l
 haveI:=BPt.nor m
 refine fn func163 J J ntmps163 J J (fun C=>?_)
 refine cl rfl (ani (l:=l)) rfl<|cl rfl (ani (l:=m)) rfl<|cl rfl (aiO (p:=l.nor) (q:=m.nor) (i:=97) (j:=97)) rfl<|cl (fu:=⟨0⟩) rfl (aiX (q:=l.nor.cross m.nor)) rfl<|?_
 refine eqF 15 (.d (vB false)) rfl (by rw[decide_eq_false (anT hz)]) ?_
 refine kbF 15 rfl ?_
 refine gx rfl<|cl rfl (abG (p:=(l.b:Rat)) (q:=(m.c:Rat)) (i:=97) (j:=97)) rfl<|cl rfl (abG (p:=(l.c:Rat)) (q:=(m.b:Rat)) (i:=97) (j:=97)) rfl<|?_
 refine cl rfl (ahY (p:=(l.b:Rat)*(m.c:Rat)) (q:=(l.c:Rat)*(m.b:Rat))) rfl<|cl rfl (akI (p:=(l.b:Rat)*(m.c:Rat)-(l.c:Rat)*(m.b:Rat)) (q:=l.nor.cross m.nor)) rfl<|?_
 refine cl rfl (abG (p:=(l.c:Rat)) (q:=(m.a:Rat)) (i:=97) (j:=97)) rfl<|cl rfl (abG (p:=(l.a:Rat)) (q:=(m.c:Rat)) (i:=97) (j:=97)) rfl<|?_
 refine cl rfl (ahY (p:=(l.c:Rat)*(m.a:Rat)) (q:=(l.a:Rat)*(m.c:Rat))) rfl<|cl rfl (akI (p:=(l.c:Rat)*(m.a:Rat)-(l.a:Rat)*(m.c:Rat)) (q:=l.nor.cross m.nor)) rfl<|?_
 exact rz rfl (by rw[ay6 hz];rfl)
theorem aBG{c:aag}(hb: ∀s∈c,LB s.l)(hn:c.length≤100000):PF GB prog 97 [eC c] (.sl ((acP (c.map (·.l))).map eZ)):=by
 have hml:(c.map eFr).length=c.length:=aK ..
 obtain⟨L,hL⟩: ∃L,L=c.map (·.l):=⟨_,rfl⟩
 have hLl:L.length=c.length:=by rw[hL,aK]
 refine fn (fu:=⟨15⟩) func97 J J ntmps97 J J (fun C=>?_)
 refine eqF 10 (.d (vI (c.length:Nat))) rfl (by rw[hml]<;>rfl) ?_
 refine gx rfl<|?_
 refine nr 3 3 145 6 J J J ?_
 refine lp (X:=List PtQ×Nat) (fun⟨acc,k⟩=>[(11, .d (vI (k:Nat))),(3, .rw 3)]) (fun⟨acc,k⟩=>[(3,some (.b 145 6 (acc.map eZ) true))]) (fun⟨acc,k⟩=>acc=(List.range k).flatMap (asj L)∧k≤c.length) (fun⟨acc,k⟩=>c.length-k) ⟨[],0⟩ rfl ⟨rfl,bX _⟩ (fun _=>rfl) (fun⟨acc,k⟩ hk=>?_)
 try dsimp only at hk⊢
 obtain⟨h1,h2⟩:=hk
 have hal:=agt L k
 rw[←h1] at hal
 have ham:(acc.map eZ).length=acc.length:=aK ..
 refine br J J J (fun hc12=>?_) (fun hc12=>?_)
 ·
  obtain⟨s,hx⟩: ∃u,c[k]? =some u:=⟨_,aQ (by omega)⟩
  obtain⟨u,hw⟩: ∃w,c[(k+1)%c.length]? =some w:=⟨_,aQ (dZ _ (by omega))⟩
  haveI:=hb s (aR hx)
  haveI:=hb u (aR hw)
  have hxl:L[k]? =some s.l:=by rw[hL,cK,hx];rfl
  have hwl:L[(k+1)%L.length]? =some u.l:=by rw[hLl,hL,cK,hw];rfl
  refine ix (fu:=⟨13⟩) _ rfl (aav hx) rfl<|?_
  refine eqF 20 (.d (vI (c.length:Nat))) rfl (by rw[hml]<;>rfl) ?_
  refine gx (fu:=⟨1⟩) rfl<|?_
  refine eqF 21 (.d (vI (((k+1)%c.length:Nat):Int))) J J ?_
  refine gx rfl<|ix _ rfl (aav hw) rfl<|cl rfl (akU (l:=s.l)) rfl<|cl rfl (akU (l:=u.l)) rfl<|cl rfl (aiO (p:=s.l.dir) (q:=u.l.dir) (i:=97) (j:=97)) rfl<|?_
  refine cl rfl (ado (q:=s.l.dir.cross u.l.dir)) rfl<|?_
  refine br J J J (fun hc32=>?_) (fun hc32=>?_)
  ·
   refine cl rfl (aAJ (l:=s.l) (m:=u.l) (az2 hc32)) rfl<|rf J J<|ap ((acc++[abq s.l u.l]).map eZ) rfl (by rw[bU]<;>rfl) (aDn [abq s.l u.l]) rfl<|?_
   refine rnE 44 3 rfl ?_
   exact at_ ⟨acc++[abq s.l u.l],k+1⟩ (by dsimp only;exact⟨⟨by rw[aft,af4 hxl hwl,if_pos hc32,←h1],by omega⟩,(by omega)⟩)
  ·
   exact at_ ⟨acc,k+1⟩ (by dsimp only;exact⟨⟨by rw[aft,af4 hxl hwl,if_neg hc32,←h1,oT],by omega⟩,(by omega)⟩)
 ·
  have hS:acP L=acc:=by unfold acP;rw[hLl,h1,show k=c.length by omega]
  refine fzE 3 rfl ?_
  exact rz rfl (by rw[←hL,hS];rfl)
theorem aCq{c:aag}(hn:c.length≤100000):PF GB prog 103 [eC c] (vB (afE c)):=by
 have hml:(c.map eFr).length=c.length:=aK ..
 refine fn (fu:=⟨10⟩) func103 J J ntmps103 J J (fun C=>?_)
 refine eqF 6 (.d (vI (c.length:Nat))) rfl (by rw[hml]<;>rfl) ?_
 refine gx rfl<|?_
 refine lp (X:=Nat) (fun k=>[(7, .d (vI (k:Nat)))]) (fun k=>[]) (fun k=>(c.drop k).all (fun s:FrQ=>!s.v.nl&&!s.v.nh)=c.all (fun s:FrQ=>!s.v.nl&&!s.v.nh)∧k≤c.length) (fun k=>c.length-k) 0 rfl ⟨rfl,bX _⟩ (fun _=>rfl) (fun k hk=>?_)
 obtain⟨h1,h2⟩:=hk
 refine br (fu2:=⟨9⟩) J J J (fun hc8=>?_) (fun hc8=>?_)
 ·
  obtain⟨s,hx⟩: ∃u,c[k]? =some u:=⟨_,aQ (by omega)⟩
  refine ix _ rfl (aav hx) rfl<|?_
  refine csb 14 J J J (fun hg14=>?_) (fun hg14=>?_)
  ·
   have hF:afE c=false:=by unfold afE;rw[←h1,afq hx,hg14];simp
   exact rz rfl (by rw[hF];rfl)
  ·
   refine bb J J J (fun hc18=>?_) (fun hc18=>?_)
   ·
    have hF:afE c=false:=by unfold afE;rw[←h1,afq hx,hc18];simp
    exact rz rfl (by rw[hF];rfl)
   ·
    exact at_ (k+1) ⟨⟨by rw[←h1,afq hx,hg14,hc18];rfl,by omega⟩,(by omega)⟩
 ·
  have hT:afE c=decide ((0:Int)<(c.length:Nat)):=by unfold afE;rw[←h1,fS (by omega)];cases c with|nil=>rfl|cons a b=>simp
  refine eqF 21 (.d (vI (c.length:Nat))) rfl (by rw[hml]<;>rfl) ?_
  refine gx rfl<|?_
  exact rz rfl (by rw[hT];rfl)
def agT(v:List PtQ):List (PtQ×PtQ):=(List.range v.length).map fun i=>(v.getD i ⟨0,0⟩,v.getD ((i+1)%v.length) ⟨0,0⟩)
def acl(cs:List (List LnQ)):List (PtQ×PtQ):=cs.flatMap fun c=>agT (acP c)
def acb(cs:List aag):List (List LnQ):=cs.map fun c=>c.map (·.l)
def eZZ(p q:PtQ):DV:= .ag [vI (fn_ p.x),vI (fd_ p.x),fp_ p.x,vI (fn_ p.y),vI (fd_ p.y),fp_ p.y,vI (fn_ q.x),vI (fd_ q.x),fp_ q.x,vI (fn_ q.y),vI (fd_ q.y),fp_ q.y]
def edE(x:PtQ×PtQ):List DV:=[eZZ x.1 x.2,eF (x.1.cross x.2)]
theorem amd{α β:Type}(f:α→List β): ∀{l:List α} {k:Nat} {x:α} {i:Nat} {y:β},l[k]? =some x→(f x)[i]? =some y→(l.flatMap f)[((l.take k).flatMap f).length+i]? =some y
 |z::t,0,x,i,y,h,e=>by
  cases h
  simp only[qM,List.flatMap_nil,fN,eX,kQ]
  rw[dY (aL.1 e).1];exact e
 |z::t,k+1,x,i,y,h,e=>by
  simp only[mZ,kQ,aY]
  rw[iN (by omega)]
  rw[show(f z).length+((t.take k).flatMap f).length+i-(f z).length=((t.take k).flatMap f).length+i by omega]
  exact amd f (by simpa using h) e
theorem aoe{α β:Type}(f:α→List β){l:List α}{k:Nat}{x:α}(h:l[k]? =some x):((l.take (k+1)).flatMap f).length=((l.take k).flatMap f).length+(f x).length:=by
 have:l.take (k+1)=l.take k++[x]:=by rw[jX,h];rfl
 rw[this,pM,aY];simp
theorem aq4(v:List PtQ){i:Nat}{p q:PtQ}(h1:v[i]? =some p)(h2:v[(i+1)%v.length]? =some q):(agT v)[i]? =some (p,q):=by
 have hi:=(aL.1 h1).1
 unfold agT
 rw[cK,sY hi,kK,aX,aX,h1,h2]
 rfl
theorem amj(v:List PtQ):(agT v).length=v.length:=by unfold agT;simp
theorem ptE{C:Ctx}{n:Nat}{Q0:Exit→Act→World→Prop}{fr:FrX}{own:OwX}{ops:Array Oper}{r:List Oper}{K:List Kt}(k:Nat){l:List DV}(hl:aap fr k=some (.d (.pt l)))(h:CfS prog GB C n Q0 ((k, .ep l)::fr) own (.ops ops r K)):CfS prog GB C n Q0 fr own (.ops ops r K):=
 abD hl (fun ρ G y hy=>by
  obtain⟨b,m,rfl,h1,h2⟩:=akm.1 hy
  have e:=h2.len
  exact⟨b,0,m,m,rfl,h1,by rw[abt m 0 l.length (by omega),gJ,←e,cW],h2⟩) h
theorem alZ{cs:List aag}{b:Nat}(hb: ∀c∈cs,∀s∈c,LB s.l)(hn: ∀c∈cs,c.length≤100000)(hl:cs.length≤1000000)(hpt: ∀x∈acl (acb cs),BPt x.1 b∧BPt x.2 b)(hb4:b≤40000000):It GB prog 154 [.pt [.sl (cs.map eC)]] ((acl (acb cs)).map edE):=by
 have hml:(cs.map eC).length=cs.length:=aK ..
 refine aIg func154 J J ntmps154 rfl (fun _=>rfl) (fun l Jv Jx GB' hg H C hp hJ=>?_)
 obtain⟨n0,hn0⟩: ∃n0:Nat→Nat,n0=fun k=>(((acb cs).take k).flatMap fun c=>agT (acP c)).length:=⟨_,rfl⟩
 refine ptE 1 rfl<|gx rfl<|?_
 refine eqF 10 (.d (vI (cs.length:Nat))) rfl (by rw[hml]<;>rfl) ?_
 refine lpC (X:=Nat) (fun k=>[(0, .d (.v (.func (.yield l) #[] #[]))),(9, .d (.sl (cs.map eC))),(10, .d (vI (cs.length:Nat))),(11, .d (vI (k:Nat)))]) (fun k C=>k≤cs.length∧Jv (n0 k) C.G0 C.w0) (fun k=>cs.length-k) 0 hp ⟨bX _,by rw[hn0];exact hJ⟩ (fun _=>rfl) (fun k C1 hp1 hk=>?_)
 obtain⟨hk1,hJ1⟩:=hk
 refine br J J J (fun hc12=>?_) (fun hc12=>?_)
 ·obtain⟨c,hx⟩: ∃u,cs[k]? =some u:=⟨_,aQ (by omega)⟩
  have hcm:=aR hx
  have hxl:(acb cs)[k]? =some (c.map (·.l)):=by unfold acb;rw[cK,hx];rfl
  refine ix _ rfl (aav hx) rfl<|cl rfl (aBG (c:=c) (hb c hcm) (hn c hcm)) rfl<|?_
  obtain⟨V,hV⟩: ∃V,V=acP (c.map (·.l)):=⟨_,rfl⟩
  rw[←hV]
  have hVl:(V.map eZ).length=V.length:=aK ..
  have hVs:V.length≤100000:=by
   have:=agt (c.map (·.l)) (c.map (·.l)).length
   have h2:V.length≤(c.map (·.l)).length:=by rw[hV];exact this
   rw[aK] at h2
   exact cY h2 (hn c hcm)
  refine eqF 18 (.d (vI (V.length:Nat))) rfl (by rw[hVl]<;>rfl) ?_
  refine lpC (X:=Nat) (fun i=>[(0, .d (.v (.func (.yield l) #[] #[]))),(9, .d (.sl (cs.map eC))),(10, .d (vI (cs.length:Nat))),(11, .d (vI (k:Nat))),(5, .d (.sl (V.map eZ))),(17, .d (.sl (V.map eZ))),(18, .d (vI (V.length:Nat))),(19, .d (vI (i:Nat)))]) (fun i C=>i≤V.length∧Jv (n0 k+i) C.G0 C.w0) (fun i=>V.length-i) 0 hp1 ⟨bX _,hJ1⟩ (fun _=>rfl) (fun i C2 hp2 hi=>?_)
  obtain⟨hi1,hJ2⟩:=hi
  refine br J J J (fun hc20=>?_) (fun hc20=>?_)
  ·obtain⟨p,hpx⟩: ∃u,V[i]? =some u:=⟨_,aQ (by omega)⟩
   obtain⟨q,hqx⟩: ∃u,V[(i+1)%V.length]? =some u:=⟨_,aQ (dZ _ (by omega))⟩
   have hpair:(acl (acb cs))[n0 k+i]? =some (p,q):=by
    rw[hn0]
    exact amd (fun c=>agT (acP c)) hxl (by rw[←hV];exact aq4 V hpx hqx)
   have hpq:=hpt _ (aR hpair)
   haveI:=hpq.1
   haveI:=hpq.2
   refine ix _ rfl (aav hpx) rfl<|?_
   refine eqF 29 (.d (vI (((i+1)%V.length:Nat):Int))) rfl (by rw[hVl]<;>rfl) ?_
   refine gx rfl<|ix _ rfl (aav hqx) rfl<|bar (len:=2) (s:=6) (e:=145) rfl (by kernel_rfl) (by kernel_rfl) rfl<|cl rfl (aiO (p:=p) (q:=q) (i:=b) (j:=b) hb4 hb4) rfl<|?_
   refine drT (by kernel_rfl) rfl ?_
   refine cy [(0, .d (.v (.func (.yield l) #[] #[]))),(9, .d (.sl (cs.map eC))),(10, .d (vI (cs.length:Nat))),(11, .d (vI (k:Nat))),(5, .d (.sl (V.map eZ))),(17, .d (.sl (V.map eZ))),(18, .d (vI (V.length:Nat))),(19, .d (vI (i:Nat)))] H hp2 hJ2 rfl (by rw[cK,hpair];rfl) rfl (by repeat (first|exact trivial|refine And.intro rfl ?_)) J J J (fun C3 hp3 hJ3=>?_) (fun C3 hp3 hJ3=>?_)
   ·exact atC (i+1) hp3 ⟨⟨by omega,hJ3⟩,by omega⟩
   ·exact aHa H hp3 (.inr hJ3) rfl
  ·have hi2:i=V.length:=by omega
   refine atC (k+1) hp2 ⟨⟨by omega,?_⟩,by omega⟩
   have e:n0 (k+1)=n0 k+i:=by
    rw[hn0]
    show _=_+i
    rw[hi2]
    have:=aoe (fun c=>agT (acP c)) hxl
    rw[←hV,amj] at this
    exact this
   rw[e];exact hJ2
 ·refine aHa H hp1 (.inl ?_) rfl
  rw[aK]
  have e:n0 k=(acl (acb cs)).length:=by
   rw[hn0]
   show((List.take k (acb cs)).flatMap _).length=_
   rw[aT (by unfold acb;rw[aK];omega)];rfl
  rw[←e];exact hJ1
theorem ao5{cs:List aag}:PMk GB prog 86 [.sl (cs.map eC)] 154 (.pt [.sl (cs.map eC)]):=by
 refine aIa func86 J J ntmps86 J J (fun C=>?_)
 refine fz 1 J J ?_
 refine aFR 1 rfl (fun GB' pv hg hp=>?_)
 refine mkG J J ?_
 exact aHX J J hp
theorem zF{G:Gh}{m:List Value}(h:IsLs G [vI 0,vI 0, .v (.pointer none)] m):IsLs G [vI (fn_ 0),vI (fd_ 0),fp_ 0] m:=by
 obtain⟨l,e,k⟩:=abZ.1 (aCJ G (.agg ⟨m⟩) (abZ.2 ⟨m,rfl,h⟩))
 cases e;exact k
def otQ(a b p:PtQ):Rat:=(b.x-a.x)*(p.y-a.y)-(b.y-a.y)*(p.x-a.x)
def wnQ(v w p:PtQ):Int:=(if v.y≤p.y∧ ¬w.y≤p.y∧0<otQ v w p then 1 else 0)-(if¬v.y≤p.y∧w.y≤p.y∧otQ v w p<0 then 1 else 0)
def ah3(v w q p:PtQ):Prop:= ∀s t:Rat,0≤s→s≤1→0≤t→t≤1→abj v w s≠abj q p t
theorem ag3{a b:Rat}(h0:0≤a)(h1:a≤b)(hb:0<b):0≤a/b∧a/b≤1∧a/b*b=a:=by
 have e:a/b*b=a:=by grind
 generalize a/b=q at*
 refine⟨?_,?_,e⟩
 ·exact(aai hb).1 (by rw[e];exact h0)
 ·have:=(aai (s:=1-q) hb).1 (by grind)
  grind
theorem aDU{q p x:PtQ}(hy:q.y<p.y)(h:otQ q p x=0)(h1:q.y≤x.y)(h2:x.y≤p.y): ∃t,0≤t∧t≤1∧x=abj q p t:=by
 obtain⟨a1,a2,a3⟩:=ag3 (a:=x.y-q.y) (b:=p.y-q.y) (by grind) (by grind) (by grind)
 refine⟨_,a1,a2,?_⟩
 generalize (x.y-q.y)/(p.y-q.y)=t at*
 obtain⟨X,Y⟩:=x
 unfold otQ at h
 unfold abj
 simp only at*
 have e:X=q.x+t*(p.x-q.x):=by
  have h3:(p.y-q.y)*(X-q.x)=(p.y-q.y)*(t*(p.x-q.x)):=by grind
  have h4:p.y-q.y≠0:=by grind
  have:=iK.1 (show(p.y-q.y)*(X-q.x-t*(p.x-q.x))=0 by grind)
  rcases this with h5|h5
  ·exact absurd h5 h4
  ·grind
 rw[e]
 congr 1
 grind
theorem aCL(q p v w:PtQ)(e:Rat):otQ q p (abj v w e)=otQ q p v+e*(otQ q p w-otQ q p v):=by
 unfold otQ abj;grind
theorem au9(v w:PtQ)(a b e:Rat):abj (abj v w a) (abj v w b) e=abj v w (a+e*(b-a)):=by
 unfold abj;simp only[PtQ.mk.injEq];constructor<;>grind
theorem ax4(v w:PtQ)(e:Rat):(abj v w e).y=v.y+e*(w.y-v.y):=rfl
theorem aGB{a b e lo hi:Rat}(h0:0≤e)(h1:e≤1)(ha:lo≤a)(hb:lo≤b)(ha2:a≤hi)(hb2:b≤hi):lo≤a+e*(b-a)∧a+e*(b-a)≤hi:=by
 have k1:=aac h0 (show 0≤b-lo by grind)
 have k2:=aac (show 0≤1-e by grind) (show 0≤a-lo by grind)
 have k3:=aac h0 (show 0≤hi-b by grind)
 have k4:=aac (show 0≤1-e by grind) (show 0≤hi-a by grind)
 constructor<;>grind
theorem auM{v w q p:PtQ}(hn:ah3 v w q p)(hy:q.y<p.y){a b:Rat}(a0:0≤a)(a1:a≤1)(b0:0≤b)(b1:b≤1)(ha:q.y≤(abj v w a).y∧(abj v w a).y≤p.y)(hb:q.y≤(abj v w b).y∧(abj v w b).y≤p.y)(h:otQ q p (abj v w a)<0):otQ q p (abj v w b)<0:=by
 by_cases k:otQ q p (abj v w b)<0
 ·exact k
 ·exfalso
  obtain⟨e0,e1,e2⟩:=ag3 (a:= -(otQ q p (abj v w a))) (b:=otQ q p (abj v w b)-otQ q p (abj v w a)) (by grind) (by grind) (by grind)
  generalize-(otQ q p (abj v w a))/(otQ q p (abj v w b)-otQ q p (abj v w a))=e at*
  have hz:otQ q p (abj v w (a+e*(b-a)))=0:=by rw[←au9,aCL];grind
  have hh:=aGB e0 e1 ha.1 hb.1 ha.2 hb.2
  rw[←ax4,au9] at hh
  obtain⟨t,t0,t1,ht⟩:=aDU hy hz hh.1 hh.2
  have h01:=aGB e0 e1 a0 b0 a1 b1
  exact hn _ t h01.1 h01.2 t0 t1 ht
theorem aBL{v w q p:PtQ}(hn:ah3 v w q p)(hy:q.y<p.y): ∃r:Bool,∀s,0≤s→s≤1→q.y≤(abj v w s).y→(abj v w s).y≤p.y→(otQ q p (abj v w s)<0↔r=true):=by
 by_cases h: ∃s,0≤s∧s≤1∧(q.y≤(abj v w s).y∧(abj v w s).y≤p.y)∧otQ q p (abj v w s)<0
 ·obtain⟨s,s0,s1,s2,s3⟩:=h
  exact⟨true,fun t t0 t1 h1 h2=>⟨fun _=>rfl,fun _=>auM hn hy s0 s1 t0 t1 s2 ⟨h1,h2⟩ s3⟩⟩
 ·exact⟨false,fun t t0 t1 h1 h2=>⟨fun k=>absurd ⟨t,t0,t1,⟨h1,h2⟩,k⟩ h,fun k=>by cases k⟩⟩
theorem ap7(v w:PtQ):abj v w 0=v:=by unfold abj;cases v;simp only[PtQ.mk.injEq];constructor<;>grind
theorem as8(v w:PtQ):abj v w 1=w:=by unfold abj;cases w;simp only[PtQ.mk.injEq];constructor<;>grind
theorem ajc{v w:PtQ}{y:Rat}(h:(v.y≤y∧ ¬w.y≤y)∨(¬v.y≤y∧w.y≤y)): ∃s,0≤s∧s≤1∧(abj v w s).y=y:=by
 rcases h with⟨h1,h2⟩|⟨h1,h2⟩
 ·obtain⟨a1,a2,a3⟩:=ag3 (a:=y-v.y) (b:=w.y-v.y) (by grind) (by grind) (by grind)
  refine⟨_,a1,a2,?_⟩
  rw[ax4];grind
 ·obtain⟨a1,a2,a3⟩:=ag3 (a:=v.y-y) (b:=v.y-w.y) (by grind) (by grind) (by grind)
  refine⟨_,a1,a2,?_⟩
  rw[ax4];grind
theorem aob{v w p:PtQ}{s:Rat}(h:(abj v w s).y=p.y):otQ v w p=(w.y-v.y)*((abj v w s).x-p.x):=by
 unfold otQ
 unfold abj at*
 simp only at*
 rw[←h];grind
theorem ahT{a b:Rat}(ha:0<a):0<a*b↔0<b:=by rw[Rat.mul_comm];exact aar ha
theorem amh{a b:Rat}(ha:a<0):a*b<0↔0<b:=by
 have:=ahT (a:= -a) (b:=b) (by grind)
 constructor
 ·intro h;exact this.1 (by grind)
 ·intro h;have:=this.2 h;grind
def bI(b:Prop)[Decidable b]:Int:=if b then 1 else 0
theorem ate{v w p:PtQ}{r:Prop}[Decidable r](h: ∀s,0≤s→s≤1→(abj v w s).y=p.y→(p.x<(abj v w s).x↔r)):wnQ v w p=if r then bI (v.y≤p.y)-bI (w.y≤p.y) else 0:=by
 unfold wnQ bI
 by_cases h1:v.y≤p.y<;>by_cases h2:w.y≤p.y
 ·simp[h1,h2]
 ·obtain⟨s,s0,s1,s2⟩:=ajc (.inl ⟨h1,h2⟩)
  have e:=aob s2
  have k:=h s s0 s1 s2
  have m:=ahT (a:=w.y-v.y) (b:=(abj v w s).x-p.x) (by grind)
  rw[←e] at m
  have m2:0<otQ v w p↔r:=by rw[m,←k];grind
  simp only[h1,h2,m2]
  by_cases q:r<;>simp[q]
 ·obtain⟨s,s0,s1,s2⟩:=ajc (.inr ⟨h1,h2⟩)
  have e:=aob s2
  have k:=h s s0 s1 s2
  have m:=amh (a:=w.y-v.y) (b:=(abj v w s).x-p.x) (by grind)
  rw[←e] at m
  have m2:otQ v w p<0↔r:=by rw[m,←k];grind
  simp only[h1,h2,m2]
  by_cases q:r<;>simp[q]
 ·simp[h1,h2]
def azc(q p u:PtQ):Int:=if q.y<u.y∧u.y≤p.y∧otQ q p u<0 then 1 else 0
theorem amY{v w q p:PtQ}(hn:ah3 v w q p)(hy:q.y<p.y):wnQ v w p-wnQ v w q=azc q p v-azc q p w:=by
 obtain⟨r,hr⟩:=aBL hn hy
 have ep:=ate (v:=v) (w:=w) (p:=p) (r:=r=true) fun s s0 s1 s2=>by
  rw[←hr s s0 s1 (by grind) (by grind)]
  have m:=ahT (a:=p.y-q.y) (b:=(abj v w s).x-p.x) (by grind)
  have:otQ q p (abj v w s)= -((p.y-q.y)*((abj v w s).x-p.x)):=by unfold otQ;rw[s2];grind
  rw[this]
  generalize (p.y-q.y)*((abj v w s).x-p.x)=z at*
  constructor
  ·intro k;have:=m.2 (by grind);grind
  ·intro k;have:=m.1 (by grind);grind
 have eq:=ate (v:=v) (w:=w) (p:=q) (r:=r=true) fun s s0 s1 s2=>by
  rw[←hr s s0 s1 (by grind) (by grind)]
  have m:=ahT (a:=p.y-q.y) (b:=(abj v w s).x-q.x) (by grind)
  have:otQ q p (abj v w s)= -((p.y-q.y)*((abj v w s).x-q.x)):=by unfold otQ;rw[s2];grind
  rw[this]
  generalize (p.y-q.y)*((abj v w s).x-q.x)=z at*
  constructor
  ·intro k;have:=m.2 (by grind);grind
  ·intro k;have:=m.1 (by grind);grind
 have fv:azc q p v=if r=true then bI (v.y≤p.y)-bI (v.y≤q.y) else 0:=by
  have h:=hr 0 (by decide) (by decide)
  rw[ap7] at h
  unfold azc bI
  by_cases h1:v.y≤p.y<;>by_cases h2:v.y≤q.y
  ·have: ¬q.y<v.y:=by grind
   simp[h1,h2,this]
  ·have h3:q.y<v.y:=by grind
   have:=h (by grind) h1
   simp only[h1,h2,h3,this]
   by_cases q:r=true<;>simp[q]
  ·exfalso;grind
  ·simp[h1,h2]
 have fw:azc q p w=if r=true then bI (w.y≤p.y)-bI (w.y≤q.y) else 0:=by
  have h:=hr 1 (by decide) (by decide)
  rw[as8] at h
  unfold azc bI
  by_cases h1:w.y≤p.y<;>by_cases h2:w.y≤q.y
  ·have: ¬q.y<w.y:=by grind
   simp[h1,h2,this]
  ·have h3:q.y<w.y:=by grind
   have:=h (by grind) h1
   simp only[h1,h2,h3,this]
   by_cases q:r=true<;>simp[q]
  ·exfalso;grind
  ·simp[h1,h2]
 rw[ep,eq,fv,fw]
 by_cases q:r=true
 ·simp only[if_pos q];omega
 ·simp only[if_neg q]
theorem ar9{v w q p:PtQ}(hn:ah3 v w q p)(hy:q.y=p.y):wnQ v w p=wnQ v w q:=by
 have key: ∀s,0≤s→s≤1→(abj v w s).y=p.y→(p.x<(abj v w s).x↔q.x<(abj v w s).x):=fun s s0 s1 s2=>by
  have no: ∀a b:Rat,a≤(abj v w s).x→(abj v w s).x<b→((a=q.x∧b=p.x)∨(a=p.x∧b=q.x))→False:=fun a b h1 h2 h3=>by
   obtain⟨a1,a2,a3⟩:=ag3 (a:=(abj v w s).x-a) (b:=b-a) (by grind) (by grind) (by grind)
   generalize ((abj v w s).x-a)/(b-a)=t at*
   rcases h3 with⟨e1,e2⟩|⟨e1,e2⟩
   ·refine hn s t s0 s1 a1 a2 ?_
    generalize hx:abj v w s=x at*
    obtain⟨X,Y⟩:=x
    unfold abj
    simp only[PtQ.mk.injEq] at*
    subst e1 e2
    constructor<;>grind
   ·refine hn s (1-t) s0 s1 (by grind) (by grind) ?_
    generalize hx:abj v w s=x at*
    obtain⟨X,Y⟩:=x
    unfold abj
    simp only[PtQ.mk.injEq] at*
    subst e1 e2
    constructor<;>grind
  constructor
  ·intro h
   by_cases k:q.x<(abj v w s).x
   ·exact k
   ·by_cases k2:(abj v w s).x=q.x
    ·exfalso
     refine hn s 0 s0 s1 (by decide) (by decide) ?_
     rw[ap7]
     generalize abj v w s=x at*
     obtain⟨X,Y⟩:=x;obtain⟨A,B⟩:=q
     simp only[PtQ.mk.injEq] at*
     exact⟨k2,by grind⟩
    ·exact(no p.x q.x (by grind) (by grind) (.inr ⟨rfl,rfl⟩)).elim
  ·intro h
   by_cases k:p.x<(abj v w s).x
   ·exact k
   ·by_cases k2:(abj v w s).x=p.x
    ·exfalso
     refine hn s 1 s0 s1 (by decide) (by decide) ?_
     rw[as8]
     generalize abj v w s=x at*
     obtain⟨X,Y⟩:=x;obtain⟨A,B⟩:=p
     simp only[PtQ.mk.injEq] at*
     exact⟨k2,s2⟩
    ·exact(no q.x p.x (by grind) (by grind) (.inl ⟨rfl,rfl⟩)).elim
 by_cases hc:(v.y≤p.y∧ ¬w.y≤p.y)∨(¬v.y≤p.y∧w.y≤p.y)
 ·obtain⟨s,s0,s1,s2⟩:=ajc hc
  have uq: ∀t,(abj v w t).y=p.y→t=s:=fun t ht=>by
   rw[ax4] at ht s2
   have h4:w.y-v.y≠0:=by grind
   have:=iK.1 (show(w.y-v.y)*(t-s)=0 by grind)
   rcases this with h5|h5
   ·exact absurd h5 h4
   ·grind
  rw[ate (p:=p) (r:=p.x<(abj v w s).x) fun t _ _ ht=>by rw[uq t ht],ate (p:=q) (r:=p.x<(abj v w s).x) fun t _ _ ht=>by rw[uq t (by rw[ht,hy])];exact(key s s0 s1 s2).symm,hy]
 ·unfold wnQ
  rw[hy]
  by_cases h1:v.y≤p.y<;>by_cases h2:w.y≤p.y<;>simp[h1,h2] at hc⊢
theorem aB4(q p:PtQ)(t:Rat):abj p q t=abj q p (1-t):=by unfold abj;simp only[PtQ.mk.injEq];constructor<;>grind
theorem ah3.symm{v w q p:PtQ}(h:ah3 v w q p):ah3 v w p q:=fun s t s0 s1 t0 t1 e=>h s (1-t) s0 s1 (by grind) (by grind) (by rw[e,aB4])
def wnN(r:List ZP)(p:PtQ):Nat→Int
 |0=>0
 |k+1=>wnN r p k+wnQ (r.getD k (0,0)).q (acW r k).q p
def akM(r:List ZP)(q p:PtQ):Prop:= ∀k,k<r.length→ah3 (r.getD k (0,0)).q (acW r k).q q p
theorem ard{r:List ZP}{q p:PtQ}(h:akM r q p)(hy:q.y<p.y): ∀k,k<r.length→wnN r p k-wnN r q k=azc q p (r.getD 0 (0,0)).q-azc q p (r.getD k (0,0)).q
 |0,_=>by simp[wnN]
 |k+1,hk=>by
  have ih:=ard h hy k (by omega)
  have e:=amY (h k (by omega)) hy
  rw[agU (by omega)] at e
  rw[wnN,wnN,agU (by omega)]
  omega
theorem azs{r:List ZP}{q p:PtQ}(h:akM r q p)(hy:q.y<p.y):wnN r p r.length=wnN r q r.length:=by
 cases hr:r.length with
 |zero=>rfl
 |succ n=>
  have ih:=ard h hy n (by omega)
  have e:=amY (h n (by omega)) hy
  rw[aep (by omega)] at e
  rw[wnN,wnN,aep (by omega)]
  omega
theorem amS{r:List ZP}{q p:PtQ}(h:akM r q p)(hy:q.y=p.y): ∀k,k≤r.length→wnN r p k=wnN r q k
 |0,_=>rfl
 |k+1,hk=>by rw[wnN,wnN,amS h hy k (by omega),ar9 (h k (by omega)) hy]
theorem avT{r:List ZP}{q p:PtQ}(h:akM r q p):wnN r p r.length=wnN r q r.length:=by
 by_cases h1:q.y<p.y
 ·exact azs h h1
 ·by_cases h2:p.y<q.y
  ·exact(azs (fun k hk=>(h k hk).symm) h2).symm
  ·exact amS h (by grind) _ (aM _)
theorem avs(a b c:PtQ):ahS a b c=(otQ a b c).num.sign:=by
 unfold ahS otQ PtQ.cross ab8
 congr 2
 grind
theorem azX(a b:Rat):abd a b≤0↔a≤b:=by
 have:=aj7 a b
 constructor
 ·intro h
  by_cases q:b<a
  ·have:=this.2 q;omega
  ·grind
 ·intro h
  by_cases q:0<abd a b
  ·have:=this.1 q;grind
  ·omega
theorem aCE(v w p:PtQ):atB v w p=wnQ v w p:=by
 unfold atB wnQ
 simp only[avs,acV,aiW,azX]
theorem al6(r:List ZP)(p:PtQ): ∀k,arJ r p k=wnN r p k
 |0=>rfl
 |k+1=>by rw[arJ,wnN,al6 r p k,aCE]
theorem att{r:List ZP}{q p:PtQ}(h:akM r q p):aoi r p=aoi r q:=by
 unfold aoi;rw[al6,al6,avT h]
theorem aAz{v w p:PtQ}(h:v.y≤p.y)(k:w.y≤p.y):wnQ v w p=0:=by unfold wnQ;simp[h,k]
theorem aD1{v w p:PtQ}(h:p.y<v.y)(k:p.y<w.y):wnQ v w p=0:=by
 have h': ¬v.y≤p.y:=by grind
 have k': ¬w.y≤p.y:=by grind
 unfold wnQ;simp[h',k']
theorem apz{v w p:PtQ}(r:Bool)(h1:p.x<v.x↔r=true)(h2:p.x<w.x↔r=true)(h3:v.x<p.x↔r=false)(h4:w.x<p.x↔r=false):wnQ v w p=if r=true then bI (v.y≤p.y)-bI (w.y≤p.y) else 0:=by
 refine ate (r:=r=true) fun s s0 s1 _=>?_
 have e:(abj v w s).x-p.x=(1-s)*(v.x-p.x)+s*(w.x-p.x):=by unfold abj;grind
 cases r with
 |true=>
  have a:=h1.2 rfl
  have b:=h2.2 rfl
  refine⟨fun _=>rfl,fun _=>?_⟩
  by_cases q:s=0
  ·subst q;grind
  ·have k1:=aao (show 0<s by grind) (show 0<w.x-p.x by grind)
   have k2:=aac (show 0≤1-s by grind) (show 0≤v.x-p.x by grind)
   grind
 |false=>
  have a:=h3.2 rfl
  have b:=h4.2 rfl
  refine⟨fun k=>?_,fun k=>(by cases k)⟩
  exfalso
  have k1:=aac (show 0≤s by grind) (show 0≤p.x-w.x by grind)
  have k2:=aac (show 0≤1-s by grind) (show 0≤p.x-v.x by grind)
  grind
def ayj(R:Rat)(p:PtQ):Prop:=p.x< -R∨R<p.x∨p.y< -R∨R<p.y
theorem awF{r:List ZP}{P:ZP→Prop}(h: ∀v∈r,P v){k:Nat}(hk:k<r.length):P (r.getD k (0,0)):=h _ (ahe hk)
theorem aAU{r:List ZP}{R:Rat}{p:PtQ}(hr: ∀v∈r, -R≤v.q.x∧v.q.x≤R∧ -R≤v.q.y∧v.q.y≤R)(hp:ayj R p):wnN r p r.length=0:=by
 have hv: ∀k,k<r.length→_:=fun k hk=>awF hr hk
 have hw: ∀k,k<r.length→_:=fun k hk=>hr _ (ahd hk)
 have zero:(∀k,k<r.length→wnQ (r.getD k (0,0)).q (acW r k).q p=0)→ ∀k,k≤r.length→wnN r p k=0:=fun h=>by
  intro k
  induction k with
  |zero=>intro _;rfl
  |succ k ih=>intro hk;rw[wnN,ih (by omega),h k (by omega)];rfl
 rcases hp with h|h|h|h
 ·have tele: ∀k,k<r.length→wnN r p k=bI ((r.getD 0 (0,0)).q.y≤p.y)-bI ((r.getD k (0,0)).q.y≤p.y):=by
   intro k
   induction k with
   |zero=>intro _;rw[wnN];omega
   |succ k ih=>
    intro hk
    have e:=apz (v:=(r.getD k (0,0)).q) (w:=(acW r k).q) (p:=p) true (by have:=hv k (by omega);constructor<;>grind) (by have:=hw k (by omega);constructor<;>grind) (by have:=hv k (by omega);constructor<;>grind) (by have:=hw k (by omega);constructor<;>grind)
    rw[if_pos rfl,agU (by omega)] at e
    rw[wnN,ih (by omega),agU (by omega),e]
    omega
  cases hr':r.length with
  |zero=>rfl
  |succ n=>
   have e:=apz (v:=(r.getD n (0,0)).q) (w:=(acW r n).q) (p:=p) true (by have:=hv n (by omega);constructor<;>grind) (by have:=hw n (by omega);constructor<;>grind) (by have:=hv n (by omega);constructor<;>grind) (by have:=hw n (by omega);constructor<;>grind)
   rw[if_pos rfl,aep (by omega)] at e
   rw[wnN,tele n (by omega),aep (by omega),e]
   omega
 ·refine zero (fun k hk=>?_) _ (aM _)
  have e:=apz (v:=(r.getD k (0,0)).q) (w:=(acW r k).q) (p:=p) false (by have:=hv k (by omega);constructor<;>grind) (by have:=hw k (by omega);constructor<;>grind) (by have:=hv k (by omega);constructor<;>grind) (by have:=hw k (by omega);constructor<;>grind)
  rw[e,if_neg (by decide)]
 ·exact zero (fun k hk=>aD1 (by have:=hv k hk;grind) (by have:=hw k hk;grind)) _ (aM _)
 ·exact zero (fun k hk=>aAz (by have:=hv k hk;grind) (by have:=hw k hk;grind)) _ (aM _)
/-! the reference's inner point -/
theorem ahR{l:LnQ}: ∀{c:List LnQ} {v:IvQ},(acg l c v).2=true→ab9 l c v=some (acg l c v).1
 |[],v,_=>rfl
 |m::t,v,h=>by
  rw[acg] at h⊢
  rw[ab9]
  split
  ·rename_i e;rw[if_pos e] at h;exact ahR h
  ·rename_i e
   rw[if_neg e] at h
   split
   ·rename_i k;rw[if_pos k] at h;exact ahR h
   ·rename_i k;rw[if_neg k] at h;cases h
theorem aoH{v:IvQ}(h:v.Pos):v.ins (abE v):=by
 obtain⟨lo,hi,nl,nh⟩:=v
 unfold IvQ.Pos at h
 unfold abE IvQ.ins
 cases nl<;>cases nh<;>simp at* <;>grind
theorem ald{p v:PtQ}: ∀{c:List LnQ} {s:Rat},0<s→0<af5 p v c s∧af5 p v c s≤s∧ ∀m∈c,0<m.value p→m.nor.dot v<0→af5 p v c s≤ -(m.value p/m.nor.dot v)/2
 |[],s,h=>⟨h,fU,fun m hm=>by cases hm⟩
 |m::t,s,h=>by
  have hk:m.value (ab8 p v ((1:Int):Rat))-m.value p=m.nor.dot v:=by rw[abL];grind
  have key:0<acf p v m s∧acf p v m s≤s∧(0<m.value p→m.nor.dot v<0→acf p v m s≤ -(m.value p/m.nor.dot v)/2):=by
   unfold acf al7
   simp only[hk,abW,acV,afs]
   split
   ·rename_i e;exact⟨h,fU,fun _ k=>by rw[e] at k;exact absurd k (by decide)⟩
   ·split
    ·rename_i e;exact⟨h,fU,fun k=>by rw[e] at k;exact absurd k (by decide)⟩
    ·split
     ·rename_i e
      split
      ·exact⟨by grind,by grind,fun _ _=>fU⟩
      ·exact⟨h,fU,fun _ _=>by grind⟩
     ·rename_i e
      exact⟨h,fU,fun k1 k2=>absurd (arh k2 k1) e⟩
  obtain⟨a1,a2,a3⟩:=key
  obtain⟨b1,b2,b3⟩:=ald (p:=p) (v:=v) (c:=t) a1
  rw[af5]
  refine⟨b1,by grind,fun u hu k1 k2=>?_⟩
  rcases aU.1 hu with rfl|hu
  ·have:=a3 k1 k2;grind
  ·exact b3 u hu k1 k2
theorem aA1{c:List LnQ}{p v:PtQ}(h: ∀m∈c,0<m.value p∨(m.value p=0∧0<m.nor.dot v)):InL c (arx c p v):=fun m hm=>by
 obtain⟨s0,_,s2⟩:=ald (p:=p) (v:=v) (c:=c) (s:=((1:Int):Rat)) (by decide)
 unfold arx
 generalize af5 p v c ((1:Int):Rat)=s at*
 rw[abL]
 rcases h m hm with k|⟨k,k2⟩
 ·by_cases q:m.nor.dot v<0
  ·have h3:=s2 m hm k q
   have h4:=arh q k
   have e:m.value p/m.nor.dot v*m.nor.dot v=m.value p:=by grind
   generalize m.value p/m.nor.dot v=z at*
   have h5:=aac (a:= -z/2-s) (b:= -m.nor.dot v) (by grind) (by grind)
   grind
  ·have:=aac (cN s0) (show 0≤m.nor.dot v by grind)
   grind
 ·have:=aao s0 k2
  grind
theorem awu{m:LnQ}(h:m.Ne):0<m.nor.dot (ahA m.dir):=by
 have:=afU h
 have e:m.nor.dot (ahA m.dir)=m.nor.dot m.nor:=by unfold ahA LnQ.dir LnQ.nor PtQ.dot;grind
 rw[e];exact this
theorem atE{c:List LnQ}(hok: ∀m∈c,m.ok)(hb:ab2 c=true):InL c (ab4 c c):=by
 have key: ∀t:List LnQ,(∀m∈t,m∈c)→(∃m∈t,(ab9 m c IvQ.all).isSome=true)→InL c (ab4 c t):=by
  intro t
  induction t with
  |nil=>rintro _ ⟨m,hm,_⟩;cases hm
  |cons m t ih=>
   intro hs hx
   rw[ab4]
   split
   ·rename_i e
    obtain⟨h1,h2⟩:=aex m c _ _ aga (ahR e)
    have h3:=((h2 _).1 (aoH h1)).2
    have hmo:=(hok m (hs m aZ)).ne
    refine aA1 fun u hu=>?_
    by_cases q:u=m
    ·subst q;exact .inr ⟨acj hmo _,awu hmo⟩
    ·exact .inl (h3 u hu q)
   ·rename_i e
    refine ih (fun u hu=>hs u (aJ _ hu)) ?_
    obtain⟨u,hu,h⟩:=hx
    rcases aU.1 hu with rfl|hu
    ·rw[adI] at e;exact absurd h e
    ·exact⟨u,hu,h⟩
 unfold ab2 at hb
 rw[gN,List.isEmpty_iff,jK] at hb
 rcases hb with rfl|⟨m,hm,h⟩
 ·exact fun m hm=>by cases hm
 ·exact key c (fun _ h=>h) ⟨m,hm,h⟩
/-! open convex sets of lines -/
theorem InL.seg{c:List LnQ}{q p:PtQ}{e:Rat}(hq:InL c q)(hp:InL c p)(h0:0≤e)(h1:e≤1):InL c (abj q p e):=fun m hm=>by
 rw[acN]
 have a:=hq m hm
 have b:=hp m hm
 by_cases z:e=0
 ·subst z;grind
 ·have k1:=aao (show 0<e by grind) b
  have k2:=aac (show 0≤1-e by grind) (cN a)
  grind
theorem InL.open{c:List LnQ}{q:PtQ}(u:PtQ)(h:InL c q): ∃e:Rat,0<e∧ ∀d,0≤d→d≤e→InL c (ab8 q u d):=by
 have hd:InD (c.map fun m=>(⟨m,IvQ.all⟩:FrQ)) q:=fun s hs=>by
  obtain⟨m,hm,rfl⟩:=bK.1 hs
  exact h m hm
 obtain⟨e,he,ho⟩:=hd.open u
 exact⟨e,he,fun d d0 d1 m hm=>ho d d0 d1 ⟨m,IvQ.all⟩ (eY hm)⟩
/-! edges as fragments -/
theorem aho(l:LnQ)(t u:Rat):l.at (t+u)=ab8 (l.at t) l.dir u:=by
 rw[←agO,←agO];unfold ab8;simp only[PtQ.mk.injEq];constructor<;>grind
theorem aDd(l:LnQ)(a b s:Rat):abj (l.at a) (l.at b) s=l.at (a+s*(b-a)):=by
 rw[←agO,←agO,←agO];unfold abj ab8;simp only[PtQ.mk.injEq];constructor<;>grind
theorem aqb{l:LnQ}(h:l.Ne)(t:Rat):abx l (l.at t)=t:=by
 obtain⟨q,_,hq⟩:=aos h
 have h2:=afU h
 have e0:l.dir.dot l.dir=l.nor.dot l.nor:=by unfold LnQ.dir LnQ.nor PtQ.dot;grind
 have e1:(l.at t).dot l.dir=t*l.dir.dot l.dir:=by
  rw[←agO,hq];unfold ab8 LnQ.dir PtQ.dot;grind
 unfold abx
 rw[e1]
 rw[←e0] at h2
 generalize l.dir.dot l.dir=d at*
 have:d≠0:=by grind
 grind
theorem aqC{l:LnQ}(h:l.Ne){p:PtQ}(hp:l.value p=0):l.at (abx l p)=p:=by
 obtain⟨t,rfl⟩:=awn h hp
 rw[aqb h]
theorem aA9(a:Int){g:Nat}(h:g∣a.natAbs):(g:Int)*zv (decide (a<0)) (a.natAbs/g)=a:=by
 obtain⟨k,hk⟩:=h
 by_cases g0:g=0
 ·subst g0;simp at hk⊢;omega
 have e:a.natAbs/g=k:=by rw[hk];exact Nat.mul_div_cancel_left k (iT g0)
 rw[e]
 unfold zv
 have hc:((g*k:Nat):Int)=(g:Int)*(k:Int):=by push_cast;rfl
 by_cases n:a<0
 ·simp only[n,decide_true,if_true];rw[sZ];omega
 ·simp only[n,decide_false];show(g:Int)*(k:Int)=a;omega
theorem aBr{a b c:Int}(h: ¬(a=0∧b=0)): ∃g:Int,0<g∧g*(mkL a b c).a=a∧g*(mkL a b c).b=b∧g*(mkL a b c).c=c:=by
 have hg:0<Nat.gcd (Nat.gcd a.natAbs b.natAbs) c.natAbs:=oZ _ (iT fun e=>h ⟨mL.1 (nR e),mL.1 (nY e)⟩)
 refine⟨(Nat.gcd (Nat.gcd a.natAbs b.natAbs) c.natAbs:Nat),by omega,?_,?_,?_⟩
 ·exact aA9 a (rM (mW _ _) (mW _ _))
 ·exact aA9 b (rM (mW _ _) (nV _ _))
 ·exact aA9 c (nV _ _)
theorem awE{v w:ZP}(h:v≠w): ∃g:Rat,0<g∧(aoB v.1 v.2 w.1 w.2).value v.q=0∧(aoB v.1 v.2 w.1 w.2).value w.q=0∧w.q=ab8 v.q (aoB v.1 v.2 w.1 w.2).dir g:=by
 obtain⟨m,n⟩:=v
 obtain⟨p,q⟩:=w
 have hne: ¬(asi n q=0∧asm m p=0):=fun e=>h (by unfold asi asm at e;rw[Prod.mk.injEq];omega)
 obtain⟨g,g0,ga,gb,gc⟩:=aBr (c:=aAt m n p q) hne
 dsimp only
 unfold aoB
 generalize mkL (asi n q) (asm m p) (aAt m n p q)=l at*
 have g0':(0:Rat)<(g:Rat):=by exact_mod_cast g0
 have ra:(g:Rat)*(l.a:Rat)= -((q:Rat)-(n:Rat)):=by rw[←cV,ga];unfold asi;push_cast;grind
 have rb:(g:Rat)*(l.b:Rat)=(p:Rat)-(m:Rat):=by rw[←cV,gb];unfold asm;push_cast;grind
 have rc:(g:Rat)*(l.c:Rat)= -(-((q:Rat)-(n:Rat))*(m:Rat)+((p:Rat)-(m:Rat))*(n:Rat)):=by rw[←cV,gc];unfold aAt asi asm;push_cast;grind
 have z: ∀x:Rat,(g:Rat)*x=0→x=0:=fun x hx=>by
  rcases iK.1 hx with e|e
  ·rw[e] at g0';exact absurd g0' (by decide)
  ·exact e
 refine⟨g,g0',z _ ?_,z _ ?_,?_⟩
 ·rw[abm];unfold ZP.q iP;dsimp only;grind
 ·rw[abm];unfold ZP.q iP;dsimp only;grind
 ·unfold ZP.q iP ab8 LnQ.dir;simp only[PtQ.mk.injEq];constructor<;>grind
theorem aAg{v w:ZP}(h:v≠w)(ho:(aeY v w).l.ok):(aeY v w).l.at (aeY v w).v.lo=v.q∧(aeY v w).l.at (aeY v w).v.hi=w.q∧(aeY v w).v.lo<(aeY v w).v.hi:=by
 obtain⟨g,g0,h1,h2,h3⟩:=awE h
 unfold aeY at ho⊢
 dsimp only at ho⊢
 generalize aoB v.1 v.2 w.1 w.2=l at*
 have e1:=aqC ho.ne h1
 have e2:=aqC ho.ne h2
 refine⟨e1,e2,?_⟩
 have:abx l w.q=abx l v.q+g:=by
  have e3:=aho l (abx l v.q) g
  rw[e1,←h3] at e3
  rw[←e3,aqb ho.ne]
 rw[this];grind
theorem akT{r:List ZP}{k:Nat}: ∀{n:Nat},k<n→aeY (r.getD k (0,0)) (acW r k)∈afb r n
 |n+1,h=>by
  rw[afb]
  by_cases e:k=n
  ·subst e;exact cR _ (aV.2 rfl)
  ·exact cX _ (akT (by omega))
theorem awY{r:List ZP}(hr:aaS r){c:List LnQ}(hc: ∀e∈acR r,∀t,e.v.ins t→ ¬InL c (e.l.at t)){q p:PtQ}(hq:InL c q)(hp:InL c p):akM r q p:=fun k hk s t s0 s1 t0 t1 he=>by
 have hm:aeY (r.getD k (0,0)) (acW r k)∈acR r:=akT hk
 have ho:=((aiB hr).2 _ hm).ok
 obtain⟨e1,e2,e3⟩:=aAg (hr.ne k hk) ho
 have hno:=hc _ hm
 have hx:=hq.seg hp t0 t1
 rw[←he,←e1,←e2,aDd] at hx
 have hv: ∀u,(aeY (r.getD k (0,0)) (acW r k)).v.lo<u→u<(aeY (r.getD k (0,0)) (acW r k)).v.hi→ ¬InL c ((aeY (r.getD k (0,0)) (acW r k)).l.at u):=fun u h1 h2=>hno u ⟨.inr h1, .inr h2⟩
 generalize aeY (r.getD k (0,0)) (acW r k)=e at*
 have hb:=aGB s0 s1 (fU) (cN e3) (cN e3) (fU)
 generalize e.v.lo+s*(e.v.hi-e.v.lo)=u at*
 obtain⟨d,d0,hd⟩:=hx.open e.l.dir
 obtain⟨d',d0',hd'⟩:=hx.open (amz e.l.dir)
 by_cases h1:e.v.lo<u
 ·by_cases h2:u<e.v.hi
  ·exact hv u h1 h2 hx
  ·have eu:u=e.v.hi:=by grind
   obtain⟨z,z0,z1,z2⟩: ∃z:Rat,0<z∧z≤d'∧z<e.v.hi-e.v.lo:=by
    by_cases k:d'<(e.v.hi-e.v.lo)/2
    ·exact⟨d',d0',fU,by grind⟩
    ·exact⟨(e.v.hi-e.v.lo)/2,by grind,by grind,by grind⟩
   refine hv (u+ -z) (by grind) (by grind) ?_
   rw[aho]
   have:=hd' z (cN z0) z1
   have e5:ab8 (e.l.at u) (amz e.l.dir) z=ab8 (e.l.at u) e.l.dir (-z):=by unfold ab8 amz;simp only[PtQ.mk.injEq];constructor<;>grind
   rw[e5] at this;exact this
 ·have eu:u=e.v.lo:=by grind
  obtain⟨z,z0,z1,z2⟩: ∃z:Rat,0<z∧z≤d∧z<e.v.hi-e.v.lo:=by
   by_cases k:d<(e.v.hi-e.v.lo)/2
   ·exact⟨d,d0,fU,by grind⟩
   ·exact⟨(e.v.hi-e.v.lo)/2,by grind,by grind,by grind⟩
  refine hv (u+z) (by grind) (by grind) ?_
  rw[aho]
  exact hd z (cN z0) z1
theorem axL{rs:List (List ZP)}{fill:Int}(hr: ∀r∈rs,aaS r){c:List LnQ}(hc: ∀e∈abV rs,∀t,e.v.ins t→ ¬InL c (e.l.at t)){q p:PtQ}(hq:InL c q)(hp:InL c p):inR rs fill q=inR rs fill p:=by
 have key: ∀(rs:List (List ZP)),(∀r∈rs,aaS r)→(∀e∈abV rs,∀t,e.v.ins t→ ¬InL c (e.l.at t))→ ∀n:Int,rs.foldl (fun n r=>n+aoi r q) n=rs.foldl (fun n r=>n+aoi r p) n:=by
  intro rs
  induction rs with
  |nil=>intro _ _ n;rfl
  |cons r t ih=>
   intro hr hc n
   rw[jW,jW,←att (awY (hr r aZ) (fun e he=>hc e (gU.2 ⟨r,aZ,he⟩)) hq hp)]
   exact ih (fun r h=>hr r (aJ _ h)) (fun e he=>hc e (by obtain⟨r,h1,h2⟩:=gU.1 he;exact gU.2 ⟨r,aJ _ h1,h2⟩)) _
 unfold inR
 rw[key rs hr hc]
/-! the spans that the reference combines -/
theorem anW{cuts:List Rat}(h:cuts.Pairwise (· < ·)){i j:Nat}(hij:i<j)(hj:j<cuts.length):cuts.getD i 0<cuts.getD j 0:=by
 rw[aX,aX,aQ hj,aQ (by omega)]
 exact nQ.1 h i j (by omega) hj hij
theorem aln{cuts:List Rat}{marks:List Bool}(h:cuts.Pairwise (· < ·)): ∀{k:Nat},∀v∈act cuts marks (k+1),k<cuts.length→(v.nh=false∧v.hi≤cuts.getD k 0)∧(v.nl=true∨v.lo<cuts.getD k 0)
 |k,v,hv,hk=>by
  have hg:((adY cuts k).nh=false∧(adY cuts k).hi≤cuts.getD k 0)∧((adY cuts k).nl=true∨(adY cuts k).lo<cuts.getD k 0):=by
   unfold adY
   dsimp only
   refine⟨⟨by simp;omega,by rw[if_pos hk];exact fU⟩,?_⟩
   by_cases z:k=0
   ·left;simp[z]
   ·right;rw[if_neg z];exact anW h (by omega) hk
  have hold: ∀v∈act cuts marks k,(v.nh=false∧v.hi≤cuts.getD k 0)∧(v.nl=true∨v.lo<cuts.getD k 0):=fun v hv=>by
   cases k with
   |zero=>cases hv
   |succ k=>
    have ih:=aln h v hv (by omega)
    have:=anW h (Nat.lt_succ_self k) hk
    exact⟨⟨ih.1.1,by have:=ih.1.2;grind⟩,ih.2.imp id fun z=>by grind⟩
  rw[act] at hv
  split at hv
  ·split at hv
   ·split at hv
    ·rename_i w hw
     rcases bY.1 hv with q|q
     ·exact hold v ((rT _).subset q)
     ·rw[aV] at q;subst q
      exact⟨hg.1,(hold w (nW hw)).2⟩
    ·rcases bY.1 hv with q|q
     ·exact hold v q
     ·rw[aV] at q;subst q;exact hg
   ·rcases bY.1 hv with q|q
    ·exact hold v q
    ·rw[aV] at q;subst q;exact hg
  ·exact hold v hv
theorem ane{cuts:List Rat}{marks:List Bool}(h:cuts.Pairwise (· < ·)){x:Rat}{i:Nat}(hm:marks.getD i false=true)(hx:(adY cuts i).ins x): ∀{k:Nat},k≤cuts.length+1→i<k→ ∃v∈act cuts marks k,v.ins x
 |k+1,hk,hi=>by
  by_cases e:i=k
  ·subst e
   rw[act,if_pos hm]
   split
   ·rename_i h0
    split
    ·rename_i w hw
     refine⟨_,cR _ (aV.2 rfl),?_,hx.2⟩
     obtain⟨j,rfl⟩: ∃j,i=j+1:=⟨i-1,by omega⟩
     have:=(aln h w (nW hw) (by omega)).2
     have hl:=hx.1
     unfold adY at hl
     dsimp only at hl
     rw[if_neg (by omega),show j+1-1=j by omega] at hl
     have hl':cuts.getD j 0<x:=hl.resolve_left (by simp)
     exact this.imp id fun z=>by show w.lo<x;grind
    ·exact⟨_,cR _ (aV.2 rfl),hx⟩
   ·exact⟨_,cR _ (aV.2 rfl),hx⟩
  ·obtain⟨v,hv,hvx⟩:=ane h hm hx (k:=k) (by omega) (by omega)
   rw[act]
   split
   ·split
    ·split
     ·rename_i w hw
      by_cases q:v=w
      ·subst q
       refine⟨_,cR _ (aV.2 rfl),hvx.1,?_⟩
       show(adY cuts k).nh=true∨x<(adY cuts k).hi
       obtain⟨j,rfl⟩: ∃j,k=j+1:=⟨k-1,by omega⟩
       obtain⟨⟨b1,b2⟩,_⟩:=aln h v hv (by omega)
       have hh:=hvx.2.resolve_left (by rw[b1];decide)
       unfold adY
       dsimp only
       by_cases z:j+1<cuts.length
       ·right;rw[if_pos z];have:=anW h (Nat.lt_succ_self j) z;grind
       ·left;simp;omega
      ·refine⟨v,cX _ ?_,hvx⟩
       obtain⟨l,hl⟩:=List.getLast?_eq_some_iff.1 hw
       rw[hl] at hv⊢
       rw[List.dropLast_concat]
       rcases bY.1 hv with z|z
       ·exact z
       ·rw[aV] at z;exact absurd z q
     ·exact⟨v,cX _ hv,hvx⟩
    ·exact⟨v,cX _ hv,hvx⟩
   ·exact⟨v,hv,hvx⟩
theorem aqe: ∀{l:List Rat} {i:Nat},i+1<l.length→(adN l).getD i 0=(l.getD i 0+l.getD (i+1) 0)/2
 |[],_,h=>by simp at h
 |[_],_,h=>by simp at h
 |a::b::t,0,_=>by simp[adN]
 |a::b::t,i+1,h=>by
  have:=aqe (l:=b::t) (i:=i) (by simp at h⊢;omega)
  rw[adN,lQ,this]
  simp only[lQ]
theorem aiH: ∀(l:List Rat) (a:Rat),(adN (a::l)).length=l.length
 |[],_=>rfl
 |b::t,a=>by rw[adN,bW,aiH t b,bW]
theorem axY{cuts:List Rat}(h:cuts.Pairwise (· < ·)){i j:Nat}(hi:i≤cuts.length)(hj:j<cuts.length):(cuts.getD j 0<(ab5 cuts).getD i 0↔j<i)∧cuts.getD j 0≠(ab5 cuts).getD i 0:=by
 have mono: ∀{a b:Nat},a≤b→b<cuts.length→cuts.getD a 0≤cuts.getD b 0:=fun{a b} hab hb=>by
  by_cases e:a=b
  ·subst e;exact fU
  ·exact cN (anW h (by omega) hb)
 cases cuts with
 |nil=>simp at hj
 |cons a t=>
  have hl:(a::t).length=t.length+1:=rfl
  rw[ab5]
  cases i with
  |zero=>
   rw[sS]
   have:=mono (bX j) hj
   rw[sS] at this
   constructor
   ·constructor
    ·intro q;exfalso;grind
    ·intro q;omega
   ·intro q;grind
  |succ i=>
   rw[lQ]
   by_cases e:i<t.length
   ·have e1:(adN (a::t)++[(a::t).getLast (by simp)+1]).getD i 0=((a::t).getD i 0+(a::t).getD (i+1) 0)/2:=by
     rw[←aqe (by omega),aX,aX,dY (by rw[aiH];exact e)]
    rw[e1]
    have h1:=anW h (Nat.lt_succ_self i) (by omega)
    by_cases q:j≤i
    ·have:=mono q (by omega)
     constructor
     ·exact⟨fun _=>by omega,fun _=>by grind⟩
     ·grind
    ·have:=mono (show i+1≤j by omega) hj
     constructor
     ·exact⟨fun _=>by exfalso;grind,fun _=>by omega⟩
     ·grind
   ·have ei:i=t.length:=by omega
    have e1:(adN (a::t)++[(a::t).getLast (by simp)+1]).getD i 0=(a::t).getLast (by simp)+1:=by
     rw[aX,iN (by rw[aiH];omega),aiH,ei];simp
    rw[e1]
    have:=auW h (by simp) ((a::t).getD j 0) (by rw[aX,aQ hj];exact bN _)
    constructor
    ·exact⟨fun _=>by omega,fun _=>by grind⟩
    ·grind
theorem ann(x:Rat): ∀{cuts:List Rat},cuts.Pairwise (· < ·)→ ∃i,i≤cuts.length∧ ∀j,j<cuts.length→(cuts.getD j 0<x↔j<i)
 |[],_=>⟨0,aM _,fun j hj=>by simp at hj⟩
 |a::t,h=>by
  rw[cJ] at h
  by_cases q:a<x
  ·obtain⟨i,h1,h2⟩:=ann x h.2
   refine⟨i+1,by simp;exact h1,fun j hj=>?_⟩
   cases j with
   |zero=>simp[q]
   |succ j=>rw[lQ,h2 j (by simpa using hj)];omega
  ·refine⟨0,bX _,fun j hj=>⟨fun k=>?_,fun k=>by omega⟩⟩
   exfalso
   cases j with
   |zero=>simp at k;grind
   |succ j=>
    rw[lQ] at k
    have hj':j<t.length:=by simpa using hj
    have:=h.1 (t.getD j 0) (by rw[aX,aQ hj'];exact bN _)
    grind
theorem aqJ{out:List Rat}{s:IvQ}{y:Rat}:y∈anj out s↔y∈out∨(s.nl=false∧y=s.lo)∨(s.nh=false∧y=s.hi):=by
 unfold anj
 cases e1:s.nl<;>cases e2:s.nh<;>simp[acI]<;>grind
theorem as0{v:IvQ}{x:Rat}:aco [v] x=true↔v.ins x:=by
 unfold aco avM avM IvQ.ins
 have h1:=aj7 x v.lo
 have h2:=afs x v.hi
 rw[decide_eq_true_eq]
 cases e1:v.nl<;>cases e2:v.nh<;>simp only[if_true,jJ,if_false,false_or,true_or,h1,h2,and_true,true_and,show(0:Int)<1 from by decide,show(-1:Int)<0 from by decide]<;>grind
theorem asJ{cuts:List Rat}{v:IvQ}(hl:v.nl=true∨v.lo∈cuts)(hh:v.nh=true∨v.hi∈cuts){x g:Rat}(ho: ∀u∈cuts,(u<x↔u<g)∧u≠x∧u≠g)(h:v.ins x):v.ins g:=by
 refine⟨?_,?_⟩
 ·rcases hl with e|e
  ·exact .inl e
  ·rcases h.1 with k|k
   ·exact .inl k
   ·exact .inr ((ho _ e).1.1 k)
 ·rcases hh with e|e
  ·exact .inl e
  ·rcases h.2 with k|k
   ·exact .inl k
   ·obtain⟨a,b,c⟩:=ho _ e
    right
    by_cases q:v.hi<g
    ·have:=a.2 q;grind
    ·grind
theorem awh{v w:IvQ}{t:Rat}(hv:v.ins t)(hw:w.ins t): ∃z∈ahr 2 [v] [w],z.ins t:=by
 have hmem: ∀y,y∈adl ([v]++[w])↔((v.nl=false∧y=v.lo)∨(v.nh=false∧y=v.hi))∨(w.nl=false∧y=w.lo)∨(w.nh=false∧y=w.hi):=fun y=>by
  show y∈anj (anj [] v) w↔_
  rw[aqJ,aqJ]
  simp
 have hasc:=(ahm ([v]++[w])).1
 have h0: ∀u∈adl ([v]++[w]),u≠t:=fun u hu e=>by
  subst e
  rcases(hmem u).1 hu with(⟨a,b⟩|⟨a,b⟩)|⟨a,b⟩|⟨a,b⟩
  ·have:=hv.1.resolve_left (by rw[a];decide);grind
  ·have:=hv.2.resolve_left (by rw[a];decide);grind
  ·have:=hw.1.resolve_left (by rw[a];decide);grind
  ·have:=hw.2.resolve_left (by rw[a];decide);grind
 have l1:v.nl=true∨v.lo∈adl ([v]++[w]):=by
  cases e:v.nl with
  |true=>exact .inl rfl
  |false=>exact .inr ((hmem _).2 (.inl (.inl ⟨e,rfl⟩)))
 have l2:v.nh=true∨v.hi∈adl ([v]++[w]):=by
  cases e:v.nh with
  |true=>exact .inl rfl
  |false=>exact .inr ((hmem _).2 (.inl (.inr ⟨e,rfl⟩)))
 have l3:w.nl=true∨w.lo∈adl ([v]++[w]):=by
  cases e:w.nl with
  |true=>exact .inl rfl
  |false=>exact .inr ((hmem _).2 (.inr (.inl ⟨e,rfl⟩)))
 have l4:w.nh=true∨w.hi∈adl ([v]++[w]):=by
  cases e:w.nh with
  |true=>exact .inl rfl
  |false=>exact .inr ((hmem _).2 (.inr (.inr ⟨e,rfl⟩)))
 unfold ahr an3
 generalize adl ([v]++[w])=cuts at*
 obtain⟨i,hi,ho⟩:=ann t hasc
 have hord: ∀u∈cuts,(u<t↔u<(ab5 cuts).getD i 0)∧u≠t∧u≠(ab5 cuts).getD i 0:=fun u hu=>by
  obtain⟨j,hj,e⟩:=lL.1 hu
  have e':cuts.getD j 0=u:=by rw[aX,aQ hj];exact e
  obtain⟨g1,g2⟩:=axY hasc hi hj
  have:=ho j hj
  rw[e'] at g1 g2 this
  exact⟨this.trans g1.symm,h0 u hu,g2⟩
 have hlen:(ab5 cuts).length=cuts.length+1:=aff
 refine ane hasc (i:=i) ?_ ?_ (by rw[aK,hlen];exact aM _) (by rw[aK,hlen];omega)
 ·rw[aX,cK,aQ (by omega)]
  show ago 2 (aco [v] _) (aco [w] _)=true
  have e:(ab5 cuts)[i]'(by omega)=(ab5 cuts).getD i 0:=by rw[aX,aQ (by omega)];rfl
  rw[e,as0.2 (asJ l1 l2 hord hv),as0.2 (asJ l3 l4 hord hw)];rfl
 ·unfold adY IvQ.ins
  dsimp only
  refine⟨?_,?_⟩
  ·by_cases z:i=0
   ·left;simp[z]
   ·right;rw[if_neg z];exact(ho (i-1) (by omega)).2 (by omega)
  ·by_cases z:i=cuts.length
   ·left;simp[z]
   ·right
    rw[if_pos (by omega)]
    have a:=ho i (by omega)
    have b:=h0 (cuts.getD i 0) (by rw[aX,aQ (by omega)];exact bN _)
    have c: ¬cuts.getD i 0<t:=fun k=>by have:=a.1 k;omega
    grind
/-! splitting -/
theorem anv{l m:LnQ}(h:crossI l m=0):l.cutK m=0:=by
 have e:l.cutK m= -(crossI l m:Rat):=by unfold LnQ.cutK LnQ.nor LnQ.dir PtQ.dot crossI;push_cast;grind
 rw[e,h];rfl
theorem awB{k:Rat}{side:Int}(hs:side=1∨side= -1)(h:0<(side:Rat)*k):k.num.sign=side:=by
 rcases hs with rfl|rfl
 ·exact(ahP k).2 (by grind)
 ·have:k.num.sign<0:=(aiW k).2 (by grind)
  have:=sL k.num
  omega
theorem avH{f:FrQ}{m:LnQ}{side:Int}(hs:side=1∨side= -1)(hl:f.l.Ne){t:Rat}(ht:f.v.ins t)(hm:0<(side:Rat)*m.value (f.l.at t)): ∃g∈aaX f m side,g.l=f.l∧g.v.ins t:=by
 have hv:=acY f.l m t
 have ho: ¬onB f.l m=true:=fun e=>by
  unfold onB at e
  rw[decide_eq_true_eq,abW] at e
  rw[anv e.1,show f.l.cutC m=m.value f.l.base from rfl,e.2] at hv
  rw[hv] at hm
  grind
 unfold aaX
 rw[if_neg ho]
 have hh: ∃w,adX f.l m side=[w]∧w.ins t:=by
  unfold adX
  by_cases hc:crossI f.l m=0
  ·rw[if_pos hc]
   rw[anv hc,show f.l.cutC m=m.value f.l.base from rfl] at hv
   rw[if_pos (awB hs (by rw[hv] at hm;grind))]
   exact⟨_,rfl,aAK t⟩
  ·rw[if_neg hc]
   have hp:=aey hl hc
   have hK:f.l.cutK m≠0:=fun e=>by
    have e2:f.l.cutK m= -(crossI f.l m:Rat):=by unfold LnQ.cutK LnQ.nor LnQ.dir PtQ.dot crossI;push_cast;grind
    rw[e2] at e
    have:(crossI f.l m:Rat)=0:=by grind
    exact hc (dQ.1 this)
   generalize hx:abx f.l (abq f.l m)=x at*
   have hv2: ∀u,m.value (f.l.at u)=f.l.cutK m*(u-x):=fun u=>by rw[acY,hp];grind
   rw[hv2] at hm
   have e1:m.value (f.l.at (x+1))=f.l.cutK m:=by rw[hv2];grind
   rw[e1]
   generalize f.l.cutK m=K at*
   by_cases q:K.num.sign=side
   ·rw[if_pos q]
    refine⟨_,rfl, .inr ?_, .inl rfl⟩
    show x<t
    rcases hs with rfl|rfl
    ·have:=(ahP K).1 q
     have:=(ahT this).1 (show 0<K*(t-x) by grind)
     grind
    ·have:=(aiW K).1 (by omega)
     have:=(amh this).1 (show K*(t-x)<0 by grind)
     grind
   ·rw[if_neg q]
    refine⟨_,rfl, .inl rfl, .inr ?_⟩
    show t<x
    have h3:=ac7 K
    rcases hs with rfl|rfl
    ·have kn:K<0:=by
      rcases h3 with h|h|h
      ·exact absurd h hK
      ·exact absurd ((ahP K).2 h) q
      ·exact h
     have:=(amh kn (b:=x-t)).1 (by grind)
     grind
    ·have kp:0<K:=by
      rcases h3 with h|h|h
      ·exact absurd h hK
      ·exact h
      ·exact absurd (by have:=(aiW K).2 h;have:=sL K.num;omega) q
     have:=(ahT kp (b:=x-t)).1 (by grind)
     grind
 obtain⟨w,e,hw⟩:=hh
 rw[e]
 obtain⟨z,hz,hzt⟩:=awh ht hw
 exact⟨⟨f.l,z⟩,eY hz,rfl,hzt⟩
def Cov(E:List FrQ)(c:List LnQ)(l:List FrQ):Prop:= ∀e∈E,∀t,e.v.ins t→InL c (e.l.at t)→ ∃f∈l,f.l=e.l∧f.v.ins t
theorem Cov.split{E l:List FrQ}{c:List LnQ}(h:Cov E c l)(hE: ∀e∈E,e.l.Ne){m:LnQ}{side:Int}(hs:side=1∨side= -1){m':LnQ}(hm': ∀p,m'.value p=(side:Rat)*m.value p):Cov E (c++[m']) (l.flatMap fun g=>aaX g m side):=fun e he t ht hin=>by
 obtain⟨h1,h2⟩:=abF.1 hin
 obtain⟨f,hf,ef,hft⟩:=h e he t ht h1
 rw[hm'] at h2
 obtain⟨g,hg,eg,hgt⟩:=avH (f:=f) hs (by rw[ef];exact hE e he) hft (by rw[ef];exact h2)
 exact⟨g,gU.2 ⟨f,hf,hg⟩,by rw[eg,ef],hgt⟩
theorem apt{acc:PtQ→Bool}{E:List FrQ}(hE: ∀e∈E,e.l.Ne)(ha: ∀(c:List LnQ) (q p:PtQ),(∀e∈E,∀t,e.v.ins t→ ¬InL c (e.l.at t))→InL c q→InL c p→acc q=acc p): ∀{n:Nat} {l:List FrQ} {c:List LnQ} {p:PtQ},(∀f∈l,FOk f)→Few n l→(∀m∈c,m.ok)→Cov E c l→InL c p→Off (ake acc n l c).lns p→(ake acc n l c).val p=acc p
 |n,[],c,p,_,_,hc,hcov,hp,_=>by
  have e:ake acc n [] c= .leaf (acc (ab4 c c)):=by cases n<;>rfl
  rw[e,Tr.val]
  exact ha c _ _ (fun e he t ht hin=>by obtain⟨f,hf,_⟩:=hcov e he t ht hin;cases hf) (atE hc ((aei hc).2 ⟨p,hp⟩)) hp
 |0,f::t,_,_,_,hf,_,_,_,_=>by
  obtain⟨K,hK,hs⟩:=hf
  obtain⟨m,hm,_⟩:=hs f aZ
  have:K=[]:=bT (by omega)
  rw[this] at hm;cases hm
 |n+1,f::t,c,p,hok,hf,hc,hcov,hp,hoff=>by
  have fo:=hok f aZ
  have hok': ∀side,∀g∈(f::t).flatMap fun g=>aaX g f.l side,FOk g:=fun side g hg=>by
   obtain⟨q,hq,hg⟩:=gU.1 hg
   exact(ais (hok q hq) fo.lb g hg).1
  rw[ake] at hoff⊢
  by_cases q:0<f.l.value p
  ·rw[Tr.val_pos q]
   exact apt hE ha (hok' 1) (hf.split hok) (abU hc fo.ok) (hcov.split hE (.inl rfl) fun p=>by grind) (abF.2 ⟨hp,q⟩) hoff.x
  ·rw[Tr.val_neg q]
   have:=hoff.l
   exact apt hE ha (hok' (-1)) (hf.split hok) (abU hc fo.ok.rev) (hcov.split hE (.inr rfl) fun p=>by rw[aaW];grind) (abF.2 ⟨hp,by rw[aaW];grind⟩) hoff.y
theorem atM{rs:List (List ZP)}{fill:Int}(hr: ∀r∈rs,aaS r){p:PtQ}(ho:Off (aCd rs fill).lns p):(aeX rs fill).val p=inR rs fill p:=by
 obtain⟨h1,h2⟩:=acJ hr
 have hok:(aCd rs fill).all LnQ.ok:=aeG fun f hf=>(h2 f hf).ok
 unfold aeX
 rw[Tr.val_restrict _ _ _ hok aaP.nil (fun s hs=>by cases hs) ho]
 unfold aCd at ho⊢
 refine apt (E:=abV rs) (fun e he=>(h2 e he).ok.ne) (fun c q p hno hq hp=>axL hr hno hq hp) h2 ?_ (fun m hm=>by cases hm) (fun e he t ht _=>⟨e,he,rfl,ht⟩) (fun m hm=>by cases hm) ho
 exact⟨(abV rs).map (·.l),by rw[aK];exact aM _,fun f hf=>⟨f.l,eY hf, .inl rfl⟩⟩
/-! the corners of a bounded cell are the ends of its sides -/
theorem ao1: ∀(c:aag) (A B:FrQ→Rat),(∀u∈c,0≤A u∧(0≤B u∨0<A u))→ ∃e:Rat,0<e∧ ∀u∈c,0≤A u+e*B u
 |[],_,_,_=>⟨1,by decide,fun u hu=>by cases hu⟩
 |s::t,A,B,h=>by
  obtain⟨e,e0,he⟩:=ao1 t A B fun u hu=>h u (aJ _ hu)
  obtain⟨h1,h2⟩:=h s aZ
  have hold: ∀q,0≤q→q≤e→ ∀u∈t,0≤A u+q*B u:=fun q q0 q1 u hu=>agj (h u (aJ _ hu)).1 (he u hu) q0 q1
  by_cases hb:0≤B s
  ·refine⟨e,e0,fun u hu=>?_⟩
   rcases aU.1 hu with rfl|hu
   ·have:=aac (cN e0) hb;grind
   ·exact he u hu
  ·have ha:=h2.resolve_left hb
   have hq:0<A s/ -(B s):=(aar (k:= -(B s)) (by grind)).1 (by rw[show A s/ -(B s)* -(B s)=A s by grind];exact ha)
   have hm:A s/ -(B s)* -(B s)=A s:=by grind
   generalize A s/ -(B s)=q at*
   by_cases k:q≤e
   ·refine⟨q,hq,fun u hu=>?_⟩
    rcases aU.1 hu with rfl|hu
    ·grind
    ·exact hold q (cN hq) k u hu
   ·refine⟨e,e0,fun u hu=>?_⟩
    rcases aU.1 hu with rfl|hu
    ·have:=aac (show 0≤q-e by grind) (show 0≤ -(B u) by grind)
     grind
    ·exact he u hu
theorem aqS(l m:LnQ)(t e:Rat):m.value (l.at (t+e))=m.value (l.at t)+e*m.nor.dot l.dir:=by
 rw[aho,abL]
theorem ayR{s:FrQ}(h:s.v.Pos)(nh:s.v.nh=false):s.v.has s.v.hi:=by
 unfold IvQ.Pos at h
 refine⟨?_, .inr fU⟩
 rcases h with h|h|h
 ·exact .inl h
 ·rw[nh] at h;cases h
 ·exact .inr (cN h)
theorem aze{s:FrQ}(h:s.v.Pos)(nl:s.v.nl=false):s.v.has s.v.lo:=by
 unfold IvQ.Pos at h
 refine⟨.inr fU,?_⟩
 rcases h with h|h|h
 ·rw[nl] at h;cases h
 ·exact .inl h
 ·exact .inr (cN h)
theorem aAk{c:aag}(hc:aaP c){s:FrQ}(hs:s∈c)(nh:s.v.nh=false): ∃u∈c,u.l.value (s.l.at s.v.hi)=0∧u.l.nor.dot s.l.dir<0:=by
 obtain⟨p1,p2⟩:=hc.edge s hs
 have hin:=(p2 _).1 (ayR p1 nh)
 by_cases q: ∃u∈c,u.l.value (s.l.at s.v.hi)=0∧u.l.nor.dot s.l.dir<0
 ·exact q
 ·exfalso
  obtain⟨e,e0,he⟩:=ao1 c (fun u=>u.l.value (s.l.at s.v.hi)) (fun u=>u.l.nor.dot s.l.dir) fun u hu=>by
   have h1:=hin u hu
   refine⟨h1,?_⟩
   by_cases k:0≤u.l.nor.dot s.l.dir
   ·exact .inl k
   ·right
    by_cases z:u.l.value (s.l.at s.v.hi)=0
    ·exact absurd ⟨u,hu,z,by grind⟩ q
    ·grind
  have hh:=(p2 (s.v.hi+e)).2 fun u hu=>by rw[aqS];exact he u hu
  have:=hh.2
  rw[nh] at this
  rcases this with z|z
  ·cases z
  ·grind
theorem aAr{c:aag}(hc:aaP c){s:FrQ}(hs:s∈c)(nl:s.v.nl=false): ∃u∈c,u.l.value (s.l.at s.v.lo)=0∧0<u.l.nor.dot s.l.dir:=by
 obtain⟨p1,p2⟩:=hc.edge s hs
 have hin:=(p2 _).1 (aze p1 nl)
 by_cases q: ∃u∈c,u.l.value (s.l.at s.v.lo)=0∧0<u.l.nor.dot s.l.dir
 ·exact q
 ·exfalso
  obtain⟨e,e0,he⟩:=ao1 c (fun u=>u.l.value (s.l.at s.v.lo)) (fun u=> -(u.l.nor.dot s.l.dir)) fun u hu=>by
   have h1:=hin u hu
   refine⟨h1,?_⟩
   by_cases k:0≤ -(u.l.nor.dot s.l.dir)
   ·exact .inl k
   ·right
    by_cases z:u.l.value (s.l.at s.v.lo)=0
    ·exact absurd ⟨u,hu,z,by grind⟩ q
    ·grind
  have hh:=(p2 (s.v.lo+ -e)).2 fun u hu=>by rw[aqS];have:=he u hu;grind
  have:=hh.1
  rw[nl] at this
  rcases this with z|z
  ·cases z
  ·grind
/-! directions in their order -/
theorem aBw{ds:List PtQ}(h:ds.Pairwise Bef){i:Nat}{s w:PtQ}(hs:ds[i]? =some s)(hw:ds[(i+1)%ds.length]? =some w):Nxt ds s w:=by
 obtain⟨hi,rfl⟩:=aL.1 hs
 obtain⟨hj,rfl⟩:=aL.1 hw
 have hp:=nQ.1 h
 by_cases e:i+1<ds.length
 ·have em:(i+1)%ds.length=i+1:=fJ e
  left
  simp only[em]
  refine⟨hp i (i+1) hi e (by omega),fun d hd=>?_⟩
  obtain⟨j,hj,rfl⟩:=lL.1 hd
  rintro ⟨a,b⟩
  rcases qL j i with k|k|k
  ·exact ag0 a (hp j i hj hi k)
  ·subst k;exact af8 _ a
  ·by_cases z:j=i+1
   ·subst z;exact af8 _ b
   ·exact ag0 b (hp (i+1) j e hj (by omega))
 ·have ei:i+1=ds.length:=by omega
  have em:(i+1)%ds.length=0:=by rw[ei,Nat.mod_self]
  right
  simp only[em]
  refine⟨fun d hd a=>?_,fun d hd b=>?_⟩
  ·obtain⟨j,hj,rfl⟩:=lL.1 hd
   by_cases k:j=i
   ·subst k;exact af8 _ a
   ·exact ag0 a (hp j i hj hi (by omega))
  ·obtain⟨j,hj,rfl⟩:=lL.1 hd
   by_cases k:j=0
   ·subst k;exact af8 _ b
   ·exact ag0 b (hp 0 j (by omega) hj (by omega))
theorem aux{s u w:PtQ}(hs:s.half≠0)(hw:w.half≠0)(hu:u.half≠0)(h1:0<s.cross u)(h2:0<u.cross w)(h3:0<s.cross w)(e:s.half=w.half):u.half=s.half:=by
 rcases adH hs with k|k
 ·rw[k] at e⊢
  have a:=ac8.1 k
  have b:=ac8.1 e.symm
  rw[ac8]
  unfold PtQ.cross at*
  -- u is between s and w
  have i1:(s.x*w.y-s.y*w.x)*u.y=(u.x*w.y-u.y*w.x)*s.y+(s.x*u.y-s.y*u.x)*w.y:=by grind
  have i2:(s.x*w.y-s.y*w.x)*u.x=(u.x*w.y-u.y*w.x)*s.x+(s.x*u.y-s.y*u.x)*w.x:=by grind
  have y0:0≤s.y:=by grind
  have y1:0≤w.y:=by grind
  have m1:=aac (cN h2) y0
  have m2:=aac (cN h1) y1
  have uy:0≤u.y:=(aai h3).1 (by grind)
  by_cases z:0<u.y
  ·exact .inl z
  ·right
   have z0:u.y=0:=by grind
   have i3:(u.x*w.y-u.y*w.x)*s.y+(s.x*u.y-s.y*u.x)*w.y=0:=by rw[←i1,z0];grind
   have A0:(u.x*w.y-u.y*w.x)*s.y=0:=by generalize (u.x*w.y-u.y*w.x)*s.y=A at*;generalize (s.x*u.y-s.y*u.x)*w.y=B at*;grind
   have B0:(s.x*u.y-s.y*u.x)*w.y=0:=by grind
   have n1:s.y=0:=by
    rcases iK.1 A0 with q|q
    ·grind
    ·exact q
   have n2:w.y=0:=by
    rcases iK.1 B0 with q|q
    ·grind
    ·exact q
   rw[n1,n2] at h3
   grind
 ·rw[k] at e⊢
  have a:=ad5.1 k
  have b:=ad5.1 e.symm
  rw[ad5]
  unfold PtQ.cross at*
  have i1:(s.x*w.y-s.y*w.x)*u.y=(u.x*w.y-u.y*w.x)*s.y+(s.x*u.y-s.y*u.x)*w.y:=by grind
  have y0:0≤ -s.y:=by grind
  have y1:0≤ -w.y:=by grind
  have m1:=aac (cN h2) y0
  have m2:=aac (cN h1) y1
  have uy:0≤ -u.y:=(aai h3).1 (by grind)
  by_cases z:u.y<0
  ·exact .inl z
  ·right
   have z0:u.y=0:=by grind
   have i3:(u.x*w.y-u.y*w.x)*s.y+(s.x*u.y-s.y*u.x)*w.y=0:=by rw[←i1,z0];grind
   have m3:(u.x*w.y-u.y*w.x)* -s.y= -((u.x*w.y-u.y*w.x)*s.y):=by grind
   have m4:(s.x*u.y-s.y*u.x)* -w.y= -((s.x*u.y-s.y*u.x)*w.y):=by grind
   rw[m3] at m1
   rw[m4] at m2
   have A0:(u.x*w.y-u.y*w.x)*s.y=0:=by generalize (u.x*w.y-u.y*w.x)*s.y=A at*;generalize (s.x*u.y-s.y*u.x)*w.y=B at*;grind
   have B0:(s.x*u.y-s.y*u.x)*w.y=0:=by grind
   have n1:s.y=0:=by
    rcases iK.1 A0 with q|q
    ·grind
    ·exact q
   have n2:w.y=0:=by
    rcases iK.1 B0 with q|q
    ·grind
    ·exact q
   rw[n1,n2] at h3
   grind
theorem akK{ds:List PtQ}(nz: ∀d∈ds,d.half≠0){s u w:PtQ}(hs:s∈ds)(hu:u∈ds)(hw:w∈ds)(hn:Nxt ds s w)(h1:0<s.cross u)(h2:0<u.cross w)(h3:0<s.cross w):False:=by
 have zs:=adH (nz s hs)
 have zu:=adH (nz u hu)
 have zw:=adH (nz w hw)
 rcases hn with⟨b,no⟩|⟨n1,n2⟩
 ·by_cases e:s.half=w.half
  ·have e2:=aux (nz s hs) (nz w hw) (nz u hu) h1 h2 h3 e
   exact no u hu ⟨.inr ⟨e2.symm,h1⟩, .inr ⟨by omega,h2⟩⟩
  ·have e1:s.half=1∧w.half=2:=by
    rcases b with b|⟨b,_⟩
    ·omega
    ·exact absurd b e
   rcases zu with k|k
   ·exact no u hu ⟨.inr ⟨by omega,h1⟩, .inl (by omega)⟩
   ·exact no u hu ⟨.inl (by omega), .inr ⟨by omega,h2⟩⟩
 ·have a:=n1 u hu
  have b:=n2 u hu
  have a1: ¬s.half<u.half:=fun k=>a (.inl k)
  have a2:s.half≠u.half:=fun k=>a (.inr ⟨k,h1⟩)
  have b1: ¬u.half<w.half:=fun k=>b (.inl k)
  have b2:u.half≠w.half:=fun k=>b (.inr ⟨k,h2⟩)
  omega
theorem aj1{u w n:PtQ}(hu:u.half≠0)(hw:w.half≠0)(hn:n.half≠0)(e1:w.half=u.half)(e2:u.half=n.half)(h1:0<u.cross n)(h2: ¬0<u.cross w):0<w.cross n:=by
 by_cases k:0<w.cross u
 ·have b1:Bef w u:= .inr ⟨e1,k⟩
  have b2:Bef u n:= .inr ⟨e2,h1⟩
  rcases ae8 b1 b2 with q|⟨_,q⟩
  ·omega
  ·exact q
 ·have hz:w.cross u=0:=by rw[ac2] at k⊢;grind
  by_cases q:0<w.cross n
  ·exact q
  ·exfalso
   have b2:Bef u n:= .inr ⟨e2,h1⟩
   by_cases q2:0<n.cross w
   ·have b3:Bef n w:= .inr ⟨by omega,q2⟩
    rcases ae8 b2 b3 with z|⟨_,z⟩
    ·omega
    ·exact h2 z
   ·have hz2:w.cross n=0:=by rw[ac2] at q2;grind
    rcases adH hw with hh|hh
    ·have a:=ac8.1 hh
     have b:=ac8.1 (show u.half=1 by omega)
     have c:=ac8.1 (show n.half=1 by omega)
     unfold PtQ.cross at*
     have j1:w.x*(u.x*n.y-u.y*n.x)=0:=by grind
     have j2:w.y*(u.x*n.y-u.y*n.x)=0:=by grind
     rcases iK.1 j1 with z|z
     ·rcases iK.1 j2 with z2|z2<;>grind
     ·grind
    ·have a:=ad5.1 hh
     unfold PtQ.cross at*
     have j1:w.x*(u.x*n.y-u.y*n.x)=0:=by grind
     have j2:w.y*(u.x*n.y-u.y*n.x)=0:=by grind
     rcases iK.1 j1 with z|z
     ·rcases iK.1 j2 with z2|z2<;>grind
     ·grind
theorem aB5{ds:List PtQ}(nz: ∀d∈ds,d.half≠0){s u w:PtQ}(hs:s∈ds)(hu:u∈ds)(hw:w∈ds)(hn:Nxt ds s w)(h1:0<s.cross u):0<s.cross w:=by
 have zs:=adH (nz s hs)
 have zu:=adH (nz u hu)
 have zw:=adH (nz w hw)
 have hneg:=awH (nz s hs)
 have hnz:(amz s).half≠0:=by omega
 have e1:u.cross (amz s)=s.cross u:=by rw[an4,ac2 s u];grind
 have e2:w.cross (amz s)=s.cross w:=by rw[an4,ac2 s w];grind
 rcases hn with⟨b,no⟩|⟨n1,n2⟩
 ·by_cases e:s.half=w.half
  ·rcases b with b|⟨_,b⟩
   ·omega
   ·exact b
  ·have e3:s.half=1∧w.half=2:=by
    rcases b with b|⟨b,_⟩
    ·omega
    ·exact absurd b e
   have nu:=no u hu
   rcases zu with k|k
   ·exact absurd ⟨.inr ⟨by omega,h1⟩, .inl (by omega)⟩ nu
   ·rw[←e2]
    exact aj1 (nz u hu) (nz w hw) hnz (by omega) (by omega) (by rw[e1];exact h1) fun q=>nu ⟨.inl (by omega), .inr ⟨by omega,q⟩⟩
 ·have a:=n1 u hu
  have b:=n2 u hu
  have a1: ¬s.half<u.half:=fun k=>a (.inl k)
  have a2:s.half≠u.half:=fun k=>a (.inr ⟨k,h1⟩)
  have b1: ¬u.half<w.half:=fun k=>b (.inl k)
  rw[←e2]
  exact aj1 (nz u hu) (nz w hw) hnz (by omega) (by omega) (by rw[e1];exact h1) fun q=>b (.inr ⟨by omega,q⟩)
theorem arn(s u w:LnQ)(h p:PtQ):s.dir.cross u.dir*w.value p=s.dir.cross u.dir*w.value h+w.dir.cross u.dir*(s.value p-s.value h)+s.dir.cross w.dir*(u.value p-u.value h):=by
 rw[abm,abm,abm,abm,abm,abm]
 unfold PtQ.cross LnQ.dir
 grind
theorem avg{c:aag}(hc:aaP c): ∀d∈c.map (fun s=>s.l.dir),d.half≠0:=fun d hd=>by
 obtain⟨s,hs,rfl⟩:=bK.1 hd
 exact auX (hc.ok s hs)
theorem aAI{c:aag}(hc:aaP c){s w:FrQ}(hs:s∈c)(hw:w∈c)(hn:Nxt (c.map fun s=>s.l.dir) s.l.dir w.l.dir)(nh:s.v.nh=false):0<s.l.dir.cross w.l.dir∧w.l.value (s.l.at s.v.hi)=0:=by
 obtain⟨u,hu,z1,z2⟩:=aAk hc hs nh
 have su:0<s.l.dir.cross u.l.dir:=by rw[ac2,amJ];grind
 have nz:=avg hc
 have ms:=eY (f:=fun s:FrQ=>s.l.dir) hs
 have mu:=eY (f:=fun s:FrQ=>s.l.dir) hu
 have mw:=eY (f:=fun s:FrQ=>s.l.dir) hw
 have sw:=aB5 nz ms mu mw hn su
 refine⟨sw,?_⟩
 obtain⟨p1,p2⟩:=hc.edge s hs
 have hin:=(p2 _).1 (ayR p1 nh)
 have hs0:=acj (hc.ok s hs).ne s.v.hi
 have h0:=hin w hw
 by_cases q:w.l.value (s.l.at s.v.hi)=0
 ·exact q
 ·exfalso
  have wu:0≤w.l.dir.cross u.l.dir:=by
   by_cases k:0<u.l.dir.cross w.l.dir
   ·exact(akK nz ms mu mw hn su k sw).elim
   ·rw[ac2];grind
  obtain⟨t1,t2⟩:=ags hc hw
  have e:=arn s.l u.l w.l (s.l.at s.v.hi) (w.l.at w.v.sample)
  rw[t2,z1,hs0] at e
  have g1:=aao su (show 0<w.l.value (s.l.at s.v.hi) by grind)
  have g2:=aac wu (t1 s hs)
  have g3:=aac (cN sw) (t1 u hu)
  grind
theorem aCc{c:aag}(hc:aaP c){s w:FrQ}(hs:s∈c)(hw:w∈c)(hn:Nxt (c.map fun s=>s.l.dir) s.l.dir w.l.dir)(sw:0<s.l.dir.cross w.l.dir)(nl:w.v.nl=false):s.l.value (w.l.at w.v.lo)=0:=by
 obtain⟨u,hu,z1,z2⟩:=aAr hc hw nl
 have uw:0<u.l.dir.cross w.l.dir:=by rw[amJ];exact z2
 have nz:=avg hc
 have ms:=eY (f:=fun s:FrQ=>s.l.dir) hs
 have mu:=eY (f:=fun s:FrQ=>s.l.dir) hu
 have mw:=eY (f:=fun s:FrQ=>s.l.dir) hw
 obtain⟨p1,p2⟩:=hc.edge w hw
 have hin:=(p2 _).1 (aze p1 nl)
 have hw0:=acj (hc.ok w hw).ne w.v.lo
 have h0:=hin s hs
 by_cases q:s.l.value (w.l.at w.v.lo)=0
 ·exact q
 ·exfalso
  have us:0≤u.l.dir.cross s.l.dir:=by
   by_cases k:0<s.l.dir.cross u.l.dir
   ·exact(akK nz ms mu mw hn k uw sw).elim
   ·rw[ac2];grind
  obtain⟨t1,t2⟩:=ags hc hs
  have e:=arn u.l w.l s.l (w.l.at w.v.lo) (s.l.at s.v.sample)
  rw[t2,z1,hw0] at e
  have g1:=aao uw (show 0<s.l.value (w.l.at w.v.lo) by grind)
  have g2:=aac (cN sw) (t1 u hu)
  have g3:=aac us (t1 w hw)
  grind
theorem ajQ{l m:LnQ}(h:crossI l m≠0){p:PtQ}(h1:l.value p=0)(h2:m.value p=0):p=abq l m:=by
 rw[ay6 h]
 have hd:=anT h
 rw[abm] at h1 h2
 obtain⟨x,y⟩:=p
 have e1:x*l.nor.cross m.nor=(l.b:Rat)*(m.c:Rat)-(l.c:Rat)*(m.b:Rat):=by unfold PtQ.cross LnQ.nor;grind
 have e2:y*l.nor.cross m.nor=(l.c:Rat)*(m.a:Rat)-(l.a:Rat)*(m.c:Rat):=by unfold PtQ.cross LnQ.nor;grind
 generalize l.nor.cross m.nor=d at*
 simp only[PtQ.mk.injEq]
 constructor<;>grind
theorem ams{c:aag}(hb:afE c=true):c≠[]∧ ∀s∈c,s.v.nl=false∧s.v.nh=false:=by
 unfold afE at hb
 rw[bR,dT] at hb
 refine⟨fun e=>by rw[e] at hb;simp at hb,fun s hs=>?_⟩
 have:=hb.2 s hs
 simpa using this
theorem ayl{c:aag}(hc:aaP c)(ha:anS c)(hb:afE c=true){i:Nat}{s w:FrQ}(hs:c[i]? =some s)(hw:c[(i+1)%c.length]? =some w):0<s.l.dir.cross w.l.dir∧abq s.l w.l=s.l.at s.v.hi∧w.l.at w.v.lo=s.l.at s.v.hi:=by
 have he:=(ams hb).2
 have ms:=aR hs
 have mw:=aR hw
 have hn:Nxt (c.map fun s=>s.l.dir) s.l.dir w.l.dir:=aBw ha (by rw[cK,hs];rfl) (by rw[aK,cK,hw];rfl)
 obtain⟨h1,h2⟩:=aAI hc ms mw hn (he s ms).2
 have h3:=aCc hc ms mw hn h1 (he w mw).1
 have hx:crossI s.l w.l≠0:=az2 ((acV _).2 h1)
 refine⟨h1,(ajQ hx (acj (hc.ok s ms).ne _) h2).symm,?_⟩
 rw[ajQ hx h3 (acj (hc.ok w mw).ne _),ajQ hx (acj (hc.ok s ms).ne _) h2]
theorem apU{α β:Type}(f:α→β): ∀l:List α,l.flatMap (fun x=>[f x])=l.map f
 |[]=>rfl
 |a::t=>by rw[kQ,apU f t];rfl
theorem akW{α β:Type}{f g:α→List β}: ∀{l:List α},(∀x∈l,f x=g x)→l.flatMap f=l.flatMap g
 |[],_=>rfl
 |a::t,h=>by rw[kQ,kQ,h a aZ,akW fun x hx=>h x (aJ _ hx)]
theorem arB{c:aag}(hc:aaP c)(ha:anS c)(hb:afE c=true):acP (c.map (·.l))=c.map fun s=>s.l.at s.v.hi:=by
 unfold acP
 rw[aK]
 have h0: ∀i∈List.range c.length,asj (c.map (·.l)) i=[(c.map fun s=>s.l.at s.v.hi).getD i ⟨0,0⟩]:=fun i hi=>by
  have hi':=lT.1 hi
  obtain⟨s,hs⟩: ∃s,c[i]? =some s:=⟨_,aQ hi'⟩
  obtain⟨w,hw⟩: ∃w,c[(i+1)%c.length]? =some w:=⟨_,aQ (dZ _ (by omega))⟩
  obtain⟨h1,h2,h3⟩:=ayl hc ha hb hs hw
  rw[af4 (l:=s.l) (m:=w.l) (by rw[cK,hs];rfl) (by rw[aK,cK,hw];rfl),if_pos ((acV _).2 h1),h2,aX,cK,hs];rfl
 rw[akW h0,apU]
 refine List.ext_getElem (by simp) fun i h1 h2=>?_
 rw[pV,List.getElem_range,aX,aQ (by simpa using h2)];rfl
/-! sums around a cell -/
def aa1{α:Type}(f:α→Rat):List α→Rat
 |[]=>0
 |a::t=>f a+aa1 f t
theorem ait{α:Type}(f:α→Rat): ∀(l m:List α),aa1 f (l++m)=aa1 f l+aa1 f m
 |[],m=>by rw[lZ,aa1];grind
 |a::t,m=>by rw[jQ,aa1,aa1,ait f t m];grind
theorem agi{α:Type}{f g:α→Rat}: ∀{l:List α},(∀x∈l,f x=g x)→aa1 f l=aa1 g l
 |[],_=>rfl
 |a::t,h=>by rw[aa1,aa1,h a aZ,agi fun x hx=>h x (aJ _ hx)]
theorem agV{α β:Type}(f:β→Rat)(g:α→β): ∀l:List α,aa1 f (l.map g)=aa1 (fun x=>f (g x)) l
 |[]=>rfl
 |a::t=>by rw[cZ,aa1,aa1,agV f g t]
theorem aox{α β:Type}(f:β→Rat)(g:α→List β): ∀l:List α,aa1 f (l.flatMap g)=aa1 (fun x=>aa1 f (g x)) l
 |[]=>rfl
 |a::t=>by rw[kQ,ait,aa1,aox f g t]
theorem alV{α:Type}(f g:α→Rat): ∀l:List α,aa1 (fun x=>f x+g x) l=aa1 f l+aa1 g l
 |[]=>by simp only[aa1];grind
 |a::t=>by rw[aa1,aa1,aa1,alV f g t];grind
theorem ai7{α:Type}{f:α→Rat}: ∀{l:List α},(∀x∈l,0≤f x)→0≤aa1 f l
 |[],_=>fU
 |a::t,h=>by rw[aa1];have h1:=h a aZ;have h2:=ai7 fun x hx=>h x (aJ a hx);grind
theorem aqw{α:Type}{f:α→Rat}{l:List α}(h: ∀x∈l,0<f x)(hn:l≠[]):0<aa1 f l:=by
 cases l with
 |nil=>exact absurd rfl hn
 |cons a t=>
  rw[aa1]
  have h1:=h a aZ
  have h2:=ai7 (f:=f) (l:=t) fun x hx=>cN (h x (aJ a hx))
  grind
def aCx(f:PtQ→PtQ→Rat)(v:List PtQ):Rat:=aa1 (fun i=>f (v.getD i ⟨0,0⟩) (v.getD ((i+1)%v.length) ⟨0,0⟩)) (List.range v.length)
theorem ajF(n:Nat):List.range (n+1)=0::(List.range n).map (· +1):=by
 rw[List.range_succ_eq_map]
theorem ari(g:Nat→Rat)(n:Nat):aa1 (fun i=>g ((i+1)%n)) (List.range n)=aa1 g (List.range n):=by
 cases n with
 |zero=>rfl
 |succ n=>
  have e1:aa1 (fun i=>g ((i+1)%(n+1))) (List.range (n+1))=aa1 (fun i=>g (i+1)) (List.range n)+g 0:=by
   rw[List.range_succ,ait,agi (g:=fun i=>g (i+1)) fun i hi=>by rw[fJ (by have:=lT.1 hi;omega)]]
   simp only[aa1,Nat.mod_self]
   grind
  have e2:aa1 g (List.range (n+1))=g 0+aa1 (fun i=>g (i+1)) (List.range n):=by rw[ajF,aa1,agV]
  rw[e1,e2];grind
theorem an1{α:Type}(f:α→Rat)(d:α): ∀l:List α,aa1 (fun i=>f (l.getD i d)) (List.range l.length)=aa1 f l
 |[]=>rfl
 |a::t=>by
  rw[bW,ajF,aa1,agV,aa1,←an1 f d t]
  rfl
theorem aom{c:aag}(hc:aaP c)(ha:anS c)(hb:afE c=true)(f:PtQ→PtQ→Rat):aCx f (acP (c.map (·.l)))=aa1 (fun s=>f (s.l.at s.v.lo) (s.l.at s.v.hi)) c:=by
 rw[arB hc ha hb]
 unfold aCx
 rw[aK]
 obtain⟨d,hd⟩: ∃d:FrQ,d=⟨lnU,IvQ.all⟩:=⟨_,rfl⟩
 rw[←an1 (fun s:FrQ=>f (s.l.at s.v.lo) (s.l.at s.v.hi)) d c,←ari (fun i=>f ((c.getD i d).l.at (c.getD i d).v.lo) ((c.getD i d).l.at (c.getD i d).v.hi)) c.length]
 refine agi fun i hi=>?_
 have hi':=lT.1 hi
 have hj:=dZ (i+1) (show 0<c.length by omega)
 obtain⟨s,hs⟩: ∃s,c[i]? =some s:=⟨_,aQ hi'⟩
 obtain⟨w,hw⟩: ∃w,c[(i+1)%c.length]? =some w:=⟨_,aQ hj⟩
 obtain⟨h1,h2,h3⟩:=ayl hc ha hb hs hw
 rw[aX,aX,aX,cK,cK,hs,hw]
 show f (s.l.at s.v.hi) (w.l.at w.v.hi)=f (w.l.at w.v.lo) (w.l.at w.v.hi)
 rw[h3]
theorem awW{l:LnQ}(h:l.Ne)(a b:Rat):(l.at a).cross (l.at b)=(b-a)*(l.c:Rat):=by
 have h1:=acj h a
 have e:l.at b=ab8 (l.at a) l.dir (b-a):=by rw[←aho];congr 1;grind
 rw[e]
 rw[abm] at h1
 generalize l.at a=p at*
 unfold PtQ.cross ab8 LnQ.dir
 grind
def aps(c:aag):Rat:=aa1 (fun s=>(s.v.hi-s.v.lo)*(s.l.c:Rat)) c
theorem arE{c:aag}(hc:aaP c)(ha:anS c)(hb:afE c=true):aCx PtQ.cross (acP (c.map (·.l)))=aps c:=by
 rw[aom hc ha hb]
 exact agi fun s hs=>awW (hc.ok s hs).ne _ _
theorem atv{c:aag}(hc:aaP c)(ha:anS c)(hb:afE c=true)(g:PtQ→Rat):aa1 (fun s=>g (s.l.at s.v.hi)-g (s.l.at s.v.lo)) c=0:=by
 have e:=aom hc ha hb fun p q=>g q-g p
 rw[←e]
 unfold aCx
 generalize acP (c.map (·.l))=v
 have e2:aa1 (fun i=>g (v.getD ((i+1)%v.length) ⟨0,0⟩)) (List.range v.length)=aa1 (fun i=>g (v.getD i ⟨0,0⟩)) (List.range v.length):=ari (fun i=>g (v.getD i ⟨0,0⟩)) _
 have e3:=alV (fun i=>g (v.getD ((i+1)%v.length) ⟨0,0⟩)-g (v.getD i ⟨0,0⟩)) (fun i=>g (v.getD i ⟨0,0⟩)) (List.range v.length)
 have e4:aa1 (fun i=>g (v.getD ((i+1)%v.length) ⟨0,0⟩)-g (v.getD i ⟨0,0⟩)+g (v.getD i ⟨0,0⟩)) (List.range v.length)=aa1 (fun i=>g (v.getD ((i+1)%v.length) ⟨0,0⟩)) (List.range v.length):=agi fun i _=>by grind
 rw[e4,e2] at e3
 grind
theorem avU{c:aag}(hc:aaP c)(ha:anS c)(hb:afE c=true):0<aps c:=by
 obtain⟨p,hp⟩:=hc.ne
 have key:aa1 (fun s=>(s.v.hi-s.v.lo)*s.l.value p) c=aps c:=by
  have e1:=atv hc ha hb fun q=>q.x*p.y-q.y*p.x
  have e2:=alV (fun s:FrQ=>(s.v.hi-s.v.lo)*(s.l.c:Rat)) (fun s=>((s.l.at s.v.hi).x*p.y-(s.l.at s.v.hi).y*p.x)-((s.l.at s.v.lo).x*p.y-(s.l.at s.v.lo).y*p.x)) c
  rw[e1] at e2
  unfold aps
  have e5:aa1 (fun s:FrQ=>(s.v.hi-s.v.lo)*s.l.value p) c=aa1 (fun s:FrQ=>(s.v.hi-s.v.lo)*(s.l.c:Rat)+(((s.l.at s.v.hi).x*p.y-(s.l.at s.v.hi).y*p.x)-((s.l.at s.v.lo).x*p.y-(s.l.at s.v.lo).y*p.x))) c:=agi fun s hs=>by
   have e:s.l.at s.v.hi=ab8 (s.l.at s.v.lo) s.l.dir (s.v.hi-s.v.lo):=by rw[←aho];congr 1;grind
   rw[e,abm]
   generalize s.l.at s.v.lo=q
   unfold ab8 LnQ.dir
   grind
  rw[e5,e2];grind
 rw[←key]
 refine aqw (fun s hs=>?_) (ams hb).1
 have h1:=(ams hb).2 s hs
 have h2:=(hc.edge s hs).1
 unfold IvQ.Pos at h2
 rw[h1.1,h1.2] at h2
 exact aao (by grind) (hp s hs)

def eCl(x:List LnQ×Bool):DV:= .ag [.sl (x.1.map eL),vB x.2]
theorem aEI(l:List (List LnQ×Bool)):adh 2 (l.map eCl):=fun d hd=>by
 obtain⟨x,_,rfl⟩:=bK.1 hd
 exact⟨rfl,rfl⟩
def eSd(c:List LnQ):DV:= .sl (c.map eL)
theorem aCT(l:List (List LnQ)):adh 1 (l.map eSd):=fun d hd=>by
 obtain⟨x,_,rfl⟩:=bK.1 hd
 exact⟨rfl,rfl⟩
theorem amA{b:Bool}{c:List LnQ}(hc: ∀m∈c,LB m)(hok: ∀m∈c,m.ok)(hn:c.length≤1000):PR GB prog 130 [eT (.leaf b), .sl (c.map eL)] 2 225 ((aa5 (.leaf b) c).map eCl):=by
 refine fnR func130 J J ntmps130 J J (fun C hmb=>?_)
 refine cl rfl (aoJ hc hok (by omega)) rfl<|?_
 refine bb (fu2:=⟨8⟩) J J J (fun hc13=>?_) (fun hc13=>?_)
 ·
  exact aG5 J J (by rw[aa5,if_neg (by simpa using hc13)];rfl)
 ·
  refine knT J J J<|ro J J<|?_
  exact rzR J J J (by rw[aa5,if_pos (by simpa using hc13)]<;>rfl)
theorem anJ{l:LnQ}{x y:Tr}{c:List LnQ}(hc: ∀m∈c,LB m)(hok: ∀m∈c,m.ok)(hl:LB l)(hlo:l.ok)(hn:c.length+(Tr.node l x y).depth≤1000)(hs:(Tr.node l x y).size≤100000)(ihx: ∀{c:List LnQ},(∀m∈c,LB m)→(∀m∈c,m.ok)→c.length+x.depth≤1000→PR GB prog 130 [eT x, .sl (c.map eL)] 2 225 ((aa5 x c).map eCl))(ihy: ∀{c:List LnQ},(∀m∈c,LB m)→(∀m∈c,m.ok)→c.length+y.depth≤1000→PR GB prog 130 [eT y, .sl (c.map eL)] 2 225 ((aa5 y c).map eCl)):PR GB prog 130 [eT (.node l x y), .sl (c.map eL)] 2 225 ((aa5 (.node l x y) c).map eCl):=by
 haveI:=hl
 have hd:(Tr.node l x y).depth=1+max x.depth y.depth:=rfl
 have hz:(Tr.node l x y).size=1+x.size+y.size:=rfl
 have hcl:=aet c
 have go: ∀{P:LnQ→Prop} {k:LnQ},(∀m∈c,P m)→P k→ ∀m∈aaI c++[k],P m:=fun{P k} h1 h2 m hm=>by
  rcases bY.1 hm with h|h
  ·exact h1 m (aa6.1 h).1
  ·rw[aV.1 h];exact h2
 have h1:=ael x (aaI c++[l])
 have h2:=ael y (aaI c++[l.rev])
 refine fnR func130 J J ntmps130 J J (fun C hmb=>?_)
 refine cl rfl (aoJ hc hok (by omega)) rfl<|?_
 refine bb (fu2:=⟨8⟩) J J J (fun hc13=>?_) (fun hc13=>?_)
 ·
  exact aG5 J J (by rw[aa5,if_neg (by simpa using hc13)];rfl)
 ·
  refine knF J J J<|ro0 J J<|ap ((aaI c).map eL) J J (acp _) rfl<|rf J J<|apf ((aaI c++[l]).map eL) rfl (by rw[bU]<;>rfl) (acp [l]) rfl<|?_
  refine cr rfl (ihx (c:=aaI c++[l]) (go hc hl) (go hok hlo) (by rw[aY,fW];omega)) rfl<|ro0 J J<|ap ((aaI c).map eL) J J (acp _) rfl<|?_
  refine cl rfl (ai8 (l:=l)) rfl<|rf J J<|apf ((aaI c++[l.rev]).map eL) rfl (by rw[bU]<;>rfl) (acp [l.rev]) rfl<|cr rfl (ihy (c:=aaI c++[l.rev]) (go hc inferInstance) (go hok hlo.rev) (by rw[aY,fW];omega)) rfl<|?_
  refine ap ((aa5 x (aaI c++[l])++aa5 y (aaI c++[l.rev])).map eCl) rfl (by rw[bU]) (aEI _) rfl<|?_
  exact rzR J J J (by rw[aa5,if_pos (by simpa using hc13)]<;>rfl)
theorem aoQ: ∀{t:Tr} {c:List LnQ},t.all LB→t.all LnQ.ok→t.size≤100000→(∀m∈c,LB m)→(∀m∈c,m.ok)→c.length+t.depth≤1000→PR GB prog 130 [eT t, .sl (c.map eL)] 2 225 ((aa5 t c).map eCl)
 | .leaf _,_,_,_,_,hc,hk,hn=>amA hc hk (by omega)
 | .node l x y,c,hb,ho,hs,hc,hk,hn=>anJ hc hk hb.1 ho.1 hn hs (fun a b d=>aoQ hb.2.1 ho.2.1 (by have:(Tr.node l x y).size=1+x.size+y.size:=rfl;omega) a b d) (fun a b d=>aoQ hb.2.2 ho.2.2 (by have:(Tr.node l x y).size=1+x.size+y.size:=rfl;omega) a b d)
def aok(ps:List (List LnQ×Bool)):List (List LnQ):=(ps.filter (·.2)).map (·.1)
theorem aq6{ps:List (List LnQ×Bool)}{k:Nat}{b:Bool}{e:List LnQ}(h:ps[k]? =some (e,b)):aok (ps.drop k)=(if b then [e] else [])++aok (ps.drop (k+1)):=by
 obtain⟨h1,h2⟩:=aL.1 h
 rw[bZ h1,h2]
 unfold aok
 cases b<;>simp
theorem aya{t:Tr}{ps:List (List LnQ×Bool)}(h:ps=aa5 t [])(hb:t.all LB)(ho:t.all LnQ.ok)(hd:t.depth≤1000)(hs:t.size≤100000):PR GB prog 130 [eT t, .sl []] 2 225 (ps.map eCl):=h▸aoQ (c:=[]) hb ho hs (fun m h=>by cases h) (fun m h=>by cases h) (by rw[fN];omega)
theorem aGh{t:Tr}(hb:t.all LB)(ho:t.all LnQ.ok)(hd:t.depth≤1000)(hs:t.size≤100000):PF GB prog 61 [eT t] (.sl ((aok (aa5 t [])).map eSd)):=by
 obtain⟨ps,hps⟩: ∃ps,ps=aa5 t []:=⟨_,rfl⟩
 have hpl:=ael t []
 rw[←hps] at hpl
 have hml:(ps.map eCl).length=ps.length:=aK ..
 refine fn func61 J J ntmps61 J J (fun C=>?_)
 refine cr (fu:=⟨1⟩) rfl (aya hps hb ho hd hs) rfl<|?_
 refine eqF 8 (.d (vI (ps.length:Nat))) rfl (by rw[hml]<;>rfl) ?_
 refine gx rfl<|?_
 refine nr 3 3 126 1 J J J ?_
 refine lp (X:=List (List LnQ)×Nat) (fun⟨acc,k⟩=>[(9, .d (vI (k:Nat))),(3, .rw 3)]) (fun⟨acc,k⟩=>[(3,some (.b 126 1 (acc.map eSd) true))]) (fun⟨acc,k⟩=>acc++aok (ps.drop k)=aok ps∧k≤ps.length) (fun⟨acc,k⟩=>ps.length-k) ⟨[],0⟩ rfl ⟨rfl,bX _⟩ (fun _=>rfl) (fun⟨acc,k⟩ hk=>?_)
 try dsimp only at hk⊢
 obtain⟨h1,h2⟩:=hk
 have hal:acc.length≤ps.length:=by
  have q1:=congrArg List.length h1
  have q2:(aok ps).length≤ps.length:=by unfold aok;rw[aK];exact kX ..
  rw[aY] at q1;omega
 have ham:(acc.map eSd).length=acc.length:=aK ..
 refine br J J J (fun hc10=>?_) (fun hc10=>?_)
 ·
  obtain⟨⟨e,b⟩,hx⟩: ∃x,ps[k]? =some x:=⟨_,aQ (by omega)⟩
  refine lb _ rfl (aav hx) rfl<|?_
  refine bb J J J (fun hc14=>?_) (fun hc14=>?_)
  ·
   refine rf J J<|ap ((acc++[e]).map eSd) rfl (by rw[bU]<;>rfl) (aCT [e]) rfl<|?_
   refine rnE 19 3 rfl ?_
   exact at_ ⟨acc++[e],k+1⟩ (by dsimp only;exact⟨⟨by rw[←h1,aq6 hx,if_pos hc14];simp,by omega⟩,(by omega)⟩)
  ·
   exact at_ ⟨acc,k+1⟩ (by dsimp only;exact⟨⟨by rw[←h1,aq6 hx,if_neg (by simp at hc14;rw[hc14];decide)];rfl,by omega⟩,(by omega)⟩)
 ·
  obtain rfl:k=ps.length:=by omega
  obtain rfl:acc=aok ps:=by rw[fV] at h1;simpa[aok] using h1
  subst hps
  refine fzE 3 rfl ?_
  exact rz J J
end Go.Sx
end
