import Derived.Test.YtidmgdlbilojcaaGreatDoorMc17
set_option linter.unusedSimpArgs false
set_option maxHeartbeats 2000000
set_option maxRecDepth 100000
set_option linter.unusedVariables false
section
namespace Go.Sx
open Go Go.Proofs Tryz
variable {GB:Gh}
theorem ar3(l m:LnQ):l.dir.cross m.dir=(crossI l m:Rat):=by
 unfold PtQ.cross LnQ.dir crossI
 rw[kV,cV,cV]
 grind
theorem aA8{l m:LnQ}(h:0<Int.sign (l.dir.cross m.dir).num):crossI l m≠0:=fun e=>by
 rw[acG,ar3,e] at h;exact absurd h (by decide)
theorem anb{l m:LnQ}(h:crossI l m≠0):l.nor.cross m.nor≠0:=fun e=>by
 have:l.nor.cross m.nor=(crossI l m:Rat):=by
  unfold PtQ.cross LnQ.nor crossI
  rw[kV,cV,cV]
  grind
 rw[this] at e
 exact h (dQ.1 e)
theorem azx{l m:LnQ}(h:crossI l m≠0):abE l m=⟨((l.b:Rat)*(m.c:Rat)-(l.c:Rat)*(m.b:Rat))/l.nor.cross m.nor,((l.c:Rat)*(m.a:Rat)-(l.a:Rat)*(m.c:Rat))/l.nor.cross m.nor⟩:=by
 have e1:(meetX l m:Rat)=(l.b:Rat)*(m.c:Rat)-(l.c:Rat)*(m.b:Rat):=by unfold meetX;rw[kV,cV,cV];grind
 have e2:(meetY l m:Rat)=(l.c:Rat)*(m.a:Rat)-(l.a:Rat)*(m.c:Rat):=by unfold meetY;rw[kV,cV,cV];grind
 have e3:(crossI l m:Rat)=l.nor.cross m.nor:=by unfold PtQ.cross LnQ.nor crossI;rw[kV,cV,cV];grind
 unfold abE
 rw[if_neg h,e1,e2,e3]
theorem ag7: ∀{t:Tr} {c:aae} {x:Bool×aae},t.all LB→t.all LnQ.ok→ab1 c→x∈t.parts c→ab1 x.2∧x.2.length≤c.length+t.depth
 | .leaf b,c,x,_,_,hc,h=>by
  rw[Tr.parts,aV] at h
  subst h
  exact⟨hc,mV _ _⟩
 | .node l u v,c,x,hb,ho,hc,h=>by
  have hl:=hb.1
  have hd:(Tr.node l u v).depth=1+max u.depth v.depth:=rfl
  rw[Tr.parts] at h
  rcases bY.1 h with h|h
  ·split at h
   ·obtain⟨k1,k2⟩:=ag7 hb.2.1 ho.2.1 (ahT ho.1 hc) h
    have:=aft c l
    exact⟨k1,by omega⟩
   ·cases h
  ·split at h
   ·obtain⟨k1,k2⟩:=ag7 hb.2.2 ho.2.2 (ahT ho.1.rev hc) h
    have:=aft c l.rev
    exact⟨k1,by omega⟩
   ·cases h
theorem ahd(t:Tr):(aas t).length≤t.size+1:=by
 unfold aas
 rw[aK]
 exact cW (kZ ..) (aet t [])
theorem adG{t:Tr}(hb:t.all LB)(ho:t.all LnQ.ok): ∀c∈aas t,c.length≤t.depth:=fun c hc=>by
 have:=(ag7 hb ho ab1.nil (ac1.1 hc)).2
 simpa using this
theorem ahf{t:Tr}(hb:t.all LB)(ho:t.all LnQ.ok): ∀c∈aas t,∀s∈c,LB s.l:=fun c hc s hs=>((ag7 hb ho ab1.nil (ac1.1 hc)).1 s hs).lb
theorem aE4(l:List PtQ):adh 6 (l.map eZ):=fun d hd=>by
 obtain⟨x,_,rfl⟩:=bJ.1 hd
 exact⟨rfl,rfl⟩
def eRz(v:List PtQ):DV:= .sl (v.map eZ)
def eRa(v:List PtQ):DV:= .sl (v.map ePt)
theorem aff{α:Type}{vs:List α}{f:α→Bool}{k:Nat}{v:α}(h:vs[k]? =some v):(vs.drop k).all f=(f v&&(vs.drop (k+1)).all f):=by
 obtain⟨h1,h2⟩:=aS.1 h
 rw[bQ h1,h2,List.all_cons]
theorem azY{l m:LnQ}[hl:LB l][hm:LB m](hz:crossI l m≠0):PF GB prog 146 [eLn l,eLn m] (.tp [eZ (abE l m),vB true]):=by
 haveI:=BPt.nor l
 haveI:=BPt.nor m
 refine fn func146 J J ntmps146 J J (fun C=>?_)
 refine cl rfl (ank (l:=l)) rfl<|cl rfl (ank (l:=m)) rfl<|cl rfl (ag3 (p:=l.nor) (q:=m.nor) (i:=97) (j:=97)) rfl<|cl (fu:=⟨0⟩) rfl (ajX (q:=l.nor.cross m.nor)) rfl<|?_
 refine eqF 15 (.d (vB false)) rfl (by rw[decide_eq_false (anb hz)]) ?_
 refine kbF 15 rfl ?_
 refine gx rfl<|cl rfl (abG (p:=(l.b:Rat)) (q:=(m.c:Rat)) (i:=97) (j:=97)) rfl<|cl rfl (abG (p:=(l.c:Rat)) (q:=(m.b:Rat)) (i:=97) (j:=97)) rfl<|?_
 refine cl rfl (ah5 (p:=(l.b:Rat)*(m.c:Rat)) (q:=(l.c:Rat)*(m.b:Rat))) rfl<|cl rfl (aks (p:=(l.b:Rat)*(m.c:Rat)-(l.c:Rat)*(m.b:Rat)) (q:=l.nor.cross m.nor)) rfl<|?_
 refine cl rfl (abG (p:=(l.c:Rat)) (q:=(m.a:Rat)) (i:=97) (j:=97)) rfl<|cl rfl (abG (p:=(l.a:Rat)) (q:=(m.c:Rat)) (i:=97) (j:=97)) rfl<|?_
 refine cl rfl (ah5 (p:=(l.c:Rat)*(m.a:Rat)) (q:=(l.a:Rat)*(m.c:Rat))) rfl<|cl rfl (aks (p:=(l.c:Rat)*(m.a:Rat)-(l.a:Rat)*(m.c:Rat)) (q:=l.nor.cross m.nor)) rfl<|?_
 exact rz rfl (by rw[azx hz];rfl)
theorem as8{c:aae}(hb: ∀s∈c,LB s.l)(hn:c.length≤100000):PF GB prog 80 [eC c] (.sl ((abr (c.map (·.l))).map eZ)):=by
 have hml:(c.map eFr).length=c.length:=aK ..
 obtain⟨L,hL⟩: ∃L,L=c.map (·.l):=⟨_,rfl⟩
 have hLl:L.length=c.length:=by rw[hL,aK]
 refine fn (fu:=⟨15⟩) func80 J J ntmps80 J J (fun C=>?_)
 refine eqF 10 (.d (vI (c.length:Nat))) rfl (by rw[hml]<;>rfl) ?_
 refine gx rfl<|?_
 refine nr 3 3 146 6 J J J ?_
 refine lp (X:=List PtQ×Nat) (fun⟨acc,k⟩=>[(11, .d (vI (k:Nat))),(3, .rw 3)]) (fun⟨acc,k⟩=>[(3,some (.b 146 6 (acc.map eZ) true))]) (fun⟨acc,k⟩=>acc=(List.range k).flatMap (auU L)∧k≤c.length) (fun⟨acc,k⟩=>c.length-k) ⟨[],0⟩ rfl ⟨rfl,bX _⟩ (fun _=>rfl) (fun⟨acc,k⟩ hk=>?_)
 try dsimp only at hk⊢
 obtain⟨h1,h2⟩:=hk
 have hal:=aiG L k
 rw[←h1] at hal
 have ham:(acc.map eZ).length=acc.length:=aK ..
 refine br J J J (fun hc12=>?_) (fun hc12=>?_)
 ·
  obtain⟨s,hx⟩: ∃u,c[k]? =some u:=⟨_,aQ (by omega)⟩
  obtain⟨u,hw⟩: ∃w,c[(k+1)%c.length]? =some w:=⟨_,aQ (dX _ (by omega))⟩
  haveI:=hb s (aU hx)
  haveI:=hb u (aU hw)
  have hxl:L[k]? =some s.l:=by rw[hL,cJ,hx];rfl
  have hwl:L[(k+1)%L.length]? =some u.l:=by rw[hLl,hL,cJ,hw];rfl
  refine ix (fu:=⟨13⟩) _ rfl (aav hx) rfl<|?_
  refine eqF 20 (.d (vI (c.length:Nat))) rfl (by rw[hml]<;>rfl) ?_
  refine gx (fu:=⟨1⟩) rfl<|?_
  refine eqF 21 (.d (vI (((k+1)%c.length:Nat):Int))) J J ?_
  refine gx rfl<|ix _ rfl (aav hw) rfl<|cl rfl (ak5 (l:=s.l)) rfl<|cl rfl (ak5 (l:=u.l)) rfl<|cl rfl (ag3 (p:=s.l.dir) (q:=u.l.dir) (i:=97) (j:=97)) rfl<|?_
  refine cl rfl (adp (q:=s.l.dir.cross u.l.dir)) rfl<|?_
  refine br J J J (fun hc32=>?_) (fun hc32=>?_)
  ·
   refine cl rfl (azY (l:=s.l) (m:=u.l) (aA8 hc32)) rfl<|rf J J<|ap ((acc++[abE s.l u.l]).map eZ) rfl (by rw[bU]<;>rfl) (aE4 [abE s.l u.l]) rfl<|?_
   refine rnE 44 3 rfl ?_
   exact at_ ⟨acc++[abE s.l u.l],k+1⟩ (by dsimp only;exact⟨⟨by rw[aiM,ajO hxl hwl,if_pos hc32,←h1],by omega⟩,(by omega)⟩)
  ·
   exact at_ ⟨acc,k+1⟩ (by dsimp only;exact⟨⟨by rw[aiM,ajO hxl hwl,if_neg hc32,←h1,nQ],by omega⟩,(by omega)⟩)
 ·
  have hS:abr L=acc:=by unfold abr;rw[hLl,h1,show k=c.length by omega]
  refine fzE 3 rfl ?_
  exact rz rfl (by rw[←hL,hS];rfl)
theorem azi{c:aae}(hn:c.length≤100000):PF GB prog 44 [eC c] (vB (ae7 c)):=by
 have hml:(c.map eFr).length=c.length:=aK ..
 refine fn (fu:=⟨10⟩) func44 J J ntmps44 J J (fun C=>?_)
 refine eqF 6 (.d (vI (c.length:Nat))) rfl (by rw[hml]<;>rfl) ?_
 refine gx rfl<|?_
 refine lp (X:=Nat) (fun k=>[(7, .d (vI (k:Nat)))]) (fun k=>[]) (fun k=>(c.drop k).all (fun s:FrQ=>!s.v.nl&&!s.v.nh)=c.all (fun s:FrQ=>!s.v.nl&&!s.v.nh)∧k≤c.length) (fun k=>c.length-k) 0 rfl ⟨rfl,bX _⟩ (fun _=>rfl) (fun k hk=>?_)
 obtain⟨h1,h2⟩:=hk
 refine br (fu2:=⟨9⟩) J J J (fun hc8=>?_) (fun hc8=>?_)
 ·
  obtain⟨s,hx⟩: ∃u,c[k]? =some u:=⟨_,aQ (by omega)⟩
  refine ix _ rfl (aav hx) rfl<|?_
  refine csb 14 J J J (fun hg14=>?_) (fun hg14=>?_)
  ·
   have hF:ae7 c=false:=by unfold ae7;rw[←h1,aff hx,hg14];simp
   exact rz rfl (by rw[hF];rfl)
  ·
   refine bb J J J (fun hc18=>?_) (fun hc18=>?_)
   ·
    have hF:ae7 c=false:=by unfold ae7;rw[←h1,aff hx,hc18];simp
    exact rz rfl (by rw[hF];rfl)
   ·
    exact at_ (k+1) ⟨⟨by rw[←h1,aff hx,hg14,hc18];rfl,by omega⟩,(by omega)⟩
 ·
  have hT:ae7 c=decide ((0:Int)<(c.length:Nat)):=by unfold ae7;rw[←h1,fS (by omega)];cases c with|nil=>rfl|cons a b=>simp
  refine eqF 21 (.d (vI (c.length:Nat))) rfl (by rw[hml]<;>rfl) ?_
  refine gx rfl<|?_
  exact rz rfl (by rw[hT];rfl)
def adt(v:List PtQ):List (PtQ×PtQ):=(List.range v.length).map fun i=>(v.getD i ⟨0,0⟩,v.getD ((i+1)%v.length) ⟨0,0⟩)
def acP(cs:List (List LnQ)):List (PtQ×PtQ):=cs.flatMap fun c=>adt (abr c)
def abN(cs:List aae):List (List LnQ):=cs.map fun c=>c.map (·.l)
def eZZ(p q:PtQ):DV:= .ag [vI (fn_ p.x),vI (fd_ p.x),fp_ p.x,vI (fn_ p.y),vI (fd_ p.y),fp_ p.y,vI (fn_ q.x),vI (fd_ q.x),fp_ q.x,vI (fn_ q.y),vI (fd_ q.y),fp_ q.y]
def edE(x:PtQ×PtQ):List DV:=[eZZ x.1 x.2,eF (x.1.cross x.2)]
theorem apI{α β:Type}(f:α→List β): ∀{l:List α} {k:Nat} {x:α} {i:Nat} {y:β},l[k]? =some x→(f x)[i]? =some y→(l.flatMap f)[((l.take k).flatMap f).length+i]? =some y
 |z::t,0,x,i,y,h,e=>by
  cases h
  simp only[nM,List.flatMap_nil,gX,eJ,kQ]
  rw[dR (aS.1 e).1];exact e
 |z::t,k+1,x,i,y,h,e=>by
  simp only[mZ,kQ,aR]
  rw[jZ (by omega)]
  rw[show(f z).length+((t.take k).flatMap f).length+i-(f z).length=((t.take k).flatMap f).length+i by omega]
  exact apI f (by simpa using h) e
theorem ase{α β:Type}(f:α→List β){l:List α}{k:Nat}{x:α}(h:l[k]? =some x):((l.take (k+1)).flatMap f).length=((l.take k).flatMap f).length+(f x).length:=by
 have:l.take (k+1)=l.take k++[x]:=by rw[iX,h];rfl
 rw[this,nL,aR];simp
theorem apr(v:List PtQ){i:Nat}{p q:PtQ}(h1:v[i]? =some p)(h2:v[(i+1)%v.length]? =some q):(adt v)[i]? =some (p,q):=by
 have hi:=(aS.1 h1).1
 unfold adt
 rw[cJ,sV hi,kJ,aX,aX,h1,h2]
 rfl
theorem amg(v:List PtQ):(adt v).length=v.length:=by unfold adt;simp
theorem ptE{C:Ctx}{n:Nat}{Q0:Exit→Act→World→Prop}{fr:FrX}{own:OwX}{ops:Array Oper}{r:List Oper}{K:List Kt}(k:Nat){l:List DV}(hl:aao fr k=some (.d (.pt l)))(h:CfS prog GB C n Q0 ((k, .ep l)::fr) own (.ops ops r K)):CfS prog GB C n Q0 fr own (.ops ops r K):=
 abo hl (fun ρ G y hy=>by
  obtain⟨b,m,rfl,h1,h2⟩:=akb.1 hy
  have e:=h2.len
  exact⟨b,0,m,m,rfl,h1,by rw[abz m 0 l.length (by omega),gT,←e,cM],h2⟩) h
theorem aqn{cs:List aae}{b:Nat}(hb: ∀c∈cs,∀s∈c,LB s.l)(hn: ∀c∈cs,c.length≤100000)(hl:cs.length≤1000000)(hpt: ∀x∈acP (abN cs),BPt x.1 b∧BPt x.2 b)(hb4:b≤40000000):It GB prog 147 [.pt [.sl (cs.map eC)]] ((acP (abN cs)).map edE):=by
 have hml:(cs.map eC).length=cs.length:=aK ..
 refine aH5 func147 J J ntmps147 rfl (fun _=>rfl) (fun l Jv Jx GB' hg H C hp hJ=>?_)
 obtain⟨n0,hn0⟩: ∃n0:Nat→Nat,n0=fun k=>(((abN cs).take k).flatMap fun c=>adt (abr c)).length:=⟨_,rfl⟩
 refine ptE 1 rfl<|gx rfl<|?_
 refine eqF 10 (.d (vI (cs.length:Nat))) rfl (by rw[hml]<;>rfl) ?_
 refine lpC (X:=Nat) (fun k=>[(0, .d (.v (.func (.yield l) #[] #[]))),(9, .d (.sl (cs.map eC))),(10, .d (vI (cs.length:Nat))),(11, .d (vI (k:Nat)))]) (fun k C=>k≤cs.length∧Jv (n0 k) C.G0 C.w0) (fun k=>cs.length-k) 0 hp ⟨bX _,by rw[hn0];exact hJ⟩ (fun _=>rfl) (fun k C1 hp1 hk=>?_)
 obtain⟨hk1,hJ1⟩:=hk
 refine br J J J (fun hc12=>?_) (fun hc12=>?_)
 ·obtain⟨c,hx⟩: ∃u,cs[k]? =some u:=⟨_,aQ (by omega)⟩
  have hcm:=aU hx
  have hxl:(abN cs)[k]? =some (c.map (·.l)):=by unfold abN;rw[cJ,hx];rfl
  refine ix _ rfl (aav hx) rfl<|cl rfl (as8 (c:=c) (hb c hcm) (hn c hcm)) rfl<|?_
  obtain⟨V,hV⟩: ∃V,V=abr (c.map (·.l)):=⟨_,rfl⟩
  rw[←hV]
  have hVl:(V.map eZ).length=V.length:=aK ..
  have hVs:V.length≤100000:=by
   have:=aiG (c.map (·.l)) (c.map (·.l)).length
   have h2:V.length≤(c.map (·.l)).length:=by rw[hV];exact this
   rw[aK] at h2
   exact cW h2 (hn c hcm)
  refine eqF 18 (.d (vI (V.length:Nat))) rfl (by rw[hVl]<;>rfl) ?_
  refine lpC (X:=Nat) (fun i=>[(0, .d (.v (.func (.yield l) #[] #[]))),(9, .d (.sl (cs.map eC))),(10, .d (vI (cs.length:Nat))),(11, .d (vI (k:Nat))),(5, .d (.sl (V.map eZ))),(17, .d (.sl (V.map eZ))),(18, .d (vI (V.length:Nat))),(19, .d (vI (i:Nat)))]) (fun i C=>i≤V.length∧Jv (n0 k+i) C.G0 C.w0) (fun i=>V.length-i) 0 hp1 ⟨bX _,hJ1⟩ (fun _=>rfl) (fun i C2 hp2 hi=>?_)
  obtain⟨hi1,hJ2⟩:=hi
  refine br J J J (fun hc20=>?_) (fun hc20=>?_)
  ·obtain⟨p,hpx⟩: ∃u,V[i]? =some u:=⟨_,aQ (by omega)⟩
   obtain⟨q,hqx⟩: ∃u,V[(i+1)%V.length]? =some u:=⟨_,aQ (dX _ (by omega))⟩
   have hpair:(acP (abN cs))[n0 k+i]? =some (p,q):=by
    rw[hn0]
    exact apI (fun c=>adt (abr c)) hxl (by rw[←hV];exact apr V hpx hqx)
   have hpq:=hpt _ (aU hpair)
   haveI:=hpq.1
   haveI:=hpq.2
   refine ix _ rfl (aav hpx) rfl<|?_
   refine eqF 29 (.d (vI (((i+1)%V.length:Nat):Int))) rfl (by rw[hVl]<;>rfl) ?_
   refine gx rfl<|ix _ rfl (aav hqx) rfl<|bar (len:=2) (s:=6) (e:=146) rfl (by kernel_rfl) (by kernel_rfl) rfl<|cl rfl (ag3 (p:=p) (q:=q) (i:=b) (j:=b) hb4 hb4) rfl<|?_
   refine drT (by kernel_rfl) rfl ?_
   refine cy [(0, .d (.v (.func (.yield l) #[] #[]))),(9, .d (.sl (cs.map eC))),(10, .d (vI (cs.length:Nat))),(11, .d (vI (k:Nat))),(5, .d (.sl (V.map eZ))),(17, .d (.sl (V.map eZ))),(18, .d (vI (V.length:Nat))),(19, .d (vI (i:Nat)))] H hp2 hJ2 rfl (by rw[cJ,hpair];rfl) rfl (by repeat (first|exact trivial|refine And.intro rfl ?_)) J J J (fun C3 hp3 hJ3=>?_) (fun C3 hp3 hJ3=>?_)
   ·exact atC (i+1) hp3 ⟨⟨by omega,hJ3⟩,by omega⟩
   ·exact aHs H hp3 (.inr hJ3) rfl
  ·have hi2:i=V.length:=by omega
   refine atC (k+1) hp2 ⟨⟨by omega,?_⟩,by omega⟩
   have e:n0 (k+1)=n0 k+i:=by
    rw[hn0]
    show _=_+i
    rw[hi2]
    have:=ase (fun c=>adt (abr c)) hxl
    rw[←hV,amg] at this
    exact this
   rw[e];exact hJ2
 ·refine aHs H hp1 (.inl ?_) rfl
  rw[aK]
  have e:n0 k=(acP (abN cs)).length:=by
   rw[hn0]
   show((List.take k (abN cs)).flatMap _).length=_
   rw[aW (by unfold abN;rw[aK];omega)];rfl
  rw[←e];exact hJ1
theorem avr{cs:List aae}:PMk GB prog 81 [.sl (cs.map eC)] 147 (.pt [.sl (cs.map eC)]):=by
 refine aIe func81 J J ntmps81 J J (fun C=>?_)
 refine fz 1 J J ?_
 refine aFT 1 rfl (fun GB' pv hg hp=>?_)
 refine mkG J J ?_
 exact aIf J J hp
theorem zF{G:Gh}{m:List Value}(h:IsLs G [vI 0,vI 0, .v (.pointer none)] m):IsLs G [vI (fn_ 0),vI (fd_ 0),fp_ 0] m:=by
 obtain⟨l,e,k⟩:=ab4.1 (aE7 G (.agg ⟨m⟩) (ab4.2 ⟨m,rfl,h⟩))
 cases e;exact k
def otQ(a b p:PtQ):Rat:=(b.x-a.x)*(p.y-a.y)-(b.y-a.y)*(p.x-a.x)
def wnQ(v w p:PtQ):Int:=(if v.y≤p.y∧ ¬w.y≤p.y∧0<otQ v w p then 1 else 0)-(if¬v.y≤p.y∧w.y≤p.y∧otQ v w p<0 then 1 else 0)
def ah9(v w q p:PtQ):Prop:= ∀s t:Rat,0≤s→s≤1→0≤t→t≤1→abi v w s≠abi q p t
theorem agp{a b:Rat}(h0:0≤a)(h1:a≤b)(hb:0<b):0≤a/b∧a/b≤1∧a/b*b=a:=by
 have e:a/b*b=a:=by grind
 generalize a/b=q at*
 refine⟨?_,?_,e⟩
 ·exact(aai hb).1 (by rw[e];exact h0)
 ·have:=(aai (s:=1-q) hb).1 (by grind)
  grind
theorem aDJ{q p x:PtQ}(hy:q.y<p.y)(h:otQ q p x=0)(h1:q.y≤x.y)(h2:x.y≤p.y): ∃t,0≤t∧t≤1∧x=abi q p t:=by
 obtain⟨a1,a2,a3⟩:=agp (a:=x.y-q.y) (b:=p.y-q.y) (by grind) (by grind) (by grind)
 refine⟨_,a1,a2,?_⟩
 generalize (x.y-q.y)/(p.y-q.y)=t at*
 obtain⟨X,Y⟩:=x
 unfold otQ at h
 unfold abi
 simp only at*
 have e:X=q.x+t*(p.x-q.x):=by
  have h3:(p.y-q.y)*(X-q.x)=(p.y-q.y)*(t*(p.x-q.x)):=by grind
  have h4:p.y-q.y≠0:=by grind
  have:=iW.1 (show(p.y-q.y)*(X-q.x-t*(p.x-q.x))=0 by grind)
  rcases this with h5|h5
  ·exact absurd h5 h4
  ·grind
 rw[e]
 congr 1
 grind
theorem aEI(q p v w:PtQ)(e:Rat):otQ q p (abi v w e)=otQ q p v+e*(otQ q p w-otQ q p v):=by
 unfold otQ abi;grind
theorem atv(v w:PtQ)(a b e:Rat):abi (abi v w a) (abi v w b) e=abi v w (a+e*(b-a)):=by
 unfold abi;simp only[PtQ.mk.injEq];constructor<;>grind
theorem awQ(v w:PtQ)(e:Rat):(abi v w e).y=v.y+e*(w.y-v.y):=rfl
theorem aGv{a b e lo hi:Rat}(h0:0≤e)(h1:e≤1)(ha:lo≤a)(hb:lo≤b)(ha2:a≤hi)(hb2:b≤hi):lo≤a+e*(b-a)∧a+e*(b-a)≤hi:=by
 have k1:=aab h0 (show 0≤b-lo by grind)
 have k2:=aab (show 0≤1-e by grind) (show 0≤a-lo by grind)
 have k3:=aab h0 (show 0≤hi-b by grind)
 have k4:=aab (show 0≤1-e by grind) (show 0≤hi-a by grind)
 constructor<;>grind
theorem as9{v w q p:PtQ}(hn:ah9 v w q p)(hy:q.y<p.y){a b:Rat}(a0:0≤a)(a1:a≤1)(b0:0≤b)(b1:b≤1)(ha:q.y≤(abi v w a).y∧(abi v w a).y≤p.y)(hb:q.y≤(abi v w b).y∧(abi v w b).y≤p.y)(h:otQ q p (abi v w a)<0):otQ q p (abi v w b)<0:=by
 by_cases k:otQ q p (abi v w b)<0
 ·exact k
 ·exfalso
  obtain⟨e0,e1,e2⟩:=agp (a:= -(otQ q p (abi v w a))) (b:=otQ q p (abi v w b)-otQ q p (abi v w a)) (by grind) (by grind) (by grind)
  generalize-(otQ q p (abi v w a))/(otQ q p (abi v w b)-otQ q p (abi v w a))=e at*
  have hz:otQ q p (abi v w (a+e*(b-a)))=0:=by rw[←atv,aEI];grind
  have hh:=aGv e0 e1 ha.1 hb.1 ha.2 hb.2
  rw[←awQ,atv] at hh
  obtain⟨t,t0,t1,ht⟩:=aDJ hy hz hh.1 hh.2
  have h01:=aGv e0 e1 a0 b0 a1 b1
  exact hn _ t h01.1 h01.2 t0 t1 ht
theorem aAg{v w q p:PtQ}(hn:ah9 v w q p)(hy:q.y<p.y): ∃r:Bool,∀s,0≤s→s≤1→q.y≤(abi v w s).y→(abi v w s).y≤p.y→(otQ q p (abi v w s)<0↔r=true):=by
 by_cases h: ∃s,0≤s∧s≤1∧(q.y≤(abi v w s).y∧(abi v w s).y≤p.y)∧otQ q p (abi v w s)<0
 ·obtain⟨s,s0,s1,s2,s3⟩:=h
  exact⟨true,fun t t0 t1 h1 h2=>⟨fun _=>rfl,fun _=>as9 hn hy s0 s1 t0 t1 s2 ⟨h1,h2⟩ s3⟩⟩
 ·exact⟨false,fun t t0 t1 h1 h2=>⟨fun k=>absurd ⟨t,t0,t1,⟨h1,h2⟩,k⟩ h,fun k=>by cases k⟩⟩
theorem apG(v w:PtQ):abi v w 0=v:=by unfold abi;cases v;simp only[PtQ.mk.injEq];constructor<;>grind
theorem auv(v w:PtQ):abi v w 1=w:=by unfold abi;cases w;simp only[PtQ.mk.injEq];constructor<;>grind
theorem ajv{v w:PtQ}{y:Rat}(h:(v.y≤y∧ ¬w.y≤y)∨(¬v.y≤y∧w.y≤y)): ∃s,0≤s∧s≤1∧(abi v w s).y=y:=by
 rcases h with⟨h1,h2⟩|⟨h1,h2⟩
 ·obtain⟨a1,a2,a3⟩:=agp (a:=y-v.y) (b:=w.y-v.y) (by grind) (by grind) (by grind)
  refine⟨_,a1,a2,?_⟩
  rw[awQ];grind
 ·obtain⟨a1,a2,a3⟩:=agp (a:=v.y-y) (b:=v.y-w.y) (by grind) (by grind) (by grind)
  refine⟨_,a1,a2,?_⟩
  rw[awQ];grind
theorem amT{v w p:PtQ}{s:Rat}(h:(abi v w s).y=p.y):otQ v w p=(w.y-v.y)*((abi v w s).x-p.x):=by
 unfold otQ
 unfold abi at*
 simp only at*
 rw[←h];grind
theorem ahR{a b:Rat}(ha:0<a):0<a*b↔0<b:=by rw[Rat.mul_comm];exact aaq ha
theorem alg{a b:Rat}(ha:a<0):a*b<0↔0<b:=by
 have:=ahR (a:= -a) (b:=b) (by grind)
 constructor
 ·intro h;exact this.1 (by grind)
 ·intro h;have:=this.2 h;grind
def bI(b:Prop)[Decidable b]:Int:=if b then 1 else 0
theorem asE{v w p:PtQ}{r:Prop}[Decidable r](h: ∀s,0≤s→s≤1→(abi v w s).y=p.y→(p.x<(abi v w s).x↔r)):wnQ v w p=if r then bI (v.y≤p.y)-bI (w.y≤p.y) else 0:=by
 unfold wnQ bI
 by_cases h1:v.y≤p.y<;>by_cases h2:w.y≤p.y
 ·simp[h1,h2]
 ·obtain⟨s,s0,s1,s2⟩:=ajv (.inl ⟨h1,h2⟩)
  have e:=amT s2
  have k:=h s s0 s1 s2
  have m:=ahR (a:=w.y-v.y) (b:=(abi v w s).x-p.x) (by grind)
  rw[←e] at m
  have m2:0<otQ v w p↔r:=by rw[m,←k];grind
  simp only[h1,h2,m2]
  by_cases q:r<;>simp[q]
 ·obtain⟨s,s0,s1,s2⟩:=ajv (.inr ⟨h1,h2⟩)
  have e:=amT s2
  have k:=h s s0 s1 s2
  have m:=alg (a:=w.y-v.y) (b:=(abi v w s).x-p.x) (by grind)
  rw[←e] at m
  have m2:otQ v w p<0↔r:=by rw[m,←k];grind
  simp only[h1,h2,m2]
  by_cases q:r<;>simp[q]
 ·simp[h1,h2]
def azg(q p u:PtQ):Int:=if q.y<u.y∧u.y≤p.y∧otQ q p u<0 then 1 else 0
theorem anN{v w q p:PtQ}(hn:ah9 v w q p)(hy:q.y<p.y):wnQ v w p-wnQ v w q=azg q p v-azg q p w:=by
 obtain⟨r,hr⟩:=aAg hn hy
 have ep:=asE (v:=v) (w:=w) (p:=p) (r:=r=true) fun s s0 s1 s2=>by
  rw[←hr s s0 s1 (by grind) (by grind)]
  have m:=ahR (a:=p.y-q.y) (b:=(abi v w s).x-p.x) (by grind)
  have:otQ q p (abi v w s)= -((p.y-q.y)*((abi v w s).x-p.x)):=by unfold otQ;rw[s2];grind
  rw[this]
  generalize (p.y-q.y)*((abi v w s).x-p.x)=z at*
  constructor
  ·intro k;have:=m.2 (by grind);grind
  ·intro k;have:=m.1 (by grind);grind
 have eq:=asE (v:=v) (w:=w) (p:=q) (r:=r=true) fun s s0 s1 s2=>by
  rw[←hr s s0 s1 (by grind) (by grind)]
  have m:=ahR (a:=p.y-q.y) (b:=(abi v w s).x-q.x) (by grind)
  have:otQ q p (abi v w s)= -((p.y-q.y)*((abi v w s).x-q.x)):=by unfold otQ;rw[s2];grind
  rw[this]
  generalize (p.y-q.y)*((abi v w s).x-q.x)=z at*
  constructor
  ·intro k;have:=m.2 (by grind);grind
  ·intro k;have:=m.1 (by grind);grind
 have fv:azg q p v=if r=true then bI (v.y≤p.y)-bI (v.y≤q.y) else 0:=by
  have h:=hr 0 (by decide) (by decide)
  rw[apG] at h
  unfold azg bI
  by_cases h1:v.y≤p.y<;>by_cases h2:v.y≤q.y
  ·have: ¬q.y<v.y:=by grind
   simp[h1,h2,this]
  ·have h3:q.y<v.y:=by grind
   have:=h (by grind) h1
   simp only[h1,h2,h3,this]
   by_cases q:r=true<;>simp[q]
  ·exfalso;grind
  ·simp[h1,h2]
 have fw:azg q p w=if r=true then bI (w.y≤p.y)-bI (w.y≤q.y) else 0:=by
  have h:=hr 1 (by decide) (by decide)
  rw[auv] at h
  unfold azg bI
  by_cases h1:w.y≤p.y<;>by_cases h2:w.y≤q.y
  ·have: ¬q.y<w.y:=by grind
   simp[h1,h2,this]
  ·have h3:q.y<w.y:=by grind
   have:=h (by grind) h1
   simp only[h1,h2,h3,this]
   by_cases q:r=true<;>simp[q]
  ·exfalso;grind
  ·simp[h1,h2]
 rw[ep,eq,fv,fw]
 by_cases q:r=true
 ·simp only[if_pos q];omega
 ·simp only[if_neg q]
theorem arw{v w q p:PtQ}(hn:ah9 v w q p)(hy:q.y=p.y):wnQ v w p=wnQ v w q:=by
 have key: ∀s,0≤s→s≤1→(abi v w s).y=p.y→(p.x<(abi v w s).x↔q.x<(abi v w s).x):=fun s s0 s1 s2=>by
  have no: ∀a b:Rat,a≤(abi v w s).x→(abi v w s).x<b→((a=q.x∧b=p.x)∨(a=p.x∧b=q.x))→False:=fun a b h1 h2 h3=>by
   obtain⟨a1,a2,a3⟩:=agp (a:=(abi v w s).x-a) (b:=b-a) (by grind) (by grind) (by grind)
   generalize ((abi v w s).x-a)/(b-a)=t at*
   rcases h3 with⟨e1,e2⟩|⟨e1,e2⟩
   ·refine hn s t s0 s1 a1 a2 ?_
    generalize hx:abi v w s=x at*
    obtain⟨X,Y⟩:=x
    unfold abi
    simp only[PtQ.mk.injEq] at*
    subst e1 e2
    constructor<;>grind
   ·refine hn s (1-t) s0 s1 (by grind) (by grind) ?_
    generalize hx:abi v w s=x at*
    obtain⟨X,Y⟩:=x
    unfold abi
    simp only[PtQ.mk.injEq] at*
    subst e1 e2
    constructor<;>grind
  constructor
  ·intro h
   by_cases k:q.x<(abi v w s).x
   ·exact k
   ·by_cases k2:(abi v w s).x=q.x
    ·exfalso
     refine hn s 0 s0 s1 (by decide) (by decide) ?_
     rw[apG]
     generalize abi v w s=x at*
     obtain⟨X,Y⟩:=x;obtain⟨A,B⟩:=q
     simp only[PtQ.mk.injEq] at*
     exact⟨k2,by grind⟩
    ·exact(no p.x q.x (by grind) (by grind) (.inr ⟨rfl,rfl⟩)).elim
  ·intro h
   by_cases k:p.x<(abi v w s).x
   ·exact k
   ·by_cases k2:(abi v w s).x=p.x
    ·exfalso
     refine hn s 1 s0 s1 (by decide) (by decide) ?_
     rw[auv]
     generalize abi v w s=x at*
     obtain⟨X,Y⟩:=x;obtain⟨A,B⟩:=p
     simp only[PtQ.mk.injEq] at*
     exact⟨k2,s2⟩
    ·exact(no q.x p.x (by grind) (by grind) (.inl ⟨rfl,rfl⟩)).elim
 by_cases hc:(v.y≤p.y∧ ¬w.y≤p.y)∨(¬v.y≤p.y∧w.y≤p.y)
 ·obtain⟨s,s0,s1,s2⟩:=ajv hc
  have uq: ∀t,(abi v w t).y=p.y→t=s:=fun t ht=>by
   rw[awQ] at ht s2
   have h4:w.y-v.y≠0:=by grind
   have:=iW.1 (show(w.y-v.y)*(t-s)=0 by grind)
   rcases this with h5|h5
   ·exact absurd h5 h4
   ·grind
  rw[asE (p:=p) (r:=p.x<(abi v w s).x) fun t _ _ ht=>by rw[uq t ht],asE (p:=q) (r:=p.x<(abi v w s).x) fun t _ _ ht=>by rw[uq t (by rw[ht,hy])];exact(key s s0 s1 s2).symm,hy]
 ·unfold wnQ
  rw[hy]
  by_cases h1:v.y≤p.y<;>by_cases h2:w.y≤p.y<;>simp[h1,h2] at hc⊢
theorem aBE(q p:PtQ)(t:Rat):abi p q t=abi q p (1-t):=by unfold abi;simp only[PtQ.mk.injEq];constructor<;>grind
theorem ah9.symm{v w q p:PtQ}(h:ah9 v w q p):ah9 v w p q:=fun s t s0 s1 t0 t1 e=>h s (1-t) s0 s1 (by grind) (by grind) (by rw[e,aBE])
def wnN(r:List ZP)(p:PtQ):Nat→Int
 |0=>0
 |k+1=>wnN r p k+wnQ (r.getD k (0,0)).q (acQ r k).q p
def akJ(r:List ZP)(q p:PtQ):Prop:= ∀k,k<r.length→ah9 (r.getD k (0,0)).q (acQ r k).q q p
theorem aqN{r:List ZP}{q p:PtQ}(h:akJ r q p)(hy:q.y<p.y): ∀k,k<r.length→wnN r p k-wnN r q k=azg q p (r.getD 0 (0,0)).q-azg q p (r.getD k (0,0)).q
 |0,_=>by simp[wnN]
 |k+1,hk=>by
  have ih:=aqN h hy k (by omega)
  have e:=anN (h k (by omega)) hy
  rw[ags (by omega)] at e
  rw[wnN,wnN,ags (by omega)]
  omega
theorem azy{r:List ZP}{q p:PtQ}(h:akJ r q p)(hy:q.y<p.y):wnN r p r.length=wnN r q r.length:=by
 cases hr:r.length with
 |zero=>rfl
 |succ n=>
  have ih:=aqN h hy n (by omega)
  have e:=anN (h n (by omega)) hy
  rw[aev (by omega)] at e
  rw[wnN,wnN,aev (by omega)]
  omega
theorem anX{r:List ZP}{q p:PtQ}(h:akJ r q p)(hy:q.y=p.y): ∀k,k≤r.length→wnN r p k=wnN r q k
 |0,_=>rfl
 |k+1,hk=>by rw[wnN,wnN,anX h hy k (by omega),arw (h k (by omega)) hy]
theorem avY{r:List ZP}{q p:PtQ}(h:akJ r q p):wnN r p r.length=wnN r q r.length:=by
 by_cases h1:q.y<p.y
 ·exact azy h h1
 ·by_cases h2:p.y<q.y
  ·exact(azy (fun k hk=>(h k hk).symm) h2).symm
  ·exact anX h (by grind) _ (aM _)
theorem avm(a b c:PtQ):ahr a b c=(otQ a b c).num.sign:=by
 unfold ahr otQ PtQ.cross adk
 congr 2
 grind
theorem aBt(a b:Rat):abd a b≤0↔a≤b:=by
 have:=ajU a b
 constructor
 ·intro h
  by_cases q:b<a
  ·have:=this.2 q;omega
  ·grind
 ·intro h
  by_cases q:0<abd a b
  ·have:=this.1 q;grind
  ·omega
theorem aDk(v w p:PtQ):aur v w p=wnQ v w p:=by
 unfold aur wnQ
 simp only[avm,acG,ahN,aBt]
theorem amd(r:List ZP)(p:PtQ): ∀k,arr r p k=wnN r p k
 |0=>rfl
 |k+1=>by rw[arr,wnN,amd r p k,aDk]
theorem au9{r:List ZP}{q p:PtQ}(h:akJ r q p):anr r p=anr r q:=by
 unfold anr;rw[amd,amd,avY h]
theorem aBz{v w p:PtQ}(h:v.y≤p.y)(k:w.y≤p.y):wnQ v w p=0:=by unfold wnQ;simp[h,k]
theorem aDc{v w p:PtQ}(h:p.y<v.y)(k:p.y<w.y):wnQ v w p=0:=by
 have h': ¬v.y≤p.y:=by grind
 have k': ¬w.y≤p.y:=by grind
 unfold wnQ;simp[h',k']
theorem aou{v w p:PtQ}(r:Bool)(h1:p.x<v.x↔r=true)(h2:p.x<w.x↔r=true)(h3:v.x<p.x↔r=false)(h4:w.x<p.x↔r=false):wnQ v w p=if r=true then bI (v.y≤p.y)-bI (w.y≤p.y) else 0:=by
 refine asE (r:=r=true) fun s s0 s1 _=>?_
 have e:(abi v w s).x-p.x=(1-s)*(v.x-p.x)+s*(w.x-p.x):=by unfold abi;grind
 cases r with
 |true=>
  have a:=h1.2 rfl
  have b:=h2.2 rfl
  refine⟨fun _=>rfl,fun _=>?_⟩
  by_cases q:s=0
  ·subst q;grind
  ·have k1:=aan (show 0<s by grind) (show 0<w.x-p.x by grind)
   have k2:=aab (show 0≤1-s by grind) (show 0≤v.x-p.x by grind)
   grind
 |false=>
  have a:=h3.2 rfl
  have b:=h4.2 rfl
  refine⟨fun k=>?_,fun k=>(by cases k)⟩
  exfalso
  have k1:=aab (show 0≤s by grind) (show 0≤p.x-w.x by grind)
  have k2:=aab (show 0≤1-s by grind) (show 0≤p.x-v.x by grind)
  grind
def ayv(R:Rat)(p:PtQ):Prop:=p.x< -R∨R<p.x∨p.y< -R∨R<p.y
theorem axz{r:List ZP}{P:ZP→Prop}(h: ∀v∈r,P v){k:Nat}(hk:k<r.length):P (r.getD k (0,0)):=h _ (agq hk)
theorem aCl{r:List ZP}{R:Rat}{p:PtQ}(hr: ∀v∈r, -R≤v.q.x∧v.q.x≤R∧ -R≤v.q.y∧v.q.y≤R)(hp:ayv R p):wnN r p r.length=0:=by
 have hv: ∀k,k<r.length→_:=fun k hk=>axz hr hk
 have hw: ∀k,k<r.length→_:=fun k hk=>hr _ (agB hk)
 have zero:(∀k,k<r.length→wnQ (r.getD k (0,0)).q (acQ r k).q p=0)→ ∀k,k≤r.length→wnN r p k=0:=fun h=>by
  intro k
  induction k with
  |zero=>intro _;rfl
  |succ k ih=>intro hk;rw[wnN,ih (by omega),h k (by omega)];rfl
 rcases hp with h|h|h|h
 ·have tele: ∀k,k<r.length→wnN r p k=bI ((r.getD 0 (0,0)).q.y≤p.y)-bI ((r.getD k (0,0)).q.y≤p.y):=by
   intro k
   induction k with
   |zero=>intro _;rw[wnN];omega
   |succ k ih=>
    intro hk
    have e:=aou (v:=(r.getD k (0,0)).q) (w:=(acQ r k).q) (p:=p) true (by have:=hv k (by omega);constructor<;>grind) (by have:=hw k (by omega);constructor<;>grind) (by have:=hv k (by omega);constructor<;>grind) (by have:=hw k (by omega);constructor<;>grind)
    rw[if_pos rfl,ags (by omega)] at e
    rw[wnN,ih (by omega),ags (by omega),e]
    omega
  cases hr':r.length with
  |zero=>rfl
  |succ n=>
   have e:=aou (v:=(r.getD n (0,0)).q) (w:=(acQ r n).q) (p:=p) true (by have:=hv n (by omega);constructor<;>grind) (by have:=hw n (by omega);constructor<;>grind) (by have:=hv n (by omega);constructor<;>grind) (by have:=hw n (by omega);constructor<;>grind)
   rw[if_pos rfl,aev (by omega)] at e
   rw[wnN,tele n (by omega),aev (by omega),e]
   omega
 ·refine zero (fun k hk=>?_) _ (aM _)
  have e:=aou (v:=(r.getD k (0,0)).q) (w:=(acQ r k).q) (p:=p) false (by have:=hv k (by omega);constructor<;>grind) (by have:=hw k (by omega);constructor<;>grind) (by have:=hv k (by omega);constructor<;>grind) (by have:=hw k (by omega);constructor<;>grind)
  rw[e,if_neg (by decide)]
 ·exact zero (fun k hk=>aDc (by have:=hv k hk;grind) (by have:=hw k hk;grind)) _ (aM _)
 ·exact zero (fun k hk=>aBz (by have:=hv k hk;grind) (by have:=hw k hk;grind)) _ (aM _)
theorem ahK{l:LnQ}: ∀{c:List LnQ} {v:IvQ},(ach l c v).2=true→ab9 l c v=some (ach l c v).1
 |[],v,_=>rfl
 |m::t,v,h=>by
  rw[ach] at h⊢
  rw[ab9]
  split
  ·rename_i e;rw[if_pos e] at h;exact ahK h
  ·rename_i e
   rw[if_neg e] at h
   split
   ·rename_i k;rw[if_pos k] at h;exact ahK h
   ·rename_i k;rw[if_neg k] at h;cases h
theorem ao2{v:IvQ}(h:v.Pos):v.ins (abF v):=by
 obtain⟨lo,hi,nl,nh⟩:=v
 unfold IvQ.Pos at h
 unfold abF IvQ.ins
 cases nl<;>cases nh<;>simp at* <;>grind
theorem akT{p v:PtQ}: ∀{c:List LnQ} {s:Rat},0<s→0<agb p v c s∧agb p v c s≤s∧ ∀m∈c,0<m.value p→m.nor.dot v<0→agb p v c s≤ -(m.value p/m.nor.dot v)/2
 |[],s,h=>⟨h,fU,fun m hm=>by cases hm⟩
 |m::t,s,h=>by
  have hk:m.value (adk p v ((1:Int):Rat))-m.value p=m.nor.dot v:=by rw[abK];grind
  have key:0<aca p v m s∧aca p v m s≤s∧(0<m.value p→m.nor.dot v<0→aca p v m s≤ -(m.value p/m.nor.dot v)/2):=by
   unfold aca al1
   simp only[hk,abV,acG,afg]
   split
   ·rename_i e;exact⟨h,fU,fun _ k=>by rw[e] at k;exact absurd k (by decide)⟩
   ·split
    ·rename_i e;exact⟨h,fU,fun k=>by rw[e] at k;exact absurd k (by decide)⟩
    ·split
     ·rename_i e
      split
      ·exact⟨by grind,by grind,fun _ _=>fU⟩
      ·exact⟨h,fU,fun _ _=>by grind⟩
     ·rename_i e
      exact⟨h,fU,fun k1 k2=>absurd (aqp k2 k1) e⟩
  obtain⟨a1,a2,a3⟩:=key
  obtain⟨b1,b2,b3⟩:=akT (p:=p) (v:=v) (c:=t) a1
  rw[agb]
  refine⟨b1,by grind,fun u hu k1 k2=>?_⟩
  rcases aT.1 hu with rfl|hu
  ·have:=a3 k1 k2;grind
  ·exact b3 u hu k1 k2
theorem aBO{c:List LnQ}{p v:PtQ}(h: ∀m∈c,0<m.value p∨(m.value p=0∧0<m.nor.dot v)):InL c (ar2 c p v):=fun m hm=>by
 obtain⟨s0,_,s2⟩:=akT (p:=p) (v:=v) (c:=c) (s:=((1:Int):Rat)) (by decide)
 unfold ar2
 generalize agb p v c ((1:Int):Rat)=s at*
 rw[abK]
 rcases h m hm with k|⟨k,k2⟩
 ·by_cases q:m.nor.dot v<0
  ·have h3:=s2 m hm k q
   have h4:=aqp q k
   have e:m.value p/m.nor.dot v*m.nor.dot v=m.value p:=by grind
   generalize m.value p/m.nor.dot v=z at*
   have h5:=aab (a:= -z/2-s) (b:= -m.nor.dot v) (by grind) (by grind)
   grind
  ·have:=aab (cN s0) (show 0≤m.nor.dot v by grind)
   grind
 ·have:=aan s0 k2
  grind
theorem axk{m:LnQ}(h:m.Ne):0<m.nor.dot (ahj m.dir):=by
 have:=afX h
 have e:m.nor.dot (ahj m.dir)=m.nor.dot m.nor:=by unfold ahj LnQ.dir LnQ.nor PtQ.dot;grind
 rw[e];exact this
theorem asM{c:List LnQ}(hok: ∀m∈c,m.ok)(hb:abY c=true):InL c (ab8 c c):=by
 have key: ∀t:List LnQ,(∀m∈t,m∈c)→(∃m∈t,(ab9 m c IvQ.all).isSome=true)→InL c (ab8 c t):=by
  intro t
  induction t with
  |nil=>rintro _ ⟨m,hm,_⟩;cases hm
  |cons m t ih=>
   intro hs hx
   rw[ab8]
   split
   ·rename_i e
    obtain⟨h1,h2⟩:=aek m c _ _ agc (ahK e)
    have h3:=((h2 _).1 (ao2 h1)).2
    have hmo:=(hok m (hs m aZ)).ne
    refine aBO fun u hu=>?_
    by_cases q:u=m
    ·subst q;exact .inr ⟨acf hmo _,axk hmo⟩
    ·exact .inl (h3 u hu q)
   ·rename_i e
    refine ih (fun u hu=>hs u (aJ _ hu)) ?_
    obtain⟨u,hu,h⟩:=hx
    rcases aT.1 hu with rfl|hu
    ·rw[adP] at e;exact absurd h e
    ·exact⟨u,hu,h⟩
 unfold abY at hb
 rw[gN,List.isEmpty_iff,jW] at hb
 rcases hb with rfl|⟨m,hm,h⟩
 ·exact fun m hm=>by cases hm
 ·exact key c (fun _ h=>h) ⟨m,hm,h⟩
theorem InL.seg{c:List LnQ}{q p:PtQ}{e:Rat}(hq:InL c q)(hp:InL c p)(h0:0≤e)(h1:e≤1):InL c (abi q p e):=fun m hm=>by
 rw[acE]
 have a:=hq m hm
 have b:=hp m hm
 by_cases z:e=0
 ·subst z;grind
 ·have k1:=aan (show 0<e by grind) b
  have k2:=aab (show 0≤1-e by grind) (cN a)
  grind
theorem InL.open{c:List LnQ}{q:PtQ}(u:PtQ)(h:InL c q): ∃e:Rat,0<e∧ ∀d,0≤d→d≤e→InL c (adk q u d):=by
 have hd:InD (c.map fun m=>(⟨m,IvQ.all⟩:FrQ)) q:=fun s hs=>by
  obtain⟨m,hm,rfl⟩:=bJ.1 hs
  exact h m hm
 obtain⟨e,he,ho⟩:=hd.open u
 exact⟨e,he,fun d d0 d1 m hm=>ho d d0 d1 ⟨m,IvQ.all⟩ (dV hm)⟩
theorem ahu(l:LnQ)(t u:Rat):l.at (t+u)=adk (l.at t) l.dir u:=by
 rw[←agT,←agT];unfold adk;simp only[PtQ.mk.injEq];constructor<;>grind
theorem aED(l:LnQ)(a b s:Rat):abi (l.at a) (l.at b) s=l.at (a+s*(b-a)):=by
 rw[←agT,←agT,←agT];unfold abi adk;simp only[PtQ.mk.injEq];constructor<;>grind
theorem aq7{l:LnQ}(h:l.Ne)(t:Rat):abv l (l.at t)=t:=by
 obtain⟨q,_,hq⟩:=amK h
 have h2:=afX h
 have e0:l.dir.dot l.dir=l.nor.dot l.nor:=by unfold LnQ.dir LnQ.nor PtQ.dot;grind
 have e1:(l.at t).dot l.dir=t*l.dir.dot l.dir:=by
  rw[←agT,hq];unfold adk LnQ.dir PtQ.dot;grind
 unfold abv
 rw[e1]
 rw[←e0] at h2
 generalize l.dir.dot l.dir=d at*
 have:d≠0:=by grind
 grind
theorem aq1{l:LnQ}(h:l.Ne){p:PtQ}(hp:l.value p=0):l.at (abv l p)=p:=by
 obtain⟨t,rfl⟩:=aww h hp
 rw[aq7 h]
theorem aBB(a:Int){g:Nat}(h:g∣a.natAbs):(g:Int)*zv (decide (a<0)) (a.natAbs/g)=a:=by
 obtain⟨k,hk⟩:=h
 by_cases g0:g=0
 ·subst g0;simp at hk⊢;omega
 have e:a.natAbs/g=k:=by rw[hk];exact Nat.mul_div_cancel_left k (iR g0)
 rw[e]
 unfold zv
 have hc:((g*k:Nat):Int)=(g:Int)*(k:Int):=by push_cast;rfl
 by_cases n:a<0
 ·simp only[n,decide_true,if_true];rw[sQ];omega
 ·simp only[n,decide_false];show(g:Int)*(k:Int)=a;omega
theorem aBV{a b c:Int}(h: ¬(a=0∧b=0)): ∃g:Int,0<g∧g*(mkL a b c).a=a∧g*(mkL a b c).b=b∧g*(mkL a b c).c=c:=by
 have hg:0<Nat.gcd (Nat.gcd a.natAbs b.natAbs) c.natAbs:=oX _ (iR fun e=>h ⟨mS.1 (nT e),mS.1 (nY e)⟩)
 refine⟨(Nat.gcd (Nat.gcd a.natAbs b.natAbs) c.natAbs:Nat),by omega,?_,?_,?_⟩
 ·exact aBB a (rL (mW _ _) (mW _ _))
 ·exact aBB b (rL (mW _ _) (nV _ _))
 ·exact aBB c (nV _ _)
theorem aw6{v w:ZP}(h:v≠w): ∃g:Rat,0<g∧(aol v.1 v.2 w.1 w.2).value v.q=0∧(aol v.1 v.2 w.1 w.2).value w.q=0∧w.q=adk v.q (aol v.1 v.2 w.1 w.2).dir g:=by
 obtain⟨m,n⟩:=v
 obtain⟨p,q⟩:=w
 have hne: ¬(asb n q=0∧asa m p=0):=fun e=>h (by unfold asb asa at e;rw[Prod.mk.injEq];omega)
 obtain⟨g,g0,ga,gb,gc⟩:=aBV (c:=aCo m n p q) hne
 dsimp only
 unfold aol
 generalize mkL (asb n q) (asa m p) (aCo m n p q)=l at*
 have g0':(0:Rat)<(g:Rat):=by exact_mod_cast g0
 have ra:(g:Rat)*(l.a:Rat)= -((q:Rat)-(n:Rat)):=by rw[←cV,ga];unfold asb;push_cast;grind
 have rb:(g:Rat)*(l.b:Rat)=(p:Rat)-(m:Rat):=by rw[←cV,gb];unfold asa;push_cast;grind
 have rc:(g:Rat)*(l.c:Rat)= -(-((q:Rat)-(n:Rat))*(m:Rat)+((p:Rat)-(m:Rat))*(n:Rat)):=by rw[←cV,gc];unfold aCo asb asa;push_cast;grind
 have z: ∀x:Rat,(g:Rat)*x=0→x=0:=fun x hx=>by
  rcases iW.1 hx with e|e
  ·rw[e] at g0';exact absurd g0' (by decide)
  ·exact e
 refine⟨g,g0',z _ ?_,z _ ?_,?_⟩
 ·rw[abl];unfold ZP.q iP;dsimp only;grind
 ·rw[abl];unfold ZP.q iP;dsimp only;grind
 ·unfold ZP.q iP adk LnQ.dir;simp only[PtQ.mk.injEq];constructor<;>grind
theorem aAz{v w:ZP}(h:v≠w)(ho:(ae3 v w).l.ok):(ae3 v w).l.at (ae3 v w).v.lo=v.q∧(ae3 v w).l.at (ae3 v w).v.hi=w.q∧(ae3 v w).v.lo<(ae3 v w).v.hi:=by
 obtain⟨g,g0,h1,h2,h3⟩:=aw6 h
 unfold ae3 at ho⊢
 dsimp only at ho⊢
 generalize aol v.1 v.2 w.1 w.2=l at*
 have e1:=aq1 ho.ne h1
 have e2:=aq1 ho.ne h2
 refine⟨e1,e2,?_⟩
 have:abv l w.q=abv l v.q+g:=by
  have e3:=ahu l (abv l v.q) g
  rw[e1,←h3] at e3
  rw[←e3,aq7 ho.ne]
 rw[this];grind
theorem ak2{r:List ZP}{k:Nat}: ∀{n:Nat},k<n→ae3 (r.getD k (0,0)) (acQ r k)∈afm r n
 |n+1,h=>by
  rw[afm]
  by_cases e:k=n
  ·subst e;exact cY _ (aV.2 rfl)
  ·exact cX _ (ak2 (by omega))
theorem axg{r:List ZP}(hr:aaQ r){c:List LnQ}(hc: ∀e∈acO r,∀t,e.v.ins t→ ¬InL c (e.l.at t)){q p:PtQ}(hq:InL c q)(hp:InL c p):akJ r q p:=fun k hk s t s0 s1 t0 t1 he=>by
 have hm:ae3 (r.getD k (0,0)) (acQ r k)∈acO r:=ak2 hk
 have ho:=((aii hr).2 _ hm).ok
 obtain⟨e1,e2,e3⟩:=aAz (hr.ne k hk) ho
 have hno:=hc _ hm
 have hx:=hq.seg hp t0 t1
 rw[←he,←e1,←e2,aED] at hx
 have hv: ∀u,(ae3 (r.getD k (0,0)) (acQ r k)).v.lo<u→u<(ae3 (r.getD k (0,0)) (acQ r k)).v.hi→ ¬InL c ((ae3 (r.getD k (0,0)) (acQ r k)).l.at u):=fun u h1 h2=>hno u ⟨.inr h1, .inr h2⟩
 generalize ae3 (r.getD k (0,0)) (acQ r k)=e at*
 have hb:=aGv s0 s1 (fU) (cN e3) (cN e3) (fU)
 generalize e.v.lo+s*(e.v.hi-e.v.lo)=u at*
 obtain⟨d,d0,hd⟩:=hx.open e.l.dir
 obtain⟨d',d0',hd'⟩:=hx.open (aj9 e.l.dir)
 by_cases h1:e.v.lo<u
 ·by_cases h2:u<e.v.hi
  ·exact hv u h1 h2 hx
  ·have eu:u=e.v.hi:=by grind
   obtain⟨z,z0,z1,z2⟩: ∃z:Rat,0<z∧z≤d'∧z<e.v.hi-e.v.lo:=by
    by_cases k:d'<(e.v.hi-e.v.lo)/2
    ·exact⟨d',d0',fU,by grind⟩
    ·exact⟨(e.v.hi-e.v.lo)/2,by grind,by grind,by grind⟩
   refine hv (u+ -z) (by grind) (by grind) ?_
   rw[ahu]
   have:=hd' z (cN z0) z1
   have e5:adk (e.l.at u) (aj9 e.l.dir) z=adk (e.l.at u) e.l.dir (-z):=by unfold adk aj9;simp only[PtQ.mk.injEq];constructor<;>grind
   rw[e5] at this;exact this
 ·have eu:u=e.v.lo:=by grind
  obtain⟨z,z0,z1,z2⟩: ∃z:Rat,0<z∧z≤d∧z<e.v.hi-e.v.lo:=by
   by_cases k:d<(e.v.hi-e.v.lo)/2
   ·exact⟨d,d0,fU,by grind⟩
   ·exact⟨(e.v.hi-e.v.lo)/2,by grind,by grind,by grind⟩
  refine hv (u+z) (by grind) (by grind) ?_
  rw[ahu]
  exact hd z (cN z0) z1
theorem av1{rs:List (List ZP)}{fill:Int}(hr: ∀r∈rs,aaQ r){c:List LnQ}(hc: ∀e∈abU rs,∀t,e.v.ins t→ ¬InL c (e.l.at t)){q p:PtQ}(hq:InL c q)(hp:InL c p):inR rs fill q=inR rs fill p:=by
 have key: ∀(rs:List (List ZP)),(∀r∈rs,aaQ r)→(∀e∈abU rs,∀t,e.v.ins t→ ¬InL c (e.l.at t))→ ∀n:Int,rs.foldl (fun n r=>n+anr r q) n=rs.foldl (fun n r=>n+anr r p) n:=by
  intro rs
  induction rs with
  |nil=>intro _ _ n;rfl
  |cons r t ih=>
   intro hr hc n
   rw[jT,jT,←au9 (axg (hr r aZ) (fun e he=>hc e (fW.2 ⟨r,aZ,he⟩)) hq hp)]
   exact ih (fun r h=>hr r (aJ _ h)) (fun e he=>hc e (by obtain⟨r,h1,h2⟩:=fW.1 he;exact fW.2 ⟨r,aJ _ h1,h2⟩)) _
 unfold inR
 rw[key rs hr hc]
theorem ano{cuts:List Rat}(h:cuts.Pairwise (· < ·)){i j:Nat}(hij:i<j)(hj:j<cuts.length):cuts.getD i 0<cuts.getD j 0:=by
 rw[aX,aX,aQ hj,aQ (by omega)]
 exact mN.1 h i j (by omega) hj hij
theorem alN{cuts:List Rat}{marks:List Bool}(h:cuts.Pairwise (· < ·)): ∀{k:Nat},∀v∈acq cuts marks (k+1),k<cuts.length→(v.nh=false∧v.hi≤cuts.getD k 0)∧(v.nl=true∨v.lo<cuts.getD k 0)
 |k,v,hv,hk=>by
  have hg:((adU cuts k).nh=false∧(adU cuts k).hi≤cuts.getD k 0)∧((adU cuts k).nl=true∨(adU cuts k).lo<cuts.getD k 0):=by
   unfold adU
   dsimp only
   refine⟨⟨by simp;omega,by rw[if_pos hk];exact fU⟩,?_⟩
   by_cases z:k=0
   ·left;simp[z]
   ·right;rw[if_neg z];exact ano h (by omega) hk
  have hold: ∀v∈acq cuts marks k,(v.nh=false∧v.hi≤cuts.getD k 0)∧(v.nl=true∨v.lo<cuts.getD k 0):=fun v hv=>by
   cases k with
   |zero=>cases hv
   |succ k=>
    have ih:=alN h v hv (by omega)
    have:=ano h (Nat.lt_succ_self k) hk
    exact⟨⟨ih.1.1,by have:=ih.1.2;grind⟩,ih.2.imp id fun z=>by grind⟩
  rw[acq] at hv
  split at hv
  ·split at hv
   ·split at hv
    ·rename_i w hw
     rcases bY.1 hv with q|q
     ·exact hold v ((rY _).subset q)
     ·rw[aV] at q;subst q
      exact⟨hg.1,(hold w (nW hw)).2⟩
    ·rcases bY.1 hv with q|q
     ·exact hold v q
     ·rw[aV] at q;subst q;exact hg
   ·rcases bY.1 hv with q|q
    ·exact hold v q
    ·rw[aV] at q;subst q;exact hg
  ·exact hold v hv
theorem amX{cuts:List Rat}{marks:List Bool}(h:cuts.Pairwise (· < ·)){x:Rat}{i:Nat}(hm:marks.getD i false=true)(hx:(adU cuts i).ins x): ∀{k:Nat},k≤cuts.length+1→i<k→ ∃v∈acq cuts marks k,v.ins x
 |k+1,hk,hi=>by
  by_cases e:i=k
  ·subst e
   rw[acq,if_pos hm]
   split
   ·rename_i h0
    split
    ·rename_i w hw
     refine⟨_,cY _ (aV.2 rfl),?_,hx.2⟩
     obtain⟨j,rfl⟩: ∃j,i=j+1:=⟨i-1,by omega⟩
     have:=(alN h w (nW hw) (by omega)).2
     have hl:=hx.1
     unfold adU at hl
     dsimp only at hl
     rw[if_neg (by omega),show j+1-1=j by omega] at hl
     have hl':cuts.getD j 0<x:=hl.resolve_left (by simp)
     exact this.imp id fun z=>by show w.lo<x;grind
    ·exact⟨_,cY _ (aV.2 rfl),hx⟩
   ·exact⟨_,cY _ (aV.2 rfl),hx⟩
  ·obtain⟨v,hv,hvx⟩:=amX h hm hx (k:=k) (by omega) (by omega)
   rw[acq]
   split
   ·split
    ·split
     ·rename_i w hw
      by_cases q:v=w
      ·subst q
       refine⟨_,cY _ (aV.2 rfl),hvx.1,?_⟩
       show(adU cuts k).nh=true∨x<(adU cuts k).hi
       obtain⟨j,rfl⟩: ∃j,k=j+1:=⟨k-1,by omega⟩
       obtain⟨⟨b1,b2⟩,_⟩:=alN h v hv (by omega)
       have hh:=hvx.2.resolve_left (by rw[b1];decide)
       unfold adU
       dsimp only
       by_cases z:j+1<cuts.length
       ·right;rw[if_pos z];have:=ano h (Nat.lt_succ_self j) z;grind
       ·left;simp;omega
      ·refine⟨v,cX _ ?_,hvx⟩
       obtain⟨l,hl⟩:=List.getLast?_eq_some_iff.1 hw
       rw[hl] at hv⊢
       rw[List.dropLast_concat]
       rcases bY.1 hv with z|z
       ·exact z
       ·rw[aV] at z;exact absurd z q
     ·exact⟨v,cX _ hv,hvx⟩
    ·exact⟨v,cX _ hv,hvx⟩
   ·exact⟨v,hv,hvx⟩
theorem aqf: ∀{l:List Rat} {i:Nat},i+1<l.length→(adI l).getD i 0=(l.getD i 0+l.getD (i+1) 0)/2
 |[],_,h=>by simp at h
 |[_],_,h=>by simp at h
 |a::b::t,0,_=>by simp[adI]
 |a::b::t,i+1,h=>by
  have:=aqf (l:=b::t) (i:=i) (by simp at h⊢;omega)
  rw[adI,lQ,this]
  simp only[lQ]
theorem aiE: ∀(l:List Rat) (a:Rat),(adI (a::l)).length=l.length
 |[],_=>rfl
 |b::t,a=>by rw[adI,bW,aiE t b,bW]
theorem ayg{cuts:List Rat}(h:cuts.Pairwise (· < ·)){i j:Nat}(hi:i≤cuts.length)(hj:j<cuts.length):(cuts.getD j 0<(ab6 cuts).getD i 0↔j<i)∧cuts.getD j 0≠(ab6 cuts).getD i 0:=by
 have mono: ∀{a b:Nat},a≤b→b<cuts.length→cuts.getD a 0≤cuts.getD b 0:=fun{a b} hab hb=>by
  by_cases e:a=b
  ·subst e;exact fU
  ·exact cN (ano h (by omega) hb)
 cases cuts with
 |nil=>simp at hj
 |cons a t=>
  have hl:(a::t).length=t.length+1:=rfl
  rw[ab6]
  cases i with
  |zero=>
   rw[sU]
   have:=mono (bX j) hj
   rw[sU] at this
   constructor
   ·constructor
    ·intro q;exfalso;grind
    ·intro q;omega
   ·intro q;grind
  |succ i=>
   rw[lQ]
   by_cases e:i<t.length
   ·have e1:(adI (a::t)++[(a::t).getLast (by simp)+1]).getD i 0=((a::t).getD i 0+(a::t).getD (i+1) 0)/2:=by
     rw[←aqf (by omega),aX,aX,dR (by rw[aiE];exact e)]
    rw[e1]
    have h1:=ano h (Nat.lt_succ_self i) (by omega)
    by_cases q:j≤i
    ·have:=mono q (by omega)
     constructor
     ·exact⟨fun _=>by omega,fun _=>by grind⟩
     ·grind
    ·have:=mono (show i+1≤j by omega) hj
     constructor
     ·exact⟨fun _=>by exfalso;grind,fun _=>by omega⟩
     ·grind
   ·have ei:i=t.length:=by omega
    have e1:(adI (a::t)++[(a::t).getLast (by simp)+1]).getD i 0=(a::t).getLast (by simp)+1:=by
     rw[aX,jZ (by rw[aiE];omega),aiE,ei];simp
    rw[e1]
    have:=aus h (by simp) ((a::t).getD j 0) (by rw[aX,aQ hj];exact bN _)
    constructor
    ·exact⟨fun _=>by omega,fun _=>by grind⟩
    ·grind
theorem am2(x:Rat): ∀{cuts:List Rat},cuts.Pairwise (· < ·)→ ∃i,i≤cuts.length∧ ∀j,j<cuts.length→(cuts.getD j 0<x↔j<i)
 |[],_=>⟨0,aM _,fun j hj=>by simp at hj⟩
 |a::t,h=>by
  rw[cK] at h
  by_cases q:a<x
  ·obtain⟨i,h1,h2⟩:=am2 x h.2
   refine⟨i+1,by simp;exact h1,fun j hj=>?_⟩
   cases j with
   |zero=>simp[q]
   |succ j=>rw[lQ,h2 j (by simpa using hj)];omega
  ·refine⟨0,bX _,fun j hj=>⟨fun k=>?_,fun k=>by omega⟩⟩
   exfalso
   cases j with
   |zero=>simp at k;grind
   |succ j=>
    rw[lQ] at k
    have hj':j<t.length:=by simpa using hj
    have:=h.1 (t.getD j 0) (by rw[aX,aQ hj'];exact bN _)
    grind
theorem ap0{out:List Rat}{s:IvQ}{y:Rat}:y∈anj out s↔y∈out∨(s.nl=false∧y=s.lo)∨(s.nh=false∧y=s.hi):=by
 unfold anj
 cases e1:s.nl<;>cases e2:s.nh<;>simp[acI]<;>grind
theorem atD{v:IvQ}{x:Rat}:acm [v] x=true↔v.ins x:=by
 unfold acm avU avU IvQ.ins
 have h1:=ajU x v.lo
 have h2:=afg x v.hi
 rw[decide_eq_true_eq]
 cases e1:v.nl<;>cases e2:v.nh<;>simp only[if_true,jV,if_false,false_or,true_or,h1,h2,and_true,true_and,show(0:Int)<1 from by decide,show(-1:Int)<0 from by decide]<;>grind
theorem avs{cuts:List Rat}{v:IvQ}(hl:v.nl=true∨v.lo∈cuts)(hh:v.nh=true∨v.hi∈cuts){x g:Rat}(ho: ∀u∈cuts,(u<x↔u<g)∧u≠x∧u≠g)(h:v.ins x):v.ins g:=by
 refine⟨?_,?_⟩
 ·rcases hl with e|e
  ·exact .inl e
  ·rcases h.1 with k|k
   ·exact .inl k
   ·exact .inr ((ho _ e).1.1 k)
 ·rcases hh with e|e
  ·exact .inl e
  ·rcases h.2 with k|k
   ·exact .inl k
   ·obtain⟨a,b,c⟩:=ho _ e
    right
    by_cases q:v.hi<g
    ·have:=a.2 q;grind
    ·grind
theorem avX{v w:IvQ}{t:Rat}(hv:v.ins t)(hw:w.ins t): ∃z∈ahB 2 [v] [w],z.ins t:=by
 have hmem: ∀y,y∈adc ([v]++[w])↔((v.nl=false∧y=v.lo)∨(v.nh=false∧y=v.hi))∨(w.nl=false∧y=w.lo)∨(w.nh=false∧y=w.hi):=fun y=>by
  show y∈anj (anj [] v) w↔_
  rw[ap0,ap0]
  simp
 have hasc:=(ahF ([v]++[w])).1
 have h0: ∀u∈adc ([v]++[w]),u≠t:=fun u hu e=>by
  subst e
  rcases(hmem u).1 hu with(⟨a,b⟩|⟨a,b⟩)|⟨a,b⟩|⟨a,b⟩
  ·have:=hv.1.resolve_left (by rw[a];decide);grind
  ·have:=hv.2.resolve_left (by rw[a];decide);grind
  ·have:=hw.1.resolve_left (by rw[a];decide);grind
  ·have:=hw.2.resolve_left (by rw[a];decide);grind
 have l1:v.nl=true∨v.lo∈adc ([v]++[w]):=by
  cases e:v.nl with
  |true=>exact .inl rfl
  |false=>exact .inr ((hmem _).2 (.inl (.inl ⟨e,rfl⟩)))
 have l2:v.nh=true∨v.hi∈adc ([v]++[w]):=by
  cases e:v.nh with
  |true=>exact .inl rfl
  |false=>exact .inr ((hmem _).2 (.inl (.inr ⟨e,rfl⟩)))
 have l3:w.nl=true∨w.lo∈adc ([v]++[w]):=by
  cases e:w.nl with
  |true=>exact .inl rfl
  |false=>exact .inr ((hmem _).2 (.inr (.inl ⟨e,rfl⟩)))
 have l4:w.nh=true∨w.hi∈adc ([v]++[w]):=by
  cases e:w.nh with
  |true=>exact .inl rfl
  |false=>exact .inr ((hmem _).2 (.inr (.inr ⟨e,rfl⟩)))
 unfold ahB anB
 generalize adc ([v]++[w])=cuts at*
 obtain⟨i,hi,ho⟩:=am2 t hasc
 have hord: ∀u∈cuts,(u<t↔u<(ab6 cuts).getD i 0)∧u≠t∧u≠(ab6 cuts).getD i 0:=fun u hu=>by
  obtain⟨j,hj,e⟩:=lL.1 hu
  have e':cuts.getD j 0=u:=by rw[aX,aQ hj];exact e
  obtain⟨g1,g2⟩:=ayg hasc hi hj
  have:=ho j hj
  rw[e'] at g1 g2 this
  exact⟨this.trans g1.symm,h0 u hu,g2⟩
 have hlen:(ab6 cuts).length=cuts.length+1:=afp
 refine amX hasc (i:=i) ?_ ?_ (by rw[aK,hlen];exact aM _) (by rw[aK,hlen];omega)
 ·rw[aX,cJ,aQ (by omega)]
  show agR 2 (acm [v] _) (acm [w] _)=true
  have e:(ab6 cuts)[i]'(by omega)=(ab6 cuts).getD i 0:=by rw[aX,aQ (by omega)];rfl
  rw[e,atD.2 (avs l1 l2 hord hv),atD.2 (avs l3 l4 hord hw)];rfl
 ·unfold adU IvQ.ins
  dsimp only
  refine⟨?_,?_⟩
  ·by_cases z:i=0
   ·left;simp[z]
   ·right;rw[if_neg z];exact(ho (i-1) (by omega)).2 (by omega)
  ·by_cases z:i=cuts.length
   ·left;simp[z]
   ·right
    rw[if_pos (by omega)]
    have a:=ho i (by omega)
    have b:=h0 (cuts.getD i 0) (by rw[aX,aQ (by omega)];exact bN _)
    have c: ¬cuts.getD i 0<t:=fun k=>by have:=a.1 k;omega
    grind
theorem amt{l m:LnQ}(h:crossI l m=0):l.cutK m=0:=by
 have e:l.cutK m= -(crossI l m:Rat):=by unfold LnQ.cutK LnQ.nor LnQ.dir PtQ.dot crossI;push_cast;grind
 rw[e,h];rfl
theorem axM{k:Rat}{side:Int}(hs:side=1∨side= -1)(h:0<(side:Rat)*k):k.num.sign=side:=by
 rcases hs with rfl|rfl
 ·exact(ahL k).2 (by grind)
 ·have:k.num.sign<0:=(ahN k).2 (by grind)
  have:=sT k.num
  omega
theorem auD{f:FrQ}{m:LnQ}{side:Int}(hs:side=1∨side= -1)(hl:f.l.Ne){t:Rat}(ht:f.v.ins t)(hm:0<(side:Rat)*m.value (f.l.at t)): ∃g∈aaX f m side,g.l=f.l∧g.v.ins t:=by
 have hv:=ace f.l m t
 have ho: ¬onB f.l m=true:=fun e=>by
  unfold onB at e
  rw[decide_eq_true_eq,abV] at e
  rw[amt e.1,show f.l.cutC m=m.value f.l.base from rfl,e.2] at hv
  rw[hv] at hm
  grind
 unfold aaX
 rw[if_neg ho]
 have hh: ∃w,adL f.l m side=[w]∧w.ins t:=by
  unfold adL
  by_cases hc:crossI f.l m=0
  ·rw[if_pos hc]
   rw[amt hc,show f.l.cutC m=m.value f.l.base from rfl] at hv
   rw[if_pos (axM hs (by rw[hv] at hm;grind))]
   exact⟨_,rfl,aAS t⟩
  ·rw[if_neg hc]
   have hp:=aer hl hc
   have hK:f.l.cutK m≠0:=fun e=>by
    have e2:f.l.cutK m= -(crossI f.l m:Rat):=by unfold LnQ.cutK LnQ.nor LnQ.dir PtQ.dot crossI;push_cast;grind
    rw[e2] at e
    have:(crossI f.l m:Rat)=0:=by grind
    exact hc (dQ.1 this)
   generalize hx:abv f.l (abE f.l m)=x at*
   have hv2: ∀u,m.value (f.l.at u)=f.l.cutK m*(u-x):=fun u=>by rw[ace,hp];grind
   rw[hv2] at hm
   have e1:m.value (f.l.at (x+1))=f.l.cutK m:=by rw[hv2];grind
   rw[e1]
   generalize f.l.cutK m=K at*
   by_cases q:K.num.sign=side
   ·rw[if_pos q]
    refine⟨_,rfl, .inr ?_, .inl rfl⟩
    show x<t
    rcases hs with rfl|rfl
    ·have:=(ahL K).1 q
     have:=(ahR this).1 (show 0<K*(t-x) by grind)
     grind
    ·have:=(ahN K).1 (by omega)
     have:=(alg this).1 (show K*(t-x)<0 by grind)
     grind
   ·rw[if_neg q]
    refine⟨_,rfl, .inl rfl, .inr ?_⟩
    show t<x
    have h3:=acX K
    rcases hs with rfl|rfl
    ·have kn:K<0:=by
      rcases h3 with h|h|h
      ·exact absurd h hK
      ·exact absurd ((ahL K).2 h) q
      ·exact h
     have:=(alg kn (b:=x-t)).1 (by grind)
     grind
    ·have kp:0<K:=by
      rcases h3 with h|h|h
      ·exact absurd h hK
      ·exact h
      ·exact absurd (by have:=(ahN K).2 h;have:=sT K.num;omega) q
     have:=(ahR kp (b:=x-t)).1 (by grind)
     grind
 obtain⟨w,e,hw⟩:=hh
 rw[e]
 obtain⟨z,hz,hzt⟩:=avX ht hw
 exact⟨⟨f.l,z⟩,dV hz,rfl,hzt⟩
def Cov(E:List FrQ)(c:List LnQ)(l:List FrQ):Prop:= ∀e∈E,∀t,e.v.ins t→InL c (e.l.at t)→ ∃f∈l,f.l=e.l∧f.v.ins t
theorem Cov.split{E l:List FrQ}{c:List LnQ}(h:Cov E c l)(hE: ∀e∈E,e.l.Ne){m:LnQ}{side:Int}(hs:side=1∨side= -1){m':LnQ}(hm': ∀p,m'.value p=(side:Rat)*m.value p):Cov E (c++[m']) (l.flatMap fun g=>aaX g m side):=fun e he t ht hin=>by
 obtain⟨h1,h2⟩:=abD.1 hin
 obtain⟨f,hf,ef,hft⟩:=h e he t ht h1
 rw[hm'] at h2
 obtain⟨g,hg,eg,hgt⟩:=auD (f:=f) hs (by rw[ef];exact hE e he) hft (by rw[ef];exact h2)
 exact⟨g,fW.2 ⟨f,hf,hg⟩,by rw[eg,ef],hgt⟩
theorem apg{acc:PtQ→Bool}{E:List FrQ}(hE: ∀e∈E,e.l.Ne)(ha: ∀(c:List LnQ) (q p:PtQ),(∀e∈E,∀t,e.v.ins t→ ¬InL c (e.l.at t))→InL c q→InL c p→acc q=acc p): ∀{n:Nat} {l:List FrQ} {c:List LnQ} {p:PtQ},(∀f∈l,FOk f)→Few n l→(∀m∈c,m.ok)→Cov E c l→InL c p→Off (aj7 acc n l c).lns p→(aj7 acc n l c).val p=acc p
 |n,[],c,p,_,_,hc,hcov,hp,_=>by
  have e:aj7 acc n [] c= .leaf (acc (ab8 c c)):=by cases n<;>rfl
  rw[e,Tr.val]
  exact ha c _ _ (fun e he t ht hin=>by obtain⟨f,hf,_⟩:=hcov e he t ht hin;cases hf) (asM hc ((aeu hc).2 ⟨p,hp⟩)) hp
 |0,f::t,_,_,_,hf,_,_,_,_=>by
  obtain⟨K,hK,hs⟩:=hf
  obtain⟨m,hm,_⟩:=hs f aZ
  have:K=[]:=bR (by omega)
  rw[this] at hm;cases hm
 |n+1,f::t,c,p,hok,hf,hc,hcov,hp,hoff=>by
  have fo:=hok f aZ
  have hok': ∀side,∀g∈(f::t).flatMap fun g=>aaX g f.l side,FOk g:=fun side g hg=>by
   obtain⟨q,hq,hg⟩:=fW.1 hg
   exact(aiu (hok q hq) fo.lb g hg).1
  rw[aj7] at hoff⊢
  by_cases q:0<f.l.value p
  ·rw[Tr.val_pos q]
   exact apg hE ha (hok' 1) (hf.split hok) (abS hc fo.ok) (hcov.split hE (.inl rfl) fun p=>by grind) (abD.2 ⟨hp,q⟩) hoff.x
  ·rw[Tr.val_neg q]
   have:=hoff.l
   exact apg hE ha (hok' (-1)) (hf.split hok) (abS hc fo.ok.rev) (hcov.split hE (.inr rfl) fun p=>by rw[aaV];grind) (abD.2 ⟨hp,by rw[aaV];grind⟩) hoff.y
theorem atS{rs:List (List ZP)}{fill:Int}(hr: ∀r∈rs,aaQ r){p:PtQ}(ho:Off (aBQ rs fill).lns p):(ae0 rs fill).val p=inR rs fill p:=by
 obtain⟨h1,h2⟩:=acM hr
 have hok:(aBQ rs fill).all LnQ.ok:=aeB fun f hf=>(h2 f hf).ok
 unfold ae0
 rw[Tr.val_restrict _ _ _ hok aaJ.nil (fun s hs=>by cases hs) ho]
 unfold aBQ at ho⊢
 refine apg (E:=abU rs) (fun e he=>(h2 e he).ok.ne) (fun c q p hno hq hp=>av1 hr hno hq hp) h2 ?_ (fun m hm=>by cases hm) (fun e he t ht _=>⟨e,he,rfl,ht⟩) (fun m hm=>by cases hm) ho
 exact⟨(abU rs).map (·.l),by rw[aK];exact aM _,fun f hf=>⟨f.l,dV hf, .inl rfl⟩⟩
theorem apa: ∀(c:aae) (A B:FrQ→Rat),(∀u∈c,0≤A u∧(0≤B u∨0<A u))→ ∃e:Rat,0<e∧ ∀u∈c,0≤A u+e*B u
 |[],_,_,_=>⟨1,by decide,fun u hu=>by cases hu⟩
 |s::t,A,B,h=>by
  obtain⟨e,e0,he⟩:=apa t A B fun u hu=>h u (aJ _ hu)
  obtain⟨h1,h2⟩:=h s aZ
  have hold: ∀q,0≤q→q≤e→ ∀u∈t,0≤A u+q*B u:=fun q q0 q1 u hu=>af7 (h u (aJ _ hu)).1 (he u hu) q0 q1
  by_cases hb:0≤B s
  ·refine⟨e,e0,fun u hu=>?_⟩
   rcases aT.1 hu with rfl|hu
   ·have:=aab (cN e0) hb;grind
   ·exact he u hu
  ·have ha:=h2.resolve_left hb
   have hq:0<A s/ -(B s):=(aaq (k:= -(B s)) (by grind)).1 (by rw[show A s/ -(B s)* -(B s)=A s by grind];exact ha)
   have hm:A s/ -(B s)* -(B s)=A s:=by grind
   generalize A s/ -(B s)=q at*
   by_cases k:q≤e
   ·refine⟨q,hq,fun u hu=>?_⟩
    rcases aT.1 hu with rfl|hu
    ·grind
    ·exact hold q (cN hq) k u hu
   ·refine⟨e,e0,fun u hu=>?_⟩
    rcases aT.1 hu with rfl|hu
    ·have:=aab (show 0≤q-e by grind) (show 0≤ -(B u) by grind)
     grind
    ·exact he u hu
theorem aqd(l m:LnQ)(t e:Rat):m.value (l.at (t+e))=m.value (l.at t)+e*m.nor.dot l.dir:=by
 rw[ahu,abK]
theorem ayX{s:FrQ}(h:s.v.Pos)(nh:s.v.nh=false):s.v.has s.v.hi:=by
 unfold IvQ.Pos at h
 refine⟨?_, .inr fU⟩
 rcases h with h|h|h
 ·exact .inl h
 ·rw[nh] at h;cases h
 ·exact .inr (cN h)
theorem ayR{s:FrQ}(h:s.v.Pos)(nl:s.v.nl=false):s.v.has s.v.lo:=by
 unfold IvQ.Pos at h
 refine⟨.inr fU,?_⟩
 rcases h with h|h|h
 ·rw[nl] at h;cases h
 ·exact .inl h
 ·exact .inr (cN h)
theorem aBL{c:aae}(hc:aaJ c){s:FrQ}(hs:s∈c)(nh:s.v.nh=false): ∃u∈c,u.l.value (s.l.at s.v.hi)=0∧u.l.nor.dot s.l.dir<0:=by
 obtain⟨p1,p2⟩:=hc.edge s hs
 have hin:=(p2 _).1 (ayX p1 nh)
 by_cases q: ∃u∈c,u.l.value (s.l.at s.v.hi)=0∧u.l.nor.dot s.l.dir<0
 ·exact q
 ·exfalso
  obtain⟨e,e0,he⟩:=apa c (fun u=>u.l.value (s.l.at s.v.hi)) (fun u=>u.l.nor.dot s.l.dir) fun u hu=>by
   have h1:=hin u hu
   refine⟨h1,?_⟩
   by_cases k:0≤u.l.nor.dot s.l.dir
   ·exact .inl k
   ·right
    by_cases z:u.l.value (s.l.at s.v.hi)=0
    ·exact absurd ⟨u,hu,z,by grind⟩ q
    ·grind
  have hh:=(p2 (s.v.hi+e)).2 fun u hu=>by rw[aqd];exact he u hu
  have:=hh.2
  rw[nh] at this
  rcases this with z|z
  ·cases z
  ·grind
theorem aBK{c:aae}(hc:aaJ c){s:FrQ}(hs:s∈c)(nl:s.v.nl=false): ∃u∈c,u.l.value (s.l.at s.v.lo)=0∧0<u.l.nor.dot s.l.dir:=by
 obtain⟨p1,p2⟩:=hc.edge s hs
 have hin:=(p2 _).1 (ayR p1 nl)
 by_cases q: ∃u∈c,u.l.value (s.l.at s.v.lo)=0∧0<u.l.nor.dot s.l.dir
 ·exact q
 ·exfalso
  obtain⟨e,e0,he⟩:=apa c (fun u=>u.l.value (s.l.at s.v.lo)) (fun u=> -(u.l.nor.dot s.l.dir)) fun u hu=>by
   have h1:=hin u hu
   refine⟨h1,?_⟩
   by_cases k:0≤ -(u.l.nor.dot s.l.dir)
   ·exact .inl k
   ·right
    by_cases z:u.l.value (s.l.at s.v.lo)=0
    ·exact absurd ⟨u,hu,z,by grind⟩ q
    ·grind
  have hh:=(p2 (s.v.lo+ -e)).2 fun u hu=>by rw[aqd];have:=he u hu;grind
  have:=hh.1
  rw[nl] at this
  rcases this with z|z
  ·cases z
  ·grind
theorem aB4{ds:List PtQ}(h:ds.Pairwise Bef){i:Nat}{s w:PtQ}(hs:ds[i]? =some s)(hw:ds[(i+1)%ds.length]? =some w):Nxt ds s w:=by
 obtain⟨hi,rfl⟩:=aS.1 hs
 obtain⟨hj,rfl⟩:=aS.1 hw
 have hp:=mN.1 h
 by_cases e:i+1<ds.length
 ·have em:(i+1)%ds.length=i+1:=fJ e
  left
  simp only[em]
  refine⟨hp i (i+1) hi e (by omega),fun d hd=>?_⟩
  obtain⟨j,hj,rfl⟩:=lL.1 hd
  rintro ⟨a,b⟩
  rcases qS j i with k|k|k
  ·exact ahg a (hp j i hj hi k)
  ·subst k;exact af5 _ a
  ·by_cases z:j=i+1
   ·subst z;exact af5 _ b
   ·exact ahg b (hp (i+1) j e hj (by omega))
 ·have ei:i+1=ds.length:=by omega
  have em:(i+1)%ds.length=0:=by rw[ei,Nat.mod_self]
  right
  simp only[em]
  refine⟨fun d hd a=>?_,fun d hd b=>?_⟩
  ·obtain⟨j,hj,rfl⟩:=lL.1 hd
   by_cases k:j=i
   ·subst k;exact af5 _ a
   ·exact ahg a (hp j i hj hi (by omega))
  ·obtain⟨j,hj,rfl⟩:=lL.1 hd
   by_cases k:j=0
   ·subst k;exact af5 _ b
   ·exact ahg b (hp 0 j (by omega) hj (by omega))
theorem atH{s u w:PtQ}(hs:s.half≠0)(hw:w.half≠0)(hu:u.half≠0)(h1:0<s.cross u)(h2:0<u.cross w)(h3:0<s.cross w)(e:s.half=w.half):u.half=s.half:=by
 rcases adK hs with k|k
 ·rw[k] at e⊢
  have a:=ada.1 k
  have b:=ada.1 e.symm
  rw[ada]
  unfold PtQ.cross at*
  -- u is between s and w
  have i1:(s.x*w.y-s.y*w.x)*u.y=(u.x*w.y-u.y*w.x)*s.y+(s.x*u.y-s.y*u.x)*w.y:=by grind
  have i2:(s.x*w.y-s.y*w.x)*u.x=(u.x*w.y-u.y*w.x)*s.x+(s.x*u.y-s.y*u.x)*w.x:=by grind
  have y0:0≤s.y:=by grind
  have y1:0≤w.y:=by grind
  have m1:=aab (cN h2) y0
  have m2:=aab (cN h1) y1
  have uy:0≤u.y:=(aai h3).1 (by grind)
  by_cases z:0<u.y
  ·exact .inl z
  ·right
   have z0:u.y=0:=by grind
   have i3:(u.x*w.y-u.y*w.x)*s.y+(s.x*u.y-s.y*u.x)*w.y=0:=by rw[←i1,z0];grind
   have A0:(u.x*w.y-u.y*w.x)*s.y=0:=by generalize (u.x*w.y-u.y*w.x)*s.y=A at*;generalize (s.x*u.y-s.y*u.x)*w.y=B at*;grind
   have B0:(s.x*u.y-s.y*u.x)*w.y=0:=by grind
   have n1:s.y=0:=by
    rcases iW.1 A0 with q|q
    ·grind
    ·exact q
   have n2:w.y=0:=by
    rcases iW.1 B0 with q|q
    ·grind
    ·exact q
   rw[n1,n2] at h3
   grind
 ·rw[k] at e⊢
  have a:=aed.1 k
  have b:=aed.1 e.symm
  rw[aed]
  unfold PtQ.cross at*
  have i1:(s.x*w.y-s.y*w.x)*u.y=(u.x*w.y-u.y*w.x)*s.y+(s.x*u.y-s.y*u.x)*w.y:=by grind
  have y0:0≤ -s.y:=by grind
  have y1:0≤ -w.y:=by grind
  have m1:=aab (cN h2) y0
  have m2:=aab (cN h1) y1
  have uy:0≤ -u.y:=(aai h3).1 (by grind)
  by_cases z:u.y<0
  ·exact .inl z
  ·right
   have z0:u.y=0:=by grind
   have i3:(u.x*w.y-u.y*w.x)*s.y+(s.x*u.y-s.y*u.x)*w.y=0:=by rw[←i1,z0];grind
   have m3:(u.x*w.y-u.y*w.x)* -s.y= -((u.x*w.y-u.y*w.x)*s.y):=by grind
   have m4:(s.x*u.y-s.y*u.x)* -w.y= -((s.x*u.y-s.y*u.x)*w.y):=by grind
   rw[m3] at m1
   rw[m4] at m2
   have A0:(u.x*w.y-u.y*w.x)*s.y=0:=by generalize (u.x*w.y-u.y*w.x)*s.y=A at*;generalize (s.x*u.y-s.y*u.x)*w.y=B at*;grind
   have B0:(s.x*u.y-s.y*u.x)*w.y=0:=by grind
   have n1:s.y=0:=by
    rcases iW.1 A0 with q|q
    ·grind
    ·exact q
   have n2:w.y=0:=by
    rcases iW.1 B0 with q|q
    ·grind
    ·exact q
   rw[n1,n2] at h3
   grind
theorem ak0{ds:List PtQ}(nz: ∀d∈ds,d.half≠0){s u w:PtQ}(hs:s∈ds)(hu:u∈ds)(hw:w∈ds)(hn:Nxt ds s w)(h1:0<s.cross u)(h2:0<u.cross w)(h3:0<s.cross w):False:=by
 have zs:=adK (nz s hs)
 have zu:=adK (nz u hu)
 have zw:=adK (nz w hw)
 rcases hn with⟨b,no⟩|⟨n1,n2⟩
 ·by_cases e:s.half=w.half
  ·have e2:=atH (nz s hs) (nz w hw) (nz u hu) h1 h2 h3 e
   exact no u hu ⟨.inr ⟨e2.symm,h1⟩, .inr ⟨by omega,h2⟩⟩
  ·have e1:s.half=1∧w.half=2:=by
    rcases b with b|⟨b,_⟩
    ·omega
    ·exact absurd b e
   rcases zu with k|k
   ·exact no u hu ⟨.inr ⟨by omega,h1⟩, .inl (by omega)⟩
   ·exact no u hu ⟨.inl (by omega), .inr ⟨by omega,h2⟩⟩
 ·have a:=n1 u hu
  have b:=n2 u hu
  have a1: ¬s.half<u.half:=fun k=>a (.inl k)
  have a2:s.half≠u.half:=fun k=>a (.inr ⟨k,h1⟩)
  have b1: ¬u.half<w.half:=fun k=>b (.inl k)
  have b2:u.half≠w.half:=fun k=>b (.inr ⟨k,h2⟩)
  omega
theorem aiO{u w n:PtQ}(hu:u.half≠0)(hw:w.half≠0)(hn:n.half≠0)(e1:w.half=u.half)(e2:u.half=n.half)(h1:0<u.cross n)(h2: ¬0<u.cross w):0<w.cross n:=by
 by_cases k:0<w.cross u
 ·have b1:Bef w u:= .inr ⟨e1,k⟩
  have b2:Bef u n:= .inr ⟨e2,h1⟩
  rcases afi b1 b2 with q|⟨_,q⟩
  ·omega
  ·exact q
 ·have hz:w.cross u=0:=by rw[ac3] at k⊢;grind
  by_cases q:0<w.cross n
  ·exact q
  ·exfalso
   have b2:Bef u n:= .inr ⟨e2,h1⟩
   by_cases q2:0<n.cross w
   ·have b3:Bef n w:= .inr ⟨by omega,q2⟩
    rcases afi b2 b3 with z|⟨_,z⟩
    ·omega
    ·exact h2 z
   ·have hz2:w.cross n=0:=by rw[ac3] at q2;grind
    rcases adK hw with hh|hh
    ·have a:=ada.1 hh
     have b:=ada.1 (show u.half=1 by omega)
     have c:=ada.1 (show n.half=1 by omega)
     unfold PtQ.cross at*
     have j1:w.x*(u.x*n.y-u.y*n.x)=0:=by grind
     have j2:w.y*(u.x*n.y-u.y*n.x)=0:=by grind
     rcases iW.1 j1 with z|z
     ·rcases iW.1 j2 with z2|z2<;>grind
     ·grind
    ·have a:=aed.1 hh
     unfold PtQ.cross at*
     have j1:w.x*(u.x*n.y-u.y*n.x)=0:=by grind
     have j2:w.y*(u.x*n.y-u.y*n.x)=0:=by grind
     rcases iW.1 j1 with z|z
     ·rcases iW.1 j2 with z2|z2<;>grind
     ·grind
theorem az6{ds:List PtQ}(nz: ∀d∈ds,d.half≠0){s u w:PtQ}(hs:s∈ds)(hu:u∈ds)(hw:w∈ds)(hn:Nxt ds s w)(h1:0<s.cross u):0<s.cross w:=by
 have zs:=adK (nz s hs)
 have zu:=adK (nz u hu)
 have zw:=adK (nz w hw)
 have hneg:=axw (nz s hs)
 have hnz:(aj9 s).half≠0:=by omega
 have e1:u.cross (aj9 s)=s.cross u:=by rw[ans,ac3 s u];grind
 have e2:w.cross (aj9 s)=s.cross w:=by rw[ans,ac3 s w];grind
 rcases hn with⟨b,no⟩|⟨n1,n2⟩
 ·by_cases e:s.half=w.half
  ·rcases b with b|⟨_,b⟩
   ·omega
   ·exact b
  ·have e3:s.half=1∧w.half=2:=by
    rcases b with b|⟨b,_⟩
    ·omega
    ·exact absurd b e
   have nu:=no u hu
   rcases zu with k|k
   ·exact absurd ⟨.inr ⟨by omega,h1⟩, .inl (by omega)⟩ nu
   ·rw[←e2]
    exact aiO (nz u hu) (nz w hw) hnz (by omega) (by omega) (by rw[e1];exact h1) fun q=>nu ⟨.inl (by omega), .inr ⟨by omega,q⟩⟩
 ·have a:=n1 u hu
  have b:=n2 u hu
  have a1: ¬s.half<u.half:=fun k=>a (.inl k)
  have a2:s.half≠u.half:=fun k=>a (.inr ⟨k,h1⟩)
  have b1: ¬u.half<w.half:=fun k=>b (.inl k)
  rw[←e2]
  exact aiO (nz u hu) (nz w hw) hnz (by omega) (by omega) (by rw[e1];exact h1) fun q=>b (.inr ⟨by omega,q⟩)
theorem aqT(s u w:LnQ)(h p:PtQ):s.dir.cross u.dir*w.value p=s.dir.cross u.dir*w.value h+w.dir.cross u.dir*(s.value p-s.value h)+s.dir.cross w.dir*(u.value p-u.value h):=by
 rw[abl,abl,abl,abl,abl,abl]
 unfold PtQ.cross LnQ.dir
 grind
theorem auf{c:aae}(hc:aaJ c): ∀d∈c.map (fun s=>s.l.dir),d.half≠0:=fun d hd=>by
 obtain⟨s,hs,rfl⟩:=bJ.1 hd
 exact avN (hc.ok s hs)
theorem aAY{c:aae}(hc:aaJ c){s w:FrQ}(hs:s∈c)(hw:w∈c)(hn:Nxt (c.map fun s=>s.l.dir) s.l.dir w.l.dir)(nh:s.v.nh=false):0<s.l.dir.cross w.l.dir∧w.l.value (s.l.at s.v.hi)=0:=by
 obtain⟨u,hu,z1,z2⟩:=aBL hc hs nh
 have su:0<s.l.dir.cross u.l.dir:=by rw[ac3,ajs];grind
 have nz:=auf hc
 have ms:=dV (f:=fun s:FrQ=>s.l.dir) hs
 have mu:=dV (f:=fun s:FrQ=>s.l.dir) hu
 have mw:=dV (f:=fun s:FrQ=>s.l.dir) hw
 have sw:=az6 nz ms mu mw hn su
 refine⟨sw,?_⟩
 obtain⟨p1,p2⟩:=hc.edge s hs
 have hin:=(p2 _).1 (ayX p1 nh)
 have hs0:=acf (hc.ok s hs).ne s.v.hi
 have h0:=hin w hw
 by_cases q:w.l.value (s.l.at s.v.hi)=0
 ·exact q
 ·exfalso
  have wu:0≤w.l.dir.cross u.l.dir:=by
   by_cases k:0<u.l.dir.cross w.l.dir
   ·exact(ak0 nz ms mu mw hn su k sw).elim
   ·rw[ac3];grind
  obtain⟨t1,t2⟩:=agx hc hw
  have e:=aqT s.l u.l w.l (s.l.at s.v.hi) (w.l.at w.v.sample)
  rw[t2,z1,hs0] at e
  have g1:=aan su (show 0<w.l.value (s.l.at s.v.hi) by grind)
  have g2:=aab wu (t1 s hs)
  have g3:=aab (cN sw) (t1 u hu)
  grind
theorem aBv{c:aae}(hc:aaJ c){s w:FrQ}(hs:s∈c)(hw:w∈c)(hn:Nxt (c.map fun s=>s.l.dir) s.l.dir w.l.dir)(sw:0<s.l.dir.cross w.l.dir)(nl:w.v.nl=false):s.l.value (w.l.at w.v.lo)=0:=by
 obtain⟨u,hu,z1,z2⟩:=aBK hc hw nl
 have uw:0<u.l.dir.cross w.l.dir:=by rw[ajs];exact z2
 have nz:=auf hc
 have ms:=dV (f:=fun s:FrQ=>s.l.dir) hs
 have mu:=dV (f:=fun s:FrQ=>s.l.dir) hu
 have mw:=dV (f:=fun s:FrQ=>s.l.dir) hw
 obtain⟨p1,p2⟩:=hc.edge w hw
 have hin:=(p2 _).1 (ayR p1 nl)
 have hw0:=acf (hc.ok w hw).ne w.v.lo
 have h0:=hin s hs
 by_cases q:s.l.value (w.l.at w.v.lo)=0
 ·exact q
 ·exfalso
  have us:0≤u.l.dir.cross s.l.dir:=by
   by_cases k:0<s.l.dir.cross u.l.dir
   ·exact(ak0 nz ms mu mw hn k uw sw).elim
   ·rw[ac3];grind
  obtain⟨t1,t2⟩:=agx hc hs
  have e:=aqT u.l w.l s.l (w.l.at w.v.lo) (s.l.at s.v.sample)
  rw[t2,z1,hw0] at e
  have g1:=aan uw (show 0<s.l.value (w.l.at w.v.lo) by grind)
  have g2:=aab (cN sw) (t1 u hu)
  have g3:=aab us (t1 w hw)
  grind
theorem aiR{l m:LnQ}(h:crossI l m≠0){p:PtQ}(h1:l.value p=0)(h2:m.value p=0):p=abE l m:=by
 rw[azx h]
 have hd:=anb h
 rw[abl] at h1 h2
 obtain⟨x,y⟩:=p
 have e1:x*l.nor.cross m.nor=(l.b:Rat)*(m.c:Rat)-(l.c:Rat)*(m.b:Rat):=by unfold PtQ.cross LnQ.nor;grind
 have e2:y*l.nor.cross m.nor=(l.c:Rat)*(m.a:Rat)-(l.a:Rat)*(m.c:Rat):=by unfold PtQ.cross LnQ.nor;grind
 generalize l.nor.cross m.nor=d at*
 simp only[PtQ.mk.injEq]
 constructor<;>grind
theorem amc{c:aae}(hb:ae7 c=true):c≠[]∧ ∀s∈c,s.v.nl=false∧s.v.nh=false:=by
 unfold ae7 at hb
 rw[bT,dZ] at hb
 refine⟨fun e=>by rw[e] at hb;simp at hb,fun s hs=>?_⟩
 have:=hb.2 s hs
 simpa using this
theorem ay1{c:aae}(hc:aaJ c)(ha:aj8 c)(hb:ae7 c=true){i:Nat}{s w:FrQ}(hs:c[i]? =some s)(hw:c[(i+1)%c.length]? =some w):0<s.l.dir.cross w.l.dir∧abE s.l w.l=s.l.at s.v.hi∧w.l.at w.v.lo=s.l.at s.v.hi:=by
 have he:=(amc hb).2
 have ms:=aU hs
 have mw:=aU hw
 have hn:Nxt (c.map fun s=>s.l.dir) s.l.dir w.l.dir:=aB4 ha (by rw[cJ,hs];rfl) (by rw[aK,cJ,hw];rfl)
 obtain⟨h1,h2⟩:=aAY hc ms mw hn (he s ms).2
 have h3:=aBv hc ms mw hn h1 (he w mw).1
 have hx:crossI s.l w.l≠0:=aA8 ((acG _).2 h1)
 refine⟨h1,(aiR hx (acf (hc.ok s ms).ne _) h2).symm,?_⟩
 rw[aiR hx h3 (acf (hc.ok w mw).ne _),aiR hx (acf (hc.ok s ms).ne _) h2]
theorem aqg{α β:Type}(f:α→β): ∀l:List α,l.flatMap (fun x=>[f x])=l.map f
 |[]=>rfl
 |a::t=>by rw[kQ,aqg f t];rfl
theorem akP{α β:Type}{f g:α→List β}: ∀{l:List α},(∀x∈l,f x=g x)→l.flatMap f=l.flatMap g
 |[],_=>rfl
 |a::t,h=>by rw[kQ,kQ,h a aZ,akP fun x hx=>h x (aJ _ hx)]
theorem arF{c:aae}(hc:aaJ c)(ha:aj8 c)(hb:ae7 c=true):abr (c.map (·.l))=c.map fun s=>s.l.at s.v.hi:=by
 unfold abr
 rw[aK]
 have h0: ∀i∈List.range c.length,auU (c.map (·.l)) i=[(c.map fun s=>s.l.at s.v.hi).getD i ⟨0,0⟩]:=fun i hi=>by
  have hi':=lT.1 hi
  obtain⟨s,hs⟩: ∃s,c[i]? =some s:=⟨_,aQ hi'⟩
  obtain⟨w,hw⟩: ∃w,c[(i+1)%c.length]? =some w:=⟨_,aQ (dX _ (by omega))⟩
  obtain⟨h1,h2,h3⟩:=ay1 hc ha hb hs hw
  rw[ajO (l:=s.l) (m:=w.l) (by rw[cJ,hs];rfl) (by rw[aK,cJ,hw];rfl),if_pos ((acG _).2 h1),h2,aX,cJ,hs];rfl
 rw[akP h0,aqg]
 refine List.ext_getElem (by simp) fun i h1 h2=>?_
 rw[pV,List.getElem_range,aX,aQ (by simpa using h2)];rfl
def aaW{α:Type}(f:α→Rat):List α→Rat
 |[]=>0
 |a::t=>f a+aaW f t
theorem agW{α:Type}(f:α→Rat): ∀(l m:List α),aaW f (l++m)=aaW f l+aaW f m
 |[],m=>by rw[lZ,aaW];grind
 |a::t,m=>by rw[jX,aaW,aaW,agW f t m];grind
theorem afd{α:Type}{f g:α→Rat}: ∀{l:List α},(∀x∈l,f x=g x)→aaW f l=aaW g l
 |[],_=>rfl
 |a::t,h=>by rw[aaW,aaW,h a aZ,afd fun x hx=>h x (aJ _ hx)]
theorem afD{α β:Type}(f:β→Rat)(g:α→β): ∀l:List α,aaW f (l.map g)=aaW (fun x=>f (g x)) l
 |[]=>rfl
 |a::t=>by rw[cZ,aaW,aaW,afD f g t]
theorem aj1{α β:Type}(f:β→Rat)(g:α→List β): ∀l:List α,aaW f (l.flatMap g)=aaW (fun x=>aaW f (g x)) l
 |[]=>rfl
 |a::t=>by rw[kQ,agW,aaW,aj1 f g t]
theorem als{α:Type}(f g:α→Rat): ∀l:List α,aaW (fun x=>f x+g x) l=aaW f l+aaW g l
 |[]=>by simp only[aaW];grind
 |a::t=>by rw[aaW,aaW,aaW,als f g t];grind
theorem apP{α:Type}(k:Rat)(f:α→Rat): ∀l:List α,aaW (fun x=>k*f x) l=k*aaW f l
 |[]=>by simp only[aaW];grind
 |a::t=>by rw[aaW,aaW,apP k f t];grind
theorem agi{α:Type}{f:α→Rat}: ∀{l:List α},(∀x∈l,0≤f x)→0≤aaW f l
 |[],_=>fU
 |a::t,h=>by rw[aaW];have h1:=h a aZ;have h2:=agi fun x hx=>h x (aJ a hx);grind
theorem ap7{α:Type}{f:α→Rat}{l:List α}(h: ∀x∈l,0<f x)(hn:l≠[]):0<aaW f l:=by
 cases l with
 |nil=>exact absurd rfl hn
 |cons a t=>
  rw[aaW]
  have h1:=h a aZ
  have h2:=agi (f:=f) (l:=t) fun x hx=>cN (h x (aJ a hx))
  grind
def aDW(f:PtQ→PtQ→Rat)(v:List PtQ):Rat:=aaW (fun i=>f (v.getD i ⟨0,0⟩) (v.getD ((i+1)%v.length) ⟨0,0⟩)) (List.range v.length)
theorem ajo(n:Nat):List.range (n+1)=0::(List.range n).map (· +1):=by
 rw[List.range_succ_eq_map]
theorem apF(g:Nat→Rat)(n:Nat):aaW (fun i=>g ((i+1)%n)) (List.range n)=aaW g (List.range n):=by
 cases n with
 |zero=>rfl
 |succ n=>
  have e1:aaW (fun i=>g ((i+1)%(n+1))) (List.range (n+1))=aaW (fun i=>g (i+1)) (List.range n)+g 0:=by
   rw[List.range_succ,agW,afd (g:=fun i=>g (i+1)) fun i hi=>by rw[fJ (by have:=lT.1 hi;omega)]]
   simp only[aaW,Nat.mod_self]
   grind
  have e2:aaW g (List.range (n+1))=g 0+aaW (fun i=>g (i+1)) (List.range n):=by rw[ajo,aaW,afD]
  rw[e1,e2];grind
theorem anO{α:Type}(f:α→Rat)(d:α): ∀l:List α,aaW (fun i=>f (l.getD i d)) (List.range l.length)=aaW f l
 |[]=>rfl
 |a::t=>by
  rw[bW,ajo,aaW,afD,aaW,←anO f d t]
  rfl
theorem amR{c:aae}(hc:aaJ c)(ha:aj8 c)(hb:ae7 c=true)(f:PtQ→PtQ→Rat):aDW f (abr (c.map (·.l)))=aaW (fun s=>f (s.l.at s.v.lo) (s.l.at s.v.hi)) c:=by
 rw[arF hc ha hb]
 unfold aDW
 rw[aK]
 obtain⟨d,hd⟩: ∃d:FrQ,d=⟨lnU,IvQ.all⟩:=⟨_,rfl⟩
 rw[←anO (fun s:FrQ=>f (s.l.at s.v.lo) (s.l.at s.v.hi)) d c,←apF (fun i=>f ((c.getD i d).l.at (c.getD i d).v.lo) ((c.getD i d).l.at (c.getD i d).v.hi)) c.length]
 refine afd fun i hi=>?_
 have hi':=lT.1 hi
 have hj:=dX (i+1) (show 0<c.length by omega)
 obtain⟨s,hs⟩: ∃s,c[i]? =some s:=⟨_,aQ hi'⟩
 obtain⟨w,hw⟩: ∃w,c[(i+1)%c.length]? =some w:=⟨_,aQ hj⟩
 obtain⟨h1,h2,h3⟩:=ay1 hc ha hb hs hw
 rw[aX,aX,aX,cJ,cJ,hs,hw]
 show f (s.l.at s.v.hi) (w.l.at w.v.hi)=f (w.l.at w.v.lo) (w.l.at w.v.hi)
 rw[h3]
theorem axY{l:LnQ}(h:l.Ne)(a b:Rat):(l.at a).cross (l.at b)=(b-a)*(l.c:Rat):=by
 have h1:=acf h a
 have e:l.at b=adk (l.at a) l.dir (b-a):=by rw[←ahu];congr 1;grind
 rw[e]
 rw[abl] at h1
 generalize l.at a=p at*
 unfold PtQ.cross adk LnQ.dir
 grind
def anE(c:aae):Rat:=aaW (fun s=>(s.v.hi-s.v.lo)*(s.l.c:Rat)) c
theorem arQ{c:aae}(hc:aaJ c)(ha:aj8 c)(hb:ae7 c=true):aDW PtQ.cross (abr (c.map (·.l)))=anE c:=by
 rw[amR hc ha hb]
 exact afd fun s hs=>axY (hc.ok s hs).ne _ _
theorem avA{c:aae}(hc:aaJ c)(ha:aj8 c)(hb:ae7 c=true)(g:PtQ→Rat):aaW (fun s=>g (s.l.at s.v.hi)-g (s.l.at s.v.lo)) c=0:=by
 have e:=amR hc ha hb fun p q=>g q-g p
 rw[←e]
 unfold aDW
 generalize abr (c.map (·.l))=v
 have e2:aaW (fun i=>g (v.getD ((i+1)%v.length) ⟨0,0⟩)) (List.range v.length)=aaW (fun i=>g (v.getD i ⟨0,0⟩)) (List.range v.length):=apF (fun i=>g (v.getD i ⟨0,0⟩)) _
 have e3:=als (fun i=>g (v.getD ((i+1)%v.length) ⟨0,0⟩)-g (v.getD i ⟨0,0⟩)) (fun i=>g (v.getD i ⟨0,0⟩)) (List.range v.length)
 have e4:aaW (fun i=>g (v.getD ((i+1)%v.length) ⟨0,0⟩)-g (v.getD i ⟨0,0⟩)+g (v.getD i ⟨0,0⟩)) (List.range v.length)=aaW (fun i=>g (v.getD ((i+1)%v.length) ⟨0,0⟩)) (List.range v.length):=afd fun i _=>by grind
 rw[e4,e2] at e3
 grind
theorem aqQ{c:aae}(hc:aaJ c)(ha:aj8 c)(hb:ae7 c=true):0<anE c:=by
 obtain⟨p,hp⟩:=hc.ne
 have key:aaW (fun s=>(s.v.hi-s.v.lo)*s.l.value p) c=anE c:=by
  have e1:=avA hc ha hb fun q=>q.x*p.y-q.y*p.x
  have e2:=als (fun s:FrQ=>(s.v.hi-s.v.lo)*(s.l.c:Rat)) (fun s=>((s.l.at s.v.hi).x*p.y-(s.l.at s.v.hi).y*p.x)-((s.l.at s.v.lo).x*p.y-(s.l.at s.v.lo).y*p.x)) c
  rw[e1] at e2
  unfold anE
  have e5:aaW (fun s:FrQ=>(s.v.hi-s.v.lo)*s.l.value p) c=aaW (fun s:FrQ=>(s.v.hi-s.v.lo)*(s.l.c:Rat)+(((s.l.at s.v.hi).x*p.y-(s.l.at s.v.hi).y*p.x)-((s.l.at s.v.lo).x*p.y-(s.l.at s.v.lo).y*p.x))) c:=afd fun s hs=>by
   have e:s.l.at s.v.hi=adk (s.l.at s.v.lo) s.l.dir (s.v.hi-s.v.lo):=by rw[←ahu];congr 1;grind
   rw[e,abl]
   generalize s.l.at s.v.lo=q
   unfold adk LnQ.dir
   grind
  rw[e5,e2];grind
 rw[←key]
 refine ap7 (fun s hs=>?_) (amc hb).1
 have h1:=(amc hb).2 s hs
 have h2:=(hc.edge s hs).1
 unfold IvQ.Pos at h2
 rw[h1.1,h1.2] at h2
 exact aan (by grind) (hp s hs)

def eCl(x:List LnQ×Bool):DV:= .ag [.sl (x.1.map eL),vB x.2]
def eSd(c:List LnQ):DV:= .sl (c.map eL)
def aET(ps:List (List LnQ×Bool)):List (List LnQ):=(ps.filter (·.2)).map (·.1)
def eRp(v:List PtQ):DV:= .sl (v.map eP)
structure EGU (GB:Gh) (ai al ae au:Addr):Prop extends EG GB ai al ae where
 ErrUnbounded:GB 1=some [.iface 405 (.pointer (some au))]
def aJp(c:aae):List (List PtQ):=aDM (abr (c.map (·.l)))
theorem am7(c:List LnQ):(abr c).length≤c.length:=aiG c _
theorem ak8{c:List LnQ}(hb: ∀l∈c,LB l): ∀p∈abr c,BPt p 1200:=fun p hp=>by
 obtain⟨l,hl,m,hm,rfl⟩:=ax2 hp
 have:= @BPt.imeet l m (hb l hl) (hb m hm)
 exact⟨this.x.mono (by decide),this.y.mono (by decide)⟩
theorem aA6{p q:Rat}{i j:Nat}[hp:BQ p i][hq:BQ q j](hi:i≤100000000:=by decide):PF GB prog 60 [eR p,eR q] (vB (decide (p=q))):=by
 refine fn func60 J J ntmps60 J J (fun C=>?_)
 refine cl rfl (aBe (a:=p.num) (b:=q.num) (i:=i) (j:=j) (by omega)) rfl<|?_
 refine csd 10 J J J (fun hg10=>?_) (fun hg10=>?_)
 ·
  refine cl rfl (atJ (a:=p.den) (b:=q.den) (i:=i) (j:=j) (by omega)) rfl<|?_
  exact rz rfl (by rw[show decide (p=q)=decide (p.den=q.den) from decide_eq_decide.2 ⟨fun e=>by rw[e],fun e=>Rat.ext hg10 e⟩]<;>rfl)
 ·
  exact rz rfl (by rw[decide_eq_false (fun e:p=q=>hg10 (by rw[e]))]<;>rfl)
theorem avK{t:Tr}(h:t.all LnQ.ok):aET (adO t [])=(aas t).map fun c=>c.map (·.l):=aCL h
theorem aq3{α β:Type}{f:α→List β}{k:Nat}: ∀{l:List α},(∀x∈l,(f x).length≤k)→(l.flatMap f).length≤l.length*k
 |[],_=>by simp
 |a::t,h=>by
  have h1:=h a aZ
  have h2:=aq3 (f:=f) fun x hx=>h x (aJ a hx)
  rw[kQ,aR,bW,iU];omega
end Go.Sx
end
