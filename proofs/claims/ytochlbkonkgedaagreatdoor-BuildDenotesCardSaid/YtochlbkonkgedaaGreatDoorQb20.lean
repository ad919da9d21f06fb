import Derived.Test.YtochlbkonkgedaaGreatDoorQb19
import Derived.Shelf.SlSortCmp.NoneTotal
import Derived.Test.YtochlbkonkgedaaGreatDoorProg
set_option linter.all false
set_option maxHeartbeats 4000000
set_option maxRecDepth 100000
section
namespace Go.Sx
open Go Go.Proofs Tryz
variable {GB:Gh}
def qc(v:List aa):List (List DV):=(List.range v.length).map fun i=>[vI (i:Nat),GJ (v.getD i ⟨0,0⟩) (v.getD ((i+1)%v.length) ⟨0,0⟩)]
def Um{v:List aa}{i:Nat}{p q:aa}(h1:v[i]? =some p)(h2:v[(i+1)%v.length]? =some q):(qc v)[i]? =some [vI (i:Nat),GJ p q]:=by
 have hi:=(aS.1 h1).1;unfold qc;rw[fS,qV hi,jM,aK,aK,h1,h2];rfl
def ML{v:List aa}{i:Nat}{e:List DV}(h:(qc v)[i]? =some e): ∃p q,v[i]? =some p/\v[(i+1)%v.length]? =some q/\e=[vI (i:Nat),GJ p q]:=by
 have hi:i<v.length:=by
  have:=(aS.1 h).1;unfold qc at this;simpa using this
 have h1:v[i]? =some v[i]:=aX hi;have hm:(i+1)%v.length<v.length:=dW _ (by omega);have h2:v[(i+1)%v.length]? =some v[(i+1)%v.length]:=aX hm;refine⟨_,_,h1,h2,?_⟩;rw[Um h1 h2] at h;exact(Option.some.inj h).symm
def Nu{v:List aa}: ∀e∈qc v,e.length=2:=fun e he=>by
 obtain⟨i,_,rfl⟩:=bJ.1 he;rfl
def Qq{v:List aa}(hn:v.length<=100000):It GB prog 94 [.pt [.sl (v.map eZ)]] (qc v):=by
 have hml:(v.map eZ).length=v.length:=aJ ..;have hrl:(qc v).length=v.length:=by unfold qc;simp
 refine aI7 func94 J J ntmps94 J (fun _=>J) (fun l Jv Jx GB' hg H C hp hJ=>?_);refine yo 1 J<|gx J<|?_;refine ao 6 (.d (vI (v.length:Nat))) J (by rw[hml]<;>rfl) ?_;refine Ym (X:=Nat) (fun k=>[(0, .d (.v (.func (.yield l) #[] #[]))),(1, .ep [.sl (v.map eZ)]),(5, .d (.sl (v.map eZ))),(6, .d (vI (v.length:Nat))),(7, .d (vI (k:Nat)))]) (fun k C=>k<=v.length/\Jv k C.G0 C.w0) (fun k=>v.length-k) 0 hp ⟨bT _,hJ⟩ (fun _=>J) (fun k C1 hp1 hk=>?_);obtain⟨hk1,hJ1⟩:=hk;refine br J J J (fun hc8=>?_) (fun hc8=>?_)
 ·obtain⟨p,hpx⟩: ∃u,v[k]? =some u:=⟨_,aX (by omega)⟩
  obtain⟨q,hqx⟩: ∃u,v[(k+1)%v.length]? =some u:=⟨_,aX (dW _ (by omega))⟩;refine ix _ J (ee hpx) J<|?_;refine ao 20 (.d (vI (((k+1)%v.length:Nat):Int))) J (by rw[hml]<;>rfl) ?_;refine gx J<|ix _ J (ee hqx) J<|Wd (len:=2) (s:=6) (e:=89) J (by kernel_rfl) (by kernel_rfl) J<|?_;refine drT (by kernel_rfl) J ?_;refine cy [(0, .d (.v (.func (.yield l) #[] #[]))),(1, .ep [.sl (v.map eZ)]),(5, .d (.sl (v.map eZ))),(6, .d (vI (v.length:Nat))),(7, .d (vI (k:Nat)))] H hp1 hJ1 J (Um hpx hqx) J (by repeat (first|exact trivial|refine And.intro J ?_)) J J J (fun C3 hp3 hJ3=>?_) (fun C3 hp3 hJ3=>?_)
  ·exact atC (k+1) hp3 ⟨⟨by omega,hJ3⟩,by omega⟩
  ·exact Qn H hp3 (.inr hJ3) J
 ·obtain rfl:k=v.length:=by omega
  exact Qn H hp1 (.inl (by rw[hrl];exact hJ1)) J
def RI{v:List aa}:J9 GB prog 54 [.sl (v.map eZ)] 94 (.pt [.sl (v.map eZ)]):=by
 refine aIL func54 J J ntmps54 J J (fun C=>?_);refine fz 1 J J ?_;refine tC 1 J (fun GB' pv hg hp=>?_);refine Wm J J ?_;exact aII J J hp
def VU:JP 87:=fun x w=>by kernel_rfl
def YQ(m:List Value):Eh 87 (.agg ⟨m⟩) "Mul" 174:=fun w=>by kernel_rfl
def ZK(l:List Rat)(k:Nat)(y:Rat):(l.map eF).set k (eF y)=(l.set k y).map eF:=(qQ ..).symm
def nH(L:List Rat)(k:Rat)(j:Nat):List Rat:=(L.take j).map (· *k)++L.drop j
def aAx(L:List Rat)(k:Rat)(j:Nat):(nH L k j).length=L.length:=by
 unfold nH;rw[aR,aJ,cK,iW];omega
def aBe{L:List Rat}{k a:Rat}{j:Nat}(h:L[j]? =some a):(nH L k j)[j]? =some a:=by
 have hj:=(aS.1 h).1;unfold nH;rw[gX (by rw[aJ,cK];omega),aJ,cK,mQ,<-h];congr 1;omega
def aCt{L:List Rat}{k a:Rat}{j:Nat}(h:L[j]? =some a):(nH L k j).set j (a*k)=nH L k (j+1):=by
 have hj:=(aS.1 h).1;unfold nH;rw[fN,h,nY _ _ (by rw[aJ,cK];omega),aJ,cK,show j-min j L.length=0 by omega,cX hj];simp only[Option.toList_some,dV,bL,fK,List.set_cons_zero,dX,cR,cY]
def Me{L:List Rat}{k:Rat}{i:Nat}[hk:BQ k i](hL: ∀a∈L,¬fi a)(hb: ∀a∈L,BQ a i)(hn:L.length<=1000)(hi:i<=1000000:=by decide):PB GB prog 189 (ij [some (eF k),none]) 3 87 (L.map eF) (fun w=> .v (.slice w.a w.n w.c)) ((L.map (· *k)).map eF):=by
 have hml:(L.map eF).length=L.length:=aJ ..;refine xb (fu:=⟨11⟩) func189 J J ntmps189 J J (fun C=>?_);refine ao 7 (.d (vI (L.length:Nat))) J (by rw[hml]<;>rfl) ?_;refine gx J<|?_;refine lp (X:=Nat) (fun j=>[(8, .d (vI (j:Nat)))]) (fun j=>[(1000000,some (.b 87 3 ((nH L k j).map eF) false))]) (fun j=>j<=L.length) (fun j=>L.length-j) 0 J (bT _) (fun _=>J) (fun j hk=>?_);have hsl:=aAx L k j;have hsm:((nH L k j).map eF).length=(nH L k j).length:=aJ ..;refine br J J J (fun hc9=>?_) (fun hc9=>?_)
 .
  obtain⟨a,hx⟩: ∃u,L[j]? =some u:=⟨_,aX (by omega)⟩;have ham:=aM hx;haveI:=hb a ham;have hga:(nH L k j)[j]? =some a:=aBe hx;refine lb (fu:=⟨0⟩) _ J (ee hga) J<|XC (fu:=⟨1⟩) (rV a) J VU (fun G y hy=>U5 (hL a ham) hy) J<|ivk J (YQ _) (PF.arg0 (uh (p:=a) (q:=k) (i:=i) (j:=i) (by omega) (by omega)) (fun G y h=>by rw[aH.1 h];exact aI4 (hL a ham))) J<|?_;refine sb (hv:=by simp only[ah];exact⟨by kernel_rfl,by omega⟩) _ ((nH L k (j+1)).map eF) J (ee hga) J (by rw[<-aCt hx,<-ZK]<;>rfl) J<|?_;exact at_ (j+1) ⟨(by omega),(by omega)⟩
 .
  obtain rfl:j=L.length:=by omega
  have hend:nH L k L.length=L.map (· *k):=by unfold nH;rw[dS,iM,iU]
  exact tf J J J (by rw[hend])
def IZ{a:Int}{g:Nat}(hg:0<g)(hd:g∣a.natAbs):(a:Rat)*(((g:Nat):Int):Rat)⁻¹=((zv (decide (a<0)) (a.natAbs/g):Int):Rat):=by
 obtain⟨q,hq⟩:=hd;have e:zv (decide (a<0)) (a.natAbs/g)*(g:Int)=a:=by
  rw[hq,rT q hg];unfold zv;have hc:((g*q:Nat):Int)=(g:Int)*(q:Int):=by simp
  have hm:=tV (g:Int) (q:Int);split
  ·rename_i h
   have h:=of_decide_eq_true h;rw[Int.neg_mul];omega
  ·rename_i h
   have h: ¬a<0:=fun k=>h (decide_eq_true k);omega
 generalize zv (decide (a<0)) (a.natAbs/g)=z at*;have h0:((g:Int):Rat)≠0:=by
  intro k;have:(g:Int)=0:=by exact_mod_cast k
  omega
 rw[<-e,dZ];generalize ((g:Int):Rat)=r at*;grind
def tq{z:Int}(h:z.natAbs<=1000000): ¬fi (z:Rat):=fun k=>k ⟨by show z.natAbs<_;omega,by show 1<_;decide⟩
def NT{q:Rat}{k:Nat}(h:BQ q k)(hk:k<=62): ¬fi q:=fun b=>b (by
 have hp:2^k<=2^62:=bS (by decide) hk;have e:(2:Nat)^62=4611686018427387904:=by decide
 obtain⟨h1,h2⟩:=h;exact⟨by omega,by omega⟩)
theorem yz(p q:aa){i j:Nat}[aB p i][aB q j]:aB ⟨p.x-q.x,p.y-q.y⟩ (i+j+1):=⟨inferInstanceAs (BQ (p.x-q.x) _),inferInstanceAs (BQ (p.y-q.y) _)⟩
theorem oh{z:Int}(h:z.natAbs<=1000000):BQ (z:Rat) 22:=by
 have e:(2:Nat)^21=2097152:=by decide
 haveI:BI z 21:=⟨by omega⟩;exact(inferInstance:BQ (z:Rat) 22)
def aCN{a b c:Int}(ha:a.natAbs<=1000000)(hb:b.natAbs<=1000000)(hc:c.natAbs<=1000000)(h0: ¬(a=0/\b=0)):PF GB prog 146 [eF (a:Rat),eF (b:Rat),eF (c:Rat)] (.tp [e7 (gt a b c),vB true]):=by
 haveI:=oh ha;haveI:=oh hb;haveI:=oh hc;have hgn:Nat.gcd a.natAbs b.natAbs≠0:=fun h=>h0 ⟨kR.1 (lL h),kR.1 (lU h)⟩;have hgp:0<Nat.gcd (Nat.gcd a.natAbs b.natAbs) c.natAbs:=kS _ (iY hgn);have eg:rgcd (rgcd (a:Rat) b) c=(((Nat.gcd (Nat.gcd a.natAbs b.natAbs) c.natAbs:Nat):Int):Rat):=by rw[yu,yu];rfl
 have e1:(a:Rat)*(rgcd (rgcd (a:Rat) b) c)⁻¹=((gt a b c).a:Rat):=by rw[eg];exact IZ hgp (qN (kK _ _) (kK _ _))
 have e2:(b:Rat)*(rgcd (rgcd (a:Rat) b) c)⁻¹=((gt a b c).b:Rat):=by rw[eg];exact IZ hgp (qN (kK _ _) (lY _ _))
 have e3:(c:Rat)*(rgcd (rgcd (a:Rat) b) c)⁻¹=((gt a b c).c:Rat):=by rw[eg];exact IZ hgp (lY _ _)
 haveI:BQ (rgcd (a:Rat) b) 200:=BQ.mono (inferInstance:BQ (rgcd (a:Rat) b) _) (by decide);haveI:BQ (rgcd (rgcd (a:Rat) b) c) 600:=BQ.mono (inferInstance:BQ (rgcd (rgcd (a:Rat) b) c) _) (by decide);haveI:BQ (rgcd (rgcd (a:Rat) b) c)⁻¹ 600:=BQ.mono (inferInstance:BQ (rgcd (rgcd (a:Rat) b) c)⁻¹ _) (by decide);have hl4:([((gt a b c).a:Rat),((gt a b c).b:Rat),((gt a b c).c:Rat)].map eF).length=3:=J;have hl3:[((gt a b c).a:Rat),((gt a b c).b:Rat),((gt a b c).c:Rat)].length=3:=J;refine fn func146 J J ntmps146 J J (fun C=>?_);refine cl J (rP (q:=(a:Rat))) J<|?_;refine csd 11 J J J (fun hg11=>?_) (fun hg11=>?_)
 .
  refine cl J (rP (q:=(b:Rat))) J<|?_;refine bd J J J (fun hc14=>?_) (fun hc14=>?_)
  .
   exact absurd ⟨by exact_mod_cast hg11,by exact_mod_cast hc14⟩ h0
  .
   refine cl J (oC (p:=(a:Rat)) (q:=(b:Rat)) (i:=22) (j:=22)) J<|cl J (oC (p:=rgcd (a:Rat) b) (q:=(c:Rat)) (i:=200) (j:=22)) J<|?_;refine cl rfl (E2 (q:=rgcd (rgcd (a:Rat) b) c) (i:=600)) rfl<|ro (fu:=⟨0⟩) J J<|cq (hv:=by simp only[ah];exact⟨by kernel_rfl,by omega⟩) ([((gt a b c).a:Rat),((gt a b c).b:Rat),((gt a b c).c:Rat)].map eF) rfl (Me (L:=[(a:Rat),(b:Rat),(c:Rat)]) (k:=(rgcd (rgcd (a:Rat) b) c)⁻¹) (i:=600) (by intro q hq;simp only[aW,kV,or_false] at hq;rcases hq with rfl|rfl|rfl;exact tq ha;exact tq hb;exact tq hc) (by intro q hq;simp only[aW,kV,or_false] at hq;rcases hq with rfl|rfl|rfl;exact(oh ha).mono (by decide);exact(oh hb).mono (by decide);exact(oh hc).mono (by decide)) (nb rfl)) (by simp only[bL,fK,e1,e2,e3]) rfl<|?_;refine lb _ J J J<|lb _ J J J<|lb _ J J J<|?_;exact rz J J
 .
  refine cl J (oC (p:=(a:Rat)) (q:=(b:Rat)) (i:=22) (j:=22)) J<|cl J (oC (p:=rgcd (a:Rat) b) (q:=(c:Rat)) (i:=200) (j:=22)) J<|?_;refine cl rfl (E2 (q:=rgcd (rgcd (a:Rat) b) c) (i:=600)) rfl<|ro (fu:=⟨0⟩) J J<|cq (hv:=by simp only[ah];exact⟨by kernel_rfl,by omega⟩) ([((gt a b c).a:Rat),((gt a b c).b:Rat),((gt a b c).c:Rat)].map eF) rfl (Me (L:=[(a:Rat),(b:Rat),(c:Rat)]) (k:=(rgcd (rgcd (a:Rat) b) c)⁻¹) (i:=600) (by intro q hq;simp only[aW,kV,or_false] at hq;rcases hq with rfl|rfl|rfl;exact tq ha;exact tq hb;exact tq hc) (by intro q hq;simp only[aW,kV,or_false] at hq;rcases hq with rfl|rfl|rfl;exact(oh ha).mono (by decide);exact(oh hb).mono (by decide);exact(oh hc).mono (by decide)) (nb rfl)) (by simp only[bL,fK,e1,e2,e3]) rfl<|?_;refine lb _ J J J<|lb _ J J J<|lb _ J J J<|?_;exact rz J J
theorem x6{z:ZP}(h:ZP.le 100 z):aB z.q 22:=⟨oh (by have:=h.1;omega),oh (by have:=h.2;omega)⟩
def vx{a b:Int}{m n:Nat}(ha:a.natAbs<=m)(hb:b.natAbs<=n):(a*b).natAbs<=m*n:=by
 rw[jU];exact lJ ha hb
def aEA{v w:ZP}(hv:ZP.le 100 v)(hw:ZP.le 100 w)(h:v≠w):PF GB prog 95 [eZ v.q,eZ w.q] (.tp [e7 (i5 v.1 v.2 w.1 w.2),vB true]):=by
 haveI:=x6 hv;haveI:=x6 hw;have hv1:=hv.1;have hv2:=hv.2;have hw1:=hw.1;have hw2:=hw.2;obtain⟨A,hA⟩: ∃A,A=jH v.2 w.2:=⟨_,rfl⟩;obtain⟨B,hB⟩: ∃B,B=kr v.1 w.1:=⟨_,rfl⟩;obtain⟨C0,hC⟩: ∃C0,C0=qA v.1 v.2 w.1 w.2:=⟨_,rfl⟩;have bA:A.natAbs<=200:=by rw[hA];unfold jH;omega
 have bB:B.natAbs<=200:=by rw[hB];unfold kr;omega
 have m1:=vx bA hv1;have m2:=vx bB hv2;have eC:C0= -(A*v.1+B*v.2):=by rw[hC,hA,hB];rfl
 have bC:C0.natAbs<=40000:=by rw[eC];omega
 have h0: ¬(A=0/\B=0):=fun k=>h (Prod.ext (by have:=k.2;rw[hB] at this;unfold kr at this;omega) (by have:=k.1;rw[hA] at this;unfold jH at this;omega));haveI:aB (iP A B) 22:=⟨oh (by omega),oh (by omega)⟩;haveI:BQ ((A*v.1+B*v.2:Int):Rat) 22:=oh (by omega);have eT:gO ⟨w.q.x-v.q.x,w.q.y-v.q.y⟩=iP A B:=by rw[hA,hB];unfold gO iP jH kr ZP.q iP;simp only[aa.mk.injEq];push_cast;constructor<;>grind
 have eD:(iP A B).dot v.q=((A*v.1+B*v.2:Int):Rat):=by unfold aa.dot iP ZP.q iP;push_cast;rfl
 have eN: -((A*v.1+B*v.2:Int):Rat)=((C0:Int):Rat):=by rw[eC];push_cast;rfl
 refine fn func95 J J ntmps95 J J (fun C=>?_);refine cl J (LA (p:=w.q) (q:=v.q) (i:=22) (j:=22)) J<|cl (fu:=⟨0⟩) J (SP (p:=⟨w.q.x-v.q.x,w.q.y-v.q.y⟩) (i:=45) (h:=yz w.q v.q)) J<|?_;refine ao 12 (.d (eZ (iP A B))) J (by rw[eT]) ?_;refine gx J<|cl (fu:=⟨0⟩) J (oA (p:=iP A B) (q:=v.q) (i:=22) (j:=22)) J<|?_;refine ao 19 (.d (eF ((A*v.1+B*v.2:Int):Rat))) J (by rw[eD]) ?_;refine gx J<|cl (fu:=⟨0⟩) J (n4 (q:=((A*v.1+B*v.2:Int):Rat)) (i:=22)) J<|?_;refine ao 20 (.d (eF ((C0:Int):Rat))) J (by rw[eN]) ?_;refine gx J<|cl J (aCN (a:=A) (b:=B) (c:=C0) (by omega) (by omega) (by omega) h0) J<|?_;exact rz J (by rw[hA,hB,hC];rfl)
theorem Qf{l:ab}(ho:l.ok)(ha:l.a.natAbs<=200)(hb:l.b.natAbs<=200){m n:Int}(hm:m.natAbs<=100)(hn:n.natAbs<=100):BQ (cB l (iP m n)) 60:=by
 have hd:=z8 ho.ne;have p1:=vx ha ha;have p2:=vx hb hb;have p3:=vx hm hb;have p4:=vx hn ha;have h60:(2:Nat)^60=1152921504606846976:=by decide
 have hA:BI (l.a*l.a+l.b*l.b) 60:=⟨by omega⟩;have hB:BI (m*l.b-n*l.a) 60:=⟨by omega⟩;have e1:l.dir.dot l.dir=((l.a*l.a+l.b*l.b:Int):Rat):=by
  rw[pV,dZ,dZ];simp only[ab.dir,aa.dot];grind
 have e2:(iP m n).dot l.dir=((m*l.b-n*l.a:Int):Rat):=by
  rw[mS,dZ,dZ];simp only[ab.dir,aa.dot,iP];grind
 have hd':((0:Int):Rat)<((l.a*l.a+l.b*l.b:Int):Rat):=by rw[<-e1];exact hd
 unfold cB;rw[e2,e1];clear e1 e2 p1 p2 p3 p4;generalize l.a*l.a+l.b*l.b=D at*;generalize m*l.b-n*l.a=M at*;have hD:0<D:=sQ.1 hd';refine BQ.of_fracI (n:=M) (D:=D) (by omega) ?_ hB hA;have h0:(D:Rat)≠0:=fun e=>by rw[e] at hd';exact absurd hd' (by decide)
 have:((D.natAbs:Nat):Rat)=(D:Rat):=by
  have h1:((D.natAbs:Nat):Int)=D:=by omega
  rw[<-h1];rfl
 rw[this];grind
def T9{v w:ZP}(hv:ZP.le 100 v)(hw:ZP.le 100 w)(h:v≠w):FE (bj v w):=by
 have hf:=Ua hv hw h;have hv1:=hv.1;have hv2:=hv.2;have hw1:=hw.1;have hw2:=hw.2;have bA:(jH v.2 w.2).natAbs<=200:=by unfold jH;omega
 have bB:(kr v.1 w.1).natAbs<=200:=by unfold kr;omega
 have m1:=vx bA hv1;have m2:=vx bB hv2;have bC:(qA v.1 v.2 w.1 w.2).natAbs<=40000:=by unfold qA;omega
 obtain⟨k1,k2,k3⟩:=Rb (jH v.2 w.2) (kr v.1 w.1) (qA v.1 v.2 w.1 w.2);have ea:(bj v w).l.a.natAbs<=200:=eY k1 bA;have eb:(bj v w).l.b.natAbs<=200:=eY k2 bB;have ec:(bj v w).l.c.natAbs<=40000:=eY k3 bC;exact⟨hf,⟨tq (by omega),tq (by omega),tq (by omega),NT (Qf hf.ok ea eb hv1 hv2) (by decide),NT (Qf hf.ok ea eb hw1 hw2) (by decide)⟩,J,J⟩
def ayG{r:List ZP}(h:cp r): ∀f∈eO r,FE f:=fun f hf=>by
 obtain⟨k,hk,rfl⟩:=JG hf;exact T9 (h.le _ (zy hk)) (h.le _ (BV hk)) (h.ne k hk)
def QF{rs:List (List ZP)}(h: ∀r∈rs,cp r): ∀f∈bO rs,FE f:=fun f hf=>by
 obtain⟨r,h1,h2⟩:=cN.1 hf;exact ayG (h r h1) f h2
def V8{v w:ZP}(hv:ZP.le 100 v)(hw:ZP.le 100 w)(h:v≠w):PF GB prog 55 [eZ v.q,eZ w.q] (.tp [bh (bj v w),vB true]):=by
 have hf:=T9 hv hw h;haveI:LB (i5 v.1 v.2 w.1 w.2):=hf.fo.lb;haveI:=x6 hv;haveI:=x6 hw;refine fn func55 J J ntmps55 J J (fun C=>?_);refine cl (fu:=⟨12⟩) J (aEA hv hw h) J<|?_;refine lx 14 J ?_;refine gx J<|cl J (Dm (l:=i5 v.1 v.2 w.1 w.2) (p:=v.q) (i:=22)) J<|cl J (Dm (l:=i5 v.1 v.2 w.1 w.2) (p:=w.q) (i:=22)) J<|?_;exact rz J J
def F9{r:List ZP}{k:Nat}{p:aa}(h:(r.map ZP.q)[k]? =some p):k<r.length/\p=(r.getD k (0,0)).q:=by
 rw[fS] at h
 cases e:r[k]? with
 |none=>rw[e] at h;cases h
 |some z=>
  rw[e] at h;cases h;exact⟨(aS.1 e).1,by rw[aK,e];rfl⟩
def DF(r:List ZP): ∀n,(jr r n).length=n
 |0=>rfl
 |n+1=>by rw[jr,aR,DF r n];rfl
def RK{r:List ZP}{k:Nat}: ∀{n:Nat},k<n->(jr r n)[k]? =some (bj (r.getD k (0,0)) (dP r k))
 |0,h=>by omega
 |n+1,h=>by
  rw[jr];by_cases e:k=n
  ·subst e
   rw[gX (by rw[DF];omega),DF,rS];rfl
  ·rw[dK (by rw[DF];omega)]
   exact RK (by omega)
def Ag(l:List aE):dH 17 (l.map bh):=fun d hd=>by
 obtain⟨x,_,rfl⟩:=bJ.1 hd;exact⟨J,J⟩
def ao9{L:List aE}{k:Nat}{l:aE}(h:L[k]? =some l):((L.take k).map bh)++[bh l]=(L.take (k+1)).map bh:=by
 rw[fN,h,dV];rfl
def HN{r:List ZP}(h:cp r):PF GB prog 21 [.sl ((r.map ZP.q).map eZ)] (.sl ((eO r).map bh)):=by
 have hn:=h.n6;obtain⟨v,hv⟩: ∃v,v=r.map ZP.q:=⟨_,rfl⟩;have hvl:v.length=r.length:=by rw[hv,aJ]
 rw[<-hv];have hel:(eO r).length=r.length:=(rA h).1;have hrl:(qc v).length=r.length:=by unfold qc;rw[aJ,oX,hvl]
 refine Ti func21 J J ntmps21 J J (fun C h0=>?_);refine Nk J J J RI (fun _=>J) (fun GB1 pv hg1 hpv=>?_);refine H5 3 0 50 136 17 J J J J J ?_;refine H' 3 2000003 h0.fx J ?_;refine Mh (σ:=Empty) (fun k=>[(2000003,some (.o 78 [.rw 50] true)),(50,some (.b 136 17 (((eO r).take k).map bh) true))]) (fun _=>True) (fun _=>[]) (fun _=>False) [(3, .ov 2000003 0)]
  h0 J (Qq (by omega)) (.cons hpv .nil) ⟨J,trivial⟩ J ⟨J,J,trivial⟩ trivial Nu J J (fun k e GB' hE hg hp=>?_) (fun D hD hx hp=>?_) (fun D s hD hx hq=>hq.elim)
 ·obtain⟨p,q,hpx,hqx,rfl⟩:=ML hE
  rw[hvl] at hqx;rw[hv] at hpx hqx;obtain⟨hk,rfl⟩:=F9 hpx;obtain⟨hk2,rfl⟩:=F9 hqx;have hx:(eO r)[k]? =some (bj (r.getD k (0,0)) (dP r k)):=RK hk;have hml:(((eO r).take k).map bh).length=k:=by rw[aJ,cK];omega
  refine⟨?_,?_,fun C2=>?_,fun C2=>?_⟩
  rotate_left 2
  ·refine gx J<|Ok J J J ⟨J,J,J⟩ J ?_
   exact atR
  ·refine gx J<|Gl 0 (e:=89) (len:=2) (s:=6) J (by kernel_rfl) (by kernel_rfl) (by decide) J<|Gl 1 (e:=89) (len:=2) (s:=6) J (by kernel_rfl) (by kernel_rfl) (by decide) J<|?_
   refine cl J (V8 (h.le _ (zy hk)) (h.le _ (BV hk)) (h.ne k hk)) J<|?_;refine rf J J<|ap (((eO r).take (k+1)).map bh) J (ao9 hx) (Ag [bj (r.getD k (0,0)) (dP r k)]) J<|?_;refine iv 23 50 J ?_;exact rq trivial ⟨J,J,trivial⟩
 ·rw[hrl,<-hel,dS]
  refine gx J<|?_;refine mD 50 J ?_;exact Ph hD hx J J
def aBh{a i:Nat}[h:BN a i](hi:i<=1000000000:=by decide):PF GB prog 187 [dN a] (.v (.bool true)):=
 (T2 (ds:=dg a) (eG _).2.1 (by have:=nj (a:=a) hi;omega)).to (by unfold vB;rw[decide_eq_true (eG a).2.2])
def Qt{q:Rat}{i:Nat}[hq:BQ q i](hi:i<=1000000:=by decide):PF GB prog 142 [eR q] (.v (.bool true)):=by
 have hd:=q.den_pos;have hdl:0<(dg q.den).length:=iY fun e=>by have:=uX.1 e;omega
 have hml:((dg q.den).map dU).length=(dg q.den).length:=aJ ..;have hco:Nat.gcd q.num.natAbs q.den=1:=q.reduced;refine fn func142 J J ntmps142 J J (fun C=>?_);refine cl (fu:=⟨0⟩) J (tc (m:=q.num) (i:=i) (h:=⟨hq.hn⟩) (by omega)) J<|?_;refine lx 5 J ?_;refine gx J<|cl (fu:=⟨0⟩) J (aBh (a:=q.den) (i:=i) (h:=⟨hq.hd⟩) (by omega)) J<|?_;refine lx 10 J ?_;refine gx (fu:=⟨6⟩) J<|ek J (by show some (decide _)=some false;rw[decide_eq_false (by omega)]) J<|cl (fu:=⟨0⟩) J (I1 (a:=q.num.natAbs) (b:=q.den) (i:=i) (j:=i) (h:=⟨hq.hn⟩) (k:=⟨hq.hd⟩) (by omega) (by omega)) J<|?_;refine ao 24 (.d (dN 1)) J (by rw[hco]) ?_;refine gx J<|cl J (vO (a:=1) (i:=1) (h:=⟨by decide⟩)) J<|?_;exact rz J J
def aCx{p:aa}{i:Nat}[hp:aB p i](hi:i<=1000000:=by decide):PF GB prog 90 [mv p] (.v (.bool true)):=by
 refine fn func90 J J ntmps90 J J (fun C=>?_);refine cl (fu:=⟨0⟩) J (Qt (q:=p.x) (i:=i) (by omega)) J<|?_;refine lx 5 J ?_;refine gx J<|cl J (Qt (q:=p.y) (i:=i) (by omega)) J<|?_;exact rz J J
def mP(l:List aa)(p:aa):Int:=match l.findIdx? (fun q=>decide (q.x=p.x/\q.y=p.y)) with
 |some i=>(i:Nat)
 |none=> -1
def Fp{l:List aa}{p q:aa}{k:Nat}(hx:l[k]? =some q)(h:(l.take k).all (fun q=>!decide (q.x=p.x/\q.y=p.y))=true)(hq:q.x=p.x/\q.y=p.y):mP l p=(k:Nat):=by
 have hk:=(aS.1 hx).1;have e:l.findIdx? (fun q=>decide (q.x=p.x/\q.y=p.y))=some k:=by
  rw[List.findIdx?_eq_some_iff_getElem];refine⟨hk,?_,fun j hj=>?_⟩
  ·rw[(aS.1 hx).2];exact decide_eq_true hq
  ·have:=fW.1 h l[j] (by rw[List.mem_take_iff_getElem];exact⟨j,by omega,J⟩)
   simp at this⊢;intro a b;rcases this with k|k
   ·exact k a
   ·exact k b
 unfold mP;rw[e]
def X4{l:List aa}{p:aa}(h:l.all (fun q=>!decide (q.x=p.x/\q.y=p.y))=true):mP l p= -1:=by
 have e:l.findIdx? (fun q=>decide (q.x=p.x/\q.y=p.y))=none:=by
  rw[List.findIdx?_eq_none_iff];intro x hx;have:=fW.1 h x hx;simp at this⊢;intro a b;rcases this with k|k
  ·exact k a
  ·exact k b
 unfold mP;rw[e]
def axz{l:List aa}{k:Nat}{q:aa}{g:aa->Bool}(hx:l[k]? =some q)(h:(l.take k).all g=true)(hq:g q=true):(l.take (k+1)).all g=true:=by
 rw[fN,hx,List.all_append,h];simp[hq]
def XU{l:List aa}{p:aa}{i:Nat}[hp:aB p i](hl: ∀q∈l,aB q i)(hn:l.length<=100000)(hi:i<=1000000:=by decide):PF GB prog 92 [.sl (l.map eZ),eZ p] (vI (mP l p)):=by
 have hml:(l.map eZ).length=l.length:=aJ ..;refine fn (fu:=⟨11⟩) func92 J J ntmps92 J J (fun C=>?_);refine ao 8 (.d (vI (l.length:Nat))) J (by rw[hml]<;>rfl) ?_;refine gx J<|?_;refine lp (X:=Nat) (fun k=>[(9, .d (vI (k:Nat)))]) (fun k=>[]) (fun k=>k<=l.length/\(l.take k).all (fun q=>!decide (q.x=p.x/\q.y=p.y))=true) (fun k=>l.length-k) 0 J ⟨bT _,J⟩ (fun _=>J) (fun k hk=>?_);obtain⟨hk,hall⟩:=hk;refine br J J J (fun hc10=>?_) (fun hc10=>?_)
 .
  obtain⟨q,hx⟩: ∃u,l[k]? =some u:=⟨_,aX (by omega)⟩;haveI:=hl q (aM hx);refine ix _ J (ee hx) J<|cl J (Q9 (p:=q) (q:=p) (i:=i) hi) J<|?_;refine bd J J J (fun hc16=>?_) (fun hc16=>?_)
  .
   exact rz J (by rw[Fp hx hall hc16];rfl)
  .
   exact at_ (k+1) ⟨⟨by omega,axz hx hall (by rw[decide_eq_false hc16];rfl)⟩,(by omega)⟩
 .
  obtain rfl:k=l.length:=by omega
  rw[dS] at hall;exact rz J (by rw[X4 hall];rfl)
def fh(l:List aa):Nat->Nat
 |0=>0
 |k+1=>fh l k+if mP l (l.getD k ⟨0,0⟩)=(k:Nat) then 1 else 0
def ll(l:List aa)(k:Nat):Nat:=if 3<=fh l k then 3 else fh l k
def aE7{l:List aa}{k:Nat}(h:ll l k<3)(e:fh l (k+1)=fh l k+1):((ll l k:Nat):Int)+1=((ll l (k+1):Nat):Int):=by
 have a:ll l k=if 3<=fh l k then 3 else fh l k:=J
 have b:ll l (k+1)=if 3<=fh l (k+1) then 3 else fh l (k+1):=J
 split at a<;>split at b<;>omega
def SY{l:List aa}{k:Nat}(h: ¬ll l k<3\/fh l (k+1)=fh l k)(m:fh l k<=fh l (k+1)):((ll l k:Nat):Int)=((ll l (k+1):Nat):Int):=by
 have a:ll l k=if 3<=fh l k then 3 else fh l k:=J
 have b:ll l (k+1)=if 3<=fh l (k+1) then 3 else fh l (k+1):=J
 split at a<;>split at b<;>omega
def Wz(l:List aa)(k:Nat):ll l k<=3:=by unfold ll;split<;>omega
def XI{l:List aa}{k:Nat}(h:3<=fh l k):ll l k=3:=by unfold ll;rw[if_pos h]
def FQ{l:List aa}{k:Nat}{p:aa}(hx:l[k]? =some p)(h:mP l p=(k:Nat)):fh l (k+1)=fh l k+1:=by
 rw[fh,aK,hx,jK,if_pos h]
def aEJ{l:List aa}{k:Nat}{p:aa}(hx:l[k]? =some p)(h: ¬mP l p=(k:Nat)):fh l (k+1)=fh l k:=by
 rw[fh,aK,hx,jK,if_neg h];rfl
def Mw{l:List aa}{k:Nat}:fh l k<=fh l (k+1):=by rw[fh];split<;>omega
def Yz{v:List aa}{k:Nat}{p:aa}(h:v[k]? =some p):((v.take k).map eZ)++[eZ p]=(v.take (k+1)).map eZ:=by
 rw[fN,h,dV];rfl
def Xl{r:List ZP}(h:cp r){k:Nat}(hk:k<r.length):decide ((r.getD k (0,0)).q.x=(dP r k).q.x/\(r.getD k (0,0)).q.y=(dP r k).q.y)=false:=decide_eq_false fun e=>h.ne k hk (Bc (by
 obtain⟨e1,e2⟩:=e;generalize (r.getD k (0,0)).q=a at*;generalize (dP r k).q=b at*
 cases a;cases b
 simp only[aa.mk.injEq];exact⟨e1,e2⟩))
def XE{r:List ZP}(h:cp r)(h3:3<=fh (r.map ZP.q) (r.map ZP.q).length):PF GB prog 53 [mF r] (.tp [.sl ((r.map ZP.q).map eZ), .v .nilIface]):=by
 have hn:=h.n6;obtain⟨v,hv⟩: ∃v,v=r.map ZP.q:=⟨_,rfl⟩;have hvl:v.length=r.length:=by rw[hv,aJ]
 have hb: ∀p∈v,aB p 22:=fun p hp=>by rw[hv] at hp;obtain⟨z,hz,rfl⟩:=bJ.1 hp;exact x6 (h.le z hz)
 unfold mF;rw[<-hv] at h3⊢;have hm1:(v.map mv).length=v.length:=aJ ..;have hm2:(v.map eZ).length=v.length:=aJ ..;have hrl:(qc v).length=v.length:=by unfold qc;rw[aJ,oX]
 refine Ti (fu:=⟨11⟩) func53 J J ntmps53 J J (fun C h0=>?_);refine ao 13 (.d (vI (v.length:Nat))) J (by rw[hm1]<;>rfl) ?_;refine gx (fu:=⟨0⟩) J<|ek (fu:=⟨15⟩) J (by show some (decide _)=some false;rw[decide_eq_false (by omega)]) J<|?_;refine ao 20 (.d (vI (v.length:Nat))) J (by rw[hm1]<;>rfl) ?_;refine gx J<|?_;refine nr 4 4 89 6 J J J ?_;refine lp (X:=Nat) (fun k=>[(21, .d (vI (k:Nat))),(4, .rw 4)]) (fun k=>[(4,some (.b 89 6 ((v.take k).map eZ) true))]) (fun k=>k<=v.length) (fun k=>v.length-k) 0 J (bT _) (fun _=>J) (fun k hk=>?_);have hm3:((v.take k).map eZ).length<=k:=by rw[aJ,cK];omega
 refine br (fu2:=⟨0⟩) J J J (fun hc22=>?_) (fun hc22=>?_)
 .
  obtain⟨p,hx⟩: ∃u,v[k]? =some u:=⟨_,aX (by omega)⟩;haveI:=hb p (aM hx);refine ix _ J (ee hx) J<|cl (fu:=⟨0⟩) J (aCx (p:=p) (i:=22)) J<|?_;refine lx 27 J ?_;refine gx J<|cl J (DM (p:=p) (i:=22)) J<|rf J J<|ap ((v.take (k+1)).map eZ) J (Yz hx) (wg [p]) J<|?_;refine iv 41 4 J ?_;exact at_ (k+1) ⟨(by omega),(by omega)⟩
 .
  obtain rfl:k=v.length:=by omega
  rw[dS];refine uA 4 J ?_;refine gx (fu:=⟨15⟩) J<|?_;refine ao 44 (.d (vI (v.length:Nat))) J (by rw[hm2]<;>rfl) ?_;refine gx J<|?_;refine lp (X:=Nat) (fun k=>[(45, .d (vI (k:Nat))),(7, .d (vI ((ll v k):Nat)))]) (fun k=>[]) (fun k=>k<=v.length) (fun k=>v.length-k) 0 J (bT _) (fun _=>J) (fun k hk=>?_);have hdm:=Wz v k;refine br (fu2:=⟨9⟩) J J J (fun hc46=>?_) (fun hc46=>?_)
  .
   obtain⟨p,hx⟩: ∃u,v[k]? =some u:=⟨_,aX (by omega)⟩;haveI:=hb p (aM hx);have hcm:=Mw (l:=v) (k:=k);refine ix _ J (ee hx) J<|?_;refine cs 52 J J J (fun hg52=>?_) (fun hg52=>?_)
   .
    refine cl J (XU (l:=v) (p:=p) (i:=22) hb (by omega)) J<|?_;refine br J J J (fun hc58=>?_) (fun hc58=>?_)
    .
     have he7:=aE7 (by omega) (FQ hx (by omega));refine ao 7 (.d (vI (ll v (k+1):Nat))) J (by rw[he7]<;>rfl) ?_;exact at_ (k+1) ⟨(by omega),(by omega)⟩
    .
     have he7:=SY (.inr (aEJ hx (by omega))) hcm;refine ao 7 (.d (vI (ll v (k+1):Nat))) J (by rw[he7]<;>rfl) ?_;exact at_ (k+1) ⟨(by omega),(by omega)⟩
   .
    have he7:=SY (l:=v) (k:=k) (.inl (by omega)) hcm;refine ao 7 (.d (vI (ll v (k+1):Nat))) J (by rw[he7]<;>rfl) ?_;exact at_ (k+1) ⟨(by omega),(by omega)⟩
  .
   obtain rfl:k=v.length:=by omega
   have hd3:=XI h3;refine ek (fu:=⟨9⟩) J (by show some (decide _)=some false;rw[decide_eq_false (by omega)]) J<|?_;refine Nk J J J RI (fun _=>J) (fun GB1 pv hg1 hpv=>?_);refine H' 2 2000002 h0.fx J<|H' 3 2000003 h0.fx J ?_;refine Mh (σ:=Empty) (fun _=>[(2000002,some (.o 80 [.nl] true)),(2000003,some (.o 34 [.d (.v .nilIface)] true))]) (fun _=>True) (fun _=>[]) (fun _=>False) [(2, .ov 2000002 0),(3, .ov 2000003 0),(4, .d (.sl (v.map eZ)))] h0 J (Qq (by omega)) (.cons hpv .nil) ⟨J,J,J,trivial⟩ J ⟨J,J,trivial⟩ trivial Nu J J (fun k e GB' hE hg hp=>?_) (fun D hD hx hp=>?_) (fun D s hD hx hq=>hq.elim)
   ·obtain⟨p,q,hpx,hqx,rfl⟩:=ML hE
    rw[hvl] at hqx;rw[hv] at hpx hqx;obtain⟨hk,rfl⟩:=F9 hpx;obtain⟨hk2,rfl⟩:=F9 hqx;haveI:=x6 (h.le _ (zy hk));haveI:=x6 (h.le _ (BV hk));have hne:=Xl h hk;refine⟨?_,?_,fun C2=>?_,fun C2=>?_⟩
    rotate_left 2
    ·refine gx J<|Ok J J J ⟨J,J,J⟩ J ?_
     exact atR
    ·refine gx J<|Gl 0 (e:=89) (len:=2) (s:=6) J (by kernel_rfl) (by kernel_rfl) (by decide) J<|Gl 1 (e:=89) (len:=2) (s:=6) J (by kernel_rfl) (by kernel_rfl) (by decide) J<|?_
     refine cl J (Q9 (p:=(r.getD k (0,0)).q) (q:=(dP r k).q) (i:=22)) J<|?_;refine bd J J J (fun hc=>absurd (decide_eq_true hc) (by rw[hne];decide)) (fun hc=>?_);exact rq trivial ⟨J,J,trivial⟩
   ·refine gx J<|?_
    exact Ph hD hx J J
structure lB (r:List ZP):Prop where
 ok:cp r
 c3:3<=fh (r.map ZP.q) (r.map ZP.q).length
def rF(r:List ZP):DV:= .sl ((r.map ZP.q).map eZ)
def aEw(l:List (List ZP)):dH 1 (l.map rF):=fun d hd=>by
 obtain⟨x,_,rfl⟩:=bJ.1 hd;exact⟨J,J⟩
def VD{L:List (List ZP)}{k:Nat}{l:List ZP}(h:L[k]? =some l):((L.take k).map rF)++[rF l]=(L.take (k+1)).map rF:=by
 rw[fN,h,dV];rfl
def KX{L:List (List ZP)}{k:Nat}{l:List ZP}(h:L[k]? =some l):((bO (L.take k)).map bh)++((eO l).map bh)=(bO (L.take (k+1))).map bh:=by
 rw[Ou h,dV]
def Mq{rs:List (List ZP)}(h: ∀r∈rs,lB r)(hn:rs.length<=200):PF GB prog 20 [.sl (rs.map mF)] (.tp [.sl (rs.map rF), .v .nilIface]):=by
 have hml:(rs.map mF).length=rs.length:=aJ ..;refine fn (fu:=⟨11⟩) func20 J J ntmps20 J J (fun C=>?_);refine ao 10 (.d (vI (rs.length:Nat))) J (by rw[hml]<;>rfl) ?_;refine gx (fu:=⟨0⟩) J<|ek (fu:=⟨15⟩) J (by show some (decide _)=some false;rw[decide_eq_false (by omega)]) J<|?_;refine ao 17 (.d (vI (rs.length:Nat))) J (by rw[hml]<;>rfl) ?_;refine gx J<|?_;refine nr 4 4 80 1 J J J ?_;refine lp (X:=Nat) (fun k=>[(18, .d (vI (k:Nat))),(4, .rw 4)]) (fun k=>[(4,some (.b 80 1 ((rs.take k).map rF) true))]) (fun k=>k<=rs.length) (fun k=>rs.length-k) 0 J (bT _) (fun _=>J) (fun k hk=>?_);have hm3:((rs.take k).map rF).length<=k:=by rw[aJ,cK];omega
 refine br J J J (fun hc19=>?_) (fun hc19=>?_)
 .
  obtain⟨r,hx⟩: ∃u,rs[k]? =some u:=⟨_,aX (by omega)⟩;have hr:=h r (aM hx);refine ix _ J (ee hx) J<|cl (fu:=⟨11⟩) J (XE hr.ok hr.c3) J<|ek J J J<|rf J J<|ap ((rs.take (k+1)).map rF) J (VD hx) (aEw [r]) J<|?_;refine iv 33 4 J ?_;exact at_ (k+1) ⟨(by omega),(by omega)⟩
 .
  obtain rfl:k=rs.length:=by omega
  rw[dS];refine mD 4 J ?_;exact rz J J
def aCi{rs:List (List ZP)}(h: ∀r∈rs,lB r)(hn:rs.length<=200):PF GB prog 44 [.sl (rs.map mF)] (.tp [.sl ((bO rs).map bh), .v .nilIface]):=by
 have hml:(rs.map rF).length=rs.length:=aJ ..;refine fn func44 J J ntmps44 J J (fun C=>?_);refine cl (fu:=⟨11⟩) J (Mq h hn) J<|ek (fu:=⟨15⟩) J J J<|?_;refine ao 18 (.d (vI (rs.length:Nat))) J (by rw[hml]<;>rfl) ?_;refine gx J<|?_;refine nr 6 6 136 17 J J J ?_;refine lp (X:=Nat) (fun k=>[(19, .d (vI (k:Nat))),(6, .rw 6)]) (fun k=>[(6,some (.b 136 17 ((bO (rs.take k)).map bh) true))]) (fun k=>k<=rs.length) (fun k=>rs.length-k) 0 J (bT _) (fun _=>J) (fun k hk=>?_);have hm5:=xu (fun r hr=>(h r hr).ok) k;have hm3:((bO (rs.take k)).map bh).length<=6*k:=by rw[aJ];exact xu (fun r hr=>(h r hr).ok) k
 refine br J J J (fun hc20=>?_) (fun hc20=>?_)
 .
  obtain⟨r,hx⟩: ∃u,rs[k]? =some u:=⟨_,aX (by omega)⟩;have hr:=h r (aM hx);have hel:=(rA hr.ok).1;have hn6:=hr.ok.n6;have hm4:((eO r).map bh).length=(eO r).length:=aJ ..;refine ix _ J (ee hx) J<|cl J (HN hr.ok) J<|ap ((bO (rs.take (k+1))).map bh) J (KX hx) (Ag (eO r)) J<|?_;refine iv 26 6 J ?_;exact at_ (k+1) ⟨(by omega),(by omega)⟩
 .
  obtain rfl:k=rs.length:=by omega
  rw[dS];refine mD 6 J ?_;exact rz J J
def ar3{rs:List (List ZP)}(h: ∀r∈rs,lB r)(hn:rs.length<=200):(bO rs).length<=1200:=by
 have:=(lj fun r hr=>(h r hr).ok).1;omega
def onR(rs:List (List ZP))(p:aa):Bool:=(bO rs).any fun f=>kl f p
def Nc{fill n:Int}:PF GB prog 24 [vI fill,vI n] (vB (oG fill n)):=by
 refine fn func24 J J ntmps24 J J (fun C=>?_);refine br J J J (fun hc6=>?_) (fun hc6=>?_)
 .
  exact rz J (by show DV.v (.bool _)= .v (.bool _);unfold oG;simp_all)
 .
  refine br J J J (fun hc11=>?_) (fun hc11=>?_)
  .
   exact rz J (by show DV.v (.bool _)= .v (.bool _);unfold oG;simp_all)
  .
   exact rz J (by show DV.v (.bool _)= .v (.bool _);unfold oG;simp_all)
def P2(f:aE)(m:ab):(splitP f m).length<=1:=by unfold splitP;split<;>simp
def ni(l:List aE)(m:ab):List aE:=l.flatMap fun g=>splitP g m
def Fx(l:List aE)(m:ab):(ni l m).length<=l.length:=by
 induction l with
 |nil=>exact bQ _
 |cons f t ih=>
  unfold ni at ih⊢;rw[lT,aR,bV];have:(splitP f m).length<=1:=by unfold splitP;split<;>simp
  omega
def LX{l:List aE}{k:Nat}{f:aE}{m:ab}(h:l[k]? =some f):(ni (l.take k) m).map bh++(splitP f m).map bh=(ni (l.take (k+1)) m).map bh:=by
 unfold ni;rw[fN,h,qS,dV];simp
def El{f:aE}{m:ab}{a b:Bool}(ha:f.l.cutB f.v m=a)(hb:f.l.cutB f.v m.rev=b):(DV.tp [.sl (if a then [bh ⟨f.l,f.l.cutV f.v m⟩] else []), .sl (if b then [bh ⟨f.l,f.l.cutV f.v m.rev⟩] else [])])= .tp [.sl ((splitP f m).map bh), .sl ((splitP f m.rev).map bh)]:=by
 subst ha hb;unfold splitP;split<;>split<;>rfl
def YV{f:aE}{m:ab}(hf:FS f)(hm:LB m):PF GB prog 99 [bh f,e7 m] (.tp [.sl ((splitP f m).map bh), .sl ((splitP f m.rev).map bh)]):=by
 haveI:=hf.fo.lb;haveI:=hf.fo.lo;haveI:=hf.fo.hi;haveI:=hm;refine fn func99 J J ntmps99 J J (fun C=>?_);refine cl J (B6 (l:=f.l) (v:=f.v) (m:=m) (i:=1200)) J<|?_;refine bb J J J (fun hc19=>?_) (fun hc19=>?_)
 .
  refine rf J J<|cl J Hb J<|cl J (B6 (l:=f.l) (v:=f.v) (m:=m.rev) (i:=1200)) J<|?_;refine bb J J J (fun hc35=>?_) (fun hc35=>?_)
  .
   refine rf J J<|?_;exact rz J (El hc19 hc35)
  .
   exact rz J (El hc19 hc35)
 .
  refine cl J Hb J<|cl J (B6 (l:=f.l) (v:=f.v) (m:=m.rev) (i:=1200)) J<|?_;refine bb J J J (fun hc35=>?_) (fun hc35=>?_)
  .
   refine rf J J<|?_;exact rz J (El hc19 hc35)
  .
   exact rz J (El hc19 hc35)
def aBO:Ue prog 56:=by
 intro p q w;refine callsDIn_of_wpSIn func56 J trivial fun c₀ cs hu=>?_;apply wpSIn_seq;apply wpSIn_region;simp[wpOpsSIn,go_sem,recoverD,hu,ntmps56,Exit.thenS,FW,Fence.wide];apply wpSIn_seq;apply wpSIn_region;simp[wpOpsSIn,go_sem,Exit.thenS,FW,Fence.wide];refine wpSIn_cond (t:=false) (by simp[Act.eval,Array.replicate]) ?_;simp only[dJ,if_false];refine wpSIn_of_wpIn J (wpIn_skip ?_)
 cases c₀
 simp_all [bodyPostS,results,Tryz.results56,go_sem]
def UU{b:Nat}{f:FuncId}{c2:List Value}{ds2:List DV}(hc2:IsLs GB ds2 c2){acc:aa->Bool}(hF: ∀q,aB q 20000->PF GB prog f (eZ q::ds2) (vB (acc q))){n:Nat}{c:aG}{d N:Nat}(hc:jG c)(hcl:c.length<=100000):PM GB prog 57 (ip [none,some (.sl (([]:List aE).map bh)),some (.sl (c.map bh)),some (.v (.int .i64 (d:Nat)))] b) b 144 [.v (.int .i64 (N:Nat)),(.v (.func (.func f) ⟨[]⟩ ⟨c2⟩))] (eU (ie acc n [] c)) [.v (.int .i64 (N+(ie acc n [] c).size:Nat)),(.v (.func (.func f) ⟨[]⟩ ⟨c2⟩))]:=by
 have hib:=Vs hc;refine ui (fu:=⟨10⟩) func57 J J ntmps57 J J (fun C b m lo hmb=>?_);refine gj (fu:=⟨8⟩) J J J<|Zu J J J J J J<|cl (fu:=⟨0⟩) J (Vk (c:=c) hc hcl) J<|uK (ds1:=[]) (ds2:=ds2) J (co.2 J) hc2 (hF (ql c) hib) J<|?_;refine cl J (x7 (b:=acc (ql c))) J<|?_;exact kg hmb J J (by cases n<;>rfl) (by cases n<;>rfl)
def ZB{b:Nat}{f:FuncId}{c2:List Value}{g:aE}{t:List aE}{c:aG}{d N:Nat}{x y:Tr}(hl: ∀u∈g::t,FS u)(hlen:(g::t).length<=100000)(hc:jG c)(hcl:c.length<=100000)(hd:d<1000)(hN:N+(1+x.size+y.size)<=65536)(ih1: ∀{b N:Nat},N+x.size<=65536->PM GB prog 57 (ip [none,some (.sl ((ni (g::t) g.l).map bh)),some (.sl ((bP c g.l).map bh)),some (.v (.int .i64 (d+1:Nat)))] b) b 144 [.v (.int .i64 (N:Nat)),(.v (.func (.func f) ⟨[]⟩ ⟨c2⟩))] (eU x) [.v (.int .i64 (N+x.size:Nat)),(.v (.func (.func f) ⟨[]⟩ ⟨c2⟩))])(ih2: ∀{b N:Nat},N+y.size<=65536->PM GB prog 57 (ip [none,some (.sl ((ni (g::t) g.l.rev).map bh)),some (.sl ((bP c g.l.rev).map bh)),some (.v (.int .i64 (d+1:Nat)))] b) b 144 [.v (.int .i64 (N:Nat)),(.v (.func (.func f) ⟨[]⟩ ⟨c2⟩))] (eU y) [.v (.int .i64 (N+y.size:Nat)),(.v (.func (.func f) ⟨[]⟩ ⟨c2⟩))]):PM GB prog 57 (ip [none,some (.sl ((g::t).map bh)),some (.sl (c.map bh)),some (.v (.int .i64 (d:Nat)))] b) b 144 [.v (.int .i64 (N:Nat)),(.v (.func (.func f) ⟨[]⟩ ⟨c2⟩))] (eU (Tr.node g.l x y)) [.v (.int .i64 (N+(Tr.node g.l x y).size:Nat)),(.v (.func (.func f) ⟨[]⟩ ⟨c2⟩))]:=by
 have hg:=hl g aQ;haveI hlb:=hg.fo.lb;have hlt:t.length+1<=100000:=hlen;have hml:((g::t).map bh).length=(g::t).length:=aJ ..;refine ui (fu:=⟨10⟩) func57 J J ntmps57 J J (fun C b m lo hmb=>?_);refine ao 22 (.d (vI ((t.length+1:Nat):Int))) J (by rw[hml]<;>rfl) ?_;refine gx (fu:=⟨0⟩) J<|ek (fu:=⟨13⟩) (hv:=by simp only[ah];exact(by omega)) J (by show some (decide _)=some false;rw[decide_eq_false (by omega)]) J<|?_;refine ao 36 (.d (.v (.int .i64 (N+1:Nat)))) J J ?_;refine gx (fu:=⟨11⟩) J<|ek (fu:=⟨2⟩) J (by show some (decide _)=some false;rw[decide_eq_false (by omega)]) J<|ek J (by show some (decide _)=some false;rw[decide_eq_false (by omega)]) J<|?_;refine ix (fu:=⟨17⟩) _ J J J<|?_;refine ao 55 (.d (vI ((t.length+1:Nat):Int))) J (by rw[hml]<;>rfl) ?_;refine gx J<|?_;refine nr 10 10 136 17 J J J ?_;refine nr 11 11 136 17 J J J ?_;refine lp (X:=Nat) (fun k=>[(56, .d (vI (k:Nat))),(10, .rw 10),(11, .rw 11)]) (fun k=>[(10,some (.b 136 17 ((ni ((g::t).take k) g.l).map bh) true)),(11,some (.b 136 17 ((ni ((g::t).take k) g.l.rev).map bh) true))]) (fun k=>k<=t.length+1) (fun k=>t.length+1-k) 0 J (bT _) (fun _=>J) (fun k hk=>?_);have hm1:=Fx ((g::t).take k) g.l;have hm2:=Fx ((g::t).take k) g.l.rev;have hm3:((g::t).take k).length<=k:=by rw[cK];omega
 have hm4:((ni ((g::t).take k) g.l).map bh).length<=k:=by rw[aJ];omega
 have hm5:((ni ((g::t).take k) g.l.rev).map bh).length<=k:=by rw[aJ];omega
 refine br (fu2:=⟨0⟩) J J J (fun hc57=>?_) (fun hc57=>?_)
 .
  obtain⟨u,hx⟩: ∃u,(g::t)[k]? =some u:=⟨_,aX (by rw[bV];omega)⟩;have hu:=hl u (aM hx);have hs1:=P2 u g.l;have hs2:=P2 u g.l.rev;refine ix _ J (ee hx) J<|cl J (YV hu hlb) J<|ap ((ni ((g::t).take (k+1)) g.l).map bh) J (LX hx) (Ag (splitP u g.l)) J<|?_;refine ap ((ni ((g::t).take (k+1)) g.l.rev).map bh) J (LX hx) (Ag (splitP u g.l.rev)) J<|?_;refine iv 68 10 J ?_;refine iv 71 11 J ?_;exact at_ (k+1) ⟨(by omega),(by omega)⟩
 .
  obtain rfl:k=t.length+1:=by omega
  rw[show(g::t).take (t.length+1)=g::t from dS (l:=g::t)];refine uA 11 J ?_;refine gx J<|cl (fu:=⟨18⟩) J (MZ (l:=g.l) (c:=c) hg.fo.ok hc hcl) J<|?_;refine ao 85 (.d (.v (.int .i64 (d+1:Nat)))) J J ?_;refine gx J<|fz 10 J J<|cm (fu:=⟨12⟩) J (fun b=>(ih1 (N:=N+1) (by omega))) J<|?_;refine ao 93 (.d (.v (.int .i64 (d+1:Nat)))) J J ?_;refine gx J<|cm J (fun b=>(ih2 (N:=N+1+x.size) (by omega))) J<|cl J C4 J<|?_;exact kg hmb J J J (by rw[show N+(Tr.node g.l x y).size=N+1+x.size+y.size from by rw[Tr.size];omega])
def IN{f:FuncId}{c2:List Value}{ds2:List DV}(hc2:IsLs GB ds2 c2){acc:aa->Bool}(hF: ∀q,aB q 20000->PF GB prog f (eZ q::ds2) (vB (acc q))): ∀{n:Nat} {l:List aE} {c:aG} {d N b:Nat},(∀u∈l,FS u)->n9 n l->l.length<=100000->jG c->c.length+n<=100000->d+n<=1000->N+(ie acc n l c).size<=65536->PM GB prog 57 (ip [none,some (.sl (l.map bh)),some (.sl (c.map bh)),some (.v (.int .i64 (d:Nat)))] b) b 144 [.v (.int .i64 (N:Nat)),(.v (.func (.func f) ⟨[]⟩ ⟨c2⟩))] (eU (ie acc n l c)) [.v (.int .i64 (N+(ie acc n l c).size:Nat)),(.v (.func (.func f) ⟨[]⟩ ⟨c2⟩))]
 |_,[],c,d,N,b,_,_,_,hc,hcl,_,_=>UU hc2 hF hc (by omega)
 |0,g::t,_,_,_,_,_,hf,_,_,_,_,_=>hf.no.elim
 |n+1,g::t,c,d,N,b,hl,hf,hlen,hc,hcl,hd,hN=>by
  have hg:=hl g aQ;haveI hlb:=hg.fo.lb;obtain⟨f1,f2⟩:=FS.splits hl hlb;obtain⟨w1,w2⟩:=hf.splitP hl;have n1:=Fx (g::t) g.l;have n2:=Fx (g::t) g.l.rev;have k1:=DA c g.l;have k2:=DA c g.l.rev;have o1:=E5 hg.fo.ok hc;have o2:=E5 (l:=g.l.rev) (ab.ok.rev hg.fo.ok) hc;refine ZB (x:=ie acc n (ni (g::t) g.l) (bP c g.l)) (y:=ie acc n (ni (g::t) g.l.rev) (bP c g.l.rev)) hl hlen hc (by omega) (by omega) hN (fun{b' N'} h2=>?_) (fun{b' N'} h2=>?_)
  ·exact IN hc2 hF f1 w1 (by omega) o1 (by omega) (by omega) h2
  ·exact IN hc2 hF f2 w2 (by omega) o2 (by omega) (by omega) h2
def S0{E:List aE}(hE: ∀u∈E,FS u){n:Nat}(hw:n9 n E)(hn:n<=1000)(hlen:E.length<=100000){f:FuncId}{c2:List Value}{ds2:List DV}(hc2:IsLs GB ds2 c2){acc:aa->Bool}(hF: ∀q,aB q 20000->PF GB prog f (eZ q::ds2) (vB (acc q)))
  (hs:(ie acc n E []).size<=65536)(hd:(ie acc n E []).depth<=1000)(ho:(ie acc n E []).all ab.ok)(hb:(ie acc n E []).all LB):PF GB prog 22 [.sl (E.map bh), .v (.func (.func f) ⟨[]⟩ ⟨c2⟩)] (.tp [eU ((ie acc n E []).restrict []), .v .nilIface]):=by
 refine fnD func22 J J ntmps22 J J (fun C h0=>?_);refine W7 h0 J J J (by decide) (fun p q=>?_);refine gx J ?_;refine cm J (fun b=>IN (b:=b) hc2 hF (n:=n) (l:=E) (c:=[]) (d:=0) (N:=0) hE hw hlen (fun s hs=>by cases hs) (by simp;omega) (by omega) (by omega)) J ?_;refine cl J (awC hb ho (by omega)) J ?_;exact rzF aBO ⟨_,func56,J,J⟩ J J
def Sj{E:List aE}(hE: ∀f∈E,FE f)(hn:E.length<=100000){fill:Int}{q:aa}{i:Nat}[hq:aB q i](hi:i<=80000):PF GB prog 23 [eZ q, .pt [vI fill], .pt [.sl (E.map bh)]] (vB (oG fill (gn E q))):=by
 refine fn (fu:=⟨3⟩) func23 J J ntmps23 J J (fun C=>?_);refine yo 1 J<|yo 2 J<|gx J<|cl J (Py hE (by omega) (p:=q) (i:=i) (by omega)) J<|cl J (Nc (fill:=fill) (n:=gn E q)) J<|?_;exact rz J J
def QJ{rs:List (List ZP)}(hr: ∀r∈rs,cp r)(fill:Int):(fun q=>oG fill (gn (bO rs) q))=fe rs fill:=by
 funext q;rw[KK hr];rfl
def Tr.like_depth: ∀{t u:Tr},t.like u->t.depth=u.depth
 | .leaf _, .leaf _,_=>rfl
 | .node _ _ _, .node _ _ _,h=>by rw[Tr.depth,Tr.depth,Tr.like_depth h.2.1,Tr.like_depth h.2.2]
def VS{rs:List (List ZP)}{fill:Int}(h: ∀r∈rs,cp r)(hn:rs.length<=3):(kD rs fill).all LB/\(kD rs fill).all ab.ok/\(kD rs fill).depth<=18/\(kD rs fill).size<=171:=by
 obtain⟨h1,h2,h3⟩:=Qe (fill:=fill) h;obtain⟨k1,k2⟩:=lj h;have hd:(me rs fill).depth<=(bO rs).length:=Dw;have ha: ∀{P:ab->Prop},(∀f∈bO rs,P f.l)->(kD rs fill).all P:=fun hP=>by
  rw[uk,Tr.like_lns h1,<-uk];exact rE hP
 have hA:o9 ((bO rs).map (·.l)) (kD rs fill):=ha fun f hf=>⟨f.l,gN hf, .inl J⟩;have hs:=ayv (K:=(bO rs).map (·.l)) (fun m hm=>by obtain⟨f,hf,rfl⟩:=bJ.1 hm;exact(k2 f hf).ok) h2 h3 d8.nil hA;rw[aJ] at hs;refine⟨ha fun f hf=>(k2 f hf).lb,h3,by rw[Tr.like_depth h1];omega,?_⟩;have:(bO rs).length*((bO rs).length+1)<=18*19:=lJ (by omega) (by omega);omega
def MU{rs:List (List ZP)}(h: ∀r∈rs,lB r)(hn:rs.length<=3){fill:Int}(hfill:fill=1\/fill=2):PF GB prog 8 [.sl (rs.map mF),vI fill] (.tp [eA (fm rs fill), .v .nilIface]):=by
 have hr: ∀r∈rs,cp r:=fun r hr=>(h r hr).ok;have hel0:=(lj hr).1;have hfe:=QF hr;obtain⟨b1,b2,b3,b4⟩:=VS (fill:=fill) hr hn;have hbx:=(O9 (fill:=fill) hr hn).x (R1 _ _) (by decide);have hbs:=hbx.s;have hbE:(ie (fe rs fill) (bO rs).length (bO rs) []).restrict []=fm rs fill:=X2 hr;have hbl:=hbx.lb;have hml:(rs.map rF).length=rs.length:=aJ ..;refine fn func8 J J ntmps8 J J (fun C=>?_);refine cl (fu:=⟨13⟩) J (Mq h (by omega)) J<|ek J J J<|?_;refine cs (fu2:=⟨20⟩) 25 J J J (fun hg25=>?_) (fun hg25=>?_)
 .
  refine br (fu2:=⟨13⟩) J J J (fun hc22=>?_) (fun hc22=>?_)
  .
   exact absurd hfill (by omega)
  .
   refine ao 32 (.d (vI (rs.length:Nat))) J (by rw[hml]<;>rfl) ?_;refine gx J<|?_;refine H5 8 0 80 136 17 J J J J J ?_;refine lp (X:=Nat) (fun k=>[(33, .d (vI (k:Nat))),(8, .ov 8 0)]) (fun k=>[(8,some (.o 78 [.rw 80] true)),(80,some (.b 136 17 ((bO (rs.take k)).map bh) true))]) (fun k=>k<=rs.length) (fun k=>rs.length-k) 0 J (bT _) (fun _=>J) (fun k hk=>?_);have hm5:=xu hr k;have hm3:((bO (rs.take k)).map bh).length<=6*k:=by rw[aJ];exact xu hr k
   refine br (fu2:=⟨0⟩) J J J (fun hc34=>?_) (fun hc34=>?_)
   .
    obtain⟨r,hx⟩: ∃u,rs[k]? =some u:=⟨_,aX (by omega)⟩;have hrr:=h r (aM hx);have hel:=(rA hrr.ok).1;have hn6:=hrr.ok.n6;have hm4:((eO r).map bh).length=(eO r).length:=aJ ..;refine ix _ J (ee hx) J<|cl J (HN hrr.ok) J<|ap (hv:=by simp only[ah];exact⟨by kernel_rfl,by omega⟩) ((bO (rs.take (k+1))).map bh) J (KX hx) (Ag (eO r)) J<|?_;refine iv 40 80 J ?_;exact at_ (k+1) ⟨(by omega),(by omega)⟩
   .
    obtain rfl:k=rs.length:=by omega
    rw[dS];refine uA 80 J ?_;refine gx (fu:=⟨7⟩) J<|?_;refine gx J<|fz 3 J J<|fz 8 J J ?_;refine tC 3 J (fun GB1 pv1 hg1 hp1=>?_);refine tC 8 J (fun GB2 pv2 hg2 hp2=>?_);refine Fh (fu:=⟨0⟩) J J ?_;refine cl J (S0 (E:=bO rs) (CP hr) (Jc rs) (by omega) (by omega) (f:=23) (c2:=[pv1,pv2]) (ds2:=[.pt [vI fill], .pt [.sl ((bO rs).map bh)]]) (.cons (hp1.up hg2) (.cons hp2 (co.2 J))) (acc:=fe rs fill) (fun q hq=>by rw[<-QJ hr];exact Sj hfe (by omega) (q:=q) (i:=20000) (by decide)) (show(kD rs fill).size<=65536 by omega) (show(kD rs fill).depth<=1000 by omega) b2 b1) J ?_;refine cl J (Mp (t:=(ie (fe rs fill) (bO rs).length (bO rs) []).restrict []) (by rw[hbE];exact hbl) (by rw[hbE];omega)) J ?_;exact rz J (by rw[hbE]<;>rfl)
 .
  refine ao 32 (.d (vI (rs.length:Nat))) J (by rw[hml]<;>rfl) ?_;refine gx J<|?_;refine H5 8 0 80 136 17 J J J J J ?_;refine lp (X:=Nat) (fun k=>[(33, .d (vI (k:Nat))),(8, .ov 8 0)]) (fun k=>[(8,some (.o 78 [.rw 80] true)),(80,some (.b 136 17 ((bO (rs.take k)).map bh) true))]) (fun k=>k<=rs.length) (fun k=>rs.length-k) 0 J (bT _) (fun _=>J) (fun k hk=>?_);have hm5:=xu hr k;have hm3:((bO (rs.take k)).map bh).length<=6*k:=by rw[aJ];exact xu hr k
  refine br (fu2:=⟨0⟩) J J J (fun hc34=>?_) (fun hc34=>?_)
  .
   obtain⟨r,hx⟩: ∃u,rs[k]? =some u:=⟨_,aX (by omega)⟩;have hrr:=h r (aM hx);have hel:=(rA hrr.ok).1;have hn6:=hrr.ok.n6;have hm4:((eO r).map bh).length=(eO r).length:=aJ ..;refine ix _ J (ee hx) J<|cl J (HN hrr.ok) J<|ap (hv:=by simp only[ah];exact⟨by kernel_rfl,by omega⟩) ((bO (rs.take (k+1))).map bh) J (KX hx) (Ag (eO r)) J<|?_;refine iv 40 80 J ?_;exact at_ (k+1) ⟨(by omega),(by omega)⟩
  .
   obtain rfl:k=rs.length:=by omega
   rw[dS];refine uA 80 J ?_;refine gx (fu:=⟨7⟩) J<|?_;refine gx J<|fz 3 J J<|fz 8 J J ?_;refine tC 3 J (fun GB1 pv1 hg1 hp1=>?_);refine tC 8 J (fun GB2 pv2 hg2 hp2=>?_);refine Fh (fu:=⟨0⟩) J J ?_;refine cl J (S0 (E:=bO rs) (CP hr) (Jc rs) (by omega) (by omega) (f:=23) (c2:=[pv1,pv2]) (ds2:=[.pt [vI fill], .pt [.sl ((bO rs).map bh)]]) (.cons (hp1.up hg2) (.cons hp2 (co.2 J))) (acc:=fe rs fill) (fun q hq=>by rw[<-QJ hr];exact Sj hfe (by omega) (q:=q) (i:=20000) (by decide)) (show(kD rs fill).size<=65536 by omega) (show(kD rs fill).depth<=1000 by omega) b2 b1) J ?_;refine cl J (Mp (t:=(ie (fe rs fill) (bO rs).length (bO rs) []).restrict []) (by rw[hbE];exact hbl) (by rw[hbE];omega)) J ?_;exact rz J (by rw[hbE]<;>rfl)
def Ml{u v:aa}{i j:Nat}[hp:aB u i][hq:aB v j](hi:i<=10000000:=by decide)(hj:j<=10000000:=by decide):PF GB prog 130 [eZ u,eZ v] (vB (decide (cO u v=0))):=by
 refine fn func130 J J ntmps130 J J (fun C=>?_);refine cl J (Li (u:=u) (v:=v) hi hj) J<|?_;exact rz J J
def lv(x:aa):List aa->List aa
 |[]=>[]
 |y::l=>if cO y x=0 then lv y l else y::lv y l
def r5:List aa->List aa
 |[]=>[]
 |x::l=>x::lv x l
def E4{l:List aa}{k:Nat}{x y:aa}(h:l[k]? =some y):lv x (l.drop k)=if cO y x=0 then lv y (l.drop (k+1)) else y::lv y (l.drop (k+1)):=by
 obtain⟨h1,h2⟩:=aS.1 h;rw[cX h1,h2,lv]
def avX{l:List aa}{k:Nat}{y:aa}(h:l[k]? =some y):l.take (k+1)=l.take k++[y]:=by
 rw[fN,h];rfl
def vZ:DV:= .ag [vI 0,vI 0, .v (.pointer none),vI 0,vI 0, .v (.pointer none)]
def ayw(l:List aa)(k:Nat)(y:aa):(l.map eZ).set k (eZ y)=(l.set k y).map eZ:=(qQ ..).symm
def ao0{l:List aa}(h:l.length<2):r5 l=l:=by
 cases l with
 |nil=>rfl
 |cons x l=>cases l with
  |nil=>rfl
  |cons y l=>simp at h;omega
def Xr{l:List aa}{x:aa}(h:l[0]? =some x):r5 l=l.take 1++lv x (l.drop 1):=by
 cases l with
 |nil=>cases h
 |cons y l=>cases h;rfl
def MW{r l:List aa}{a b:Nat}(h:a<=b)(e:r.drop a=l.drop a):r[b]? =l[b]? :=by
 have:=congrArg (·[b-a]?) e;simpa[mQ,show a+(b-a)=b by omega] using this
def We{r l:List aa}{a b:Nat}(h:a<=b)(e:r.drop a=l.drop a):r.drop b=l.drop b:=by
 have:=congrArg (List.drop (b-a)) e;simpa[tW,show a+(b-a)=b by omega] using this
def alF{r:List aa}{i:Nat}{u:aa}(h:i<r.length):(r.set i u).take (i+1)=r.take i++[u]:=by
 rw[fN,rM h,List.take_set_of_le (bQ _)];rfl
def X1{r:List aa}{i:Nat}(h:i<r.length):(r.map eZ)[(i:Int).toNat]? =some (eZ r[i]):=by simp[h]
def aud{l:List aa}{i0:Nat}(hb: ∀d∈l,aB d i0)(hn:l.length<=10000000)(hi:i0<=10000000):PB GB prog 129 (ij [none,some (.v (.func (.func 130) #[] #[]))]) 6 89 (l.map eZ) (fun w=> .v (.slice w.a w.n w.c)) ((r5 l).map eZ):=by
 have hml:(l.map eZ).length=l.length:=aJ ..;refine xb (fu:=⟨10⟩) func129 J J ntmps129 J J (fun C=>?_);refine ao 9 (.d (vI (l.length:Nat))) J (by rw[hml]<;>rfl) ?_;refine gx J<|?_;refine br J J J (fun hc10=>?_) (fun hc10=>?_)
 .
  exact tf J J J (by rw[ao0 (by omega)])
 .
  obtain⟨x0,hx0⟩: ∃x,l[0]? =some x:=⟨_,aX (by omega)⟩;refine lp (fu:=⟨6⟩) (X:=Nat×aa) (fun⟨k,x⟩=>[(5, .d (vI (k:Nat)))]) (fun⟨k,x⟩=>[]) (fun⟨k,x⟩=>1<=k/\k<=l.length/\l[k-1]? =some x/\r5 l=l.take k++lv x (l.drop k)) (fun⟨k,x⟩=>l.length-k) ⟨1,x0⟩ J ⟨bQ _,by omega,hx0,by rw[Xr hx0]⟩ (fun _=>J) (fun⟨k,x⟩ hk=>?_)
  try dsimp only at hk⊢
  obtain⟨h1,h2,h3,h4⟩:=hk;refine ao 14 (.d (vI (l.length:Nat))) J (by rw[hml]<;>rfl) ?_;refine gx J<|?_;refine br J J J (fun hc15=>?_) (fun hc15=>?_)
  .
   obtain⟨y,hy⟩: ∃y,l[k]? =some y:=⟨_,aX (by omega)⟩;haveI:=hb y (aM hy);haveI:=hb x (aM h3);refine lb (fu:=⟨3⟩) _ J (ee hy) J<|?_;refine ao 25 (.d (vI ((k-1:Nat):Int))) J (by rw[Int.ofNat_sub h1]<;>rfl) ?_;refine gx J<|lb (fu:=⟨0⟩) _ J (ee h3) J<|cl J (Ml (u:=y) (v:=x) hi hi) J<|?_;refine bd (fu1:=⟨4⟩) J J J (fun hc28=>?_) (fun hc28=>?_)
   .
    have hc28':=hc28;refine Qy k (l.length-k) J J (by omega) (by omega) J<|?_;refine lp (fu:=⟨5⟩) (X:=Nat×Nat×aa×List aa) (fun⟨i,m,z,r⟩=>[(5, .d (vI (i:Nat))),(7, .d (vI (m:Nat)))]) (fun⟨i,m,z,r⟩=>[(1000000,some (.b 89 6 (r.map eZ) false))]) (fun⟨i,m,z,r⟩=>1<=m/\k+m<=l.length/\i+1<=k+m/\r.length=l.length/\r.drop (k+m-1)=l.drop (k+m-1)/\l[k+m-1]? =some z/\r5 l=r.take i++lv z (l.drop (k+m))) (fun⟨i,m,z,r⟩=>l.length-m) ⟨k,1,y,l⟩ J ⟨bQ _,by omega,by omega,J,J,by rw[mZ];exact hy,by rw[h4,E4 hy,if_pos hc28']⟩ (fun _=>J) (fun⟨i,m,z,r⟩ hk=>?_)
    try dsimp only at hk⊢
    obtain⟨g1,g2,g3,g4,g5,g6,g7⟩:=hk;have hrl:(r.map eZ).length=r.length:=aJ ..;refine rsn J J<|?_;refine br (fu1:=⟨9⟩) (fu2:=⟨9⟩) J J J (fun hc35=>?_) (fun hc35=>?_)
    .
     obtain⟨u,hu⟩: ∃u,l[k+m]? =some u:=⟨_,aX (by omega)⟩;haveI:=hb u (aM hu);haveI:=hb z (aM g6);have g8:r[k+m]? =some u:=by rw[<-hu];exact MW (by omega) g5
     have g10:r[k+m-1]? =some z:=by rw[<-g6];exact MW (bQ _) g5
     have g9:r.drop (k+m)=l.drop (k+m):=We (by omega) g5;refine K2 (k+m) J (by omega) (by omega) (by omega) J<|lb (fu:=⟨3⟩) _ J (ee g8) J<|K2 (k+m-1) J (by omega) (by omega) (by omega) J<|?_;refine lb (fu:=⟨0⟩) _ J (ee g10) J<|cl J (Ml (u:=u) (v:=z) hi hi) J<|?_;refine bb (fu1:=⟨6⟩) J J J (fun hc49=>?_) (fun hc49=>?_)
     .
      have hc49': ¬cO u z=0:=by simpa using hc49
      refine K2 (k+m) J (by omega) (by omega) (by omega) J<|lb _ J (ee g8) J<|sb _ ((r.set i u).map eZ) J (X1 (by omega)) J (by rw[<-ayw]<;>rfl) J<|?_;exact at_ ⟨i+1,m+1,u,r.set i u⟩ (by dsimp only;exact⟨⟨by omega,by omega,by omega,by rw[aN];exact g4,by rw[show k+(m+1)-1=k+m by omega,qY (by omega)];exact g9,by rw[show k+(m+1)-1=k+m by omega];exact hu,by rw[g7,E4 hu,if_neg hc49',alF (by omega),dX];rfl⟩,(by omega)⟩)
     .
      have hc49':cO u z=0:=by simpa using hc49
      exact at_ ⟨i,m+1,u,r⟩ (by dsimp only;exact⟨⟨by omega,by omega,by omega,g4,by rw[show k+(m+1)-1=k+m by omega];exact g9,by rw[show k+(m+1)-1=k+m by omega];exact hu,by rw[g7,E4 hu,if_pos hc49'];rfl⟩,(by omega)⟩)
    .
     obtain hm:k+m=l.length:=by omega
     refine Qy i (l.length-i) J J (by omega) (by omega) J<|rcl (fu:=⟨6⟩) _ J (by rw[hrl];omega) (by omega) J J<|rct ((r.take i).map eZ) i J J (by rw[aR,cK,aU,hrl];omega) (by rw[fV (by rw[cK,hrl];omega),List.take_take,Nat.min_self,mW]) J<|?_;exact tf J J J (by rw[g7,hm,iM,lv,iU])
   .
    have hc28':=hc28;exact at_ ⟨k+1,y⟩ (by dsimp only;exact⟨⟨by omega,by omega,hy,by rw[h4,E4 hy,if_neg hc28',avX hy,dX];rfl⟩,(by omega)⟩)
  .
   exact tf J J J (by rw[h4,show k=l.length by omega,iM,lv,iU,dS])
def avP{v:Value}(h:Go.Sx.flat v=true):v.oneCell'=true:=by cases v<;>first|rfl|cases h
def Sa{α:Type}{k:Nat}: ∀(l:List (List α)) (t:Nat),(∀x∈l,x.length=k)->t<l.length*k->l.flatten[t]? =(l[t/k]?).bind (·[t%k]?)
 |[],t,_,h=>by simp at h
 |x::l,t,h,ht=>by
  have hx:=h x aQ;have hk:0<k:=by
   rcases fR k with e|e
   ·subst e;simp at ht
   ·exact e
  rw[lZ];by_cases q:t<k
  ·rw[dK (by omega),kQ q,fU q];rfl
  ·rw[gX (by omega),hx,Sa l (t-k) (fun y hy=>h y (aZ _ hy)) (by rw[bV,dQ] at ht;omega)]
   have e1:t/k=(t-k)/k+1:=by rw[Nat.div_eq_sub_div hk (by omega)]
   have e2:t%k=(t-k)%k:=by rw[Nat.mod_eq_sub_mod (by omega)]
   rw[e1,e2];rfl
section
variable {α:Type} [Inhabited α]
def axK(enc:α->List Value)(k:Nat)(hk: ∀x,(enc x).length=k)(d:Array α):(Go.Sort.flatK enc k d).toList=(d.toList.map enc).flatten:=by
 apply lQ;intro t;have hlen:(d.toList.map enc).flatten.length=d.size*k:=by
  have: ∀l:List α,(l.map enc).flatten.length=l.length*k:=fun l=>by
   induction l with
   |nil=>simp
   |cons x l ih=>rw[bL,lZ,aR,ih,hk,bV,dQ];omega
  simpa using this d.toList
 by_cases ht:t<d.size*k
 ·have hk0:0<k:=by
   rcases fR k with e|e
   ·subst e;simp at ht
   ·exact e
  have hi:t/k<d.size:=sN (by rwa [cV]);rw[Sa (k:=k) _ _ (fun x hx=>by obtain⟨y,_,rfl⟩:=bJ.1 hx;exact hk y) (by simpa using ht)];simp only[Go.Sort.flatK,oT,Array.toList_range,fS];rw[qV ht];have hj:t%k<(enc d[t/k]).length:=by rw[hk];exact dW _ hk0
  simp only[jM];rw[getElem!_pos d (t/k) hi,getElem!_pos (enc d[t/k]) (t%k) hj];simp[hi,hj]
 ·rw[eK (by simp[Go.Sort.flatK];omega),eK (by rw[hlen];omega)]
def R2(enc:α->List Value)(k:Nat)(w:World)(b m:Nat)(dk:Array α)(os:Array Obj){q:Nat}(hq:q<w.heap.size):
  (sortWorldK enc k w b 0 m dk os).heap[q]? =if q=b then(w.heap[q]?).map (Go.Sort.onCells (Go.Sort.putCells id 0 (Go.Sort.flatK enc k dk))) else w.heap[q]? :=by
 show((w.heap.modify b _)++os)[q]? =_;rw[jV (by simpa using hq),Array.getElem?_modify];by_cases e:b=q
 ·subst e;simp
 ·simp[e,Ne.symm e]
def auY{F:Array Value}{xs rest:List Value}(h:xs.length=F.size):Go.Sort.putCells id 0 F ⟨xs++rest⟩=⟨F.toList++rest⟩:=by
 apply Array.ext';apply lQ;intro k;simp only[Go.Sort.putCells,Array.toList_mapIdx,List.getElem?_mapIdx];by_cases hk:k<F.size
 ·rw[dK (by omega),dK (by simpa using hk),aX (by omega)]
  simp[hk]
 ·rw[gX (by omega),gX (by simp;omega),h]
  simp only[iS]
  cases rest[k-F.size]? with
  |none=>rfl
  |some v=>simp[hk]
end
def pf{A:Type}(cf:A->A->Int)(ds:List A):List A:=ds.mergeSort fun x y=>!decide (cf y x<0)
def zr{A:Type}(cf:A->A->Int)(ds:List A):(pf cf ds).Perm ds:=List.mergeSort_perm ..
def Pe{A:Type}{cf:A->A->Int}(hO:Go.Sort.SWO (Go.Proofs.ltOf cf))(ds:List A):(pf cf ds).Pairwise fun x y=> ¬cf y x<0:=by
 have:=List.pairwise_mergeSort (le:=fun x y=>!decide (cf y x<0)) (fun a b c h1 h2=>by
  have h1':Go.Proofs.ltOf cf b a=false:=by simpa[Go.Proofs.ltOf] using h1
  have h2':Go.Proofs.ltOf cf c b=false:=by simpa[Go.Proofs.ltOf] using h2
  have:=hO.ntrans c b a h2' h1';simpa[Go.Proofs.ltOf] using this) (fun a b=>by
  cases h1:Go.Proofs.ltOf cf b a with
  |false=>have: ¬cf b a<0:=(by simpa[Go.Proofs.ltOf] using h1);simp;omega
  |true=>
   cases h2:Go.Proofs.ltOf cf a b with
   |false=>have: ¬cf a b<0:=(by simpa[Go.Proofs.ltOf] using h2);simp;omega
   |true=>have:=hO.trans _ _ _ h1 h2;rw[hO.irrefl] at this;cases this) ds
 exact this.imp fun h=>by simpa using h
def Ux{P:Program}{ρ:Go.Shelf.Ren}{GB:Gh}(L:SlLaysF0.n6 P ρ)(ha:pO P (ρ.f 6)){s:Nat}(hAg: ∀w,(isAgg (ρ.t 24)).run P w= .ok true w)(hZs: ∀w,(sizeOf (ρ.t 24)).run P w= .ok s w)
  {A:Type}(e:A->DV)(V:A->Prop)(hA: ∀x,∃l,e x= .ag l/\(DV.ag l).okc=true/\l.length=s)(cf:A->A->Int)(hO:Go.Sort.SWO (Go.Proofs.ltOf cf)){g:FuncId}(hg:pO P g)
  (hc: ∀x y,V x->V y->PF GB P g [e x,e y] (.v (.int .i64 (cf x y)))){ty:TypeId}{ds:List A}(hV: ∀x∈ds,V x)(hn:ds.length<4611686018427387904)(hu: ∀x∈ds,∀y∈ds,¬cf x y<0-> ¬cf y x<0->x=y):
  PW GB P (ρ.f 6) [none,some (.v (.func (.func g) #[] #[]))] s ty (ds.map e) (.tp []) ((pf cf ds).map e):=by
 intro G z vs B hgb hB hvs;refine⟨ha,fun w hw=>?_⟩;obtain⟨v1,m1,rfl,q1,hvs⟩:=aP.1 hvs;obtain⟨v2,m2,rfl,q2,hvs⟩:=aP.1 hvs
 cases co.1 hvs
 rw[aH] at q1 q2;subst q1 q2;obtain⟨es,k1,k2,k3,_⟩:=hB;simp only at k1 k2 k3;have hlen:es.length=ds.length:=by rw[k2.len,aJ]
 by_cases h0:ds=[]
 ·subst h0
  have hes:es=[]:=bU (by simpa using hlen);have hz:z.n=0:=by rw[k1.len,hes];rfl
  rw[hz];refine(AnyF.slices_SortFunc_none L z.a z.c _ w).mono fun r w' ⟨h1,h2⟩=>?_;subst h2;exact⟨_,asB B,G,h1,hw,jv.2 ⟨[],J, .nil⟩,es,k1.asB,by subst hes;show IsLs G ((pf cf []).map e) [];unfold pf;rw[List.mergeSort_nil];exact .nil,k3,fun h=>by cases h⟩
 ·have hpos:0<es.length:=by rw[hlen];exact qU.2 h0
  rcases k1 with⟨e1,_,_⟩|⟨b,rest,lo,e1,e2,e3,e4,e5⟩
  ·rw[e1] at hpos;simp at hpos
  subst e2
  -- elements with their cells
  have lift: ∀{ds:List A} {es:List Value},IsLs G (ds.map e) es->(∀x∈ds,V x)-> ∃qs:List {q:A×List Value//V q.1/\Is G (e q.1) (.agg ⟨q.2⟩)},qs.map (·.1.1)=ds/\qs.map (fun q=>Value.agg ⟨q.1.2⟩)=es:=by
   intro ds
   induction ds with
   |nil=>intro es h _;cases co.1 h;exact⟨[],rfl,rfl⟩
   |cons x ds ih=>
    intro es h hV;obtain⟨y,n,rfl,g1,g2⟩:=aP.1 h;obtain⟨qs,g3,g4⟩:=ih g2 fun x hx=>hV x (aZ _ hx);obtain⟨l,hl,_⟩:=hA x;have g1':=g1;rw[hl] at g1';obtain⟨m,rfl,_⟩:=c7.1 g1';exact⟨⟨(x,m),hV x aQ,g1⟩::qs,by simp[g3],by simp[g4]⟩
  obtain⟨qs,hq1,hq2⟩:=lift k2 hV;have:Inhabited {q:A×List Value//V q.1/\Is G (e q.1) (.agg ⟨q.2⟩)}:=⟨qs.head (fun e=>by rw[e] at hq1;exact h0 hq1.symm)⟩
  let enc:{q:A×List Value//V q.1/\Is G (e q.1) (.agg ⟨q.2⟩)}->List Value:=fun q=>q.1.2
  have henc: ∀q,(enc q).length=s/\ ∀v∈enc q,Go.Sx.flat v=true:=fun q=>by
   obtain⟨l,hl,h1,h2⟩:=hA q.1.1;have h3:=q.2.2;rw[hl] at h3;obtain⟨m,hm,h4⟩:=c7.1 h3
   cases hm
   exact⟨by show q.1.2.length=s;rw[h4.len,h2],fun v hv=>h4.flat h1 v hv⟩
  have hk: ∀q,(enc q).length=s:=fun q=>(henc q).1;have hqs:qs.toArray.size=es.length:=by rw[nN,<-hq2,aJ]
  have hfl: ∀d:Array {q:A×List Value//V q.1/\Is G (e q.1) (.agg ⟨q.2⟩)},(Go.Sort.flatK enc s d).toList=aC (d.toList.map fun q=>Value.agg ⟨q.1.2⟩):=fun d=>by
   rw[axK enc s hk];unfold aC;rw[List.map_map];rfl
  have hfe:(Go.Sort.flatK enc s qs.toArray).toList=aC es:=by rw[hfl,<-hq2]
  have hown:=hw.hown ⟨b,aC es++rest,ty,false⟩ aQ;obtain⟨hb,hGb,_,_⟩:=hown;simp only at hb hGb;have hblt:=ik hb;have hH:Go.Sort.HoldsK enc s w b 0 qs.toArray:=by
   intro j hj;refine⟨?_,by simp[World.frozen?,hb]⟩;rw[CN hb,fQ];have hj':j<(aC es).length:=by rw[<-hfe];simpa using hj
   rw[dK hj',<-hfe];show _=some ((Go.Sort.flatK enc s qs.toArray)[j]!);rw[getElem!_pos _ j hj];simp
  have hsz: ∀dk:Array {q:A×List Value//V q.1/\Is G (e q.1) (.agg ⟨q.2⟩)},dk.size=qs.toArray.size->(aC es).length=(Go.Sort.flatK enc s dk).size:=fun dk hd=>by rw[<-hfe];simp[hd]
  have hblk: ∀(m:Nat) (os:Array Obj) (dk:Array _),dk.size=qs.toArray.size->(sortWorldK enc s w b 0 m dk os).heap[b]? =some (.cells ⟨(Go.Sort.flatK enc s dk).toList++rest⟩ ty (0,0)):=fun m os dk hd=>by
   rw[R2 enc s w b m dk os hblt,if_pos J,hb];show some (Obj.cells (Go.Sort.putCells id 0 (Go.Sort.flatK enc s dk) ⟨aC es++rest⟩) ty (0,0))=_;rw[auY (hsz dk hd)]
  have hoth: ∀(m:Nat) (os:Array Obj) (dk:Array _) (q:Nat),q<w.heap.size->q≠b->(sortWorldK enc s w b 0 m dk os).heap[q]? =w.heap[q]? :=fun m os dk q hq hne=>by rw[R2 enc s w b m dk os hq,if_neg hne]
  have hsub: ∀(m:Nat) (os:Array Obj) (dk:Array _) (c:Nat) (cs:List Value),G c=some cs-> ∃ty fz,(sortWorldK enc s w b 0 m dk os).heap[c]? =some (.cells ⟨cs⟩ ty fz):=fun m os dk c cs hcs=>by
   obtain⟨ty',fz,h⟩:=hw.sub c cs hcs;exact⟨ty',fz,by rw[hoth m os dk c (ik h) (fun e=>by subst e;rw[hGb] at hcs;cases hcs)];exact h⟩
  have hsize: ∀(m:Nat) (os:Array Obj) (dk:Array _),w.heap.size<=(sortWorldK enc s w b 0 m dk os).heap.size:=fun m os dk=>by
   show _<=((w.heap.modify b _)++os).size;simp
  have hcmp:Go.Proofs.CmpLays P g #[] enc s (fun q r=>cf q.1.1 r.1.1) b 0 qs.toArray.size w:=by
   intro m os dk _ x y;have hF:=hc x.1.1 y.1.1 x.2.1 y.2.1 G [.agg ⟨x.1.2⟩, .agg ⟨y.1.2⟩] hgb (.cons x.2.2 (.cons y.2.2 .nil));refine(hF.run _ (hsub m os dk)).mono fun r W ⟨v,G',h1,h2,h3⟩=>?_;rw[aH] at h3;subst h3;refine⟨h1,W.drawn-(sortWorldK enc s w b 0 m dk os).drawn,W.heap.extract (sortWorldK enc s w b 0 m dk os).heap.size W.heap.size,?_⟩;have hdr:=h2.dr;have hos:=h2.os;have htp:=h2.tape;have hou:=h2.output;have hkp:=h2.keep;have hss:=h2.size;simp only at hdr hos htp hou hkp hss;generalize sortWorldK enc s w b 0 m dk os=W0 at*
   cases W with
   |mk heap tape drawn os' output=>
    simp only at*;unfold Go.Sort.grow World.drewN;simp only[World.mk.injEq];refine⟨?_,htp,by omega,hos,hou⟩;apply Array.ext_getElem?;intro k;rw[Array.getElem?_append];split
    ·rename_i hk';exact hkp k hk' (by simp)
    ·rename_i hk'
     rw[Array.getElem?_extract];split
     ·congr 1;omega
     ·rw[mL (by omega)]
  have hO':Go.Sort.SWO (Go.Proofs.ltOf fun(q r:{q:A×List Value//V q.1/\Is G (e q.1) (.agg ⟨q.2⟩)})=>cf q.1.1 r.1.1):=⟨fun x=>hO.irrefl x.1.1,fun x y z=>hO.trans x.1.1 y.1.1 z.1.1,fun x y z=>hO.ntrans x.1.1 y.1.1 z.1.1⟩;have hrun:=AnyQ.slices_SortFunc L s hAg hZs enc hk (fun q v hv=>avP ((henc q).2 v hv)) (fun q r=>cf q.1.1 r.1.1) hO' g #[] b 0 z.c qs.toArray w (fun args w=>Df hg args w) hcmp hH hblt (by rw[hqs,hlen];exact hn);have ez:z=⟨some ⟨b,0,none⟩,qs.toArray.size,z.c⟩:=by rw[hqs];exact e1
  have ea:(⟨[Value.slice z.a z.n z.c, .func (.func g) #[] #[]]⟩:Array Value)= #[.slice (some ⟨b,0,none⟩) qs.toArray.size z.c, .func (.func g) #[] #[]]:=by rw[ez]
  rw[ea];refine hrun.mono fun r w' ⟨h1,d',n,os,hp,hs,h2⟩=>?_;subst h2;have hdz:d'.size=qs.toArray.size:=hp.1;have hperm:d'.toList.Perm qs:=by
   have:=hp.2.2;have e1:d'.toList.take qs.length=d'.toList:=bX (by rw[iS,hdz];simp);simpa[e1] using this
  have hasc:d'.toList.Pairwise fun x y=> ¬cf y.1.1 x.1.1<0:=by
   rw[nL];intro i j hi hj hij;have:=hs i j (bT _) hij (by rw[<-hdz];simpa using hj);rw[getElem!_pos d' j (by simpa using hj),getElem!_pos d' i (by simpa using hi)] at this;simpa[Go.Proofs.ltOf] using this
  have hds:d'.toList.map (·.1.1)=pf cf ds:=by
   refine List.Perm.eq_of_pairwise (le:=fun x y=> ¬cf y x<0) (fun x y hx hy k1 k2=>?_) ?_ (Pe hO ds) ?_
   ·have m1:x∈ds:=by
     obtain⟨q,hq,rfl⟩:=bJ.1 hx;rw[<-hq1];exact bJ.2 ⟨q,hperm.mem_iff.1 hq,J⟩
    exact hu x m1 y ((zr cf ds).mem_iff.1 hy) k2 k1
   ·rw[rR];exact hasc
   ·refine(hperm.map _).trans ?_
    rw[hq1];exact(zr cf ds).symm
  have hlen':(d'.toList.map fun q=>Value.agg ⟨q.1.2⟩).length=es.length:=by rw[aJ,iS,hdz,hqs]
  have hIs: ∀l:List {q:A×List Value//V q.1/\Is G (e q.1) (.agg ⟨q.2⟩)},IsLs G ((l.map (·.1.1)).map e) (l.map fun q=>Value.agg ⟨q.1.2⟩):=fun l=>by
   induction l with
   |nil=>exact .nil
   |cons q l ih=>exact .cons q.2.2 ih
  have hcell: ∀v∈d'.toList.map (fun q=>Value.agg ⟨q.1.2⟩),(aF v).length=s:=fun v hv=>by
   obtain⟨q,_,rfl⟩:=bJ.1 hv;exact hk q
  refine⟨_,[⟨b,aC (d'.toList.map fun q=>Value.agg ⟨q.1.2⟩)++rest,ty,false⟩],G,h1,?_,jv.2 ⟨[],J, .nil⟩,d'.toList.map (fun q=>Value.agg ⟨q.1.2⟩), .inr ⟨b,rest,false,by rw[hlen'];exact e1,J,ew _ hcell,?_,by rw[hlen'];exact e5⟩,by rw[<-hds];exact hIs _,hcell,fun h=>by cases h⟩
  ·refine⟨J,J,J,hsize n os d',fun q hq hqm=>hoth n os d' q hq fun e=>hqm (by rw[e];exact aQ),hsub n os d',bD.refl _,fun _ _=>J,fun o ho=>?_,List.pairwise_singleton _ _,?_,fun p hp=>(by cases hp)⟩
   ·rw[aV.1 ho]
    exact⟨by rw[<-hfl];exact hblk n os d' hdz,hGb,(fun h=>by cases h),fun _=>aQ⟩
   ·show w.drawn<=w.drawn+n
    omega
  ·rw[<-e4,ew _ hcell,e3,hlen']
def aEu{a b c:aa}(h:cD c a):cD c b\/cD b a:=by
 by_cases h1:c.half<b.half
 ·exact .inl (.inl h1)
 ·by_cases h2:b.half<a.half
  ·exact .inr (.inl h2)
  ·rcases h with h|⟨h,k⟩
   ·omega
   ·have e1:c.half=b.half:=by omega
    have e2:b.half=a.half:=by omega
    by_cases q1:0<c.cross b
    ·exact .inl (.inr ⟨e1,q1⟩)
    ·by_cases q2:0<b.cross a
     ·exact .inr (.inr ⟨e2,q2⟩)
     ·exfalso
      have i1:b.y*c.cross a=a.y*c.cross b+c.y*b.cross a:=by unfold aa.cross;grind
      have i2:b.x*c.cross a=a.x*c.cross b+c.x*b.cross a:=by unfold aa.cross;grind
      have q1':c.cross b<=0:=by grind
      have q2':b.cross a<=0:=by grind
      rcases kA b with⟨eb,kb⟩|⟨eb,kb⟩|⟨eb,kb⟩<;>rcases kA a with⟨ea,ka⟩|⟨ea,ka⟩|⟨ea,ka⟩<;>rcases kA c with⟨ec,kc⟩|⟨ec,kc⟩|⟨ec,kc⟩<;>first|omega|skip
      ·have ha:0<=a.y:=by grind
       have hc:0<=c.y:=by grind
       rcases kb with kb|⟨kb,kb'⟩
       ·have g1:=oL ha (show 0<= -c.cross b by grind)
        have g2:=oL hc (show 0<= -b.cross a by grind);have g3:=bF kb k;grind
       ·have hx:b.cross a=b.x*a.y:=by unfold aa.cross;rw[kb];grind
        have ha0:a.y=0:=by
         rcases ka with ka|ka
         ·have:=bF kb' ka;grind
         ·exact ka.1
        have hax:0<a.x:=by grind
        have hy:c.cross a= -(c.y*a.x):=by unfold aa.cross;rw[ha0];grind
        have:=oL hc (show 0<=a.x by grind);grind
      ·have ha:0<= -a.y:=by grind
       have hc:0<= -c.y:=by grind
       rcases kb with kb|⟨kb,kb'⟩
       ·have g1:=oL ha (show 0<= -c.cross b by grind)
        have g2:=oL hc (show 0<= -b.cross a by grind);have g3:=bF (show 0< -b.y by grind) k;grind
       ·have hx:b.cross a=b.x*a.y:=by unfold aa.cross;rw[kb];grind
        have ha0:a.y=0:=by
         rcases ka with ka|ka
         ·have:=bF (show 0< -b.x by grind) (show 0< -a.y by grind);grind
         ·exact ka.1
        have hax:0< -a.x:=by grind
        have hy:c.cross a= -(c.y*a.x):=by unfold aa.cross;rw[ha0];grind
        have:=oL hc (show 0<= -a.x by grind);grind
      ·have hy:c.cross a=0:=by unfold aa.cross;rw[ka.1,ka.2];grind
       rw[hy] at k;exact absurd k (by decide)
def LF:Go.Sort.SWO (Go.Proofs.ltOf cO):=by
 have e: ∀x y,Go.Proofs.ltOf cO x y=true↔cD x y:=fun x y=>by rw[<-ta];simp[Go.Proofs.ltOf]
 have e2: ∀x y,Go.Proofs.ltOf cO x y=false↔ ¬cD x y:=fun x y=>by rw[<-e];simp
 refine⟨fun x=>(e2 x x).2 (vf x),fun x y z h k=>(e x z).2 (Au ((e x y).1 h) ((e y z).1 k)),fun x y z h k=>(e2 x z).2 fun q=>?_⟩;rcases aEu (b:=y) q with q|q
 ·exact(e2 x y).1 h q
 ·exact(e2 y z).1 k q
def Sq: ∀{l m:List aa},l.Pairwise cD->m.Pairwise cD->(∀x,x∈l↔x∈m)->l=m
 |[],[],_,_,_=>rfl
 |[],b::m,_,_,h=>absurd ((h b).2 aQ) (by simp)
 |a::l,[],_,_,h=>absurd ((h a).1 aQ) (by simp)
 |a::l,b::m,h1,h2,h=>by
  obtain⟨p1,p2⟩:=bK.1 h1;obtain⟨q1,q2⟩:=bK.1 h2;have e:a=b:=by
   rcases aW.1 ((h a).1 aQ) with e|e
   ·exact e
   ·rcases aW.1 ((h b).2 aQ) with f|f
    ·exact f.symm
    ·exact(Cg (q1 a e) (p1 b f)).elim
  subst e;congr 1;refine Sq p2 q2 fun x=>⟨fun hx=>?_,fun hx=>?_⟩
  ·rcases aW.1 ((h x).1 (aZ _ hx)) with e|e
   ·subst e;exact(vf _ (p1 _ hx)).elim
   ·exact e
  ·rcases aW.1 ((h x).2 (aZ _ hx)) with e|e
   ·subst e;exact(vf _ (q1 _ hx)).elim
   ·exact e
def yr(l:List aa):Prop:= ∀x∈l,∀y∈l,cO x y=0->x=y
def Q3: ∀{l:List aa} {x:aa},(x::l).Pairwise (fun a b=> ¬cD b a)->yr (x::l)->(lv x l).Pairwise cD/\(∀y∈lv x l,cD x y)/\ ∀y,y∈x::lv x l↔y∈x::l
 |[],_,_,_=>⟨.nil,(fun y hy=>by cases hy),fun _=>Iff.rfl⟩
 |z::l,x,h,ht=>by
  obtain⟨p1,p2⟩:=bK.1 h;obtain⟨i1,i2,i3⟩:=Q3 p2 fun a ha b hb=>ht a (aZ _ ha) b (aZ _ hb);rw[lv];by_cases e:cO z x=0
  ·rw[if_pos e]
   obtain rfl:=ht z (by simp) x (by simp) e;exact⟨i1,i2,fun y=>by rw[i3];simp⟩
  ·rw[if_neg e]
   have hb:cD x z:=by
    by_cases q:cD x z
    ·exact q
    ·exact absurd (OE (p1 z aQ) q) e
   refine⟨bK.2 ⟨i2,i1⟩,fun y hy=>?_,fun y=>?_⟩
   ·rcases aW.1 hy with rfl|hy
    ·exact hb
    ·exact Au hb (i2 y hy)
   ·rw[aW,i3,aW (b:=x) (l:=z::l)]
def Mv: ∀(l:List aa) (x:aa),(lv x l).length<=l.length
 |[],_=>bQ _
 |y::l,x=>by
  have:=Mv l y;rw[lv];split<;>simp only[bV]<;>omega
def avG(l:List aa):(r5 l).length<=l.length:=by
 cases l with
 |nil=>exact bQ _
 |cons x l=>have:=Mv l x;simp only[r5,bV];omega
def aCQ{l:List aa}(h:l.Pairwise fun a b=> ¬cD b a)(ht:yr l):(r5 l).Pairwise cD/\ ∀y,y∈r5 l↔y∈l:=by
 cases l with
 |nil=>exact⟨.nil,fun _=>Iff.rfl⟩
 |cons x l=>
  obtain⟨i1,i2,i3⟩:=Q3 h ht;exact⟨bK.2 ⟨i2,i1⟩,i3⟩
def SZ{l:List aa}(ht:yr l)(y:aa):y∈gl l↔y∈l:=by
 have h2: ∀y,y∈gl l->y∈l:=fun y hy=>by
  rcases AS cO hy with h|h
  ·exact h
  ·cases h
 refine⟨h2 y,fun hy=>?_⟩;obtain⟨e,e1,e2⟩:=FU cO (o:=[]) hy;rcases e2 with rfl|e2
 ·exact e1
 ·rw[<-ht e (h2 e e1) y hy e2];exact e1
def Mj{l:List aa}(ht:yr l):r5 (pf cO l)=gl l:=by
 have hm: ∀y,y∈pf cO l↔y∈l:=fun y=>(zr cO l).mem_iff;have h1:(pf cO l).Pairwise fun a b=> ¬cD b a:=(Pe LF l).imp fun h=>by rw[<-ta];exact h
 obtain⟨k1,k2⟩:=aCQ h1 fun a ha b hb=>ht a ((hm a).1 ha) b ((hm b).1 hb);exact Sq k1 (BT l) fun x=>by rw[k2,hm,SZ ht]
def axN{t:Tr}(ht:t.all ab.ok)(p:aa):yr (dO t p):=fun x hx y hy h=>by
 obtain⟨l,k1,k2⟩:=pC.1 hx;obtain⟨m,k3,k4⟩:=pC.1 hy;obtain⟨a1,a2⟩:=oE k1;obtain⟨b1,b2⟩:=oE k3;exact Hd (sP ht _ a1) (sP ht _ b1) a2 b2 k2 k4 h
end Go.Sx
end
section
namespace Go.Proofs
open Go.Shelf
def Tryz.sortPt_ren:Go.Shelf.Ren:=⟨fun|6=>127|15=>177|14=>176|28=>220|29=>221|20=>212|21=>213|22=>214|23=>215|24=>216|25=>217|26=>218|27=>219|46=>241|47=>242|48=>243|49=>244|50=>245|57=>255|n=>n,fun|22=>79|24=>89|25=>225|3=>3|39=>219|0=>0|53=>218|55=>170|4=>4|46=>291|45=>290|50=>276|5=>5|9=>9|66=>316|70=>320|76=>327|77=>328|n=>n,fun|n=>n⟩
def Tryz.sortPt:Go.Proofs.SlLaysF0.n6 Tryz.prog Tryz.sortPt_ren:={
 mixed:=by kernel_rfl
 f6:=⟨Tryz.f127.name,by decide,Tryz.func127.trans (congrArg some (by kernel_rfl))⟩
 f14:=⟨Tryz.f176.name,by decide,Tryz.func176.trans (congrArg some (by kernel_rfl))⟩
 f15:=Tryz.func177.trans (congrArg some (by kernel_rfl))
 f20:=⟨Tryz.f212.name,by decide,Tryz.func212.trans (congrArg some (by kernel_rfl))⟩
 f21:=⟨Tryz.f213.name,by decide,Tryz.func213.trans (congrArg some (by kernel_rfl))⟩
 f22:=⟨Tryz.f214.name,by decide,Tryz.func214.trans (congrArg some (by kernel_rfl))⟩
 f23:=⟨Tryz.f215.name,by decide,Tryz.func215.trans (congrArg some (by kernel_rfl))⟩
 f24:=⟨Tryz.f216.name,by decide,Tryz.func216.trans (congrArg some (by kernel_rfl))⟩
 f25:=⟨Tryz.f217.name,by decide,Tryz.func217.trans (congrArg some (by kernel_rfl))⟩
 f26:=⟨Tryz.f218.name,by decide,Tryz.func218.trans (congrArg some (by kernel_rfl))⟩
 f27:=⟨Tryz.f219.name,by decide,Tryz.func219.trans (congrArg some (by kernel_rfl))⟩
 f28:=Tryz.func220.trans (congrArg some (by kernel_rfl))
 f29:=Tryz.func221.trans (congrArg some (by kernel_rfl))
 f46:=⟨Tryz.f241.name,by decide,Tryz.func241.trans (congrArg some (by kernel_rfl))⟩
 f47:=Tryz.func242.trans (congrArg some (by kernel_rfl))
 f48:=Tryz.func243.trans (congrArg some (by kernel_rfl))
 f49:=⟨Tryz.f244.name,by decide,Tryz.func244.trans (congrArg some (by kernel_rfl))⟩
 f50:=⟨Tryz.f245.name,by decide,Tryz.func245.trans (congrArg some (by kernel_rfl))⟩
 f57:=⟨Tryz.f255.name,by decide,Tryz.func255.trans (congrArg some (by kernel_rfl))⟩
 t0:=Tryz.underlying0
 a0:=Tryz.isAgg0
 z0:=Tryz.sizeOf0
 v0:=Tryz.zeroValue0
 t3:=Tryz.underlying3
 a3:=Tryz.isAgg3
 z3:=Tryz.sizeOf3
 v3:=Tryz.zeroValue3
 t4:=Tryz.underlying4
 a4:=Tryz.isAgg4
 z4:=Tryz.sizeOf4
 v4:=Tryz.zeroValue4
 t5:=Tryz.underlying5
 a5:=Tryz.isAgg5
 z5:=Tryz.sizeOf5
 v5:=Tryz.zeroValue5
 t9:=Tryz.underlying9
 a9:=Tryz.isAgg9
 z9:=Tryz.sizeOf9
 v9:=Tryz.zeroValue9
 t22:=Tryz.underlying79
 a22:=Tryz.isAgg79
 z22:=Tryz.sizeOf79
 v22:=Tryz.zeroValue79
 t25:=Tryz.underlying225
 a25:=Tryz.isAgg225
 z25:=Tryz.sizeOf225
 v25:=Tryz.zeroValue225
 t39:=Tryz.underlying219
 a39:=Tryz.isAgg219
 z39:=Tryz.sizeOf219
 v39:=Tryz.zeroValue219
 t45:=Tryz.underlying290
 a45:=Tryz.isAgg290
 z45:=Tryz.sizeOf290
 v45:=Tryz.zeroValue290
 t46:=Tryz.underlying291
 a46:=Tryz.isAgg291
 z46:=Tryz.sizeOf291
 v46:=Tryz.zeroValue291
 t50:=Tryz.underlying276
 a50:=Tryz.isAgg276
 z50:=Tryz.sizeOf276
 v50:=Tryz.zeroValue276
 t53:=Tryz.underlying218
 a53:=Tryz.isAgg218
 z53:=Tryz.sizeOf218
 v53:=Tryz.zeroValue218
 t55:=Tryz.underlying170
 a55:=Tryz.isAgg170
 z55:=Tryz.sizeOf170
 v55:=Tryz.zeroValue170
 t66:=Tryz.underlying316
 a66:=Tryz.isAgg316
 z66:=Tryz.sizeOf316
 v66:=Tryz.zeroValue316
 t70:=Tryz.underlying320
 a70:=Tryz.isAgg320
 z70:=Tryz.sizeOf320
 v70:=Tryz.zeroValue320
 t76:=Tryz.underlying327
 a76:=Tryz.isAgg327
 z76:=Tryz.sizeOf327
 v76:=Tryz.zeroValue327
 t77:=Tryz.underlying328
 a77:=Tryz.isAgg328
 z77:=Tryz.sizeOf328
 v77:=Tryz.zeroValue328}
end Go.Proofs
end
