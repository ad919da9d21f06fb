import Derived.Test.YtefoocgiaegobaaGreatDoorPa17
import Derived.Shelf.SlLaysE0
import Derived.Test.YtefoocgiaegobaaGreatDoorProg
import Derived.Test.YtefoocgiaegobaaGreatDoorCards
import Derived.Test.YtefoocgiaegobaaGreatDoorTie
import Derived.WalkKit
import Derived.ProofKit
import Derived.OpenShut
import Derived.Deep.DeepHandedRow
import Derived.Deep.DeepWitnessRowRef
import Derived.LaidMore
import Derived.Lib.LaidTab
import Derived.SizedLaws
import Derived.Stop.LaidErr
import Derived.MakeChecks
set_option linter.all false
set_option maxHeartbeats 4000000
set_option maxRecDepth 100000
section
namespace Go.Sx
open Go Go.Proofs
def zA(r:List ZP):List ZP:=r.take 1++(r.drop 1).reverse
def zB(r:List ZP):(zA r).length=r.length:=by
 unfold zA;rw[aM,rR,cZ,iW];omega
def zR{r:List ZP}{k:Nat}(h0:0<k)(hk:k<r.length):(zA r).getD k (0,0)=r.getD (r.length-k) (0,0):=by
 unfold zA;rw[aX,aX,cM (by rw[cZ];omega),List.getElem?_reverse (by rw[cZ,iW];omega),jU];congr 2;rw[cZ,iW];omega
def zJ(r:List ZP):(zA r).getD 0 (0,0)=r.getD 0 (0,0):=by
 cases r<;>rfl
def zL{r:List ZP}{k:Nat}(hk:k<r.length):(zA r).getD k (0,0)=de r (r.length-1-k)/\de (zA r) k=r.getD (r.length-1-k) (0,0):=by
 unfold de;rw[zB];constructor
 ·by_cases h0:k=0
  ·rw[h0,zJ,show r.length-1-0+1=r.length by omega,rS]
  ·rw[zR (by omega) hk,dY (by omega)]
   congr 1;omega
 ·by_cases h1:k+1=r.length
  ·rw[h1,rS,zJ]
   congr 1;omega
  ·rw[dY (by omega),zR (by omega) (by omega)]
   congr 1;omega
def yF(v w p:aa):kx w v p= -kx v w p:=by
 have e:cj w v p= -cj v w p:=by unfold cj;grind
 unfold kx;rw[e];have e1:(w.y<=p.y/\ ¬v.y<=p.y/\0< -cj v w p)↔(¬v.y<=p.y/\w.y<=p.y/\cj v w p<0):=by grind
 have e2:(¬w.y<=p.y/\v.y<=p.y/\ -cj v w p<0)↔(v.y<=p.y/\ ¬w.y<=p.y/\0<cj v w p):=by grind
 simp only[e1,e2];omega
def yC(r:List ZP)(p:aa):e8 (zA r) p= -e8 r p:=by
 have key: ∀k,k<=r.length->fG (zA r) p k= -(fG r p r.length-fG r p (r.length-k)):=by
  intro k
  induction k with
  |zero=>intro _;rw[Nat.sub_zero,fG];omega
  |succ k ih=>
   intro hk;obtain⟨e1,e2⟩:=zL (r:=r) (k:=k) (by omega);have es:r.length-k=(r.length-1-k)+1:=by omega
   rw[fG,ih (by omega),e1,e2,yF,es,fG,show r.length-(k+1)=r.length-1-k by omega];omega
 unfold e8;rw[tB,tB,zB,key r.length (aL _),Nat.sub_self];rw[show fG r p 0=0 from J];omega
def zY{r:List ZP}(h:b9 r):b9 (zA r):=by
 refine⟨by rw[zB];exact h.n3,by rw[zB];exact h.n6,fun p hp=>h.le p ?_,fun i hi=>?_⟩
 ·unfold zA at hp
  rcases bV.1 hp with k|k
  ·exact fJ k
  ·exact mV (List.mem_reverse.1 k)
 ·rw[zB] at hi
  obtain⟨e1,e2⟩:=zL hi;rw[e1,e2];exact(h.ne _ (by omega)).symm
section
variable {r:List ZP} {p:aa} {L:List ab}
def zM(r s:List ZP)(fill:Int)(p:aa):dE [r,s] fill p=gH fill (e8 r p+e8 s p):=by
 unfold dE;simp
def zS{rs:List (List ZP)}{fill:Int}(hr: ∀x∈rs,b9 x)(h:sr L)(hM:kD L (ER rs))(hn: ∀q,dE rs fill q=false):gy (d4 rs fill) p=0:=by
 have hb:(d4 rs fill).all ab.ok:=Tr.restrict_all ab.ok _ _ (vP hr);refine(tO hb).2 fun k=>?_;obtain⟨x,_,e,e0,he⟩:=(yo hr hM h.ok true).1 k;have:=he e e0 dV;rw[hn] at this;cases this
def zP(fill:Int)(q:aa):dE [r,zA r] fill q=false:=by
 rw[zM,yC,show e8 r q+ -e8 r q=0 by omega];unfold gH;simp
def zU(q:aa):dE [r,r] 1 q=false:=by
 rw[zM];unfold gH;have:(e8 r q+e8 r q).tmod 2=0:=by rw[show e8 r q+e8 r q=2*e8 r q by omega,Int.mul_tmod_right]
 rw[this];simp
def zT(q:aa):dE [r,r] 2 q=dE [r] 2 q:=by
 rw[zM,OZ];unfold gH;have e:(e8 r q+e8 r q≠0)↔e8 r q≠0:=by omega
 simp only[e];simp
def zV{rs ts:List (List ZP)}{f g:Int}(hr: ∀x∈rs,b9 x)(ht: ∀x∈ts,b9 x){M:List ab}(h:sr L)(hL:kD L (ER rs))(k:sr M)(hM:kD M (ER ts))(he: ∀x,x∈ER rs↔x∈ER ts)(hi: ∀q,dE rs f q=dE ts g q):gy (d4 rs f) p=gy (d4 ts g) p:=by
 have hb:(d4 rs f).all ab.ok:=Tr.restrict_all ab.ok _ _ (vP hr);have hc:(d4 ts g).all ab.ok:=Tr.restrict_all ab.ok _ _ (vP ht);have hD: ∀b,od (d4 rs f) p b↔od (d4 ts g) p b:=fun b=>by
  rw[yo hr hL h.ok,yo ht hM k.ok];unfold og lx i5;simp only[he,hi]
 rcases Ed (d4 rs f) p with q|q|q
 ·rw[q]
  exact((tO hc).2 fun z=>(tO hb).1 q ((hD true).2 z)).symm
 ·rw[q]
  rcases Ed (d4 ts g) p with q2|q2|q2
  ·exact absurd ((tO hb).2 fun z=>(tO hc).1 q2 ((hD true).1 z)) (by rw[q];decide)
  ·exact q2.symm
  ·exact absurd ((uC hb).2 fun z=>(uC hc).1 q2 ((hD false).1 z)) (by rw[q];decide)
 ·rw[q]
  exact((uC hc).2 fun z=>(uC hb).1 q ((hD false).2 z)).symm
def zO(hr:b9 r)(h:sr L)(hL:kD L (ER [r])):gy (d4 [r,r] 2) p=gy (d4 [r] 2) p:=by
 have h1: ∀x∈[r],b9 x:=fun x hx=>by rw[aW.1 hx];exact hr
 have h2: ∀x∈[r,r],b9 x:=fun x hx=>by simp at hx;rw[hx];exact hr
 have he: ∀x,x∈ER [r,r]↔x∈ER [r]:=fun x=>by unfold ER;simp
 exact zV h2 h1 h (fun f hf=>hL f ((he f).1 hf)) h hL he zT
end
end Go.Sx
end
section
namespace Go.Proofs
open Go.Shelf
def Tryz.RevPt_ren:Go.Shelf.Ren:=⟨fun|35=>104|n=>n,fun|22=>132|23=>141|3=>3|4=>4|0=>0|n=>n,fun|n=>n⟩
def Tryz.RevPt:Go.Proofs.SlLaysE0.n35 Tryz.prog Tryz.RevPt_ren:={
 mixed:=by kernel_rfl
 f35:=⟨Tryz.f104.name,by decide,Tryz.func104.trans (congrArg some (by kernel_rfl))⟩
 t0:=Tryz.underlying0
 a0:=Tryz.isAgg0
 z0:=Tryz.sizeOf0
 v0:=Tryz.zeroValue0
 t3:=Tryz.underlying3
 a3:=Tryz.isAgg3
 z3:=Tryz.sizeOf3
 v3:=Tryz.zeroValue3
 t4:=Tryz.underlying4
 a4:=Tryz.isAgg4
 z4:=Tryz.sizeOf4
 v4:=Tryz.zeroValue4
 t22:=Tryz.underlying132
 a22:=Tryz.isAgg132
 z22:=Tryz.sizeOf132
 v22:=Tryz.zeroValue132}
end Go.Proofs
end
section
namespace Go.Sx
open Go Go.Proofs Tryz
variable {GB:Gh}
def yB{pre ds:List aa}(hn:ds.length<4611686018427387904)(h0:ds≠[]):Ai GB prog 104 6 pre.length ds.length 141 ((pre++ds).map eZ) ((pre++ds.reverse).map eZ):=
 RI (GB:=GB) Tryz.RevPt ⟨_,func104,J,J⟩ isAgg141 sizeOf141 eZ (fun x=>⟨_,J,J,J⟩) hn h0
def zQ(r:List ZP):(zA r).map ZP.q=(r.map ZP.q).take 1++((r.map ZP.q).drop 1).reverse:=by
 unfold zA;rw[dZ,lR,List.map_reverse,qM]
def zW{l:List aa}(h:l≠[])(hn:l.length<=1000000):PR GB prog 103 [.sl (l.map eZ)] 6 141 (l.map eZ):=by
 have hml:(l.map eZ).length=l.length:=aK ..;refine WG (fu:=⟨9⟩) func103 J J ntmps103 J J (fun C hmb=>?_);refine SA J (fun e=>h (List.map_eq_nil_iff.1 e)) J<|AI J J<|ap (l.map eZ) J J (rF l) J<|?_;exact TJ J J J J
def zZ{r:List ZP}(h:f7 r):PF GB prog 34 [jj r] (.tp [jj (zA r), .v .nilIface]):=by
 have hn:=h.ok.n6;have h3:=h.ok.n3;obtain⟨v,hv⟩: ∃v,v=r.map ZP.q:=⟨_,rfl⟩;have hvl:v.length=r.length:=by rw[hv,aK]
 have hml:(v.map eZ).length=v.length:=aK ..;have hp1:(v.take 1).length=1:=by rw[cZ];omega
 have hd1:(v.drop 1).length=r.length-1:=by rw[iW];omega
 have hne:v≠[]:=fun e=>by rw[e] at hvl;simp at hvl;omega
 have hne2:v.drop 1≠[]:=fun e=>by rw[e] at hd1;simp at hd1;omega
 have hb: ∀p∈v,az p 22:=fun p hp=>by rw[hv] at hp;obtain⟨z,hz,rfl⟩:=bX.1 hp;exact qv (h.ok.le z hz)
 refine fn func34 J J ntmps34 J J (fun C=>?_);refine cl (fu:=⟨0⟩) J (LX h.ok h.c3) J<|?_;refine ak 8 (.d (.tp [.sl (v.map eZ), .v .nilIface])) J (by rw[hv]) ?_;refine gx J<|cr (fu:=⟨6⟩) J (zW hne (by omega)) J<|DU (fu:=⟨0⟩) 1 (r.length-1) J J (by rw[hml];omega) (by omega) J<|cv ((v.take 1++(v.drop 1).reverse).map eZ) J (by have:=yB (GB:=GB) (pre:=v.take 1) (ds:=v.drop 1) (by omega) hne2;rw[iR,hp1,hd1] at this;exact this) J J<|?_;refine fz 15 J J<|cl rfl (Q3 (v:=v.take 1++(v.drop 1).reverse) (fun p hp=>(hb p (by rcases bV.1 hp with hp|hp;exact fJ hp;exact mV (List.mem_reverse.1 hp))).mono (by decide)) (by rw[aM,rR];omega)) rfl<|?_;exact rz J (by unfold jj Lp;rw[zQ,hv];rfl)
def yK(rs:List (List ZP))(fill:Int)(L:List ab)(p:aa)(vs:List aa):Bool:=vs.any fun v=>dE rs fill (wE L p v)
def yL(rs:List (List ZP))(fill:Int)(L:List ab)(p:aa)(vs:List aa):Bool:=vs.all fun v=>dE rs fill (wE L p v)
section
variable {GB:Gh} {C:aA} {n:Nat} {Q0:Exit->Act->World->Prop} {fr fr' fr1 fr2:ao} {own own' own1 own2:aC} {cf cf' cf1 cf2:Cf} {vc vc1 vc2:List Prop}
def yJ(fr:ao)(cf:Cf):Option Int:=match bF fr cf with
 |some ⟨_, .binOp .and _ x (.const (.int .i64 1)) _,_,_,_,_⟩=>match aD (bh fr cf) x with
  |some (.d (.v (.int .i64 p)))=>some p
  |_=>none
 |_=>none
end
structure EGX (GB:Gh) (ai:Addr):Prop where
 ErrInvalid:GB 0=some [.iface 499 (.pointer (some ai))]
def zG{l:List aa}: ∀{k m:Nat},c9 l k=m+1-> ∃i,i<k/\jx l (l.getD i ⟨0,0⟩)=(i:Nat)/\c9 l i=m
 |0,m,h=>by cases h
 |k+1,m,h=>by
  rw[c9] at h;split at h
  ·rename_i hf;exact⟨k,by omega,hf,by omega⟩
  ·obtain⟨i,h1,h2,h3⟩:=zG (k:=k) (m:=m) (by omega)
   exact⟨i,by omega,h2,h3⟩
def yH{l:List aa}(h:3<=c9 l l.length): ∃a∈l,∃b∈l,∃c∈l,a≠b/\a≠c/\b≠c:=by
 obtain⟨i,i1,i2,i3⟩:=zG (l:=l) (k:=l.length) (m:=c9 l l.length-1) (by omega);obtain⟨j,j1,j2,j3⟩:=zG (l:=l) (k:=i) (m:=c9 l l.length-2) (by omega);obtain⟨k,k1,k2,k3⟩:=zG (l:=l) (k:=j) (m:=c9 l l.length-3) (by omega);have g: ∀{x:Nat},x<l.length->l.getD x ⟨0,0⟩∈l:=fun{x} hx=>by rw[aX,aZ hx];exact fR hx
 refine⟨_,g i1,_,g (show j<l.length by omega),_,g (show k<l.length by omega),fun e=>?_,fun e=>?_,fun e=>?_⟩
 ·rw[e,j2] at i2;omega
 ·rw[e,k2] at i2;omega
 ·rw[e,k2] at j2;omega
def f7.rev{r:List ZP}(h:f7 r):f7 (zA r):=⟨zY h.ok,by
 obtain⟨a,ha,b,hb,c,hc,h1,h2,h3⟩:=yH h.c3;have m: ∀x∈r.map ZP.q,x∈(zA r).map ZP.q:=fun x hx=>by
  rw[zQ];rw[<-iR 1 (r.map ZP.q)] at hx;rcases bV.1 hx with hx|hx
  ·exact bU _ hx
  ·exact bN _ (List.mem_reverse.2 hx)
 exact J0 (m a ha) (m b hb) (m c hc) h1 h2 h3⟩
def yE{rs:List (List ZP)}(hr: ∀r∈rs,b9 r):sr (my (xi rs))/\kD (my (xi rs)) (ER rs):=
 ⟨I8 (ls:=xi rs) fun l hl=>by
  obtain⟨f,hf,rfl⟩:=bX.1 hl;exact((qr hr).2 f hf).ok,N0 hr fun f hf=>iT hf⟩
def zH{r s:List ZP}(h:f7 r)(k:f7 s): ∀x∈[r,s],f7 x:=fun x hx=>by
 simp only[aU,jN,or_false] at hx;rcases hx with rfl|rfl<;>assumption
def zX{r:List ZP}(h:f7 r): ∀x∈[r],f7 x:=fun x hx=>by rw[aW.1 hx];exact h
def zN{r s:List ZP}(h:f7 r)(k:f7 s)(fill:Int)(p:aa)(hn: ∀q,dE [r,s] fill q=false):(pw (bH [r,s]) p fun q=>gH fill (eB (bH [r,s]) q))=0:=by
 have hr: ∀x∈[r,s],b9 x:=fun x hx=>(zH h k x hx).ok;rw[FC hr];obtain⟨c1,c2⟩:=yE hr;exact zS hr c1 c2 hn
def yD{r:List ZP}(h:f7 r)(p:aa):(pw (bH [r,r]) p fun q=>gH 2 (eB (bH [r,r]) q))=gy (d4 [r] 2) p/\(pw (bH [r]) p fun q=>gH 2 (eB (bH [r]) q))=gy (d4 [r] 2) p:=by
 have hr1: ∀x∈[r],b9 x:=fun x hx=>(zX h x hx).ok;obtain⟨c1,c2⟩:=yE hr1;refine⟨?_,FC hr1 2 p⟩;rw[FC fun x hx=>(zH h h x hx).ok];exact zO h.ok c1 c2
def yG{b:Nat}{es:List Int}(hes:es.length<=400){r:List ZP}{a':Nat}(hr:r=(fB es 0).1)(ha:a'=(fB es 0).2):PM GB prog 33 (i8 [none] b) b 126 [.sl (es.map vI), .v (.int .i64 (0:Nat))] (.sl ((r.map ZP.q).map eP)) [.sl (es.map vI), .v (.int .i64 (a':Nat))]:=by
 subst hr ha;have:=Sd (GB:=GB) (b:=b) hes (cV _);rw[show yX (fB es 0).1= .sl (((fB es 0).1.map ZP.q).map eP) by unfold yX;rw[List.map_map];rfl] at this;exact this
def zI{es0:List Int}(hb:es0.length<=1125899906842624):PF GB prog 5 [.sl (es0.map vI)] (.v (.bool true)):=by
 obtain⟨es,hee⟩: ∃es,es=es0.take 400:=⟨_,rfl⟩;have hes:es.length<=400:=by rw[hee];simp;omega
 obtain⟨r,hre⟩: ∃r,r=(fB es 0).1:=⟨_,rfl⟩;have hrk:f7 r:=by rw[hre];exact SS (cV _)
 have hvk:=hrk.rev;obtain⟨a1,ha1⟩: ∃a,a=(fB es 0).2:=⟨_,rfl⟩;have hal:a1<=es.length:=by rw[ha1];exact(JF (cV _)).2
 obtain⟨p,hpe⟩: ∃p,p=(ot es a1).1:=⟨_,rfl⟩;haveI:az p 1200:=by rw[hpe];exact(O9 hal).1
 have h6:=hrk.ok.n6;have hbq: ∀q∈r.map ZP.q,az q 1200:=fun q hq=>by obtain⟨z,hz,rfl⟩:=bX.1 hq;exact(qv (hrk.ok.le z hz)).mono (by decide)
 have c1:=zN hrk hvk 2 p fun q=>zP 2 q;have c2:=zN hrk hvk 1 p fun q=>zP 1 q;have c3:=zN hrk hrk 1 p fun q=>zU q;obtain⟨c4,c5⟩:=yD hrk p;refine fn func5 J J ntmps5 J J (fun C=>?_);refine cn J ((SW hb hee)) (fun _=>J) (fun _=>?_);refine cm J (fun b=>(yG hes hre ha1)) J<|cl (fu:=⟨0⟩) J (LW (ps:=r.map ZP.q) hbq (by rw[aK];omega)) J<|?_;refine ak 22 (.d (jj r)) J J ?_;refine gx J<|cl J (zZ hrk) J<|cm J (fun b=>(Uc hes hal hpe)) J<|cl J (IN (p:=p) (i:=1200)) J<|rf (fu:=⟨0⟩) J J<|?_;refine ak 36 (.d (.sl ([r,zA r].map jj))) J J ?_;refine gx J<|cl (fu:=⟨0⟩) J (vi (rs:=[r,zA r]) (zH hrk hvk) (nb J) (fill:=2) (.inr J) (p:=p) (i:=1200) (by decide)) J<|?_;refine ak 38 (.d (.tp [vI 0, .v .nilIface])) J (by rw[c1]) ?_;refine gx J<|rf (fu:=⟨0⟩) J J<|?_;refine ak 44 (.d (.sl ([r,zA r].map jj))) J J ?_;refine gx J<|cl (fu:=⟨0⟩) J (vi (rs:=[r,zA r]) (zH hrk hvk) (nb J) (fill:=1) (.inl J) (p:=p) (i:=1200) (by decide)) J<|?_;refine ak 46 (.d (.tp [vI 0, .v .nilIface])) J (by rw[c2]) ?_;refine gx J<|rf (fu:=⟨0⟩) J J<|?_;refine ak 52 (.d (.sl ([r,r].map jj))) J J ?_;refine gx J<|cl (fu:=⟨0⟩) J (vi (rs:=[r,r]) (zH hrk hrk) (nb J) (fill:=1) (.inl J) (p:=p) (i:=1200) (by decide)) J<|?_;refine ak 54 (.d (.tp [vI 0, .v .nilIface])) J (by rw[c3]) ?_;refine gx J<|rf (fu:=⟨0⟩) J J<|?_;refine ak 60 (.d (.sl ([r,r].map jj))) J J ?_;refine gx J<|cl (fu:=⟨0⟩) J (vi (rs:=[r,r]) (zH hrk hrk) (nb J) (fill:=2) (.inr J) (p:=p) (i:=1200) (by decide)) J<|?_;refine ak 62 (.d (.tp [vI (gy (d4 [r] 2) p), .v .nilIface])) J (by rw[c4]) ?_
 refine gx J<|rf (fu:=⟨0⟩) J J<|?_;refine ak 67 (.d (.sl ([r].map jj))) J J ?_;refine gx J<|cl (fu:=⟨0⟩) J (vi (rs:=[r]) (zX hrk) (nb J) (fill:=2) (.inr J) (p:=p) (i:=1200) (by decide)) J<|?_;refine ak 69 (.d (.tp [vI (gy (d4 [r] 2) p), .v .nilIface])) J (by rw[c5]) ?_;refine gx (fu:=⟨9⟩) J<|SQ (fu:=⟨22⟩) J So J<|mp (fu:=⟨3⟩) J J J<|mp (fu:=⟨3⟩) J J J<|mp (fu:=⟨4⟩) J J J<|mp J (by show some (decide (_=_))=some true;rw[decide_eq_true J]) J<|?_;exact rz J J
def yI(rs:List (List ZP))(p:aa):Int:=rs.foldl (fun n r=>n+e8 r p) 0
end Go.Sx
end
section
namespace Go.Sx
open Go Go.Proofs Go.ChangeShapes Go.WideShapes Go.ChangeAt Go.RowKit
def GW(w:World):Gh:=fun b=>match w.heap[b]? with|some (.cells cs _ _)=>some cs.toList|_=>none
def GW.sub{w:World}{b:Nat}{cs:List Value}(h:GW w b=some cs): ∃ty fz,w.heap[b]? =some (.cells ⟨cs⟩ ty fz):=by
 unfold GW at h;split at h
 ·rename_i c t f e
  cases h
  exact⟨t,f,by rw[e]⟩
 ·cases h
def GW.of_cell{w:World}{b off:Nat}{v:Value}(h:w.cell? ⟨b,off,none⟩=some v): ∃cs,GW w b=some cs/\cs[off]? =some v:=by
 unfold World.cell? at h;unfold GW;split at h
 ·rename_i c t f e
  simp only at e;refine⟨c.toList,by rw[e],?_⟩;simpa using h
 all_goals first|(rename_i e;cases h)|cases h
def bp.below{w w':World}{G G':Gh}{own:List av}(h:bp ⟨w,G,[],[],[],none,fun _=>none⟩ own G' w'):Below w.heap.size w w':=
 ⟨h.os,h.tape,h.output,h.size,fun k hk=>h.keep k hk (by simp)⟩
def isLs_vI{G:Gh}: ∀es:List Int,IsLs G (es.map vI) (es.map fun n=>Value.int .i64 n)
 |[]=> .nil
 |n::t=> .cons (bt.2 J) (isLs_vI t)
def open_vI{base:Nat}{H:Type}{enc:TypeId×Value->H}{P:Program}{w:World}{t e:TypeId}{v:Value}{d:DataW H}{ps:List MemPlace}(ht:P.underlying t=some (.slice e))(he:P.underlying e=some (.int .i64))(hc:P.cellsOf e=1)
  (hv:Value.okWide P w .any base t v)(h:DataW.Trod enc P w 0 (fun _=>true) true t v d ps):
  ∃es:List Int,Is (GW w) (.sl (es.map vI)) v/\(d= .nil/\es=[]\/ ∃sp,d= .slice (lits .i64 es) sp)/\(∀n∈es,(Lit.int .i64 n).wf=true):=by
 obtain⟨a0,len,cap,rfl⟩:=okWide_slice ht hv;obtain⟨fuel,hf⟩:=h;rcases open_ints ht he hc hf with⟨hcs,hx⟩|⟨a,len',cap',zs,hcs,_,hl,hm,hz,hx,hcell,hwz⟩
 ·simp[Value.cells] at hcs
  obtain⟨rfl,rfl,rfl⟩:=hcs;simp only[Prod.mk.injEq] at hx;exact⟨[],iu.2 ⟨0,⟨none,0,0⟩,[],J,ee.nil _ 0, .nil⟩, .inl ⟨hx.1,J⟩,by simp⟩
 ·simp[Value.cells] at hcs
  obtain⟨rfl,rfl,rfl⟩:=hcs;simp only[Prod.mk.injEq] at hx;simp only[if_true] at hz;refine⟨zs.take len,iu.2 ⟨1,⟨some a,len,cap⟩,(zs.take len).map fun n=>Value.int .i64 n,J,⟨by simp;omega,hl,?_⟩,isLs_vI _⟩, .inr ⟨_,hx.1⟩,fun n hn=>hwz n (fJ hn)⟩;by_cases h0:len=0
  ·exact .inl (by simp[h0])
  ·right
   obtain⟨b,off,spot⟩:=a;have hspot:spot=none:=by simpa[Addr.add] using World.cell?_spot (hcell 0 (by omega))
   subst hspot;have c0: ∀i,i<zs.length->w.cell? ⟨b,off+i,none⟩=some (.int .i64 (zs.getD i 0)):=fun i hi=>by
    have:=hcell i hi;rwa [Go.WideShapes.add_plain] at this
   obtain⟨cs,hcs,_⟩:=GW.of_cell (by have h9:=c0 0 (by omega);rw[dT] at h9;exact h9);refine⟨b,off,cs,J,hcs,fun i hi=>?_⟩;simp only[aK,cZ] at hi;obtain⟨cs',hcs',hi'⟩:=GW.of_cell (c0 i (by omega));rw[hcs] at hcs'
   cases hcs'
   rw[jS,Se.2 hi'];simp[aI,List.getD,aZ (show i<zs.length by omega)]
inductive CSh where
 |b
 |i (k:IntKind)
 |sl (ag:Bool) (l:List CSh)
mutual
def Fit:CSh->DV->Prop
 | .b,d=> ∃b,d= .v (.bool b)
 | .i k,d=> ∃n,d= .v (.int k n)/\(Lit.int k n).wf=true
 | .sl ag l,d=> ∃m:List DV,d= .sl m/\m.length<=maxLen/\ ∀x∈m,∃ys,FitL l ys/\((ag=true/\x= .ag ys)\/(ag=false/\ys=[x]))
def FitL:List CSh->List DV->Prop
 |[],ds=>ds=[]
 |s::l,ds=> ∃d t,ds=d::t/\Fit s d/\FitL l t
end
def flatF(r:TypeId->Option (Bool×List CSh))(P:Program):List Field->Nat->Option (List CSh)
 |[],_=>some []
 |f::fs,o=>match r f.type with
  |some (_,l)=>if f.offset=o/\P.cellsOf f.type=l.length then(flatF r P fs (o+l.length)).map (l++ ·) else none
  |none=>none
def flatT(P:Program):Nat->TypeId->Option (Bool×List CSh)
 |0,_=>none
 |n+1,t=>match P.underlying t with
  |some .bool=>some (false,[.b])
  |some (.int k)=>some (false,[.i k])
  |some (.slice e)=>match flatT P n e with
   |some (a,l)=>if P.cellsOf e=l.length/\0<l.length then some (false,[.sl a l]) else none
   |none=>none
  |some (.struct fs)=>match flatF (flatT P n) P fs.toList 0 with
   |some l=>if P.cellsOf t=l.length then some (true,l) else none
   |none=>none
  |_=>none
section
variable {H:Type} {enc:TypeId×Value->H} {P:Program} {w:World}
end
def shI:List CSh:=[.b, .sl false [.i .u32]]
def shL:List CSh:=shI++(shI++shI)
end Go.Sx
end
section
namespace Go.Proofs.YtefoocgiaegobaaGreatDoor
open Go.ChangeShapes Go.WideShapes Go.ChangeAt Go.RowKit Go.Sx
theorem js1:mapsRowed Tryz.pinned.checked.prog=true:=by kernel_rfl
theorem js2:Tryz.pinned.checked.prog.stopsHeard=true:=by kernel_rfl
theorem js3:Tryz.pinned.checked.prog.mayEnter=true:=by kernel_rfl
theorem js4:laidOutB Tryz.prog=true:=by kernel_rfl
end Go.Proofs.YtefoocgiaegobaaGreatDoor
end
section
namespace Go.Proofs.YtefoocgiaegobaaGreatDoor.windingTwice
open Go.ChangeShapes Go.WideShapes Go.ChangeAt Go.RowKit Go.Sx
theorem own:ownKnob Tryz.prog.godebug=none:=by kernel_rfl
theorem laidOut:laidOutB Tryz.prog=true:=js4
theorem cellsI:Tryz.prog.cellsOf 3=1:=by kernel_rfl
theorem bytesI:Tryz.prog.bytesOf 3=8:=by kernel_rfl
theorem door_met(os:Os)(args:Array Value):laidMetH Tryz.prog Rows.windingTwiceRow.laid ((World.doorLaid Tryz.prog 138 os).forCall (fun _ _=>0) ⟨#[],args,[]⟩).memory:=
 laidMetH_of_parts3 (fuel:=8) (laidMet_of_run' 8 (by kernel_rfl) (by kernel_rfl)) (by kernel_rfl) (by kernel_rfl)
theorem contract(H:Type)(enc:TypeId×Value->H)(W:World)(base:Nat)(args:Array Value)(ds gs:List (DataW H))(before:List MemPlace)
  (hval: ∀(j:Nat) t v,Tryz.f5.params[j]? =some t->args[j]? =some v->Value.okWide Tryz.prog W .any base t v)
  (hW:DataW.Whole enc Tryz.prog Tryz.f5.params.toList Rows.windingTwiceSpec.vars false W args.toList ds gs before)
  (hz:(DataW.weightsEach Tryz.prog (Tryz.f5.params.toList++(OpenSpec.ofChange Rows.windingTwiceSpec).bare.plain.varTypes Tryz.prog) (ds++gs)).all (· <=reachBytes)=true)(hlaid:laidMetH Tryz.prog Rows.windingTwiceRow.laid W):
  Calls Tryz.prog 5 args W fun e W'=> ∃v,e= .returned v/\Rows.windingTwiceSpec.post enc Tryz.prog Tryz.f5 false true false false W args v W':=by
 have hW':=hW;obtain⟨p,q,hA0,hV,rfl,_,_⟩:=hW;have hA:DataW.TrodAll enc Tryz.prog W 0 (fun _=>true) true Tryz.f5.params.toList args.toList ds p:=hA0;rw[Tryz.params5] at hA hval hz;obtain⟨v0,d0,hargs,rfl,h0⟩:=trodAll_one hA;obtain rfl:args= #[v0]:=by cases args;simp_all
 obtain⟨rfl,rfl⟩:=trodVars_none hV;clear hA0;simp only[List.append_nil] at hW';have hlt: ∀x∈p,x.block<W.heap.size:=fun x hx=>by simpa using hW'.lt x hx
 obtain⟨es,hI,hd,_⟩:=open_vI Tryz.underlying22 Tryz.underlying3 cellsI (hval 0 22 v0 rfl rfl) h0;have hb:es.length<=1125899906842624:=by
  rcases hd with⟨rfl,rfl⟩|⟨sp,rfl⟩
  ·exact Nat.zero_le _
  ·have:=sized_slice hz (j:=0) (t:=22) (e:=3) J J Tryz.underlying22
   rw[bytesI] at this;have hr:=reachBytes_lt;have hl:(lits (H:=H) .i64 es).length=es.length:=by simp[lits]
   rw[hl] at this;omega
 have hf:=(zI (es0:=es) hb) (GW W) [v0] (bm.refl _) (.cons hI .nil);refine(hf.run W (fun b cs hg=>GW.sub hg)).mono fun e W' ⟨v,G',he,hr,hv⟩=>?_;rw[bt] at hv;subst hv;subst he;have hn:=hr.below;have t2:=trodAll_mk1 (Below.trod laidOut (by kernel_rfl) (of_decide_eq_true (by kernel_rfl)) h0 hn hlt);exact⟨_,J,⟨_,_,_,[],_,[],hW',trodAll_mk1 (shut_bool Tryz.underlying4 _),t2,J,hn.frame _,fun h=>by cases h⟩⟩
theorem reads(os:Os){H:Type}(enc:TypeId×Value->H): ∃places,DataW.whole enc Tryz.prog ((World.doorLaid Tryz.prog 138 os).forCall (fun _ _=>0) ⟨#[], #[.slice none 0 0],[]⟩).memory Tryz.f5.params.toList Rows.windingTwiceSpec.vars false #[Value.slice none 0 0].toList 8=some ([.nil],[],places):=
 ⟨[],by kernel_rfl⟩
theorem lifted(os:Os)(started:os.Started)(H:Type)(enc:TypeId×Value->H)(F:Stop.Interp):
  ReturnsInHanded {} Tryz.checked os 5 .any ((OpenSpec.ofChange Rows.windingTwiceSpec).preRow enc Tryz.prog Tryz.f5 Rows.windingTwiceRow.domain false Rows.windingTwiceRow.laid) (((OpenSpec.ofChange Rows.windingTwiceSpec).at F).post enc Tryz.prog Tryz.f5 false true false false):=by
 obtain⟨places,hx⟩:=reads os enc;refine returnsInHanded_of_row (C:=Tryz.checked) (s:=OpenSpec.ofChange Rows.windingTwiceSpec) own started (by kernel_rfl) Tryz.func5
  (witness_row_atRef (enc:=enc) (C:=Tryz.checked) false (World.doorLaid Tryz.prog 138 os) #[.slice none 0 0] rfl (by kernel_rfl) (by kernel_rfl) (by kernel_rfl)
   (OpenSpec.preRow_of_cond 8 hx (by kernel_rfl) (fun k hk=>by cases hk) (by kernel_rfl) (door_met os _))) ?_
 intro W base args ds gs before hval hW _ _ hz hlaid _ _;exact contract H enc W base args ds gs before hval hW hz hlaid
theorem j1:(Rows.windingTwiceRow.inPlace==Tryz.pinned.checked.prog.inPlace 5)=true:=by kernel_rfl
theorem j2:(Rows.windingTwiceRow.unfollowed==Tryz.pinned.checked.prog.unfollowed 5)=true:=by kernel_rfl
theorem j3:(Rows.windingTwiceRow.recurses==Tryz.pinned.checked.prog.recurses 5)=true:=by kernel_rfl
theorem j4:(Rows.windingTwiceRow.named==Tryz.pinned.checked.prog.varsNamed 5)=true:=by kernel_rfl
theorem j5:laidOutB Tryz.pinned.checked.prog=true:=laidOut
theorem j6:mapsRowed Tryz.pinned.checked.prog=true:=js1
theorem j7:Tryz.pinned.checked.prog.mainIs=some (Rows.windingTwiceCard.stood.harness.1,Rows.windingTwiceCard.stood.harness.2.toList):=by kernel_rfl
theorem j8:false=Rows.windingTwiceRow.goesBy Tryz.pinned.checked.prog:=by kernel_rfl
theorem j9:(Rows.windingTwiceRow.plainKeys==Tryz.pinned.checked.prog.plainKeys)=true:=by kernel_rfl
theorem j10:(Rows.windingTwiceRow.lifted==Tryz.pinned.checked.prog.liftsFinal)=true:=by kernel_rfl
theorem j11:(Tryz.pinned.checked.prog.make==some Rows.windingTwiceRow.make)=true:=by kernel_rfl
theorem closed:joinedFacts Tryz.pinned.checked.prog 5 Tryz.f5 (OpenSpec.ofChange Rows.windingTwiceSpec).bare Rows.windingTwiceRow=true:=by
 unfold joinedFacts;rw[j1,j2,j3,j4,j5,j6,j9,j10,j11,js2,js3]
 kernel_rfl
theorem said:Rows.WindingTwiceSaid:=
 OpenClaim.holds_of_cond 5 Tryz.f5 J J J J J J J ⟨J,J,J,J,J⟩ J J J J J (by kernel_rfl) Tryz.func5 closed
  (of_decide_eq_true (by kernel_rfl)) (by unfold Func.isWrapper;first|(rw[if_pos (by decide+kernel)];kernel_rfl)|(rw[if_neg (by decide+kernel)];exact⟨J,J⟩))
  (fun os started H enc _ F=>by rw[OpenClaim.pre_eq_preRow];exact lifted os started H enc F)
theorem plain(f:FuncId)(fn:Func)(hf:Tryz.pinned.checked.prog.funcNamed "bspregion/bspregionlaw10.WindingTwice" =some f)(hfn:Tryz.pinned.checked.prog.funcs[f]? =some fn):
  true=Tryz.pinned.checked.prog.looks []/\ ∀(j:Nat) t,fn.params[j]? =some t->Tryz.pinned.checked.prog.wantsStandIn t=false:=by
 obtain rfl:f=5:=Option.some.inj ((show Tryz.prog.funcNamed "bspregion/bspregionlaw10.WindingTwice" =some 5 by kernel_rfl).symm.trans hf) |>.symm;obtain rfl:fn=Tryz.f5:=(Option.some.inj (Tryz.func5.symm.trans hfn)).symm;refine⟨by kernel_rfl,fun j t ht=>?_⟩;rw[Tryz.params5] at ht;have hm:=Array.mem_of_getElem? ht;simp only[List.mem_toArray,List.mem_cons,List.not_mem_nil,or_false] at hm;subst hm;exact(show Tryz.prog.wantsStandIn 22=false by kernel_rfl)
theorem card:Rows.WindingTwiceCardSaid:=
 Claim7.holds_tied_plain_at .later [] _ _ _ _ said (fun _ h=>by cases h) (by kernel_rfl) (fun _ h=>by cases h) windingTwice_row_tie J ⟨J,J⟩ j7 J plain j8
#print axioms card
end Go.Proofs.YtefoocgiaegobaaGreatDoor.windingTwice
end
