import Derived.Test.YtmdgdhokaffbkaaGreatDoorMz21
import Derived.Test.YtmdgdhokaffbkaaGreatDoorCards
import Derived.Test.YtmdgdhokaffbkaaGreatDoorTie
import Derived.WalkKit
import Derived.ProofKit
import Derived.OpenShut
import Derived.Deep.DeepHandedRow
import Derived.Deep.DeepWitnessRowRef
import Derived.LaidMore
import Derived.Lib.LaidTab
import Derived.SizedLaws
import Derived.Stop.LaidErr
import Derived.MakeChecks
set_option linter.all false
set_option maxHeartbeats 2000000
set_option maxRecDepth 100000
section
namespace Go.Sx
open Go Go.Proofs Tryz
variable {GB:Gh}{n e k0 a b k i a':Nat}{r V R:List aa}{t:Tr}{s A B X Y g x:Rat}{ai al ae:Addr}{c M L:List ah}{p q v w y:aa}{rs:List (List aa)}{fill m:Int}{es es0:List Int}
section
variable {C:aG}{Q0:Exit->Act->World->Prop}{fr fr':aD}{own own':aI}{cf cf':Cf}{vc:List Prop}{ops:Array Oper}{r:List Oper}{K:List Kt}
def RO(fr:aD)(cf:Cf):Option (TypeId×DV):=match de fr cf with
 |some ⟨_, .load t x,_,_,_,_⟩=>match aP (cj fr cf) x with
  |some (.ep (d::_))=>some (t,d)
  |_=>none
 |_=>none
def ldP[fu:Fu]{t:TypeId}{d:DV}{D:TypeDesc}{j:TypeInfo}(h:RO fr cf=some (t,d))(hu:prog.underlying t=some D)(hD:aNU D=true)(hj:prog.info? t=some j)(hs:j.size=1)
  (hgo:cF tt n fu.n fr own cf (.d d) [] []=⟨vc,fr',own',cf'⟩)(k':av prog GB C n Q0 fr' own' cf')
  (hv:autoParam (ak vc) cL._auto_1):av prog GB C n Q0 fr own cf:=by
 unfold RO at h;split at h<;>try (cases h;done)
 rename_i hh;split at h<;>cases h;rename_i hx;have:k9 prog t:=⟨fun w=>by(rw[BF hu w];cases D<;>first|rfl|(cases hD;done)),fun w=>by rw[wR hj w,hs]⟩;refine us hh ?_ hgo hv k';refine .yd fun ρ G ov a w r=>?_;obtain⟨y,h1,h2⟩:=r.ev hx;obtain⟨b,o,ms,m,rfl,hb,ht,hm⟩:=h2;obtain⟨l',h3,h4⟩:=hm.get (i:=0) rfl;have:=KW ht (i:=0) (Nat.succ_pos _);rw[gQ] at this;exact⟨l',h4,te h1 hb (by rw[this];exact h3)⟩
def So(i:TI)(fr:aD)(cf:Cf):Option S9:=match de fr cf with
 |some ⟨some d, .buildSlice t len parts,_,_,_,_⟩=>match d9 tt t with
  |some ⟨.sl e s _,_,_,_⟩=>match nF i with
   |some z=>match xy (cj fr cf) 0 parts.toList with
    |some ds=>bif Nat.beq z.cells.length s&&(CN s ds&&(Nat.beq parts.toList.length len&&(Nat.ble (len*s) 1000&&Nat.blt 0 (len*s)))) then some ⟨d,e,s,ds⟩ else none
    |none=>none
   |none=>none
  |_=>none
 |_=>none
def rfP[fu:Fu](i:TI){d s:Nat}{ds:List DV}(h:So i fr cf=some ⟨d,e,s,ds⟩)(hi:f8 prog e=some i)(hgo:cF tt n fu.n fr own cf (.d (.sl ds)) [(d,none)] [d]=⟨vc,fr',own',cf'⟩)(k:av prog GB C n Q0 fr' own' cf')
  (hv:autoParam (ak vc) cL._auto_1):av prog GB C n Q0 fr own cf:=by
 unfold So at h;split at h<;>try (cases h;done)
 rename_i hh;split at h<;>try (cases h;done)
 rename_i hT;split at h<;>try (cases h;done)
 rename_i hz;split at h<;>try (cases h;done)
 rename_i hr;rw[cond_eq_ite] at h;split at h<;>cases h;rename_i hc;simp only[bR] at hc;have:=jG (fe _ _ hT) J;exact us hh ((Nk (GB:=GB) (C:=C) (n:=n) (bk:=jd fr own cf) hi hz hc.1 hr hc.2.1 hc.2.2.1 hc.2.2.2.1 hc.2.2.2.2).frzRow J) hgo hv k
end
def RW(f:FuncId):DV:= .v (.func (.func f) #[] #[])
def VO{fs:List FuncId}{ts:Nat->Tr}(h0:kw k0 (ts 0)){r:List ZP}(hr:wV r)(hc:mP (r.map ZP.q)=true)(hF: ∀k f,fs[k]? =some f->PF GB prog f [eU (ts k), .sl ((r.map ZP.q).map eZ)] (.tp [eU (ts (k+1)), .v .nilIface]))(hb:(ts fs.length).all LB)(hs:(ts fs.length).size<=1000000)(hn:fs.length<=1000):PF GB prog 77 [eA (ts 0),yr r, .sl (fs.map RW)] (.tp [eA (ts fs.length), .v .nilIface]):=by
 have hml:(fs.map RW).length=fs.length:=aX ..;refine fn func77 J J ntmps77 J J (fun C=>?_);refine cl (fu:=⟨12⟩) J (O1 (t:=ts 0) h0) J<|aj 20 (.d (.v (.bool false))) J J<|p6 20 J<|gx J<|cl (fu:=⟨11⟩) J (aFS hr hc) J<|c9 (fu:=⟨10⟩) J J J<|aj 33 (.d (vI (fs.length:Nat))) J omh<|gx J<|lp (X:=Nat) (fun k=>[(34, .d (vI (k:Nat))),(8, .d (eU (ts k)))]) (fun k=>[]) (fun k=>k<=fs.length) (fun k=>fs.length-k) 0 J (bK _) (fun _=>J) (fun k hk=>?_);refine br J J J (fun hc35=>?_) (fun hc35=>?_)
 .
  obtain⟨f,hx⟩: ∃u,fs[k]? =some u:=⟨_,aZ m5⟩;refine ix (fu:=⟨0⟩) _ J (cO hx) J<|ldP (fu:=⟨8⟩) (d:= .v (.func (.func f) #[] #[])) J J J J J J<|cfw (fu:=⟨10⟩) J .nil .nil (hF k f hx) J<|c9 J J J<|at_ (k+1) ⟨m5,m5⟩
 .
  obtain rfl:k=fs.length:=by omega
  refine cl J (aLy (t:=ts fs.length) hb hs) J<|rz J J
def YI(t u:Tr):Nat->Tr
 |0=>t
 |_=>u
def rB(V:List aa)(t:Tr):Tr:=jI V (co V) t
def EH(hV:si V)(h:yu t):kw 54 (rB V t)/\(rB V t).Red []/\(rB V t).all (fun l=>BL l 26):=(Sw hV h).2
def Y0(hE:EG GB ai al ae)(hV:si V)(h:yu t):PF GB prog 78 [eU t, .sl (V.map eZ)] (.tp [eU (rB V t), .v .nilIface]):=
 aMD hE hV h.x.lb h.x.ok h.bl pb (by have:=h.dp;omega) (by have:=h.x.s;omega) (Sw hV h).1
def Q9(hE:EG GB ai al ae){r:List ZP}(hr:wV r)(hc:mP (r.map ZP.q)=true)(hV:si (r.map ZP.q))(h:yu t):PF GB prog 27 [eA t,yr r] (.tp [eA (rB (r.map ZP.q) t), .v .nilIface]):=by
 have hx:=(EH hV h).1;have hst:PF GB prog 77 [eA t,yr r, .sl [.v (.func (.func 78) #[] #[])]] (.tp [eA (rB (r.map ZP.q) t), .v .nilIface]):=VO (fs:=[78]) (ts:=YI t (rB (r.map ZP.q) t)) h.x hr hc (fun k f hk=>by match k,hk with|0,hk=>cases hk;exact Y0 hE hV h|k+1,hk=>simp at hk) hx.lb (by have:=hx.s;show(rB (r.map ZP.q) t).size<=_;omega) vb;refine fn (fu:=⟨11⟩) func27 J J ntmps27 J J (fun C=>?_);refine rfP ⟨.o,1,some [.d (.v .nilFunc)],false⟩ J v6 J<|cl J hst J<|rz J J


def Tr.partsF:Tr->ar->List (Bool×ar)
 | .leaf b,c=>[(b,c)]
 | .node l x y,c=>(if cH c l then x.partsF (yM c l) else [])++(if cH c l.rev then y.partsF (yM c l.rev) else [])
def Tr.parts_F: ∀(t:Tr) (c:ar),t.parts c=t.partsF c
 | .leaf _,_=>rfl
 | .node l x y,c=>by rw[Tr.parts,Tr.partsF,Dh,Dh,x.parts_F,y.parts_F]
def XM(V:List aa)(E:List (aa×aa))(c:ar):vG V E [c] (.leaf false)=(gj V E c).restrict []:=by
 show(Tr.leaf false).mergeQ 1 (gj V E c) []=_;rw[Tr.mergeQ];unfold Tr.chooseQ;rw[if_pos (.inl J),if_neg pb]
def FQ:List aa:=(fD 0 0 1 1).map ZP.q
def IR:List ar:=((((((vw [fD 0 0 1 1] 2).restrictF []).restrictF []).partsF []).filter (·.1)).map (·.2))
def Xf:f7 ((iA [fD 0 0 1 1] 2).restrict [])=IR:=by
 unfold f7 iA IR;rw[Tr.restrict_F,Tr.restrict_F,Tr.parts_F]
def Cv:Tr->Tr->Bool
 | .leaf a, .leaf b=>a==b
 | .node l x y, .node m u v=>decide (l=m)&&(Cv x u&&Cv y v)
 |_,_=>false
def Ih: ∀{t u:Tr},Cv t u=true->t=u
 | .leaf a, .leaf b,h=>by rw[eq_of_beq (show(a==b)=true from h)]
 | .node l x y, .node m u v,h=>by
  simp only[Cv,bR,decide_eq_true_eq] at h;rw[h.1,Ih h.2.1,Ih h.2.2]
 | .leaf _, .node ..,h=>by cases h
 | .node .., .leaf _,h=>by cases h
def X'{α:Type}{f:α->Bool}{l:List α}(h:l.map f=[true]): ∃c,l=[c]/\f c=true:=by
 cases l with
 |nil=>cases h
 |cons a t=>
  rw[bY,List.cons.injEq] at h;exact⟨a,by rw[List.map_eq_nil_iff.1 h.2],h.1⟩
def VK:(IR.map fun c=>Cv ((gj FQ (co FQ) c).restrictF []) ((vw [fD 0 0 2 2] 2).restrictF []))=[true]:=by decide+kernel
def aG9:jI FQ (co FQ) (iA [fD 0 0 1 1] 2)=iA [fD 0 0 2 2] 2:=by
 obtain⟨c,hc,hr⟩:=X' VK;unfold jI;rw[Xf,hc,XM,Tr.restrict_F,Ih hr,<-Tr.restrict_F];rfl
section
variable {a b c:Tr}(ha:a.all ah.ok)(hb:b.all ah.ok)(hc:c.all ah.ok)
include ha hb
end
def aHt(h:kw k t):PF GB prog 82 [eA t] (.tp [eT t,vB true]):=aEM h.lb h.ok (by have:=h.s;omega)
def aFu{E:List (aa×aa)}(hB:iz V E)(ht:t.all ah.ok): ∀l∈x6 V E t,l.ok:=fun l hl=>by
 obtain⟨c,hc,hlc⟩:=gJ.1 hl;obtain⟨g,a⟩:=vY ht c hc;exact jB (CW hB g a) l hlc
abbrev PZ:aa:=⟨0,0⟩
def gP(r:List aa)(i:Nat):aa:=r.getD ((i+1)%r.length) PZ
def jp(v w:aa):bt:=⟨mn v w,⟨gy (mn v w) v,gy (mn v w) w,false,false⟩⟩
def p7(r:List aa):Nat->List bt
 |0=>[]
 |k+1=>p7 r k++[jp (r.getD k PZ) (gP r k)]
def j'(r:List aa):List bt:=p7 r r.length
def xf(v w:aa):Prop:= ¬(v.x=w.x/\v.y=w.y)
structure ij (r:List aa):Prop where
 n3:3<=r.length
 n6:r.length<=6
 bd: ∀p∈r,aC p 7
 ne: ∀i<r.length,xf (r.getD i PZ) (gP r i)
def Ex(h:i<r.length):r.getD i PZ∈r:=by
 rw[aK,aZ h];exact cK h
def Ld(h:i<r.length):gP r i∈r:=Ex (dJ _ m5)
def H1{a b c:Rat}{j:Nat}(ha:BQ a i)(hb:BQ b j)(hc:BQ c k):(a.num*(b.den*c.den:Nat)).natAbs<2^(i+(j+k)):=by
 rw[fL,fK];exact mv ha.hn (mv hb.hd hc.hd)
theorem Qu(hp:aC p 7)(hq:aC q 7):LB (mn p q):=by
 have h1:BQ (p.y-q.y) 15:=inferInstance;have h2:BQ (q.x-p.x) 15:=inferInstance;have h3:BQ (-((p.y-q.y)*p.x+(q.x-p.x)*p.y)) 46:=BQ.mono (inferInstance:BQ (-((p.y-q.y)*p.x+(q.x-p.x)*p.y)) _);unfold mn ew;obtain⟨k1,k2,k3⟩:=BW ((p.y-q.y).num*((q.x-p.x).den*(-((p.y-q.y)*p.x+(q.x-p.x)*p.y)).den:Nat)) ((q.x-p.x).num*((p.y-q.y).den*(-((p.y-q.y)*p.x+(q.x-p.x)*p.y)).den:Nat)) ((-((p.y-q.y)*p.x+(q.x-p.x)*p.y)).num*((p.y-q.y).den*(q.x-p.x).den:Nat));have pw:(2:Nat)^(15+(15+46))<=2^96:=bT pb pb;have Q5:(2:Nat)^(46+(15+15))<=2^96:=bT pb pb;exact⟨⟨fQ k1 (cN (H1 h1 h2 h3) pw),fQ k2 (cN (H1 h2 h1 h3) pw),fQ k3 (cN (H1 h3 h1 h2) Q5)⟩⟩
def UF(h:xf p q): ¬(p.y-q.y=0/\q.x-p.x=0):=fun⟨h1,h2⟩=>h ⟨va,va⟩
def KE(h:xf p q):(mn p q).ok:=xN (UF h)
theorem Us{l:ah}(hl:LB l)(hp:aC p 7):BQ (gy l p) 1200:=by
 unfold gy aa.dot ah.dir;exact BQ.mono (inferInstance:BQ ((p.x*(l.b:Rat)+p.y*((-l.a:Int):Rat))/((l.b:Rat)*(l.b:Rat)+((-l.a:Int):Rat)*((-l.a:Int):Rat))) _)
def WO(hv:aC v 7)(hw:aC w 7)(h:xf v w):lu (jp v w):=by
 have h1:=Qu hv hw;exact⟨h1,KE h,⟨fun e=>(by cases e),fun e=>(by cases e)⟩,Us h1 hv,Us h1 hw⟩
def IK{r:List aa}(h:ij r): ∀{k:Nat},k<=r.length->(p7 r k).length=k/\ ∀f∈p7 r k,lu f
 |0,_=>⟨J,fun f hf=>by cases hf⟩
 |k+1,hk=>by
  obtain⟨h1,h2⟩:=IK h (k:=k) m5;rw[p7];refine⟨by simp[h1],fun f hf=>?_⟩;rcases aL.1 hf with hf|hf
  .exact h2 f hf
  .rw[aY] at hf;subst hf
   exact WO (h.bd _ (Ex m5)) (h.bd _ (Ld m5)) (h.ne k m5)
def Kz(h:ij r):(j' r).length=r.length/\ ∀f∈j' r,lu f:=IK h (bW _)
def jb(rs:List (List aa)):List bt:=rs.flatMap j'
def wD: ∀{rs:List (List aa)},(∀r∈rs,ij r)->(jb rs).length<=6*rs.length/\ ∀f∈jb rs,lu f
 |[],_=>⟨bW _,fun f hf=>by cases hf⟩
 |r::rs,h=>by
  obtain⟨h1,h2⟩:=wD (rs:=rs) fun q hq=>h q (aJ _ hq);obtain⟨k1,k2⟩:=Kz (h r aQ);have:=(h r aQ).n6;unfold jb at*;rw[kK];refine⟨by rw[aU,k1,aN];omega,fun f hf=>?_⟩;rcases aL.1 hf with hf|hf
  .exact k2 f hf
  .exact h2 f hf
def i7(r:List aa)(p:aa):Nat->Int
 |0=>0
 |k+1=>i7 r p k+qq (r.getD k PZ) (gP r k) p
def fA(r:List aa)(p:aa):Int:=i7 r p r.length
def oF(rs:List (List aa))(fill:Int)(p:aa):Bool:=ue fill (rs.foldl (fun n r=>n+fA r p) 0)
def n4(rs:List (List aa))(fill:Int):Tr:=jg (oF rs fill) (jb rs).length (jb rs) []
def gq(rs:List (List aa))(fill:Int):Tr:=(n4 rs fill).restrict []
def UU(h: ∀r∈rs,ij r)(hn:rs.length<=3):kw 18 (gq rs fill):=by
 obtain⟨h1,h2⟩:=wD h;exact m7.x (((AC (acc:=oF rs fill) h2 J).restrict []).mono m5) (Tr.restrict_red _ _) pb
def Ar(r:List aa)(q p:aa):Prop:= ∀k,k<r.length->w7 (r.getD k PZ) (gP r k) q p
def PP(h:k+1<r.length:=by omega):gP r k=r.getD (k+1) PZ:=by unfold gP;rw[iN h]
def Q2(h:k+1=r.length:=by omega):gP r k=r.getD 0 PZ:=by unfold gP;rw[h,Nat.mod_self]
def N6{r:List aa}{q p:aa}(h:Ar r q p)(hy:q.y<p.y): ∀k,k<r.length->i7 r p k-i7 r q k=wJ q p (r.getD 0 PZ)-wJ q p (r.getD k PZ)
 |0,_=>by simp[i7]
 |k+1,hk=>by
  have ih:=N6 h hy k m5;have e:=Q7 (h k m5) hy;rw[PP] at e;rw[i7,i7,PP,wg,wg];omega
def TD(h:Ar r q p)(hy:q.y<p.y):fA r p=fA r q:=by
 unfold fA
 cases hr:r.length with
 |zero=>rfl
 |succ n=>
  have ih:=N6 h hy n m5;have e:=Q7 (h n m5) hy;rw[Q2] at e;rw[i7,i7,Q2,wg,wg];omega
def TU{r:List aa}{q p:aa}(h:Ar r q p)(hy:q.y=p.y): ∀k,k<=r.length->i7 r p k=i7 r q k
 |0,_=>rfl
 |k+1,hk=>by rw[i7,i7,TU h hy k m5,wg,wg,auU (h k m5) hy]
def VR(h:Ar r q p):fA r p=fA r q:=by
 by_cases h1:q.y<p.y
 .exact TD h h1
 .by_cases h2:p.y<q.y
  .exact(TD (fun k hk=>(h k hk).symm) h2).symm
  .exact TU h va _ (bW _)
def aw3(h:xf v w): ∃g:Rat,0<g/\(mn v w).value v=0/\(mn v w).value w=0/\w=cd v (mn v w).dir g:=by
 obtain⟨g,g0,hg⟩:=wY (c:= -((v.y-w.y)*v.x+(w.x-v.x)*v.y)) (UF h);have h00:=hg ⟨0,0⟩;have h10:=hg ⟨1,0⟩;have h01:=hg ⟨0,1⟩;have hv:=hg v;have hw:=hg w;have hi:g*g⁻¹=1:=rN _ (fun e=>by rw[e] at g0;exact absurd g0 pb);have hip:0<g⁻¹:=by rw[Rat.inv_pos];exact g0
 unfold mn;generalize ew (v.y-w.y) (w.x-v.x) (-((v.y-w.y)*v.x+(w.x-v.x)*v.y))=l at*;rw[jD] at h00 h10 h01;dsimp only at h00 h10 h01;refine⟨g⁻¹,hip,by rw[hv];grind,by rw[hw];grind,?_⟩;obtain⟨vx,vy⟩:=v;obtain⟨wx,wy⟩:=w;unfold cd ah.dir;simp only[aa.mk.injEq];dsimp only at h00 h10 h01 hi hip;have ea:(l.a:Rat)=g*(vy-wy):=by grind
 have eb:(l.b:Rat)=g*(wx-vx):=by grind
 constructor
 .rw[eb];grind
 .push_cast;rw[ea];grind
def aJD(h:xf v w):(jp v w).l.at (jp v w).v.lo=v/\(jp v w).l.at (jp v w).v.hi=w/\(jp v w).v.lo<(jp v w).v.hi:=by
 obtain⟨g,g0,h1,h2,h3⟩:=aw3 h;have ho:=KE h;unfold jp;dsimp only;generalize mn v w=l at*;have e1:=MK ho.ne h1;have e2:=MK ho.ne h2;refine⟨e1,e2,?_⟩;have:gy l w=gy l v+g:=by
  have e3:=yt l (gy l v) g;rw[e1,<-h3] at e3;rw[<-e3,PJ ho.ne]
 rw[this];grind
def Oz{r:List aa}{k:Nat}: ∀{n:Nat},k<n->jp (r.getD k PZ) (gP r k)∈p7 r n
 |n+1,h=>by
  rw[p7];by_cases e:k=n
  .subst e;exact aM _ (aY.2 J)
  .exact bJ _ (Oz m5)
def V6(hr:ij r)(hc: ∀e∈j' r,∀t,e.v.ins t-> ¬dP c (e.l.at t))(hq:dP c q)(hp:dP c p):Ar r q p:=fun k hk s t s0 s1 t0 t1 he=>by
 have hm:jp (r.getD k PZ) (gP r k)∈j' r:=Oz hk;obtain⟨e1,e2,e3⟩:=aJD (hr.ne k hk);have hno:=hc _ hm;have hx0:=hq.seg hp t0 t1;have hx:dP c (bO ((jp (r.getD k PZ) (gP r k)).l.at (jp (r.getD k PZ) (gP r k)).v.lo) ((jp (r.getD k PZ) (gP r k)).l.at (jp (r.getD k PZ) (gP r k)).v.hi) s):=by rw[e1,e2,he];exact hx0
 rw[aHZ] at hx;have hv: ∀u,(jp (r.getD k PZ) (gP r k)).v.lo<u->u<(jp (r.getD k PZ) (gP r k)).v.hi-> ¬dP c ((jp (r.getD k PZ) (gP r k)).l.at u):=fun u h1 h2=>hno u ⟨.inr h1, .inr h2⟩;generalize jp (r.getD k PZ) (gP r k)=e at*;have hb:=Jh s0 s1 (eY) (cR e3) (cR e3) (eY);generalize e.v.lo+s*(e.v.hi-e.v.lo)=u at*;obtain⟨d,d0,hd⟩:=hx.open e.l.dir;obtain⟨d',d0',hd'⟩:=hx.open (bD e.l.dir);by_cases h1:e.v.lo<u
 .by_cases h2:u<e.v.hi
  .exact hv u h1 h2 hx
  .have eu:u=e.v.hi:=by grind
   obtain⟨z,z0,z1,z2⟩: ∃z:Rat,0<z/\z<=d'/\z<e.v.hi-e.v.lo:=by
    by_cases k:d'<(e.v.hi-e.v.lo)/2
    .exact⟨d',d0',eY,va⟩
    .exact⟨(e.v.hi-e.v.lo)/2,va,va,va⟩
   refine hv (u+ -z) va va ?_;rw[yt];have:=hd' z (cR z0) z1;have e5:cd (e.l.at u) (bD e.l.dir) z=cd (e.l.at u) e.l.dir (-z):=by unfold cd bD;simp only[aa.mk.injEq];constructor<;>grind
   rw[e5] at this;exact this
 .have eu:u=e.v.lo:=by grind
  obtain⟨z,z0,z1,z2⟩: ∃z:Rat,0<z/\z<=d/\z<e.v.hi-e.v.lo:=by
   by_cases k:d<(e.v.hi-e.v.lo)/2
   .exact⟨d,d0,eY,va⟩
   .exact⟨(e.v.hi-e.v.lo)/2,va,va,va⟩
  refine hv (u+z) va va ?_;rw[yt];exact hd z (cR z0) z1
def aB5(hr:ij r)(ho:cB (n4 [r] fill).lns p):(gq [r] fill).val p=ue fill (fA r p):=by
 have hrs: ∀x∈[r],ij x:=fun x hx=>by rw[aY.1 hx];exact hr
 obtain⟨h1,h2⟩:=wD hrs;have he:jb [r]=j' r:=by unfold jb;simp
 have hi: ∀q,oF [r] fill q=ue fill (fA r q):=fun q=>by unfold oF;simp
 have hok:(n4 [r] fill).all ah.ok:=wP fun f hf=>(h2 f hf).ok;unfold gq;rw[Tr.val_restrict _ _ _ hok bG.nil (fun s hs=>by cases hs) ho,<-hi];unfold n4 at ho⊢;refine HM (E:=jb [r]) (fun e he=>(h2 e he).ok.ne) (fun c q p hno hq hp=>?_) h2 ?_ (fun m hm=>by cases hm) (fun e he t ht _=>⟨e,he,J,ht⟩) (fun m hm=>by cases hm) ho
 .rw[hi,hi,VR (V6 hr (by rw[<-he];exact hno) hq hp)]
 .exact⟨(jb [r]).map (·.l),by rw[aX];exact bW _,fun f hf=>⟨f.l,dQ hf, .inl J⟩⟩
def lf(r:List aa):DV:= .sl (r.map eP)
def xM(r:List aa):DV:= .sl (r.map oc)
def Zv(l:List (List aa)):dm 1 (l.map lf):=fun d hd=>by
 obtain⟨u,_,rfl⟩:=aT.1 hd;exact⟨rfl,rfl⟩
def aKp(l:List (List aa)):dm 1 (l.map xM):=fun d hd=>by
 obtain⟨u,_,rfl⟩:=aT.1 hd;exact⟨rfl,rfl⟩
def Gg(h:i<r.length):(r.map eP)[((i:Nat):Int).toNat]? =some (eP (r.getD i PZ)):=by
 rw[cX,cZ,aK,aZ h];rfl
def Mk(h:i<r.length):(r.map eP)[(((i+1)%r.length:Nat):Int).toNat]? =some (eP (gP r i)):=Gg (dJ _ m5)
def CZ(r:List aa)(p:aa): ∀k,(i7 r p k).natAbs<=k
 |0=>bW _
 |k+1=>by rw[i7];have:=CZ r p k;have:=Wi (r.getD k PZ) (gP r k) p;omega
def aIB[hv:aC v 7][hw:aC w 7](h:xf v w):PF GB prog 199 [eP v,eP w] (.tp [gn (jp v w),vB true]):=by
 have hlo:=KE h;haveI:=Qu hv hw;refine fn func199 J J ntmps199 J J (fun C=>?_);refine cl (fu:=⟨3⟩) J (aJA (p:=v) (q:=w) (i:=7) pb h) J<|mo 13 J<|gx J<|cl J (D0 (l:=mn v w) (p:=v) hlo.ne) J<|cl J (D0 (l:=mn v w) (p:=w) hlo.ne) J<|rz J J
def RH(h:ij r):PF GB prog 118 [lf r] (.sl ((j' r).map gn)):=by
 have hm:=fy eP r;have h3:=h.n3;have h6:=h.n6;refine fn (fu:=⟨15⟩) func118 J J ntmps118 J J (fun C=>?_);refine aj 8 (.d (vI (r.length:Nat))) J oml<|gx J<|nr 3 3 207 14 J J J<|lp (X:=Nat) (fun k=>[(9, .d (vI (k:Nat))),(3, .rw 3)]) (fun k=>[(3,some (.b 207 14 ((p7 r k).map gn) true))]) (fun k=>k<=r.length) (fun k=>r.length-k) 0 J (bK _) (fun _=>J) (fun k hk=>?_);have hel:=fun hh=>(IK (k:=k) h hh).1;refine br J J J (fun hc10=>?_) (fun hc10=>?_)
 .
  have hkr:k<r.length:=by omega
  have hel:=hel m5;have hem:=fy gn (p7 r k);haveI:=h.bd _ (Ex hkr);haveI:=h.bd _ (Ld hkr);refine ix (fu:=⟨7⟩) _ J (Gg hkr) J<|aj 22 (.d (vI ((k+1)%r.length:Nat))) J oml<|gx J<|ix _ J (Mk hkr) J<|cl J (aIB (v:=r.getD k PZ) (w:=gP r k) (h.ne k hkr)) J<|rf J J<|ap ((p7 r (k+1)).map gn) J (by rw[p7,bX];rfl) (zJ [jp (r.getD k PZ) (gP r k)]) J<|fI 31 3 J<|at_ (k+1) ⟨m5,m5⟩
 .
  obtain rfl:k=r.length:=by omega
  refine iH 3 J<|rz J J
theorem omi{p:Prop}(h:p:=by dsimp only;exact⟨⟨by rw[i7,<-h1,<-hv,<-hw];unfold qq;split<;>split<;>omega,m5⟩,m5⟩):p:=h
def aJr[hp:aC p i](h:ij r)(hi:i<=80000:=by decide):PF GB prog 257 [lf r,eP p] (vI (fA r p)):=by
 have hm:=fy eP r;have h3:=h.n3;have h6:=h.n6;refine fn (fu:=⟨16⟩) func257 J J ntmps257 J J (fun C=>?_);refine aj 12 (.d (vI (r.length:Nat))) J oml<|gx J<|lp (X:=Nat×Int) (fun⟨k,c⟩=>[(13, .d (vI (k:Nat))),(5, .d (vI c))]) (fun⟨k,c⟩=>[]) (fun⟨k,c⟩=>c=i7 r p k/\k<=r.length) (fun⟨k,c⟩=>r.length-k) (0,0) J ⟨J,bK _⟩ (fun _=>J) (fun⟨k,c⟩ hk=>?_);dsimp only at hk⊢;obtain⟨h1,h2⟩:=hk;have hcl:c.natAbs<=k:=by rw[h1];exact CZ r p k
 refine br J J J (fun hc14=>?_) (fun hc14=>?_)
 .
  have hkr:k<r.length:=by omega
  obtain⟨v,hv⟩: ∃v,v=r.getD k PZ:=⟨_,rfl⟩;obtain⟨w,hw⟩: ∃v,v=gP r k:=⟨_,rfl⟩;haveI hvb:aC v 7:=by rw[hv];exact h.bd _ (Ex hkr)
  haveI hwb:aC w 7:=by rw[hw];exact h.bd _ (Ld hkr)
  refine ix (fu:=⟨1⟩) _ J (Gg hkr) J<|aj 19 (.d (eP v)) J (by rw[hv];rfl)<|gx (fu:=⟨6⟩) J<|aj 25 (.d (vI ((k+1)%r.length:Nat))) J oml<|gx J<|ix (fu:=⟨1⟩) _ J (Mk hkr) J<|aj 27 (.d (eP w)) J (by rw[hw];rfl)<|gx J<|cl J (od (a:=v.y) (b:=p.y) (i:=7) (j:=i) pb m5) J<|cl (fu:=⟨8⟩) J (od (a:=w.y) (b:=p.y) (i:=7) (j:=i) pb m5) J<|?_;rcases(show(bB v.y p.y<=0/\bB w.y p.y<=0)\/(bB v.y p.y<=0/\ ¬bB w.y p.y<=0)\/(¬bB v.y p.y<=0/\bB w.y p.y<=0)\/(¬bB v.y p.y<=0/\ ¬bB w.y p.y<=0) by omega) with⟨ca,cb⟩|⟨ca,cb⟩|⟨ca,cb⟩|⟨ca,cb⟩
  .
   refine gx (fu:=⟨1⟩) J<|d7 (fu:=⟨3⟩) J (we m5) J<|c9 (fu:=⟨15⟩) J (oma m5) J<|c9 J (oma m5) J<|at_ (k+1,c) omi
  .
   refine gx (fu:=⟨1⟩) J<|d7 (fu:=⟨3⟩) J (we m5) J<|d7 J (we m5) J<|cl J (IS (a:=v) (b:=w) (c:=p) (i:=7) (j:=7) (k:=i) pb pb hi) J<|br (fu1:=⟨10⟩) (fu2:=⟨6⟩) J J J (fun hc51=>?_) (fun hc51=>?_)
   .
    refine c9 J (oma m5) J<|at_ (k+1,c+1) omi
   .
    refine c9 J (oma m5) J<|at_ (k+1,c) omi
  .
   refine gx (fu:=⟨1⟩) J<|c9 (fu:=⟨19⟩) J (oma m5) J<|d7 (fu:=⟨2⟩) J (we m5) J<|d7 J (we m5) J<|cl J (IS (a:=v) (b:=w) (c:=p) (i:=7) (j:=7) (k:=i) pb pb hi) J<|br J J J (fun hc65=>?_) (fun hc65=>?_)
   .
    exact at_ (k+1,c-1) omi
   .
    exact at_ (k+1,c) omi
  .
   refine gx (fu:=⟨1⟩) J<|c9 (fu:=⟨19⟩) J (oma m5) J<|d7 (fu:=⟨2⟩) J (we m5) J<|c9 J (oma m5) J<|at_ (k+1,c) omi
 .
  obtain rfl:k=r.length:=by omega
  have hfin:fA r p=c:=h1.symm;exact rz J okU
def H5(rs:List (List aa)):List ah:=(jb rs).map bt.l
def yo(rs:List (List aa))(fill:Int):DV:= .ag [.sl (rs.map lf), .v (.int .i64 fill), .sl ((mr (H5 rs)).map eL)]
def Wl(h: ∀r∈rs,ij r)(k:Nat):((rs.take k).foldl (fun n r=>n+fA r p) 0).natAbs<=6*k:=by
 induction k with
 |zero=>rw[uQ];exact bK _
 |succ k ih=>
  rw[dT,oM]
  cases e:rs[k]? with
  |none=>exact dZ ih m5
  |some r=>
   have h1:(fA r p).natAbs<=r.length:=CZ r p r.length;have h2:=(h r (aW e)).n6;show(List.foldl _ 0 (rs.take k)+fA r p).natAbs<=_;omega
def VQ[hp:aC p i](h: ∀r∈rs,ij r)(hn:rs.length<=100)(hi:i<=80000:=by decide):PF GB prog 200 [yo rs fill,eP p] (vB (oF rs fill p)):=by
 have hm:=fy lf rs;refine fn (fu:=⟨18⟩) func200 J J ntmps200 J J (fun C=>?_);refine aj 10 (.d (vI (rs.length:Nat))) J oml<|gx J<|lp (X:=Nat×Int) (fun⟨k,c⟩=>[(11, .d (vI (k:Nat))),(5, .d (vI c))]) (fun⟨k,c⟩=>[]) (fun⟨k,c⟩=>c=(rs.take k).foldl (fun n r=>n+fA r p) 0/\k<=rs.length) (fun⟨k,c⟩=>rs.length-k) (0,0) J ⟨by rw[uQ];rfl,bK _⟩ (fun _=>J) (fun⟨k,c⟩ hk=>?_);dsimp only at hk⊢;obtain⟨h1,h2⟩:=hk;have hcl:c.natAbs<=6*k:=by rw[h1];exact Wl h k
 refine br J J J (fun hc12=>?_) (fun hc12=>?_)
 .
  obtain⟨r,hz⟩: ∃s,rs[k]? =some s:=⟨_,aZ m5⟩;have hr:=h r (aW hz);have hnz:(fA r p).natAbs<=6:=dZ (CZ r p r.length) hr.n6;refine ix _ J (cO hz) J<|cl J (aJr (r:=r) (p:=p) hr hi) J<|at_ (k+1,c+fA r p) (by dsimp only;exact⟨⟨by rw[dT,hz,oM,<-h1];rfl,m5⟩,m5⟩)
 .
  obtain rfl:k=rs.length:=by omega
  rw[dX] at h1;refine cl J (aw6 (fill:=fill) (n:=c) m5) J<|rz J (by unfold oF;rw[<-h1];rfl)
theorem Nl(h: ∀p∈r,aC p 7): ∀p∈r,aC p 1200:=fun p hp=>⟨BQ.mono (h p hp).x,BQ.mono (h p hp).y⟩
def Tw(h:rs[k]? =some r):jb (rs.take (k+1))=jb (rs.take k)++j' r:=by
 unfold jb;rw[dT,h,pV];simp
def SF(h: ∀r∈rs,ij r)(k:Nat):(jb (rs.take k)).length<=6*k:=by
 have:=(wD (rs:=rs.take k) (fun r hr=>h r (dS hr))).1;have h2:(rs.take k).length<=k:=by rw[bL];omega
 omega
def Xw(h: ∀r∈rs,ij r)(hn:rs.length<=100):PF GB prog 50 [.sl (rs.map xM), .v (.int .i64 fill)] (yo rs fill):=by
 have hm:=fy xM rs;refine fn (fu:=⟨8⟩) func50 J J ntmps50 J J (fun C=>?_);refine ZQ (fu:=⟨14⟩) 44 1 0 [] [.v (.int .i64 fill), .sl []] J J J J J<|aj 15 (.d (vI (rs.length:Nat))) J oml<|gx J<|nr 6 6 136 6 J J J<|lp (X:=Nat) (fun k=>[(16, .d (vI (k:Nat))),(6, .rw 6),(5, .ov 5 0)]) (fun k=>[(5,some (.o 115 [.rw 13, .d (.v (.int .i64 fill)), .d (.sl [])] true)),(13,some (.b 44 1 ((rs.take k).map lf) true)),(6,some (.b 136 6 (((jb (rs.take k)).map bt.l).map eL) true))]) (fun k=>k<=rs.length) (fun k=>rs.length-k) 0 J (bK _) (fun _=>J) (fun k hk=>?_);refine br (fu2:=⟨0⟩) J J J (fun hc17=>?_) (fun hc17=>?_)
 .
  obtain⟨r,hz⟩: ∃s,rs[k]? =some s:=⟨_,aZ m5⟩;have hr:=h r (aW hz);have hel:(j' r).length<=6:=by have:=(Kz hr).1;have:=hr.n6;omega
  have het:=SF h k;have hrl:((rs.take k).map lf).length=k:=by rw[aX,bL];omega
  refine ix _ J (cO hz) J<|cl (fu:=⟨0⟩) J (aLO (ps:=r) (Nl hr.bd) (by have:=hr.n6;omega)) J<|aj 21 (.d (lf r)) J J<|gx J<|rf J J<|ap ((rs.take (k+1)).map lf) J (wc hz) (Zv [r]) J<|cl (fu:=⟨1⟩) J (RH (r:=r) hr) J<|aj 30 (.d (vI ((j' r).length:Nat))) J (by rw[fy gn (j' r)]<;>rfl)<|gx J<|?_;rw[<-fT (jb (rs.take k)),<-uQ (l:=j' r)];refine lp (X:=Nat) (fun j=>[(31, .d (vI (j:Nat))),(6, .rw 6)]) (fun j=>[(6,some (.b 136 6 (((jb (rs.take k)++(j' r).take j).map bt.l).map eL) true))]) (fun j=>j<=(j' r).length) (fun j=>(j' r).length-j) 0 J (bK _) (fun _=>J) (fun j hk=>?_);have hml:(((jb (rs.take k)++(j' r).take j).map bt.l).map eL).length<=6*k+6:=by rw[aX,aX,aU,bL];omega
  refine br J J J (fun hc32=>?_) (fun hc32=>?_)
  .
   obtain⟨e,he⟩: ∃s,(j' r)[j]? =some s:=⟨_,aZ m5⟩;refine ix _ J (cO he) J<|rf J J<|ap (((jb (rs.take k)++(j' r).take (j+1)).map bt.l).map eL) J (by rw[dT,he];simp only[bX,dK];rfl) (eE [e.l]) J<|fI 39 6 J<|at_ (j+1) ⟨m5,m5⟩
  .
   obtain rfl:j=(j' r).length:=by omega
   rw[dX,<-Tw hz];refine fI 26 13 J<|at_ (k+1) ⟨m5,m5⟩
 .
  obtain rfl:k=rs.length:=by omega
  rw[dX];refine oA 6 rfl<|oA 13 rfl<|gx rfl<|cr rfl (Vh (ls:=H5 rs) (fun l hl=>by obtain⟨f,hf,rfl⟩:=aT.1 hl;exact((wD h).2 f hf).lb) (by unfold H5;rw[aX];have:=(wD h).1;omega)) rfl<|iH 43 rfl<|rz J J
def aIf(h: ∀r∈rs,ij r)(hn:rs.length<=100):PF GB prog 10 [.sl (rs.map lf)] (.sl (rs.map xM)):=by
 have hm:=fy lf rs;refine fn (fu:=⟨15⟩) func10 J J ntmps10 J J (fun C=>?_);refine aj 7 (.d (vI (rs.length:Nat))) J oml<|gx J<|nr 3 3 45 1 J J J<|lp (X:=Nat) (fun k=>[(8, .d (vI (k:Nat))),(3, .rw 3)]) (fun k=>[(3,some (.b 45 1 ((rs.take k).map xM) true))]) (fun k=>k<=rs.length) (fun k=>rs.length-k) 0 J (bK _) (fun _=>J) (fun k hk=>?_);have hml:((rs.take k).map xM).length<=k:=by rw[aX,bL];omega
 refine br J J J (fun hc9=>?_) (fun hc9=>?_)
 .
  obtain⟨r,hz⟩: ∃s,rs[k]? =some s:=⟨_,aZ m5⟩;have hr:=h r (aW hz);refine ix (fu:=⟨1⟩) _ J (cO hz) J<|aj 11 (.d (.sl (r.map eP))) J J<|gx J<|cl J (Qe (ps:=r) (Nl hr.bd) (by have:=hr.n6;omega)) J<|rf J J<|ap ((rs.take (k+1)).map xM) J (wc hz) (aKp [r]) J<|fI 16 3 J<|at_ (k+1) ⟨m5,m5⟩
 .
  obtain rfl:k=rs.length:=by omega
  refine iH 3 J<|rz J (by rw[dX];rfl)
def VN(hrs: ∀r∈rs,ij r)(hrn:rs.length<=100)(hc: ∀m∈c,LB m)(hok: ∀m∈c,m.ok)(hn:c.length<=900):PF GB prog 119 [yo rs fill, .sl [], .sl (c.map eL)] (eT (jg (oF rs fill) n [] c)):=by
 haveI hpb:=N9 hc hok (t:=c) (fun _ h=>h);refine fn (fu:=⟨11⟩) func119 J J ntmps119 J J (fun C=>?_);refine d7 J J J<|cl J (Jn (c:=c) hc hok m5) J<|cl J (VQ (p:=jx c c) (i:=70000) hrs hrn pb) J<|cl J (aGu (p:=oF rs fill (jx c c))) J<|rz J (by rw[aAj];rfl)
def Wv{rs:List (List aa)}{fill:Int}(hrs: ∀r∈rs,ij r)(hrn:rs.length<=100){n:Nat}{f:bt}{t:List bt}{c:List ah}(hfew:tE (n+1) (f::t))(hfo: ∀g∈f::t,lu g)(hlen:(f::t).length*3^(n+1)<=6973568802)(hc: ∀m∈c,LB m)(hok: ∀m∈c,m.ok)(hn:c.length+(n+1)<=900)(ih: ∀{l:List bt} {c:List ah},tE n l->(∀f∈l,lu f)->l.length*3^n<=6973568802->(∀m∈c,LB m)->(∀m∈c,m.ok)->c.length+n<=900->PF GB prog 119 [yo rs fill, .sl (l.map gn), .sl (c.map eL)] (eT (jg (oF rs fill) n l c))):PF GB prog 119 [yo rs fill, .sl ((f::t).map gn), .sl (c.map eL)] (eT (jg (oF rs fill) (n+1) (f::t) c)):=by
 obtain⟨l,hl⟩: ∃l,l=f::t:=⟨_,rfl⟩;have hl0:l[0]? =some f:=by rw[hl];rfl
 rw[<-hl] at hfew hfo hlen⊢;have hm:=fy gn l;have hfl:=hfo f (aW hl0);haveI:=hfl.lb;have hlp:0<l.length:=by rw[hl];simp
 have hlb:l.length<=6973568802:=dZ (nK _ (gW pb)) hlen;refine fn (fu:=⟨11⟩) func119 J J ntmps119 J J (fun C=>?_);refine aj 17 (.d (vI (l.length:Nat))) J oml<|gx (fu:=⟨0⟩) J<|c9 J (oma m5) J<|ix (fu:=⟨17⟩) _ J (cO (i:=0) hl0) J<|aj 33 (.d (vI (l.length:Nat))) J oml<|gx J<|nr 10 10 207 14 J J J<|nr 11 11 207 14 J J J<|lp (X:=Nat) (fun k=>[(34, .d (vI (k:Nat))),(10, .rw 10),(11, .rw 11)]) (fun k=>[(10,some (.b 207 14 (((l.take k).flatMap fun g=>fH g f.l 1).map gn) true)),(11,some (.b 207 14 (((l.take k).flatMap fun g=>fH g f.l (-1)).map gn) true))]) (fun k=>k<=l.length) (fun k=>l.length-k) 0 J (bK _) (fun _=>J) (fun k hk=>?_);have htk:(l.take k).length<=6973568802:=by rw[bL];omega
 have hb1:(((l.take k).flatMap fun g=>fH g f.l 1).map gn).length<=20920706406:=by rw[aX];have:=Eg (l.take k) f.l 1;omega
 have hb2:(((l.take k).flatMap fun g=>fH g f.l (-1)).map gn).length<=20920706406:=by rw[aX];have:=Eg (l.take k) f.l (-1);omega
 refine br (fu2:=⟨0⟩) J J J (fun hc35=>?_) (fun hc35=>?_)
 .
  obtain⟨g,hz⟩: ∃s,l[k]? =some s:=⟨_,aZ m5⟩;have hg:=hfo g (aW hz);have hs1:((fH g f.l 1).map gn).length<=3:=by rw[aX];exact JS _ _ _
  have hs2:((fH g f.l (-1)).map gn).length<=3:=by rw[aX];exact JS _ _ _
  refine ix _ J (cO hz) J<|cl J (WK (f:=g) (m:=f.l) hg hfl.ok) J<|ap (hbd:=m5) (((l.take (k+1)).flatMap fun g=>fH g f.l 1).map gn) J (by rw[NZ hz,bX]) (zJ _) J<|ap (hbd:=m5) (((l.take (k+1)).flatMap fun g=>fH g f.l (-1)).map gn) J (by rw[NZ hz,bX]) (zJ _) J<|fI 46 10 J<|fI 49 11 J<|at_ (k+1) ⟨m5,m5⟩
 .
  obtain rfl:k=l.length:=by omega
  rw[dX];refine oA 10 rfl<|oA 11 rfl<|gx rfl<|sB J J<|ap (c.map eL) J J (eE c) rfl<|rf J J<|mz ((c++[f.l]).map eL) rfl omD (eE [f.l]) rfl<|cl rfl (ih (c:=c++[f.l]) (by subst hl;exact tE.split hfew hfo) (fun g hg=>by obtain⟨q,hq,hg⟩:=gJ.1 hg;exact(Cw (hfo q hq) hfl.lb g hg).1) (by have:=Eg l f.l 1;rw[iZ] at hlen;exact dZ (bS _ this) (by rw[cW 3,cM];rw[cW (3^n)] at hlen;exact hlen)) (yi hc hfl.lb) (n8 hok hfl.ok) (by rw[aU,iJ];omega)) rfl<|sB J J<|ap (c.map eL) J J (eE c) rfl<|cl rfl (BV (l:=f.l)) rfl<|rf J J<|mz ((c++[f.l.rev]).map eL) rfl omD (eE [f.l.rev]) rfl<|cl (fu:=⟨1⟩) rfl (ih (c:=c++[f.l.rev]) (by subst hl;exact tE.split hfew hfo) (fun g hg=>by obtain⟨q,hq,hg⟩:=gJ.1 hg;exact(Cw (hfo q hq) hfl.lb g hg).1) (by have:=Eg l f.l (-1);rw[iZ] at hlen;exact dZ (bS _ this) (by rw[cW 3,cM];rw[cW (3^n)] at hlen;exact hlen)) (yi hc hfl.lb.rev) (n8 hok hfl.ok.rev) (by rw[aU,iJ];omega)) rfl<|P9 J J<|rz rfl (by subst hl;rfl)
def M3{rs:List (List aa)}{fill:Int}(hrs: ∀r∈rs,ij r)(hrn:rs.length<=100): ∀{n:Nat} {l:List bt} {c:List ah},tE n l->(∀f∈l,lu f)->l.length*3^n<=6973568802->(∀m∈c,LB m)->(∀m∈c,m.ok)->c.length+n<=900->PF GB prog 119 [yo rs fill, .sl (l.map gn), .sl (c.map eL)] (eT (jg (oF rs fill) n l c))
 |n,[],c,_,_,_,hc,hok,hn=>VN hrs hrn hc hok m5
 |0,f::t,c,hf,_,_,_,_,_=>by
  obtain⟨K,h1,h2⟩:=hf;obtain⟨m,hm,_⟩:=h2 f aQ;rw[cJ (l:=K) m5] at hm
  cases hm
 |n+1,f::t,c,hf,ho,hl,hc,hok,hn=>Wv hrs hrn hf ho hl hc hok hn (fun a1 a2 a3 a4 a5 a6=>M3 hrs hrn a1 a2 a3 a4 a5 a6)
def aK6(hrs: ∀r∈rs,ij r)(hrn:rs.length<=3):PF GB prog 49 [yo rs fill] (eT (gq rs fill)):=by
 have hm:=fy lf rs;have hE:=wD hrs;have hraw:=AC (acc:=oF rs fill) hE.2 J;refine fn (fu:=⟨17⟩) func49 J J ntmps49 J J (fun C=>?_);refine aj 8 (.d (vI (rs.length:Nat))) J oml<|gx J<|nr 3 3 207 14 J J J<|lp (X:=Nat) (fun k=>[(9, .d (vI (k:Nat))),(3, .rw 3)]) (fun k=>[(3,some (.b 207 14 ((jb (rs.take k)).map gn) true))]) (fun k=>k<=rs.length) (fun k=>rs.length-k) 0 J (bK _) (fun _=>J) (fun k hk=>?_);have het:((jb (rs.take k)).map gn).length<=6*k:=by rw[aX];exact SF hrs k
 refine br J J J (fun hc10=>?_) (fun hc10=>?_)
 .
  obtain⟨r,hz⟩: ∃s,rs[k]? =some s:=⟨_,aZ m5⟩;have hr:=hrs r (aW hz);have hel:((j' r).map gn).length<=6:=by rw[aX];have:=(Kz hr).1;have:=hr.n6;omega
  refine ix _ J (cO hz) J<|cl J (RH (r:=r) hr) J<|ap (hbd:=m5) ((jb (rs.take (k+1))).map gn) J (by rw[Tw hz,bX]) (zJ _) J<|fI 16 3 J<|at_ (k+1) ⟨m5,m5⟩
 .
  obtain rfl:k=rs.length:=by omega
  rw[dX];refine fz 3 J J<|cl J (M3 (n:=(jb rs).length) (l:=jb rs) (c:=[]) hrs m5 (Yk _) hE.2 (aG8 (by have:=hE.1;omega)) (fun m h=>by cases h) (fun m h=>by cases h) (by have:=hE.1;rw[eK];omega)) J<|cl J (ayF (t:=n4 rs fill) hraw.gd.lb hraw.gd.ok (by have:=hraw.dp;have:=hE.1;show(jg _ _ _ _).depth<=900;omega)) J<|rz J J
def VT(v w:ZP):mn v.q w.q=uu v.1 v.2 w.1 w.2:=by
 unfold mn uu ZP.q iP;rw[<-Ky];dsimp only;unfold xq pC qe;have e1:((-(w.2-v.2):Int):Rat)=(v.2:Rat)-(w.2:Rat):=by push_cast;grind
 have e2:((w.1-v.1:Int):Rat)=(w.1:Rat)-(v.1:Rat):=by push_cast;rfl
 have e3:((-(-(w.2-v.2)*v.1+(w.1-v.1)*v.2):Int):Rat)= -(((v.2:Rat)-(w.2:Rat))*(v.1:Rat)+((w.1:Rat)-(v.1:Rat))*(v.2:Rat)):=by push_cast;grind
 rw[e1,e2,e3]
def aIq(v w:ZP):jp v.q w.q=Dr v w:=by unfold jp Dr;rw[VT]
def DJ(r:List ZP)(k:Nat):(r.map ZP.q).getD k PZ=(r.getD k (0,0)).q:=by
 rw[aK,aK,cZ]
 cases r[k]? with
 |some p=>rfl
 |none=>show PZ=ZP.q (0,0);unfold ZP.q iP;simp
def FY(r:List ZP)(k:Nat):gP (r.map ZP.q) k=(ks r k).q:=by unfold gP ks;rw[DJ,aX]
def LT(r:List ZP): ∀k,p7 (r.map ZP.q) k=vk r k
 |0=>rfl
 |k+1=>by rw[p7,vk,LT r k,DJ,FY,aIq]
def P'(r:List ZP)(p:aa): ∀k,i7 (r.map ZP.q) p k=Ez r p k
 |0=>rfl
 |k+1=>by rw[i7,Ez,P' r p k,DJ,FY]
def NG(r:List ZP)(fill:Int):gq [r.map ZP.q] fill=iA [r] fill:=by
 have e1:jb [r.map ZP.q]=uh [r]:=by
  unfold jb uh;rw[kK,kK];unfold j' Ag;rw[aX,LT];rfl
 have e2:oF [r.map ZP.q] fill=vT [r] fill:=by
  funext p;unfold oF vT;rw[jN,jN];unfold fA Tv;rw[aX,P'];rfl
 unfold gq iA n4 vw;rw[e1,e2]
def Pi{r:List ZP}(h:iG r):ij (r.map ZP.q):=by
 refine⟨by rw[aX];exact h.n3,by rw[aX];exact h.n6,fun q hq=>?_,fun i hi=>?_⟩
 .obtain⟨z,hz,rfl⟩:=aT.1 hq
  have:=h.le z hz;have e7:(2:Nat)^7=128:=by decide
  exact⟨⟨by show((z.1:Int):Rat).num.natAbs<_;rw[lL,e7];have:=this.1;omega,by show((z.1:Int):Rat).den<_;rw[lM,e7];decide⟩,⟨by show((z.2:Int):Rat).num.natAbs<_;rw[lL,e7];have:=this.2;omega,by show((z.2:Int):Rat).den<_;rw[lM,e7];decide⟩⟩
 .rw[aX] at hi
  have hne:=h.ne i hi;rw[DJ,FY];rintro ⟨e1,e2⟩;exact hne (Prod.ext (nW.1 e1) (nW.1 e2))
def AT(h:ij r): ∀q∈[r],ij q:=fun q hq=>by rw[aY.1 hq];exact h
def U1(h:ij r):PF GB prog 30 [lf r] (eT (gq [r] 2)):=by
 refine fn func30 J J ntmps30 J J (fun C=>?_);refine rf (fu:=⟨0⟩) J J<|aj 4 (.d (.sl ([r].map lf))) J J<|gx J<|cl J (aIf (rs:=[r]) (AT h) vb) J<|cl J (Xw (rs:=[r]) (fill:=2) (AT h) vb) J<|cl J (aK6 (rs:=[r]) (fill:=2) (AT h) vb) J<|rz J J
def aIc(r:List ZP):lf (r.map ZP.q)=uY r:=by unfold lf uY;rw[sL];rfl
def I8{r:List ZP}(h:iG r):PF GB prog 30 [uY r] (eT (iA [r] 2)):=by
 have:=U1 (GB:=GB) (Pi h);rwa [aIc,NG] at this
def N'{r:List ZP}(h:iG r): ∀q∈[r],iG q:=fun q hq=>by rw[aY.1 hq];exact h
def Ps{r:List ZP}(h:iG r):PF GB prog 11 [uY r] (yr r):=by
 have hn:=h.n6;have:=Qe (GB:=GB) (ps:=r.map ZP.q) (fun p hp=>aC.mono (Jo h p hp)) okT;rw[aIe] at this;exact this
def Hc{a b:Int}(h1:a.natAbs<=50:=by decide)(h2:b.natAbs<=50:=by decide):PF GB prog 81 [.v (.int .i64 a), .v (.int .i64 b)] (uY (fD a a b b)):=by
 refine fn func81 J J ntmps81 J J (fun C=>?_);refine cl J (oB (m:=a) (n:=a)) J<|cl J (oB (m:=b) (n:=a)) J<|cl J (oB (m:=b) (n:=b)) J<|cl J (oB (m:=a) (n:=b)) J<|rf J J<|rz J J
def BS:iG (fD 0 0 1 1):=I3
def Im:iG (fD 0 0 2 2):=I3
def CD:si ((fD 0 0 1 1).map ZP.q)/\mP ((fD 0 0 1 1).map ZP.q)=true:=Pe (a:=0) (b:=0) (c:=1) (d:=1)
def DU:yu (iA [fD 0 0 1 1] 2):=by
 have h1: ∀p∈fD 0 0 1 1,p.1.natAbs<=3/\p.2.natAbs<=3:=fun p hp=>by
  simp only[fD,aV,fJ,or_false] at hp;rcases hp with rfl|rfl|rfl|rfl<;>exact⟨pb,pb⟩
 have:=SI BS pb;exact UH BS h1 (by rw[show(fD 0 0 1 1).length=4 from J];omega)
def aJ4:pF (rB ((fD 0 0 1 1).map ZP.q) (iA [fD 0 0 1 1] 2)) (iA [fD 0 0 2 2] 2):=by
 have h1:=(EH CD.1 DU).1;have h2:=JV (fill:=2) (N' Im) vb;exact⟨h1.gd,h2.gd,h1.s,(h2.x (En _ _) pb).s⟩
def aIt:ve (rB ((fD 0 0 1 1).map ZP.q) (iA [fD 0 0 1 1] 2)) (iA [fD 0 0 2 2] 2)=true:=by
 rw[show rB ((fD 0 0 1 1).map ZP.q) (iA [fD 0 0 1 1] 2)=iA [fD 0 0 2 2] 2 from aG9];have h2:=(JV (fill:=2) (N' Im) vb).gd.ok;exact aHQ h2 h2 (L:=(iA [fD 0 0 2 2] 2).lns) (jB h2) (fun l hl=>hl) (fun l hl=>hl) fun p _=>J
def avV(hE:EG GB ai al ae):PF GB prog 29 [] (.v (.bool true)):=by
 have hx:=(EH CD.1 DU).1;refine fn func29 J J ntmps29 J J (fun C=>?_);refine cl J (Hc (a:=0) (b:=1)) J<|cl J (I8 BS) J<|cl J (LC DU.x) J<|cl J (Hc (a:=0) (b:=1)) J<|cl J (Ps BS) J<|cl J (Q9 hE (Lr BS pb pb) CD.2 CD.1 DU) J<|cl (fu:=⟨10⟩) J (aHt hx) J<|d7 (fu:=⟨2⟩) J J J<|mo 22 J<|gx J<|cl J (Hc (a:=0) (b:=2)) J<|cl J (I8 Im) J<|cl (fu:=⟨0⟩) J (aBT aJ4) J<|aj 28 (.d (.v (.bool true))) J (by rw[aIt]<;>rfl)<|gx J<|rz J J
def Vp(hes:es.length<=400){r:List ZP}(ha:a<=es.length)(hr:r=(dE es a).1)(ha':a'=(dE es a).2):PM GB prog 25 (nk [none] b) b 85 [.sl (es.map vI), .v (.int .i64 (a:Nat))] (uY r) [.sl (es.map vI), .v (.int .i64 (a':Nat))]:=by
 subst hr;subst ha';exact ay6 hes ha
def Ly:(∃x y z:ZP,(dE es a).1=[x,y,z]/\0<aB x.q y.q z.q)\/(∃b c d e:Int,(dE es a).1=fD b c d e/\b<d/\c<e):=by
 unfold dE;dsimp only;split
 .unfold xz
  dsimp only;exact .inr ⟨_,_,_,_,J,m5,m5⟩
 .generalize (au es 2 a).2=k at*
  generalize au es 3 k=x at*;generalize au es 3 x.2=y at*;generalize au es 2 y.2=u1 at*;generalize au es 3 u1.2=u2 at*;generalize au es 3 u2.2=v1 at*;generalize au es 2 v1.2=v2 at*;split
  .rename_i hcr
   exact .inl ⟨_,_,_,J,by rw[Pr];exact_mod_cast hcr⟩
  .exact .inl ⟨_,_,_,J,by decide+kernel⟩
def Ff(p a b q:aa):aB (p.subQ a) (p.subQ b) q=aB a b (p.subQ q):=by unfold aB aa.subQ;dsimp only;grind
def auH(a b c q:aa):fA [a,b,c] q=ld a b q+ld b c q+ld c a q:=by
 unfold fA;simp[i7,gP,wg]
def JH(a b c d q:aa):fA [a,b,c,d] q=ld a b q+ld b c q+ld c d q+ld d a q:=by
 unfold fA;simp[i7,gP,wg]
def S4{a b c:aa}(hD:0<aB a b c):(0<aB a b q->0<aB b c q->0<aB c a q->fA [a,b,c] q=1)/\(aB a b q<0\/aB b c q<0\/aB c a q<0->fA [a,b,c] q=0):=by
 have hz: ¬(a.y-q.y=0/\b.y-q.y=0/\c.y-q.y=0):=fun k=>by
  unfold aB at hD;have h1:b.y-a.y=0:=by grind
  have h2:c.y-a.y=0:=by grind
  rw[h1,h2] at hD;grind
 obtain⟨b1,b2,_⟩:=YB a b c q;have h:=Ym b2 (by rw[b1];exact hD) hz;rw[auH,KM,KM,KM];exact⟨fun h1 h2 h3=>h.1 h2 h3 h1,fun k=>h.2 va⟩
def qz{k:Rat}(hk:0<k):(0<s*k↔0<s)/\(s*k<0↔s<0):=by
 refine⟨⟨(fB hk).1,fun h=>bE h hk⟩,⟨fun h=>?_,fun h=>?_⟩⟩
 .have:=(fB (s:= -s) hk).1 va;grind
 .have:=bE (show 0< -s by grind) hk;grind
def LX(hac:A<X)(hbd:B<Y)(p:aa):fA [⟨X,Y⟩,⟨A,Y⟩,⟨A,B⟩,⟨X,B⟩] p=(if B<=p.y/\p.y<Y/\p.x<X then 1 else 0)-(if B<=p.y/\p.y<Y/\p.x<A then 1 else 0):=by
 have w0:0<X-A:=by grind
 have v0:0<Y-B:=by grind
 have o1:aB ⟨A,B⟩ ⟨X,B⟩ p=(p.y-B)*(X-A):=by unfold aB;dsimp only;grind
 have o2:aB ⟨X,B⟩ ⟨X,Y⟩ p=(X-p.x)*(Y-B):=by unfold aB;dsimp only;grind
 have o3:aB ⟨X,Y⟩ ⟨A,Y⟩ p=(Y-p.y)*(X-A):=by unfold aB;dsimp only;grind
 have o4:aB ⟨A,Y⟩ ⟨A,B⟩ p=(p.x-A)*(Y-B):=by unfold aB;dsimp only;grind
 rw[JH];unfold ld;simp only[o1,o2,o3,o4,(qz w0).1,(qz v0).1,(qz w0).2,(qz v0).2];rw[if_neg (c:=Y<=p.y/\ ¬Y<=p.y/\_) (fun q=>q.2.1 q.1),if_neg (c:= ¬Y<=p.y/\Y<=p.y/\_) (fun q=>q.1 q.2.1),if_neg (c:=Y<=p.y/\ ¬B<=p.y/\_) (fun q=>by grind),if_neg (c:=B<=p.y/\ ¬B<=p.y/\_) (fun q=>q.2.1 q.1),if_neg (c:= ¬B<=p.y/\B<=p.y/\_) (fun q=>q.1 q.2.1),if_neg (c:= ¬B<=p.y/\Y<=p.y/\_) (fun q=>by grind)];have e1:(B<=p.y/\ ¬Y<=p.y/\0<X-p.x)↔(B<=p.y/\p.y<Y/\p.x<X):=by grind
 have e2:(¬Y<=p.y/\B<=p.y/\p.x-A<0)↔(B<=p.y/\p.y<Y/\p.x<A):=by grind
 simp only[e1,e2];omega
def jF(p:aa)(V:List aa):List aa:=V.map fun v=>p.subQ v
def aG3(p q:aa):((∀f∈co ((dE es a).1.map ZP.q),0<aB f.1 f.2 (p.subQ q))->fA (jF p ((dE es a).1.map ZP.q)) q=1)/\((∃f∈co ((dE es a).1.map ZP.q),aB f.1 f.2 (p.subQ q)<0)->fA (jF p ((dE es a).1.map ZP.q)) q=0):=by
 rcases Ly (es:=es) (a:=a) with⟨x,y,z,e,hD⟩|⟨b,c,d,e,he,h1,h2⟩
 .rw[e]
  show((∀f∈co [x.q,y.q,z.q],_)->fA [p.subQ x.q,p.subQ y.q,p.subQ z.q] q=1)/\((∃f∈co [x.q,y.q,z.q],_)->fA [p.subQ x.q,p.subQ y.q,p.subQ z.q] q=0);rw[Ga,TN,OL];have h:=S4 (a:=p.subQ x.q) (b:=p.subQ y.q) (c:=p.subQ z.q) (q:=q) (by
   rw[Ff];have e:p.subQ (p.subQ z.q)=z.q:=by unfold aa.subQ;cases z.q;simp only[aa.mk.injEq];constructor<;>grind
   rw[e];exact hD)
  rw[Ff,Ff,Ff] at h;exact⟨fun k=>h.1 k.1 k.2.1 k.2.2,h.2⟩
 .rw[he]
  have q1:(b:Rat)<d:=by exact_mod_cast h1
  have q2:(c:Rat)<e:=by exact_mod_cast h2
  show((∀f∈co [⟨(b:Rat),(c:Rat)⟩,⟨(d:Rat),(c:Rat)⟩,⟨(d:Rat),(e:Rat)⟩,⟨(b:Rat),(e:Rat)⟩],_)->fA [⟨p.x-b,p.y-c⟩,⟨p.x-d,p.y-c⟩,⟨p.x-d,p.y-e⟩,⟨p.x-b,p.y-e⟩] q=1)/\((∃f∈co [⟨(b:Rat),(c:Rat)⟩,⟨(d:Rat),(c:Rat)⟩,⟨(d:Rat),(e:Rat)⟩,⟨(b:Rat),(e:Rat)⟩],_)->fA [⟨p.x-b,p.y-c⟩,⟨p.x-d,p.y-c⟩,⟨p.x-d,p.y-e⟩,⟨p.x-b,p.y-e⟩] q=0);rw[Gs,U4,RX,LX (A:=p.x-d) (X:=p.x-b) (B:=p.y-e) (Y:=p.y-c) va va];generalize (b:Rat)=A at*;generalize (c:Rat)=B at*;generalize (d:Rat)=X at*;generalize (e:Rat)=Y at*;have w0:0<X-A:=by grind
  have v0:0<Y-B:=by grind
  have o1:aB ⟨A,B⟩ ⟨X,B⟩ (p.subQ q)=(p.y-q.y-B)*(X-A):=by unfold aB aa.subQ;dsimp only;grind
  have o2:aB ⟨X,B⟩ ⟨X,Y⟩ (p.subQ q)=(X-(p.x-q.x))*(Y-B):=by unfold aB aa.subQ;dsimp only;grind
  have o3:aB ⟨X,Y⟩ ⟨A,Y⟩ (p.subQ q)=(Y-(p.y-q.y))*(X-A):=by unfold aB aa.subQ;dsimp only;grind
  have o4:aB ⟨A,Y⟩ ⟨A,B⟩ (p.subQ q)=(p.x-q.x-A)*(Y-B):=by unfold aB aa.subQ;dsimp only;grind
  simp only[o1,o2,o3,o4,(qz w0).1,(qz v0).1,(qz w0).2,(qz v0).2];constructor
  .rintro ⟨k1,k2,k3,k4⟩
   rw[if_pos ⟨va,va,va⟩,if_neg (fun k=>by grind)];rfl
  .intro k
   by_cases k1:p.y-Y<=q.y/\q.y<p.y-B/\q.x<p.x-X
   .rw[if_pos ⟨k1.1,k1.2.1,va⟩,if_pos k1];rfl
   .rw[if_neg (fun q=>by grind),if_neg k1];rfl
def XL(q:aa):((∀f∈co ((dE es a).1.map ZP.q),0<aB f.1 f.2 q)->fA ((dE es a).1.map ZP.q) q=1)/\((∃f∈co ((dE es a).1.map ZP.q),aB f.1 f.2 q<0)->fA ((dE es a).1.map ZP.q) q=0):=by
 rcases Ly (es:=es) (a:=a) with⟨x,y,z,e,hD⟩|⟨b,c,d,e,he,h1,h2⟩
 .rw[e]
  show((∀f∈co [x.q,y.q,z.q],_)->fA [x.q,y.q,z.q] q=1)/\((∃f∈co [x.q,y.q,z.q],_)->fA [x.q,y.q,z.q] q=0);rw[Ga,TN,OL];have h:=S4 (q:=q) hD;exact⟨fun k=>h.1 k.1 k.2.1 k.2.2,h.2⟩
 .rw[he]
  have q1:(b:Rat)<d:=by exact_mod_cast h1
  have q2:(c:Rat)<e:=by exact_mod_cast h2
  show((∀f∈co [⟨(b:Rat),(c:Rat)⟩,⟨(d:Rat),(c:Rat)⟩,⟨(d:Rat),(e:Rat)⟩,⟨(b:Rat),(e:Rat)⟩],_)->fA [⟨(b:Rat),(c:Rat)⟩,⟨(d:Rat),(c:Rat)⟩,⟨(d:Rat),(e:Rat)⟩,⟨(b:Rat),(e:Rat)⟩] q=1)/\((∃f∈co [⟨(b:Rat),(c:Rat)⟩,⟨(d:Rat),(c:Rat)⟩,⟨(d:Rat),(e:Rat)⟩,⟨(b:Rat),(e:Rat)⟩],_)->fA [⟨(b:Rat),(c:Rat)⟩,⟨(d:Rat),(c:Rat)⟩,⟨(d:Rat),(e:Rat)⟩,⟨(b:Rat),(e:Rat)⟩] q=0);have hb:=LX q1 q2 q;rw[JH] at hb;rw[Gs,U4,RX,JH];generalize (b:Rat)=A at*;generalize (c:Rat)=B at*;generalize (d:Rat)=X at*;generalize (e:Rat)=Y at*;have w0:0<X-A:=by grind
  have v0:0<Y-B:=by grind
  have o1:aB ⟨A,B⟩ ⟨X,B⟩ q=(q.y-B)*(X-A):=by unfold aB;dsimp only;grind
  have o2:aB ⟨X,B⟩ ⟨X,Y⟩ q=(X-q.x)*(Y-B):=by unfold aB;dsimp only;grind
  have o3:aB ⟨X,Y⟩ ⟨A,Y⟩ q=(Y-q.y)*(X-A):=by unfold aB;dsimp only;grind
  have o4:aB ⟨A,Y⟩ ⟨A,B⟩ q=(q.x-A)*(Y-B):=by unfold aB;dsimp only;grind
  simp only[o1,o2,o3,o4,(qz w0).1,(qz v0).1,(qz w0).2,(qz v0).2];constructor
  .rintro ⟨k1,k2,k3,k4⟩
   rw[if_pos ⟨va,va,va⟩,if_neg (fun k=>by grind)] at hb;omega
  .intro k
   by_cases k1:B<=q.y/\q.y<Y/\q.x<A
   .rw[if_pos ⟨k1.1,k1.2.1,va⟩,if_pos k1] at hb
    omega
   .rw[if_neg (fun q=>by grind),if_neg k1] at hb
    omega
def Jz{f:aa×aa}(h: ¬((bu f).x=0/\(bu f).y=0))(p:aa): ∃g:Rat,0<g/\ ∀q,(kO f p).value q=g*aB f.1 f.2 (p.subQ q):=by
 obtain⟨g,g0,hg⟩:=wY (a:= -(bu f).x) (b:= -(bu f).y) (c:=(bu f).dot p-(bu f).dot f.1) (fun⟨h1,h2⟩=>h ⟨va,va⟩);refine⟨g,g0,fun q=>?_⟩;unfold kO;rw[hg,AS,zt];unfold aa.dot;grind
def Yw{f:aa×aa}(h: ¬((bu f).x=0/\(bu f).y=0))(p:aa):(kO f p).ok:=xN (fun⟨h1,h2⟩=>h ⟨va,va⟩)
def qC(f:aa×aa)(q:aa):ah:=ew (bu f).x (bu f).y (-((bu f).dot q)-(bu f).dot f.1)
def AH{f:aa×aa}(h: ¬((bu f).x=0/\(bu f).y=0))(q:aa): ∃g:Rat,0<g/\ ∀x,(qC f q).value x=g*aB f.1 f.2 (x.subQ q):=by
 obtain⟨g,g0,hg⟩:=wY (c:= -((bu f).dot q)-(bu f).dot f.1) h;refine⟨g,g0,fun x=>?_⟩;unfold qC;rw[hg,AS,zt];unfold aa.dot;grind
def Gd(x:aa):x.subQ PZ=x:=by unfold aa.subQ;cases x;simp only[aa.mk.injEq];constructor<;>grind
def M9(h:g*x≠0):x≠0:=fun e=>h okD
def PU(hr:ij R){P:List (aa×aa)}{x:aa}(hn:((∀f∈P,0<aB f.1 f.2 y)->fA R x=1)/\((∃f∈P,aB f.1 f.2 y<0)->fA R x=0))(ho:cB (n4 [R] 2).lns x)(hz: ∀f∈P,aB f.1 f.2 y≠0):(gq [R] 2).val x=true↔ ∀f∈P,0<aB f.1 f.2 y:=by
 rw[aB5 hr ho];by_cases k: ∃f∈P,aB f.1 f.2 y<0
 .rw[hn.2 k]
  obtain⟨g,hg,h⟩:=k;exact⟨fun e=>absurd e pb,fun e=>(by have:=e g hg;grind)⟩
 .have hp: ∀f∈P,0<aB f.1 f.2 y:=fun g hg=>by
   have h1:=hz g hg;have h2: ¬aB g.1 g.2 y<0:=fun e=>k ⟨g,hg,e⟩;grind
  rw[hn.1 hp];exact⟨fun _=>hp,fun _=>by decide⟩
def Ki(hr:ij R):(n4 [R] 2).all ah.ok:=wP fun f hf=>((wD (rs:=[R]) fun q hq=>by rw[aY.1 hq];exact hr).2 f hf).ok
def AB(p q:aa):aa:=⟨(p.x+q.x)/2,(p.y+q.y)/2⟩
def ZI(a b p q:aa):aB a b (AB p q)=(aB a b p+aB a b q)/2:=by unfold aB AB;dsimp only;grind
def Uw(ht:t.all ah.ok)(h:rk t p=2)(h1:Gn t.lns p w)(h2:Gn M p w): ∃e:Rat,0<e/\ ∀d,0<d->d<=e->cB M (cd p w d)/\t.val (cd p w d)=true:=by
 obtain⟨e1,a1,b1⟩:=BX h1;obtain⟨e2,a2,b2⟩:=BX (t:=lC M) (by rw[E9];exact h2);rw[E9] at b2;obtain⟨e,e0,k1,k2⟩:=min2 a1 a2;refine⟨e,e0,fun d d0 d1=>⟨(b2 d d0 va).1,?_⟩⟩;have h3:=(b1 d d0 va).2;have h4:=Ta h1;rw[h3] at h4;rw[Mm ht] at h
 cases hv:t.val (cd p w d) with
 |true=>rfl
 |false=>rw[hv] at h4;exact absurd h4 h
def aIC{E:List (aa×aa)}(hB:iz V E)(hr:ij R)(hC:iz R (co R))(hn: ∀x,((∀f∈co R,0<aB f.1 f.2 x)->fA R x=1)/\((∃f∈co R,aB f.1 f.2 x<0)->fA R x=0))(hL: ∀l∈L,l.ok)(hl1: ∀l∈(n4 [R] 2).lns,l∈L)(hl2: ∀g∈co R,qC g PZ∈L):
  rk (jI V E (gq [R] 2)) p=2↔ ∃x,cB L x/\(gq [R] 2).val x=true/\ ∀f∈E,0<aB f.1 f.2 (p.subQ x):=by
 have hA:(gq [R] 2).all ah.ok:=Tr.restrict_all ah.ok _ _ (Ki hr);have hAl: ∀l∈(gq [R] 2).lns,l∈L:=fun l hl=>hl1 l (mH.1 (Tr.restrict_all (fun l=>l∈(n4 [R] 2).lns) (n4 [R] 2) [] (mH.2 fun l hl=>hl)) l hl);obtain⟨s1,s2,_⟩:=QM hB hA;have hM:=aFu hB hA;obtain⟨u,hu⟩:=hB.cen;have hnz: ∀f∈E,¬((bu f).x=0/\(bu f).y=0):=fun f hf=>yE (hu f hf);obtain⟨c0,hc0⟩:=hC.cen;have hnr: ∀g∈co R,¬((bu g).x=0/\(bu g).y=0):=fun g hg=>yE (hc0 g hg);have hz: ∀x,cB L x-> ∀g∈co R,aB g.1 g.2 x≠0:=fun x hx g hg=>by
  obtain⟨k,_,hk⟩:=AH (hnr g hg) PZ;have:=hx _ (hl2 g hg);rw[hk,Gd] at this;exact M9 this
 have hv: ∀x,cB L x->((gq [R] 2).val x=true↔ ∀g∈co R,0<aB g.1 g.2 x):=fun x hx=>PU hr (hn x) (hx.sub hl1) (hz x hx);constructor
 .intro h
  have hd:=(aAM s1).1 (show rk (jI V E (gq [R] 2)) p≠0 by rw[h];decide);obtain⟨w,k1,_⟩:=U2 hd (M:=(jI V E (gq [R] 2)).lns++x6 V E (gq [R] 2)) fun l hl=>(aL.1 hl).elim (jB s1 l) (hM l);have gw:Gn (jI V E (gq [R] 2)).lns p w:=fun l hl=>k1 l (bJ _ hl);have gm:Gn (x6 V E (gq [R] 2)) p w:=fun l hl=>k1 l (aM _ hl);have neg: ∀{K:List ah},Gn K p w->Gn K p (bD w):=fun{K} hK l hl h0 e=>hK l hl h0 (by unfold bD aa.dot at e;unfold aa.dot;dsimp only at e;grind);obtain⟨e1,a1,b1⟩:=Uw s1 h gw gm;obtain⟨e2,a2,b2⟩:=Uw s1 h (neg gw) (neg gm);obtain⟨d,d0,d1,d2⟩:=min2 a1 a2;obtain⟨o1,v1⟩:=b1 d d0 d1;obtain⟨o2,v2⟩:=b2 d d0 d2;obtain⟨q1,_,m1,i1,j1⟩:=(J6 hB hA hL o1).1 v1;obtain⟨q2,_,m2,i2,j2⟩:=(J6 hB hA hL o2).1 v2;have f1:=(hv q1 m1).1 i1;have f2:=(hv q2 m2).1 i2;have hin:bw ((co R).map (fun g=>(⟨qC g PZ,ao.all⟩:bt))++E.map (fun f=>(⟨kO f p,ao.all⟩:bt))) (AB q1 q2):=fun s hs=>by
   rcases aL.1 hs with hs|hs
   .obtain⟨g,hg,rfl⟩:=aT.1 hs
    obtain⟨k,k0,hk⟩:=AH (hnr g hg) PZ;dsimp only;rw[hk,Gd,ZI];have x1:=f1 g hg;have x2:=f2 g hg;exact bE k0 va
   .obtain⟨f,hf,rfl⟩:=aT.1 hs
    obtain⟨k,k0,hk⟩:=Jz (hnz f hf) p;dsimp only;rw[hk];have x1:=j1 f hf;have x2:=j2 f hf;have e:aB f.1 f.2 (p.subQ (AB q1 q2))=(aB f.1 f.2 ((cd p w d).subQ q1)+aB f.1 f.2 ((cd p (bD w) d).subQ q2))/2:=by unfold aB aa.subQ AB cd bD;dsimp only;grind
    rw[e];exact bE k0 va
  obtain⟨x,hx,ho⟩:=Aa hin L hL;refine⟨x,ho,(hv x ho).2 fun g hg=>?_,fun f hf=>?_⟩
  .obtain⟨k,k0,hk⟩:=AH (hnr g hg) PZ
   have:=hx ⟨qC g PZ,ao.all⟩ (bJ _ (dQ (f:=fun g=>(⟨qC g PZ,ao.all⟩:bt)) hg));dsimp only at this;rw[hk,Gd] at this;exact(ot k0).1 this
  .obtain⟨k,k0,hk⟩:=Jz (hnz f hf) p
   have:=hx ⟨kO f p,ao.all⟩ (aM _ (dQ (f:=fun f=>(⟨kO f p,ao.all⟩:bt)) hf));dsimp only at this;rw[hk] at this;exact(ot k0).1 this
 .rintro ⟨x,ho,hx,hf⟩
  rw[Mm s1];intro hd;have hin:bw (E.map fun f=>(⟨qC f x,ao.all⟩:bt)) p:=fun s hs=>by
   obtain⟨f,hfe,rfl⟩:=aT.1 hs;obtain⟨k,k0,hk⟩:=AH (hnz f hfe) x;dsimp only;rw[hk];exact bE k0 (hf f hfe)
  obtain⟨y,hy,_,oy,vy⟩:=aGv s1 hd hM hin;have:(jI V E (gq [R] 2)).val y=true:=(J6 hB hA (M:=[]) (fun l hl=>by cases hl) oy).2 ⟨x,ho.sub hAl,(fun l hl=>by cases hl),hx,fun f hfe=>by
   obtain⟨k,k0,hk⟩:=AH (hnz f hfe) x;have:=hy ⟨qC f x,ao.all⟩ (dQ (f:=fun f=>(⟨qC f x,ao.all⟩:bt)) hfe);dsimp only at this;rw[hk] at this;exact(ot k0).1 this⟩
  rw[this] at vy;cases vy
def aF0(ha:a<=es.length)(hb:b<=es.length)(hra:ij ((dE es a).1.map ZP.q))(hr:ij (jF p ((dE es b).1.map ZP.q))):
  decide (rk (jI ((dE es b).1.map ZP.q) (co ((dE es b).1.map ZP.q)) (gq [(dE es a).1.map ZP.q] 2)) p=2)=tw (fun x y=>x&&y) (gq [(dE es a).1.map ZP.q] 2) (gq [jF p ((dE es b).1.map ZP.q)] 2):=by
 have hB:=(Jt hb).1.br;have hC:=(Jt ha).1.br;have hn:=XL (es:=es) (a:=a);have hm:=aG3 (es:=es) (a:=b) p;generalize (dE es b).1.map ZP.q=V at*;generalize (dE es a).1.map ZP.q=R at*;have o1:=Ki hra;have o2:=Ki hr;have hA:(gq [R] 2).all ah.ok:=Tr.restrict_all ah.ok _ _ o1;have hR:(gq [jF p V] 2).all ah.ok:=Tr.restrict_all ah.ok _ _ o2;obtain⟨u,hu⟩:=hB.cen;have hnz: ∀f∈co V,¬((bu f).x=0/\(bu f).y=0):=fun f hf=>yE (hu f hf);obtain⟨c0,hc0⟩:=hC.cen;have hnr: ∀g∈co R,¬((bu g).x=0/\(bu g).y=0):=fun g hg=>yE (hc0 g hg);obtain⟨L,hL⟩: ∃L,L=(n4 [R] 2).lns++((n4 [jF p V] 2).lns++((co R).map (fun g=>qC g PZ)++(co V).map (fun f=>kO f p))):=⟨_,rfl⟩;have l1: ∀l∈(n4 [R] 2).lns,l∈L:=fun l hl=>by rw[hL];exact bJ _ hl
 have l2: ∀l∈(n4 [jF p V] 2).lns,l∈L:=fun l hl=>by rw[hL];exact aM _ (bJ _ hl)
 have l3: ∀g∈co R,qC g PZ∈L:=fun g hg=>by rw[hL];exact aM _ (aM _ (bJ _ (dQ (f:=fun g=>qC g PZ) hg)))
 have l4: ∀f∈co V,kO f p∈L:=fun f hf=>by rw[hL];exact aM _ (aM _ (aM _ (dQ (f:=fun f=>kO f p) hf)))
 have hok: ∀l∈L,l.ok:=fun l hl=>by
  rw[hL] at hl;rcases aL.1 hl with hl|hl
  .exact jB o1 l hl
  .rcases aL.1 hl with hl|hl
   .exact jB o2 l hl
   .rcases aL.1 hl with hl|hl
    .obtain⟨g,hg,rfl⟩:=aT.1 hl
     exact xN (hnr g hg)
    .obtain⟨f,hf,rfl⟩:=aT.1 hl
     exact Yw (hnz f hf) p
 have sub: ∀{t:Tr},∀l∈(t.restrict []).lns,l∈t.lns:=fun{t}=>mH.1 (Tr.restrict_all (fun l=>l∈t.lns) t [] (mH.2 fun l hl=>hl));have hg:t7 L (gq [R] 2) (gq [jF p V] 2):=⟨hA,hR,hok,fun l hl=>l1 l (sub l hl),fun l hl=>l2 l (sub l hl)⟩;have hrv2: ∀x,cB L x->((gq [jF p V] 2).val x=true↔ ∀f∈co V,0<aB f.1 f.2 (p.subQ x)):=fun x hx=>PU hr (hm x) (hx.sub l2) fun f hf=>by
  obtain⟨k,_,hk⟩:=Jz (hnz f hf) p;have:=hx _ (l4 f hf);rw[hk] at this;exact M9 this
 have key:=aIC hB hra hC hn hok l1 l3 (p:=p);have hany:=Zt hA hR;rw[oT,decide_eq_true_iff,key];constructor
 .rintro ⟨x,ho,h1,h2⟩
  cases hh:tw (fun x y=>x&&y) (gq [R] 2) (gq [jF p V] 2) with
  |true=>rfl
  |false=>
   rw[hh] at hany;have:=(hg.none (op:=2)).1 hany.symm x ho;rw[h1,(hrv2 x ho).2 h2] at this
   cases this
 .intro h
  rw[h] at hany;apply Classical.byContradiction;intro hno;have:y8 2 (gq [R] 2) (gq [jF p V] 2)=true:=hg.none.2 fun x ho=>by
   cases h1:(gq [R] 2).val x with
   |false=>cases (gq [jF p V] 2).val x<;>rfl
   |true=>
    cases h2:(gq [jF p V] 2).val x with
    |false=>rfl
    |true=>exact absurd ⟨x,ho,h1,(hrv2 x ho).1 h2⟩ hno
  rw[this] at hany
  cases hany
theorem q7(hx:BQ x 5)(hm:m.natAbs<=3):BQ (x-(m:Rat)) 7:=by
 have h1:=hx.hn;have h2:=hx.hd;have e5:(2:Nat)^5=32:=by decide
 have e7:(2:Nat)^7=128:=by decide
 rw[e5] at h1 h2;have h3:(m*(x.den:Int)).natAbs<=3*x.den:=by rw[fL,fK];exact bS _ hm
 refine BQ.of_frac (n:=x.num-m*(x.den:Int)) (d:=x.den) x.den_pos ?_ (by rw[e7];omega) (by rw[e7];omega);have:=aFd x;push_cast;grind
def aKW(ha:a<=es.length)(hp:aC p 5):ij (jF p ((dE es a).1.map ZP.q)):=by
 have ho:=(zo ha).1;obtain⟨h3,_⟩:=N1 ha;generalize (dE es a).1=r at*;have hlen:(jF p (r.map ZP.q)).length=r.length:=by unfold jF;rw[aX,aX]
 have hget: ∀i<r.length,(jF p (r.map ZP.q)).getD i PZ=p.subQ (r.getD i (0,0)).q:=fun i hi=>by
  unfold jF;rw[aK,aK,cZ,cZ,aZ hi];rfl
 refine⟨by rw[hlen];exact ho.n3,by rw[hlen];exact ho.n6,fun q hq=>?_,fun i hi=>?_⟩
 .obtain⟨v,hv,rfl⟩:=aT.1 hq
  obtain⟨z,hz,rfl⟩:=aT.1 hv;exact⟨q7 hp.x (h3 z hz).1,q7 hp.y (h3 z hz).2⟩
 .rw[hlen] at hi
  have hne:=ho.ne i hi;unfold gP;rw[hlen,hget i hi,hget _ (dJ _ m5)];rintro ⟨e1,e2⟩;refine hne ?_;unfold aa.subQ ZP.q iP at e1 e2;dsimp only at e1 e2;have k1:((r.getD i (0,0)).1:Rat)=((r.getD ((i+1)%r.length) (0,0)).1:Rat):=by grind
  have k2:((r.getD i (0,0)).2:Rat)=((r.getD ((i+1)%r.length) (0,0)).2:Rat):=by grind
  exact Prod.ext (nW.1 k1) (nW.1 k2)
def aFO{a b:Tr}(hz:(jr a b)[k]? =some p)(h1:iE a p=true)(h2:iE b p=true):tw (fun x y=>x&&y) a b=true:=by
 rw[tw,iU];exact⟨p,aW hz,by rw[h1,h2];rfl⟩
def aH3{a b:Tr}(h: ∀j p,(jr a b)[j]? =some p->j<(jr a b).length->(iE a p&&iE b p)=false):tw (fun x y=>x&&y) a b=false:=by
 rw[tw,qV];intro p hp;obtain⟨j,hj,rfl⟩:=mR hp;have:=h j _ (aZ hj) hj;simpa using this
def azU(p v:aa):cd p v (-1)=p.subQ v:=by
 unfold cd aa.subQ;congr 1<;>grind
def WM(hes:es.length<=400)(ha:a<=es.length)(hp:p=(vd es a).1):PM GB prog 9 (nk [none] b) b 85 [.sl (es.map vI), .v (.int .i64 (a:Nat))] (eP p) [.sl (es.map vI), .v (.int .i64 ((vd es a).2:Nat))]:=by
 subst hp;exact aCv hes ha
def YH{r:List ZP}{z:ZP}(h:r[k]? =some z):(r.take k).map (fun z=>eP (p.subQ z.q))++[eP (p.subQ z.q)]=(r.take (k+1)).map (fun z=>eP (p.subQ z.q)):=by
 rw[dT,h,bX];rfl
def aFy(p:aa)(r:List ZP):DV.sl (r.map fun z=>eP (p.subQ z.q))=lf (jF p (r.map ZP.q)):=by
 unfold lf jF;rw[sL,sL];rfl
def Zw(p:aa)(l:List ZP):dm 6 (l.map fun z=>eP (p.subQ z.q)):=fun d hd=>by
 obtain⟨u,_,rfl⟩:=aT.1 hd;exact⟨rfl,rfl⟩
def aBI{a b:Tr}(h:pF a b):PF GB prog 33 [eT a,eT b] (vB (tw (fun x y=>x&&y) a b)):=by
 have hsa:=h.sa;have hsb:=h.sb;have hll:=h.len;have hfl:=h.fl;have hla:=s9 a;have hlb:=s9 b;refine fn func33 J J ntmps33 J J (fun C=>?_);refine cr J (zY (t:=a) m5) J<|cr J (zY (t:=b) m5) J<|ap (hbd:=by simp only[aX];omega) ((a.lns++b.lns).map eL) J (by rw[bX]) (eE _) J<|fz 15 J J<|cr J (Vh (ls:=a.lns++b.lns) h.lb m5) J<|fz 16 J J<|cl (fu:=⟨1⟩) J (U5 (l:=mr (a.lns++b.lns)) (Jf h.lb) (O8 h.ok) (dZ (Ij _) hll)) J<|aj 18 (.d (vI ((jr a b).length:Nat))) J (by rw[aX];rfl)<|gx J<|lp (X:=Nat) (fun k=>[(19, .d (vI (k:Nat)))]) (fun k=>[]) (fun k=>k<=(jr a b).length/\ ∀j q,(jr a b)[j]? =some q->j<k->(iE a q&&iE b q)=false) (fun k=>(jr a b).length-k) 0 J ⟨bK _,fun j q _ hj=>absurd hj m5⟩ (fun _=>J) (fun k hk=>?_);obtain⟨k1,k2⟩:=hk;refine br J J J (fun hc20=>?_) (fun hc20=>?_)
 .
  obtain⟨p,hz⟩: ∃s,(jr a b)[k]? =some s:=⟨_,aZ m5⟩;haveI hpb:=h.fb p (aW hz);refine ix _ J (cO (l:=jr a b) hz) J<|cl J (CT (t:=a) (p:=p) (i:=4900) h.ga.lb) J<|cl J (CT (t:=b) (p:=p) (i:=4900) h.gb.lb) J<|je 36 J J J (fun hg36=>?_) (fun hg36=>?_)
  .
   refine bb J J J (fun hc38=>?_) (fun hc38=>?_)
   .
    exact rz J (by rw[aFO hz (by simpa using hg36) (by simpa using hc38)];rfl)
   .
    exact at_ (k+1) ⟨⟨m5,fun j q hq hj=>by by_cases e:j=k;(subst e;rw[hz] at hq;cases hq;simp_all);exact k2 j q hq m5⟩,m5⟩
  .
   exact at_ (k+1) ⟨⟨m5,fun j q hq hj=>by by_cases e:j=k;(subst e;rw[hz] at hq;cases hq;simp_all);exact k2 j q hq m5⟩,m5⟩
 .
  exact rz J (by rw[aH3 fun j q hq hj=>k2 j q hq m5];rfl)
def aiU(hE:EG GB ai al ae)(hb:es0.length<=1125899906842624):PF GB prog 5 [.sl (es0.map vI)] (.v (.bool true)):=by
 obtain⟨es,hee⟩: ∃es,es=es0.take 400:=⟨_,rfl⟩;have hes:es.length<=400:=by rw[hee];simp;omega
 obtain⟨ra,hra⟩: ∃r,r=(dE es 0).1:=⟨_,rfl⟩;obtain⟨a1,ha1⟩: ∃a,a=(dE es 0).2:=⟨_,rfl⟩;have hl1:a1<=es.length:=by rw[ha1];exact(zo (bK _)).2
 have hs:=Zk (es:=es) (bK es.length);rw[<-hra] at hs;have hra6:iG ra:=by rw[hra];exact(zo (bK _)).1
 obtain⟨r,hr⟩: ∃r,r=(dE es a1).1:=⟨_,rfl⟩;obtain⟨a2,ha2⟩: ∃a,a=(dE es a1).2:=⟨_,rfl⟩;have hl2:a2<=es.length:=by rw[ha2];exact(zo hl1).2
 have hrg:wV r:=by rw[hr];exact aEk hl1
 obtain⟨hV,hcv⟩:=Jt hl1;rw[<-hr] at hV hcv;have x1:=(EH hV hs).1;obtain⟨p,hp⟩: ∃p,p=(vd es a2).1:=⟨_,rfl⟩;have hp5:=(VG hl2).1;rw[<-hp] at hp5;haveI hpb:=(aFk hl2).1;rw[<-hp] at hpb;have hR:ij (jF p (r.map ZP.q)):=by rw[hr];exact aKW hl1 hp5
 have hlaw:=aF0 (es:=es) (bK _) hl1 (p:=p) (by rw[<-hra];exact Pi hra6) (by rw[<-hr];exact hR);rw[<-hr,<-hra,NG] at hlaw;have hrb:=Jo hrg.ok;have hn6:=hrg.ok.n6;have hml:(r.map uE).length=r.length:=aX ..;refine fn func5 J J ntmps5 J J (fun C=>?_);refine cn J ((ZT hb hee)) (fun _=>J) (fun _=>?_);refine cm J (fun b=>(Vp hes (bK _) hra ha1)) J<|cl J (I8 hra6) J<|cm J (fun b=>(Vp hes hl1 hr ha2)) J<|cm J (fun b=>(WM hes hl2 hp)) J<|cl J (LC hs.x) J<|cl J (Ps hrg.ok) J<|cl J (Q9 hE hrg hcv hV hs) J<|cl J (TR (p:=p) (i:=1200)) J<|cl (fu:=⟨17⟩) J (X5 (p:=p) (i:=1200) x1) J<|aj 40 (.d (vI (r.length:Nat))) J omh<|gx J<|nr 11 11 36 6 J J J<|lp (X:=Nat) (fun k=>[(41, .d (vI (k:Nat))),(11, .rw 11)]) (fun k=>[(11,some (.b 36 6 ((r.take k).map fun z=>eP (p.subQ z.q)) true))]) (fun k=>k<=r.length) (fun k=>r.length-k) 0 J (bK _) (fun _=>J) (fun k hk=>?_);have hrl:((r.take k).map fun z=>eP (p.subQ z.q)).length<=k:=by rw[aX,bL];omega
 refine br (fu2:=⟨0⟩) J J J (fun hc42=>?_) (fun hc42=>?_)
 .
  obtain⟨z,hx⟩: ∃z,r[k]? =some z:=⟨_,aZ m5⟩;have hzm:z.q∈r.map ZP.q:=aT.2 ⟨z,aW hx,J⟩;haveI:=hrb z.q hzm;refine ix _ J (cO hx) J<|cl (fu:=⟨0⟩) J (EO (p:=p) (q:=z.q) (i:=1200) (j:=8)) J<|aj 48 (.d (eP (p.subQ z.q))) J (by rw[azU])<|gx J<|rf J J<|ap ((r.take (k+1)).map fun z=>eP (p.subQ z.q)) J (YH hx) (Zw p [z]) J<|fI 50 11 J<|at_ (k+1) ⟨m5,m5⟩
 .
  obtain rfl:k=r.length:=by omega
  rw[dX];refine oA 11 J<|gx (fu:=⟨9⟩) J<|aj 53 (.d (lf (jF p (r.map ZP.q)))) J (by rw[<-aFy]<;>rfl)<|gx J<|cl J (U1 hR) J<|cl (fu:=⟨5⟩) J (aBI ⟨hs.x.gd,(UU (AT hR) vb).gd,hs.x.s,(UU (AT hR) vb).s⟩) J<|clT (fu:=⟨2⟩) J (avV hE) J<|d7 (fu:=⟨3⟩) J J J<|d7 J J J<|rz J (by rw[<-hlaw];exact congrArg (fun b=>DV.v (.bool b)) (beq_self_eq_true _))
end Go.Sx
end
section
namespace Go.Sx
open Go Go.Proofs Go.ChangeShapes Go.WideShapes Go.ChangeAt Go.RowKit
variable {w w' W:World}{off base g:Nat}{v:Value}{H:Type}{P:Program}
def GW(w:World):Gh:=fun b=>match w.heap[b]? with|some (.cells cs _ _)=>some cs.toList|_=>none
def GW.sub{b:Nat}{cs:List Value}(h:GW w b=some cs): ∃ty fz,w.heap[b]? =some (.cells ⟨cs⟩ ty fz):=by
 unfold GW at h;split at h
 .rename_i c t f e
  cases h
  exact⟨t,f,by rw[e]⟩
 .cases h
def GW.of_cell{b:Nat}(h:w.cell? ⟨b,off,none⟩=some v): ∃cs,GW w b=some cs/\cs[off]? =some v:=by
 unfold World.cell? at h;unfold GW;split at h
 .rename_i c t f e
  simp only at e;refine⟨c.toList,by rw[e],?_⟩;simpa using h
 all_goals first|(rename_i e;cases h)|cases h
def bP.below{G G':Gh}{own:List aA}(h:bP ⟨w,G,[],[],[],none,fun _=>none⟩ own G' w'):Below w.heap.size w w':=
 ⟨h.os,h.tape,h.output,h.size,fun k hk=>h.keep k hk vb⟩
def Q3{G:Gh}: ∀es:List Int,IsLs G (es.map vI) (es.map fun n=>Value.int .i64 n)
 |[]=> .nil
 |n::t=> .cons (aO.2 J) (Q3 t)
def aFB{enc:TypeId×Value->H}{t e:TypeId}{d:DataW H}{ps:List MemPlace}(ht:P.underlying t=some (.slice e))(he:P.underlying e=some (.int .i64))(hc:P.cellsOf e=1)
  (hv:Value.okWide P w .any base t v)(h:DataW.Trod enc P w 0 (fun _=>true) true t v d ps):
  ∃es:List Int,Is (GW w) (.sl (es.map vI)) v/\(d= .nil/\es=[]\/ ∃sp,d= .slice (lits .i64 es) sp)/\(∀n∈es,(Lit.int .i64 n).wf=true):=by
 obtain⟨a0,len,cap,rfl⟩:=okWide_slice ht hv;obtain⟨fuel,hf⟩:=h;rcases open_ints ht he hc hf with⟨hcs,hx⟩|⟨a,len',cap',zs,hcs,_,hl,hm,hz,hx,hcell,hwz⟩
 .simp[Value.cells] at hcs
  obtain⟨rfl,rfl,rfl⟩:=hcs;simp only[Prod.mk.injEq] at hx;exact⟨[],il.2 ⟨0,⟨none,0,0⟩,[],J,gH.nil _ 0, .nil⟩, .inl ⟨hx.1,J⟩,vb⟩
 .simp[Value.cells] at hcs
  obtain⟨rfl,rfl,rfl⟩:=hcs;simp only[Prod.mk.injEq] at hx;simp only[if_true] at hz;refine⟨zs.take len,il.2 ⟨1,⟨some a,len,cap⟩,(zs.take len).map fun n=>Value.int .i64 n,J,⟨by simp;omega,hl,?_⟩,Q3 _⟩, .inr ⟨_,hx.1⟩,fun n hn=>hwz n (dS hn)⟩;by_cases h0:len=0
  .exact .inl (by simp[h0])
  .right
   obtain⟨b,off,spot⟩:=a;have hspot:spot=none:=by simpa[Addr.add] using World.cell?_spot (hcell 0 m5)
   subst hspot;have c0: ∀i,i<zs.length->w.cell? ⟨b,off+i,none⟩=some (.int .i64 (zs.getD i 0)):=fun i hi=>by
    have:=hcell i hi;rwa [Go.WideShapes.add_plain] at this
   obtain⟨cs,hcs,_⟩:=GW.of_cell (by have h9:=c0 0 m5;rw[gQ] at h9;exact h9);refine⟨b,off,cs,J,hcs,fun i hi=>?_⟩;simp only[aX,bL] at hi;obtain⟨cs',hcs',hi'⟩:=GW.of_cell (c0 i m5);rw[hcs] at hcs'
   cases hcs'
   rw[jT,X3.2 hi'];simp[aH,List.getD,aZ (show i<zs.length by omega)]
inductive Hq where
 |b
 |i (k:IntKind)
 |sl (ag:Bool) (l:List Hq)
mutual
def Fit:Hq->DV->Prop
 | .b,d=> ∃b,d= .v (.bool b)
 | .i k,d=> ∃n,d= .v (.int k n)/\(Lit.int k n).wf=true
 | .sl ag l,d=> ∃m:List DV,d= .sl m/\m.length<=maxLen/\ ∀x∈m,∃ys,FitL l ys/\((ag=true/\x= .ag ys)\/(ag=false/\ys=[x]))
def FitL:List Hq->List DV->Prop
 |[],ds=>ds=[]
 |s::l,ds=> ∃d t,ds=d::t/\Fit s d/\FitL l t
end
section
variable {enc:TypeId×Value->H}
end
def SJ: "*" ++ "errors.errorString" = "*errors.errorString" :=by decide
def aIM(u:TypeId)(h:Tryz.prog.typeName? 3 u=some "*errors.errorString"):u=441:=
 typeName_ptr_named (nm:= "errors.errorString") (by rw[SJ];kernel_rfl) v6 pb u (by rw[SJ];exact h)
def U7{n:String}{text:List UInt8}{r:List (String×DataW Unit)}(h:laidMet Tryz.prog ((n, .iface "*errors.errorString" (.ptr (.agg [.lit (.string text)])))::r) W)(hg:Tryz.prog.globalNamed n=some g)(ht:(Tryz.prog.globals[g]?).map (·.type)=some 41):
  ∃a,GW W g=some [.iface 441 (.pointer (some a))]:=by
 obtain⟨a,s,hv,_⟩:=laid_sentinel h hg ht Tryz.underlying41 aIM Tryz.underlying441 Tryz.underlying466 rfl rfl Tryz.underlying9 v6 v6;refine⟨a,?_⟩;unfold World.var? at hv;rw[hg,Option.bind_some] at hv;unfold GW;split at hv
 .rename_i c t f e
  rw[e];cases hv;rfl
 .cases hv
def au3{l:List (String×DataW Unit)}(h:laidMetH Tryz.prog l W)(hp:(l.all fun x=>x.2.handleName?.isNone)=true):laidMet Tryz.prog l W:=by rwa [Go.MakeChecks.laidMetH_plain _ _ _ hp] at h
end Go.Sx
end
section
namespace Go.Proofs.YtmdgdhokaffbkaaGreatDoor
open Go.ChangeShapes Go.WideShapes Go.ChangeAt Go.RowKit Go.Sx
def Z1:mapsRowed Tryz.pinned.checked.prog=true:=by kernel_rfl
def js2:Tryz.pinned.checked.prog.stopsHeard=true:=by kernel_rfl
def Wr:Tryz.pinned.checked.prog.mayEnter=true:=by kernel_rfl
def js4:laidOutB Tryz.prog=true:=by kernel_rfl
end Go.Proofs.YtmdgdhokaffbkaaGreatDoor
end
