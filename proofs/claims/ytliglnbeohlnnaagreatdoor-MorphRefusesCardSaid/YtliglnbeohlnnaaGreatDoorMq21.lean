import Derived.Test.YtliglnbeohlnnaaGreatDoorMq20
set_option linter.all false
set_option maxHeartbeats 2000000
set_option maxRecDepth 100000
section
namespace Go.Sx
open Go Go.Proofs Tryz
variable {m z:Int}{k i j:Nat}{a b:Rat}{c:av}{V v:List ah}{ds:List Nat}
variable {GB:Gh}
theorem Nh(h:m.natAbs<2^k)(hk:0<k:=by decide):BQ (m:Rat) k:=⟨by rw[jN];exact rk h,by rw[kY];exact rk<|cM (show 1<2^1 by decide) (cZ oma hk)⟩
theorem Iu{D:Nat}(hD:0<D)(h:a*((D:Int):Rat)=(z:Rat))(h1:z.natAbs<2^k)(h2:D<2^k):BQ a k:=by
 have e:=Kq hD h;have d1:a.den∣D:=by
  have e2:a.num.natAbs*D=z.natAbs*a.den:=by
   have:=congrArg Int.natAbs e;rwa [eY,eY,dS,dS] at this
  exact a.reduced.symm.dvd_of_dvd_mul_left ⟨z.natAbs,by rw[e2,cW]⟩
 obtain⟨m,hm⟩:=d1;have hden:=Nat.le_of_dvd hD ⟨m,hm⟩;have hm0:0<m:=fZ fun k=>by rw[k] at hm;omega
 have e2:a.num*(m:Int)=z:=by
  rw[hm] at e;have hdn:(a.den:Int)≠0:=by have:=a.den_pos;omega
  refine Int.eq_of_mul_eq_mul_right hdn ?_;rw[<-e];push_cast;rw[Int.mul_assoc,uV (m:Int)]
 refine⟨dZ ?_ (rk h1),dZ hden (rk h2)⟩;rw[<-e2,eY,dS];exact mZ _ hm0
theorem X'{r:List ZP}(h:gk r): ∀u∈r.map ZP.q,aE u 8:=fun u hu=>by
 obtain⟨p,hp,rfl⟩:=aU.1 hu;obtain⟨h1,h2⟩:=h.le p hp;exact⟨Nh we,Nh we⟩
def mI(c:av)(V:List ah)(k:Nat):List aa:=(c.map fun s=>kn s.l V)++((cG V).take k).filterMap (lB c)
def ZV(c:av)(V:List ah):mI c V 0=c.map fun s=>kn s.l V:=by unfold mI;simp
def N8(c:av)(V:List ah):mI c V (cG V).length=iH c V (cG V):=by unfold mI iH;rw[dQ]
def Ue(c:av)(V:List ah)(k:Nat):(mI c V k).length<=c.length+V.length:=by
 unfold mI;rw[aY,aX];have h1:=jT (lB c) ((cG V).take k);have h2:((cG V).take k).length<=V.length:=by rw[bT];unfold cG;rw[aX,kL];omega
 omega
def at5{f:ah×ah}{m:Rat}(h:(cG V)[k]? =some f)(hf:hH c (bG f)=some m):(mI c V k).map co++[co (dB (bG f).x (bG f).y (-(m+(bG f).dot f.1)))]=(mI c V (k+1)).map co:=by
 unfold mI;rw[dW,h];simp only[pW,sU,qL,List.filterMap_nil];rw[show lB c f=some (dB (bG f).x (bG f).y (-(m+(bG f).dot f.1))) by unfold lB;rw[hf];rfl];simp
def XG{f:ah×ah}(h:(cG V)[k]? =some f)(hf:hH c (bG f)=none):mI c V k=mI c V (k+1):=by
 unfold mI;rw[dW,h];simp only[pW,sU,qL,List.filterMap_nil];rw[show lB c f=none by unfold lB;rw[hf];rfl];simp
def avf{s:bB}(h:c[k]? =some s):((c.take k).map fun s=>kn s.l V).map co++[co (kn s.l V)]=((c.take (k+1)).map fun s=>kn s.l V).map co:=by
 rw[dW,h,aM,aM];rfl
def QH(l:List aa):cI 9 (l.map co):=fun d hd=>by
 obtain⟨x,_,rfl⟩:=aU.1 hd;exact⟨J,J⟩
def aDR{p q:ah}(h1:V[k]? =some p)(h2:V[(k+1)%V.length]? =some q):(cG V)[k]? =some (p,q):=by
 have hk:=(aT.1 h1).1;unfold cG;rw[bL,qU hk];show some (V.getD k ⟨0,0⟩,V.getD ((k+1)%V.length) ⟨0,0⟩)=_;rw[aV,aV,h1,h2];rfl
def Tr.partsF:Tr->av->List (Bool×av)
 | .leaf b,c=>[(b,c)]
 | .node l x y,c=>(if cx c l then x.partsF (yV c l) else [])++(if cx c l.rev then y.partsF (yV c l.rev) else [])
def Tr.parts_F: ∀(t:Tr) (c:av),t.parts c=t.partsF c
 | .leaf _,_=>rfl
 | .node l x y,c=>by rw[Tr.parts,Tr.partsF,DD,DD,x.parts_F,y.parts_F]
def aA3(V:List ah)(E:List (ah×ah))(c:av):GI V E [c] (.leaf false)=(nn V E c).restrict []:=by
 show(Tr.leaf false).mergeQ 1 (nn V E c) []=_;rw[Tr.mergeQ];unfold Tr.chooseQ;rw[if_pos (.inl J),if_neg oma]
def CO:List ah:=(dt 0 0 1 1).map ZP.q
def Gv:List av:=((((((ux [dt 0 0 1 1] 2).restrictF []).restrictF []).partsF []).filter (·.1)).map (·.2))
def Yq:dE ((fm [dt 0 0 1 1] 2).restrict [])=Gv:=by
 unfold dE fm Gv;rw[Tr.restrict_F,Tr.restrict_F,Tr.parts_F]
def BS:Tr->Tr->Bool
 | .leaf a, .leaf b=>a==b
 | .node l x y, .node m u v=>decide (l=m)&&(BS x u&&BS y v)
 |_,_=>false
def Jr: ∀{t u:Tr},BS t u=true->t=u
 | .leaf a, .leaf b,h=>by rw[eq_of_beq (show(a==b)=true from h)]
 | .node l x y, .node m u v,h=>by
  simp only[BS,bW,decide_eq_true_eq] at h;rw[h.1,Jr h.2.1,Jr h.2.2]
 | .leaf _, .node ..,h=>by cases h
 | .node .., .leaf _,h=>by cases h
def aGn{α:Type}{f:α->Bool}{l:List α}(h:l.map f=[true]): ∃c,l=[c]/\f c=true:=by
 cases l with
 |nil=>cases h
 |cons a t=>
  rw[bV,List.cons.injEq] at h;exact⟨a,by rw[uX.1 h.2],h.1⟩
def aE5:(Gv.map fun c=>BS ((nn CO (cG CO) c).restrictF []) ((ux [dt 0 0 2 2] 2).restrictF []))=[true]:=by decide+kernel
def aD6:qt CO (cG CO) (fm [dt 0 0 1 1] 2)=fm [dt 0 0 2 2] 2:=by
 obtain⟨c,hc,hr⟩:=aGn aE5;unfold qt;rw[Yq,hc,aA3,Tr.restrict_F,Jr hr,<-Tr.restrict_F];rfl

abbrev PZ:ah:=⟨0,0⟩
def j'(r:List ah)(i:Nat):ah:=r.getD ((i+1)%r.length) PZ
def yb(v w:ah):bB:=⟨qi v w,⟨ir (qi v w) v,ir (qi v w) w,false,false⟩⟩
def q8(r:List ah):Nat->List bB
 |0=>[]
 |k+1=>q8 r k++[yb (r.getD k PZ) (j' r k)]
def lm(r:List ah):List bB:=q8 r r.length
structure lj (r:List ah):Prop where
 n3:3<=r.length
 n6:r.length<=6
 bd: ∀p∈r,aE p 7
 ne: ∀i<r.length,tD (r.getD i PZ) (j' r i)
def CM{r:List ah}(h:i<r.length):r.getD i PZ∈r:=by
 rw[aV,aQ h];exact cR h
def Lw{r:List ah}(h:i<r.length):j' r i∈r:=CM (dK _ we)
def J0{c:Rat}{n:Nat}(ha:BQ a i)(hb:BQ b j)(hc:BQ c k)(hn:7*(i+(j+k))<=n:=by decide):(a.num*(b.den*c.den:Nat)).natAbs<2^n:=by
 rw[eY,dS];exact CN (kg ha.hn (kg hb.hd hc.hd)) hn
theorem NT{p q:ah}(hp:aE p 7)(hq:aE q 7):LB (qi p q):=by
 have h1:BQ (p.y-q.y) 15:=inferInstance;have h2:BQ (q.x-p.x) 15:=inferInstance;have h3:BQ (-((p.y-q.y)*p.x+(q.x-p.x)*p.y)) 46:=BQ.mono (inferInstance:BQ (-((p.y-q.y)*p.x+(q.x-p.x)*p.y)) _);unfold qi dB;obtain⟨k1,k2,k3⟩:=yH ((p.y-q.y).num*((q.x-p.x).den*(-((p.y-q.y)*p.x+(q.x-p.x)*p.y)).den:Nat)) ((q.x-p.x).num*((p.y-q.y).den*(-((p.y-q.y)*p.x+(q.x-p.x)*p.y)).den:Nat)) ((-((p.y-q.y)*p.x+(q.x-p.x)*p.y)).num*((p.y-q.y).den*(q.x-p.x).den:Nat));exact⟨⟨dZ k1 (J0 (n:=672) h1 h2 h3),dZ k2 (J0 (n:=672) h2 h1 h3),dZ k3 (J0 (n:=672) h3 h1 h2)⟩⟩
theorem Oa{l:aa}{p:ah}(hl:LB l)(hp:aE p 7):BQ (ir l p) 1200:=by
 unfold ir ah.dot aa.dir;exact BQ.mono (inferInstance:BQ ((p.x*(l.b:Rat)+p.y*((-l.a:Int):Rat))/((l.b:Rat)*(l.b:Rat)+((-l.a:Int):Rat)*((-l.a:Int):Rat))) _)
def ZT{v w:ah}(hv:aE v 7)(hw:aE w 7)(h:tD v w):mj (yb v w):=by
 have h1:=NT hv hw;exact⟨h1,L2 h,⟨fun e=>(by cases e),fun e=>(by cases e)⟩,Oa h1 hv,Oa h1 hw⟩
def Jj{r:List ah}(h:lj r): ∀{k:Nat},k<=r.length->(q8 r k).length=k/\ ∀f∈q8 r k,mj f
 |0,_=>⟨J,fun f hf=>by cases hf⟩
 |k+1,hk=>by
  obtain⟨h1,h2⟩:=Jj h (k:=k) we;rw[q8];refine⟨by simp[h1],fun f hf=>?_⟩;rcases bX.1 hf with hf|hf
  .exact h2 f hf
  .rw[aR] at hf;subst hf
   exact ZT (h.bd _ (CM we)) (h.bd _ (Lw we)) (h.ne k we)
def Lc{r:List ah}(h:lj r):(lm r).length=r.length/\ ∀f∈lm r,mj f:=Jj h (bJ _)
def jh(rs:List (List ah)):List bB:=rs.flatMap lm
def AC: ∀{rs:List (List ah)},(∀r∈rs,lj r)->(jh rs).length<=6*rs.length/\ ∀f∈jh rs,mj f
 |[],_=>⟨bJ _,fun f hf=>by cases hf⟩
 |r::rs,h=>by
  obtain⟨h1,h2⟩:=AC (rs:=rs) fun q hq=>h q (aJ _ hq);obtain⟨k1,k2⟩:=Lc (h r aZ);have:=(h r aZ).n6;unfold jh at*;rw[kJ];refine⟨by rw[aY,k1,bZ];omega,fun f hf=>?_⟩;rcases bX.1 hf with hf|hf
  .exact k2 f hf
  .exact h2 f hf
def ow(r:List ah)(p:ah):Nat->Int
 |0=>0
 |k+1=>ow r p k+tA (r.getD k PZ) (j' r k) p
def sP(r:List ah)(p:ah):Int:=ow r p r.length
def qA(rs:List (List ah))(fill:Int)(p:ah):Bool:=vT fill (rs.foldl (fun n r=>n+sP r p) 0)
def JN(rs:List (List ah))(fill:Int):Tr:=jv (qA rs fill) (jh rs).length (jh rs) []
def Cz(rs:List (List ah))(fill:Int):Tr:=(JN rs fill).restrict []
theorem omZ{p:Prop}(h:p:=by intro q hq;simp only[aW,fK,or_false] at hq;rcases hq with rfl|rfl|rfl;exact ha.mono we;exact hb.mono we;exact hc.mono we):p:=h
def MU{c:Rat}[ha:BQ a i][hb:BQ b i][hc:BQ c i](h0: ¬(a=0/\b=0))(hi:i<=4000:=by decide):PF GB prog 92 [eF a,eF b,eF c] (.tp [co (dB a b c),vB true]):=by
 obtain⟨e1,e2,e3⟩:=OE (c:=c) h0;haveI:BQ a 4000:=ha.mono hi;haveI:BQ b 4000:=hb.mono hi;haveI:BQ c 4000:=hc.mono hi;haveI:BQ (rgcd a b) 16000:=BQ.mono (inferInstance:BQ (rgcd a b) _);haveI:BQ (rgcd (rgcd a b) c) 40000:=BQ.mono (inferInstance:BQ (rgcd (rgcd a b) c) _);haveI:BQ (rgcd (rgcd a b) c)⁻¹ 40000:=BQ.mono (inferInstance:BQ (rgcd (rgcd a b) c)⁻¹ _);have hl4:([((dB a b c).a:Rat),((dB a b c).b:Rat),((dB a b c).c:Rat)].map eF).length=3:=J;have hl3:[((dB a b c).a:Rat),((dB a b c).b:Rat),((dB a b c).c:Rat)].length=3:=J;refine fn func92 J J ntmps92 J J (fun C=>?_);refine cl J (uI (q:=a)) J<|csd 11 J J J (fun hg11=>?_) (fun hg11=>?_)
 .
  refine cl J (uI (q:=b)) J<|bd J J J (fun hc14=>?_) (fun hc14=>?_)
  .
   exact absurd ⟨hg11,hc14⟩ h0
  .
   refine cl rfl (p9 (p:=a) (q:=b) (i:=4000) (j:=4000)) rfl<|cl rfl (p9 (p:=rgcd a b) (q:=c) (i:=16000) (j:=4000)) rfl<|cl rfl (Ip (q:=rgcd (rgcd a b) c) (i:=40000)) rfl<|ro (fu:=⟨0⟩) J J<|cq (hv:=by simp only[ak];exact⟨omd,we⟩) ([((dB a b c).a:Rat),((dB a b c).b:Rat),((dB a b c).c:Rat)].map eF) rfl (TE (L:=[a,b,c]) (k:=(rgcd (rgcd a b) c)⁻¹) (i:=40000) omZ (nb rfl)) (by simp only[bV,iU,e1,e2,e3]) rfl<|lb _ J J J<|lb _ J J J<|lb _ J J J<|rz J J
 .
  refine cl rfl (p9 (p:=a) (q:=b) (i:=4000) (j:=4000)) rfl<|cl rfl (p9 (p:=rgcd a b) (q:=c) (i:=16000) (j:=4000)) rfl<|cl rfl (Ip (q:=rgcd (rgcd a b) c) (i:=40000)) rfl<|ro (fu:=⟨0⟩) J J<|cq (hv:=by simp only[ak];exact⟨omd,we⟩) ([((dB a b c).a:Rat),((dB a b c).b:Rat),((dB a b c).c:Rat)].map eF) rfl (TE (L:=[a,b,c]) (k:=(rgcd (rgcd a b) c)⁻¹) (i:=40000) omZ (nb rfl)) (by simp only[bV,iU,e1,e2,e3]) rfl<|lb _ J J J<|lb _ J J J<|lb _ J J J<|rz J J
theorem aE.mono'{p:ah}(h:aE p i)(k:i<=j):aE p j:=⟨h.x.mono k,h.y.mono k⟩
def T5{p:ah}(h:v[k]? =some p):k<v.length/\p=v.getD k PZ:=
 ⟨(aT.1 h).1,by rw[aV,h];rfl⟩
def aHG{p:ah}(h:v[(k+1)%v.length]? =some p):p=j' v k:=(T5 h).2
structure WQ where
 n:Bool
 d:List Nat
 e:List Nat
variable {r:WQ}
def WQ.D(r:WQ):List DV:=[.v (.bool r.n),bD r.d,bD r.e]
structure WQ.sm (r:WQ):Prop where
 d:bt r.d/\r.d.length<=4
 e:bt r.e/\r.e.length<=4
def WQ.nm(r:WQ):Prop:=fj r.n r.d/\dG r.e/\0<r.e.length/\Nat.gcd (dv r.d) (dv r.e)=1
instance (r:WQ):Decidable r.nm:=inferInstanceAs (Decidable (_/\_/\_/\_))
def WQ.q(r:WQ):Rat:=mkRat (zv r.n (dv r.d)) (dv r.e)
def Dk(h:bt ds)(hn:dG ds)(hl:0<ds.length):0<dv ds:=by
 refine fZ fun e=>?_;have:=qk h hn;rw[e,sj] at this;rw[<-this] at hl;exact absurd hl (Nat.lt_irrefl 0)
def tI(h:bt ds/\ds.length<=4):dv ds<2^(7*22):=by
 refine cM (k8 h.1) ?_;refine cN (cZ oma h.2) ?_;decide+kernel
def WQ.nd(s:r.sm)(h:r.nm):r.q.num=zv r.n (dv r.d)/\r.q.den=dv r.e:=by
 have hp:=Dk s.e.1 h.2.1 h.2.2.1;obtain⟨h1,h2⟩:=I0 (n:=r.n) (a:=dv r.d) hp;rw[h.2.2.2,tV] at h1 h2;exact⟨h1,h2⟩
def Q9{n:Bool}{a:Nat}(h:n=true->0<a):decide (zv n a<0)=n:=by
 cases n with
 |false=>unfold zv;simp
 |true=>unfold zv;have:=h J;simp;omega
def WQ.eq(s:r.sm)(h:r.nm):r.D=[.v (.bool (decide (r.q.num<0))),dN r.q.num.natAbs,dN r.q.den]:=by
 obtain⟨h1,h2⟩:=WQ.nd s h;have hz:decide (zv r.n (dv r.d)<0)=r.n:=Q9 fun k=>Dk s.d.1 h.1.1 (h.1.2 k);rw[h1,h2,m7,hz];unfold WQ.D dN;rw[qk s.d.1 h.1.1,qk s.e.1 h.2.1];rfl
theorem WQ.bq(s:r.sm)(h:r.nm):BQ r.q 22:=by
 obtain⟨h1,h2⟩:=WQ.nd s h;exact⟨by rw[h1,m7];exact tI s.d,by rw[h2];exact tI s.e⟩
def GQ{n:Bool}(h:bt ds/\ds.length<=4)(k:fj n ds):PF GB prog 145 [.ag [.v (.bool n),bD ds]] (.v (.bool true)):=(vE (neg:=n) ⟨h.1,by have:=h.2;omega⟩).to (by unfold vB;rw[decide_eq_true k])
def VR{n:Bool}(h:bt ds/\ds.length<=4)(k: ¬fj n ds):PF GB prog 145 [.ag [.v (.bool n),bD ds]] (.v (.bool false)):=(vE (neg:=n) ⟨h.1,by have:=h.2;omega⟩).to (by unfold vB;rw[decide_eq_false k])
def Tc(h:bt ds/\ds.length<=4)(k:dG ds):PF GB prog 208 [bD ds] (.v (.bool true)):=(E9 h.1 okP).to (by unfold vB;rw[decide_eq_true k])
def aMN(h:bt ds/\ds.length<=4)(k: ¬dG ds):PF GB prog 208 [bD ds] (.v (.bool false)):=(E9 h.1 okP).to (by unfold vB;rw[decide_eq_false k])
def aIJ{a b:List Nat}(ha:bt a/\a.length<=4)(hb:bt b/\b.length<=4)(na:dG a)(nb:dG b):PF GB prog 211 [bD a,bD b] (dN (Nat.gcd (dv a) (dv b))):=by
 haveI:BN (dv a) 22:=⟨tI ha⟩;haveI:BN (dv b) 22:=⟨tI hb⟩;have:=CK (GB:=GB) (a:=dv a) (b:=dv b) (i:=22) (j:=22);unfold dN at this⊢;rw[qk ha.1 na,qk hb.1 nb] at this;exact this
def aMR(s:r.sm)(h: ¬fj r.n r.d):PF GB prog 214 [.ag [.v (.bool r.n),bD r.d,bD r.e]] (.v (.bool false)):=by
 refine fn func214 J J ntmps214 J J (fun C=>?_);refine cl (fu:=⟨0⟩) J (VR s.d h) J<|iG 5 J<|gx J<|rz J J
def VZ(s:r.sm)(h1:fj r.n r.d)(h: ¬dG r.e):PF GB prog 214 [.ag [.v (.bool r.n),bD r.d,bD r.e]] (.v (.bool false)):=by
 refine fn func214 J J ntmps214 J J (fun C=>?_);refine cl (fu:=⟨0⟩) J (GQ s.d h1) J<|fD 5 J<|gx J<|cl (fu:=⟨0⟩) J (aMN s.e h) J<|iG 10 J<|gx J<|rz J J
def WB(s:r.sm)(h1:fj r.n r.d)(h2:dG r.e)(h:r.e.length=0):PF GB prog 214 [.ag [.v (.bool r.n),bD r.d,bD r.e]] (.v (.bool false)):=by
 have hml:(r.e.map dU).length=r.e.length:=aX ..;refine fn func214 J J ntmps214 J J (fun C=>?_);refine cl (fu:=⟨0⟩) J (GQ s.d h1) J<|fD 5 J<|gx J<|cl (fu:=⟨0⟩) J (Tc s.e h2) J<|fD 10 J<|gx (fu:=⟨6⟩) J<|cF J (omg we) J<|rz J J
def aMk(s:r.sm)(h1:fj r.n r.d)(h2:dG r.e)(h3:0<r.e.length):PF GB prog 214 [.ag [.v (.bool r.n),bD r.d,bD r.e]] (vB (decide (((bl (Nat.gcd (dv r.d) (dv r.e)):Nat):Int)=1))):=by
 have hml:(r.e.map dU).length=r.e.length:=aX ..;haveI:BN (Nat.gcd (dv r.d) (dv r.e)) 50:=BN.mono (show BN (Nat.gcd (dv r.d) (dv r.e)) (22+22) from(haveI:BN (dv r.d) 22:=⟨tI s.d⟩;haveI:BN (dv r.e) 22:=⟨tI s.e⟩;inferInstance)) oma;refine fn func214 J J ntmps214 J J (fun C=>?_);refine cl (fu:=⟨0⟩) J (GQ s.d h1) J<|fD 5 J<|gx J<|cl (fu:=⟨0⟩) J (Tc s.e h2) J<|fD 10 J<|gx (fu:=⟨6⟩) J<|bO J (omh we) J<|cl J (aIJ s.d s.e h1.1 h2) J<|cl J (uM (a:=Nat.gcd (dv r.d) (dv r.e)) (i:=50)) J<|rz J J
def aIR{a:Nat}(h:0<a):(((bl a:Nat):Int)=1)↔a=1:=by
 have h1:bl a<=1↔a<2^1:=nf;have h2:bl a<=0↔a<2^0:=nf;omega
def S2(s:r.sm):PF GB prog 214 [.ag [.v (.bool r.n),bD r.d,bD r.e]] (vB (decide r.nm)):=by
 have no: ¬r.nm->vB (decide r.nm)= .v (.bool false):=fun h=>by unfold vB;rw[decide_eq_false h]
 by_cases h1:fj r.n r.d
 .by_cases h2:dG r.e
  .by_cases h3:r.e.length=0
   .rw[no fun h=>by have:=h.2.2.1;omega];exact WB s h1 h2 h3
   .have hp:=Dk s.e.1 h2 we
    have e:decide (((bl (Nat.gcd (dv r.d) (dv r.e)):Nat):Int)=1)=decide r.nm:=decide_eq_decide.2 ((aIR (oY _ hp)).trans ⟨fun k=>⟨h1,h2,we,k⟩,fun k=>k.2.2.2⟩);rw[<-e];exact aMk s h1 h2 we
  .rw[no fun h=>h2 h.2.1];exact VZ s h1 h2
 .rw[no fun h=>h1 h.1];exact aMR s h1
structure WP where
 x:WQ
 y:WQ
def WP.D(r:WP):DV:= .ag [.v (.bool r.x.n),bD r.x.d,bD r.x.e, .v (.bool r.y.n),bD r.y.d,bD r.y.e]
structure WP.sm (r:WP):Prop where
 x:r.x.sm
 y:r.y.sm
def WP.nm(r:WP):Prop:=r.x.nm/\r.y.nm
instance (r:WP):Decidable r.nm:=inferInstanceAs (Decidable (_/\_))
def WP.p(r:WP):ah:=⟨r.x.q,r.y.q⟩
def WP.eq{r:WP}(s:r.sm)(h:r.nm):r.D=iz r.p:=by
 have h1:=WQ.eq s.x h.1;have h2:=WQ.eq s.y h.2;unfold WQ.D at h1 h2;unfold WP.D iz WP.p;simp only[List.cons.injEq,and_true] at h1 h2;obtain⟨a1,a2,a3⟩:=h1;obtain⟨b1,b2,b3⟩:=h2;rw[a1,a2,a3,b1,b2,b3]
theorem WP.bpt{r:WP}(s:r.sm)(h:r.nm):aE r.p 22:=⟨WQ.bq s.x h.1,WQ.bq s.y h.2⟩
theorem omL{p:Prop}(h:p:=by show DV.v (.bool _)= .v (.bool _);unfold WP.nm;simp_all):p:=h
def aLc{r:WP}(s:r.sm):PF GB prog 151 [r.D] (vB (decide r.nm)):=by
 refine fn func151 J J ntmps151 J J (fun C=>?_);refine cl J (S2 (r:=r.x) s.x) J<|csd 6 J J J (fun hg6=>?_) (fun hg6=>?_)
 .
  refine cl J (S2 (r:=r.y) s.y) J<|rz J omL
 .
  exact rz J omL
def aDJ{r:WP}(s:r.sm)(h:r.nm):PF GB prog 153 [r.D] (eZ r.p):=by
 haveI:=WP.bpt s h;rw[WP.eq s h];exact FM (i:=22)
end Go.Sx
end
section
namespace Go.Sx
open Go Go.Proofs Go.RowKit Go.Extern.Stop Go.Stop Go.Extern
def Vi(v:Value)(xT:TypeId)(w:World):(Instr.typeAssert (.iface 262 v) xT 204 true).run Tryz.prog w= .ok (.tuple #[.nilIface, .bool false]) w:=run_typeAssert_lacksB Tryz.underlying204 omd omd v xT w
def aHi(v:Value)(xT:TypeId)(w:World):(Instr.typeAssert (.iface 262 v) xT 207 true).run Tryz.prog w= .ok (.tuple #[.iface 262 v, .bool true]) w:=run_typeAssert_hasB Tryz.underlying207 omd v xT w
def ak0(n:Nat)(v:Value)(w:World):(Go.method (n+1) 262 v "Unwrap").run Tryz.prog w= .ok (336,v) w:=by kernel_rfl
def aGK(b po:Nat)(a:Addr)(w:World)(h1:w.cell? ⟨b,po,none⟩=some (.iface 395 (.pointer (some a)))):Calls Tryz.prog 17 #[.iface 262 (.pointer (some ⟨b,po,none⟩)), .iface 395 (.pointer (some a))] w fun e w'=>e= .returned (.bool true)/\w'=w:=by
 obtain⟨i,hi,hcmp⟩:=nY.1 O3;obtain⟨j,hj,hjs⟩:=nY.1 S7;have h8:= @run_callFunc_extern Tryz.prog 53 _ Extern.ReflectliteType.typeOf Tryz.func53 omd omd omd omd;have h32:= @run_callFunc_extern Tryz.prog 326 _ (Extern.ReflectliteType.method Hz) Tryz.func326 omd omd omd omd;have tT:=Rk;have cT:=MI;obtain⟨g,hg⟩: ∃g,g=Tryz.prog.globals.size:=⟨_,rfl⟩;simp only[<-hg] at tT cT;clear hg;have mR:=N';have nW:=Vi;have uW:=aHi;have mU:=ak0;have heq:=run_eql_iface_ptr_same (P:=Tryz.prog) w a Tryz.underlying41 Tryz.underlying395 hi hcmp hj;have hty:=run_eql_iface_types (P:=Tryz.prog) 262 395 (.pointer (some ⟨b,po,none⟩)) (.pointer (some a)) Tryz.underlying41 oma w
 go_enter Tryz.func17,Tryz.ntmps17
 go_wp2
 refine wp_loop_rounds 2 ?_;rw[rounds_succ]
 go_wp2
 rw[rounds_succ]
 go_wp2
 go_ret
 exact⟨J,J⟩
end Go.Sx
end
section
namespace Go.Sx
open Go Go.Proofs Tryz
variable {GB GB':Gh}{C:aF}{n m i k j k0:Nat}{Q0 Q:Exit->Act->World->Prop}{fr fr':aC}{own':aO}{cf cf':Cf}{vc:List Prop}{ops:Array Oper}{r L:List WP}{K:List Kt}{ty:TypeId}{lk:LK}{bk:BM}{fo x:Operand}{args:Array Operand}{tys:Array TypeId}{f:FuncId}{ds l dl:List DV}{d:DV}{rv:Value->DV}{fb:Func}{c:av}{e:Exit}{t u:Tr}{a ai al ar ae:Addr}{p q:ah}{v V:List ah}{b:Rat}{ls:List aa}
def PE(GB:Gh)(P:Program)(f:FuncId)(ds:List DV)(d:DV)(rv:Value->DV):Prop:=
 ∀G vs,bI GB G->IsLs G ds vs->Fn P f vs G (fun v G'=> ∃u,Is G' d u/\Is G' (rv u) v)
section
variable {own:aO}{r:List Oper}{dst:Option Nat}{pos:String}{af:Array Edge}
def aBw{P:Program}(ha:te lk fo args=some (f,ds))(hF:PE GB P f ds d rv)(hd:cg n dst=true)
  (hk: ∀GB' u,bI GB GB'->Is GB' d u->SX GB' C n (eh lk dst (.d (rv u))) bk (wpListIn (FW C.rd) 0 P ops Q r)):SX GB C n lk bk (wpListIn (FW C.rd) 0 P ops Q (⟨dst, .call ⟨.value fo,args,tys⟩,ty,pos,af,none⟩::r)):=by
 refine⟨fun ρ G ov a w rl0=>?_⟩;obtain⟨h1,h2⟩:=A1 ha;obtain⟨y,hy,hy'⟩:=rl0.ev h1;rw[(aI (G:=G)).1 hy'] at hy;obtain⟨vs,h3,h4⟩:=rl0.evDs h2;have hch:=zC (n:=n) (dst:=dst) (tys:=tys) (ty':=ty) (pos:=pos) (af:=af) (gd:=none) (Φ:=fun a w=>a.defers=C.mks/\wpListIn (FW C.rd) 0 P ops Q r a w) hy h3 (hF G vs rl0.gb h4) hd (fun v G' hG hK a' w' rl=>by
  obtain⟨x,hu,hx⟩:=hK;exact⟨rl.df,(hk G' x (rl0.gb.trans hG.le) hu).run ρ G' ov a' w' ⟨bI.refl _,rl.h,rl.sz,rl.df,(jp rl).fx (fun k g _ e=>by obtain⟨u,h5,h6⟩:=rl0.fx k g e;exact⟨u,h5,h6.up hG.le⟩) hx,
   fun nm B e=>by obtain⟨os,h5,h6⟩:=rl0.bx nm B e;exact⟨os,h5.up hG.le,h6⟩,rl0.dj,rl0.fxd⟩⟩)
 have:=fun Q=>hch a w Q ⟨rl0.h,rl0.sz,cC a,rl0.df⟩;simp only[wpListIn,Region.wanted,if_true];exact F3 this fun a' w' k=>⟨k.1.trans rl0.df.symm,k.2⟩
def cE[fu:Fu]{vc:Value->List Prop}{fr':Value->aC}{own':Value->aO}{cf':Value->Cf}(ha:te (bi fr) fo args=some (f,ds))(hF:PE GB prog f ds d rv)
  (hgo: ∀x,cB tt n fu.n fr own (.ops ops (⟨dst, .call ⟨.value fo,args,tys⟩,ty,pos,af,none⟩::r) K) (.d (rv x)) [] []=⟨vc x,fr' x,own' x,cf' x⟩)(k: ∀GB' x,bI GB GB'->Is GB' d x->aA prog GB' C n Q0 (fr' x) (own' x) (cf' x))
  (hd:cg n dst=true:=by rfl)(hv: ∀x,ak (vc x):=by intro;first|exact trivial|(simp only[ak];kernel_rfl)|(simp only[ak];omega)):aA prog GB C n Q0 fr own (.ops ops (⟨dst, .call ⟨.value fo,args,tys⟩,ty,pos,af,none⟩::r) K):=by
 refine aBw ha hF hd fun GB' x hg hx=>?_;have h1:=hgo x;unfold cB at h1;simp only[uw,List.all_nil,hd,Bool.and_true,cond_true,r4,Ab] at h1;have:=fB (GB:=GB') (C:=C) (Q0:=Q0) h1 (hv x) (k GB' x hg hx);show SX GB' C n _ _ _;rw[<-E8];exact this
def yZ[fu:Fu]{c:Code}(hf:prog.funcs[f]? =some fb)(hb:fb.body=some c)(hn:(fb.name== "runtime.NumGoroutine")=false)(hm:fb.ntmps=m)(hlen:Nat.ble ds.length m=true)
  (hgo:go tt m fu.n [] (pD 0 ds) [] (.code c [])=⟨vc,fr,own,cf⟩)(k: ∀C:aF,aA prog GB C m (eH C prog fb (jb C (fun v G'=> ∃u,Is G' d u/\Is G' (rv u) v))) fr own cf)
  (hv:autoParam (ak vc) cL._auto_1):PE GB prog f ds d rv:=by
 intro G vs hg hvs;refine Fn.introR hf hb hn hm okp fun C _ _ hrd hfx=>?_;intro a w rl;refine uO hrd ?_;have h:=fB (GB:=GB) (C:=C) (Q0:=eH C prog fb (jb C (fun v G'=> ∃u,Is G' d u/\Is G' (rv u) v))) hgo hv (k C);exact h.run (fun _=>⟨none,0,0⟩) G [] a w ⟨hg,rl.h,rl.sz,rl.df,(fun k f e=>vm hvs rl.fr k f e),(fun nm B e=>by cases e),(fun nm nm' B B' e=>by cases e),fun nm p _ _ e=>by rw[hfx] at e;cases e⟩
def zy(u:Value)(hu:Is GB d u)(hr:qh tt fr own fb.results.toList=some ds)(hd:fg ds=rv u)(he:yE e=true:=by rfl):aA prog GB C n (eH C prog fb (jb C (fun v G'=> ∃u,Is G' d u/\Is G' (rv u) v))) fr own (.ex e []):=by
 refine⟨fun ρ G ov a w r=>?_⟩;obtain⟨vs,h1,h2⟩:=yx r hr;have hk: ∃u,Is G d u/\Is G (rv u) (m9 vs):=⟨u,hu.up r.gb,hd▸zF h2⟩
 cases e with
 |ret=>exact zD (C:=C) (n:=n) (fr:=cp a) (own:=ov) (G:=G) (K:=fun v G'=> ∃u,Is G' d u/\Is G' (rv u) v) h1 hk a w ⟨r.h,r.sz,cC a,r.df⟩
 |normal=>exact II (C:=C) (n:=n) (fr:=cp a) (own:=ov) (G:=G) (K:=fun v G'=> ∃u,Is G' d u/\Is G' (rv u) v) h1 hk a w ⟨r.h,r.sz,cC a,r.df⟩
 |_=>cases he
def WE{gd:Option (Nat×Bool)}{t:TypeId}(ht:yK t)(hx:bj lk x=some (.d (.pt l))):b8 prog GB C n lk bk ⟨dst, .makeInterface t x,ty,pos,af,gd⟩ (.ip t (.pt l)) [] []:=
 b8.yd fun ρ G ov a w r=>by
  obtain⟨y,hy,hy'⟩:=r.ev hx;refine⟨_,⟨y,J,hy'⟩,fun a' w' hf _=>?_⟩;refine c7 (f:=Next.value) ?_;rw[bC hf hy];exact ht _ _
def RP(fr:aC)(cf:Cf):Option (TypeId×List DV):=match c6 fr cf with
 |some ⟨_, .makeInterface t x,_,_,_,_⟩=>match bj (cd fr cf) x with
  |some (.d (.pt l))=>some (t,l)
  |_=>none
 |_=>none
def Jc[fu:Fu]{t:TypeId}(ha:RP fr cf=some (t,l))(ht:yK t)(hgo:cB tt n fu.n fr own cf (.ip t (.pt l)) [] []=⟨vc,fr',own',cf'⟩)(k:aA prog GB C n Q0 fr' own' cf')
  (hv:autoParam (ak vc) cL._auto_1):aA prog GB C n Q0 fr own cf:=by
 unfold RP at ha;split at ha<;>try (cases ha;done)
 rename_i hh;split at ha<;>cases ha;rename_i hx;exact us hh (WE ht hx) hgo hv k
def Jg(nm:Nat){t:TypeId}{lo:Bool}(hl:bu own nm=some (.o ty [.ip t (.pt l)] lo))(h: ∀(GB':Gh) (u:Value),bI GB GB'->Is GB' (.pt l) u->aA prog GB' C n Q0 fr ((nm,some (.o ty [.d (.v (.iface t u))] lo))::own) (.ex e K)):aA prog GB C n Q0 fr own (.ex e K):=by
 refine⟨fun ρ G ov a w r0=>?_⟩;obtain⟨os,⟨b,m,hb,rfl,hm⟩,h2⟩:=r0.bx nm _ hl;obtain⟨y,m',rfl,⟨u,rfl,hu⟩,hm'⟩:=hm;refine(h G u r0.gb hu).run ρ G ov a w ⟨bI.refl _,r0.h,r0.sz,r0.df,r0.fx,fun k B e=>?_,fun k k' B B' e e' hne=>?_,r0.fxd⟩
 .rw[jg] at e
  split at e
  .rename_i hj
   cases e;subst hj
   exact⟨_,⟨b,_,hb,J,_,m',J,(aI (G:=G)).2 J,hm'⟩,h2⟩
  .exact r0.bx k B e
 .have f: ∀(j:Nat) (B:Bk),bu ((nm,some (.o ty [.d (.v (.iface t u))] lo))::own) j=some B-> ∃B0,bu own j=some B0:=fun j B e=>by
   rw[jg] at e;split at e
   .rename_i hj;exact⟨_,hj▸hl⟩
   .exact⟨_,e⟩
  obtain⟨B1,e1⟩:=f k B e;obtain⟨B2,e2⟩:=f k' B' e';exact r0.dj k k' B1 B2 e1 e2 hne
end
def Ht:yK 262:=fun x w=>by kernel_rfl
def t8(u:Value):DV:= .v (.iface 262 u)
def sI(a:Addr)(s:Value):DV:= .pt [mc a,vI 0,vI 0, .v s]
def Hw{s u:Value}(h:Is GB (sI a s) u):PF GB prog 17 [t8 u,mc a] (.v (.bool true)):=by
 intro G vs hg hv;obtain⟨v1,m,rfl,h1,hm⟩:=bh.1 hv;obtain⟨v2,m,rfl,h2,hm⟩:=bh.1 hm;rw[dm] at hm;subst hm
 cases aI.1 h1;cases aI.1 h2
 obtain⟨b,cs,rfl,hb,hc⟩:=lG.1 (h.up hg);obtain⟨y,t,rfl,hy,_⟩:=bh.1 hc
 cases aI.1 hy
 refine⟨LQ,fun w hw=>(aGK b 0 a w ?_).mono fun e w' ⟨he,hww⟩=>⟨_,G,he,by
  subst hww;exact⟨J,J,J,bJ _,fun _ _ _=>J,hw,bI.refl _,fun _ _=>J,fun o ho=>(by cases ho), .nil,bJ _,fun p hp=>by cases hp⟩,aI.2 J⟩⟩
 obtain⟨ty,fz,hw2⟩:=hw b _ hb;simp[World.cell?,hw2]
section
variable {own:aO}
def MV(fr:aC)(cf:Cf):Option (ByteArray×ByteArray):=match c6 fr cf with
 |some ⟨_, .binOp .add _ x y _,_,_,_,_⟩=>match bj (cd fr cf) x,bj (cd fr cf) y with
  |some (.d (.v (.string p))),some (.d (.v (.string q)))=>some (p,q)
  |_,_=>none
 |_=>none
def D5[fu:Fu]{p q:ByteArray}(h:MV fr cf=some (p,q))(hs:p.size+q.size<=1000000)(hgo:cB tt n fu.n fr own cf (.d (.v (.string (p++q)))) [] []=⟨vc,fr',own',cf'⟩)(k:aA prog GB C n Q0 fr' own' cf')
  (hv:autoParam (ak vc) cL._auto_1):aA prog GB C n Q0 fr own cf:=by
 unfold MV at h;split at h<;>try (cases h;done)
 rename_i hh;split at h<;>cases h;rename_i h1 h2;exact us hh (.yd fun ρ G ov a w r=>by
  obtain⟨y1,hy1,hz1⟩:=r.ev h1;obtain⟨y2,hy2,hz2⟩:=r.ev h2;obtain rfl:=(aI (G:=G)).1 hz1;obtain rfl:=(aI (G:=G)).1 hz2;refine⟨_,(aI (G:=G)).2 J,fun a' w' hf _=>?_⟩;simp only[execOp,bC hf hy1,bC hf hy2];have he: ∀t x y,(eqGuard .add t x y (.string p) (.string q)).run prog w'= .ok () w':=fun _ _ _=>J;have hb: ¬(((p.size+q.size:Nat):Int)>IntKind.i64.max):=by
   have:IntKind.i64.max=9223372036854775807:=by decide
   omega
  have hr: ∀t,(binOp .add t (.string p) (.string q)).run prog w'= .ok (.string (p++q)) w':=fun t=>by
   show(Op.stringOp .add p q).run prog w'=_;simp only[Op.stringOp,if_neg hb];rfl
  exact c7 (by rw[aP (he _ _ _)];exact hr _)) hgo hv k
end
def aGQ(i:Nat)(hi:i<100):(Lib.decDigits i).toArray.size<=2:=by
 have key: ∀i:Fin 100,(Lib.decDigits i.val).toArray.size<=2:=by decide+kernel
 exact key ⟨i,hi⟩
def F4(i:Nat):ByteArray:=⟨(Lib.decDigits i).toArray⟩
def Dr(i:Nat)(hi:i<100:=by omega):(F4 i).size<=2:=aGQ i hi
def UK(hi:i<100:=by omega):PF GB prog 152 [vI (i:Nat)] (.v (.string (F4 i))):=fun G vs _ hv=>by
 obtain⟨v,m,rfl,h1,h2⟩:=bh.1 hv
 cases dm.1 h2
 obtain rfl:=aI.1 h1;exact(Fn.of_calls (G:=G) (Lf func152 J J) (fun w=>Tryz.strconv_Itoa_small i hi w)).mono fun v G' _ h=>by subst h;exact aI.2 J
section
variable {own:aO}
def AS(C:aF)(d:DV)(rv:Value->DV):Value->Gh->Prop:=fun v G'=> ∃u,Is G' d u/\Is G' (rv u) v
def Yv[fu:Fu]{c:Code}(hf:prog.funcs[f]? =some fb)(hb:fb.body=some c)(hn:(fb.name== "runtime.NumGoroutine")=false)(hm:fb.ntmps=m)(hlen:Nat.ble ds.length m=true)
  (hgo:go tt m fu.n [] (pD 0 ds) [] (.code c [])=⟨vc,fr,own,cf⟩)(k: ∀C:aF,Hg C->aA prog GB C m (yO prog fb (jb C (AS C d rv))) fr own cf)
  (hv:autoParam (ak vc) fn._auto_1):PE GB prog f ds d rv:=by
 intro G vs hg hvs;refine⟨⟨fb,hf,hn,by simp[hb]⟩,fun w hw=>?_⟩;have hlen':vs.length<=m:=by rw[hvs.len];simpa using hlen
 have h:=fB (GB:=GB) (C:=k9 w G) (Q0:=yO prog fb (jb (k9 w G) (AS (k9 w G) d rv))) hgo hv (k (k9 w G) ⟨J,J,J⟩);refine(callsIn_wide (n:=0)).1 (callsIn_of_wp_marks (F:=FW none) (n:=0) hf hb trivial ?_);refine h.run (fun _=>⟨none,0,0⟩) G [] _ w ⟨hg,Dt hw,by simp;omega,J,fun k f e=>vm hvs (fun k v hk=>?_) k f e,(fun nm B e=>by cases e),(fun nm nm' B B' e=>by cases e),fun nm p _ _ e=>by cases e⟩;obtain⟨j,rfl,hj⟩:=wD vs 0 k v hk;have hj':=(aT.1 hj).1;rw[lZ omO];simpa using hj
def U9{D:Nat}(u:Value)(hu:Is GB d u)(hD:C.w0.heap.size<=D)(hx: ∀p∈C.ex,p.1≠D)(hr:qh tt fr own fb.results.toList=some ds)(hd:fg ds=rv u)(he:yE e=true:=by rfl):aA prog GB (C.mk3 D) n (yO prog fb (jb C (AS C d rv))) fr own (.ex e []):=by
 refine⟨fun ρ G ov a w r=>?_⟩;obtain⟨vs,h1,h2⟩:=yx r hr;have hk:AS C d rv (m9 vs) G:=⟨u,hu.up r.gb,hd▸zF h2⟩;have hex:((D,Obj.deferred (some [])):Nat×Obj)∈(C.mk3 D).ex:=aZ;have h3:bH C ov G (w.putObj D (.deferred none)):=r.h.putx hex hD (fun _ _ _ h=>by cases h) J J J fun p hp=> .inr ⟨aJ _ hp,hx p hp⟩;have hres:=r8 (C:=C) (G:=G) (own:=ov) (w:=w.putObj D (.deferred none)) h1 (cC a) h3;have key:LeavesInM (FW none) 0 prog fb a.tmps (jb C (AS C d rv)) a.defers .returning w:=by
  rw[r.df];exact⟨omc, .inl ⟨D,_,J,run_takeDeferred (r.h.ext _ hex).2,_,hres,_,G,J,h3.drop (jV _),hk⟩⟩
 cases e with
 |ret=>exact key
 |normal=>exact key
 |_=>cases he
end
structure ja (GB:Gh) (ai al ar:Addr):Prop where
 ErrInvalid:GB 0=some [.iface 395 (.pointer (some ai))]
 ErrLimit:GB 3=some [.iface 395 (.pointer (some al))]
 ErrRing:GB 1=some [.iface 395 (.pointer (some ar))]
def ja.up(h:ja GB ai al ar)(k:bI GB GB'):ja GB' ai al ar:=⟨k _ _ h.ErrInvalid,k _ _ h.ErrLimit,k _ _ h.ErrRing⟩
def Zr{r:WP}(h:L[k]? =some r):(((L.map WP.p).take k).map eZ)++[eZ r.p]=((L.map WP.p).take (k+1)).map eZ:=Dz (by rw[bL,h];rfl)
theorem okl{p:Prop}(h:p:=by rw[hm1]<;>rfl):p:=h
theorem ozv{p:Prop}(h:p:=by obtain rfl:k=j:=we;rw[hj] at hx;cases hx;exact hb):p:=h
def aB7(hE:ja GB ai al ar){r:WP}(hs: ∀r∈L,r.sm)(hn:L.length<=50)(hj:L[j]? =some r)(hb: ¬r.nm)(hpre: ∀k q,k<j->L[k]? =some q->q.nm): ∃s,PE GB prog 88 [.sl (L.map WP.D)] (sI ai s) (fun u=> .tp [.sl [],t8 u]):=by
 apply Exists.intro;have hm1:(L.map WP.D).length=L.length:=aX ..;have hjl:=(aT.1 hj).1;refine yZ (fu:=⟨11⟩) func88 J J ntmps88 J J (fun C=>?_);refine aj 13 (.d (vI (L.length:Nat))) J okl<|gx (fu:=⟨0⟩) J<|bO (fu:=⟨15⟩) J (omh we) J<|aj 20 (.d (vI (L.length:Nat))) J okl<|gx J<|nr 4 4 181 6 J J J<|lp (X:=Nat) (fun k=>[(21, .d (vI (k:Nat))),(4, .rw 4)]) (fun k=>[(4,some (.b 181 6 (((L.map WP.p).take k).map eZ) true))]) (fun k=>k<=j) (fun k=>L.length-k) 0 J (aS _) (fun _=>J) (fun k hk=>?_);have hm3:(((L.map WP.p).take k).map eZ).length<=k:=by rw[aX,bT];omega
 refine br J J J (fun hc22=>?_) (fun hc22=>?_)
 .
  obtain⟨q,hx⟩: ∃u,L[k]? =some u:=⟨_,aQ we⟩;have hqs:=hs q (aK hx);refine ix _ J (ce hx) J<|cl J (aLc (r:=q) hqs) J<|bb J J J (fun hc28=>?_) (fun hc28=>?_)
  .
   obtain rfl:j=k:=by rcases gN k j with h|h;exact absurd (hpre k q h hx) (by simpa using hc28);omega
   refine gl J hE.ErrInvalid J<|cl (fu:=⟨0⟩) J (UK (i:=j)) J<|D5 (fu:=⟨0⟩) J (by have:=Dr j;show 7+_<=1000000;omega) J<|D5 (fu:=⟨1⟩) J (by rw[ByteArray.size_append];have:=Dr j;show 7+_+22<=1000000;omega) J<|xb (fu:=⟨0⟩) J J<|Jc J Ht J<|Jg 3 J (fun GB1 u hg1 hu=>?_);exact zy u hu J J
  .
   have hqn:q.nm:=by simpa using hc28
   refine cl rfl (aDJ (r:=q) hqs hqn) rfl<|rf J J<|ap (((L.map WP.p).take (k+1)).map eZ) rfl (Zr hx) (Fe [q.p]) rfl<|d8 41 4 rfl<|at_ (k+1) ⟨(by rcases gN k j with h|h;omega;exact absurd (by simpa using hc28) ozv),we⟩
 .
  exact absurd hc22 we
theorem okd{p:Prop}(h:p:=by rw[he7]<;>rfl):p:=h
def VB(hE:ja GB ai al ar)(hb: ∀p∈v,aE p i)(hi:i<=100000)(hn:v.length<=4000)(hd3:gz v v.length<3): ∃s,PE GB prog 88 [.sl (v.map iz)] (sI ar s) (fun u=> .tp [.sl [],t8 u]):=by
 apply Exists.intro;have hm1:(v.map iz).length=v.length:=aX ..;have hm2:(v.map eZ).length=v.length:=aX ..;refine yZ (fu:=⟨11⟩) func88 J J ntmps88 J J (fun C=>?_);refine aj 13 (.d (vI (v.length:Nat))) J okl<|gx (fu:=⟨0⟩) J<|bO (fu:=⟨15⟩) J (omh we) J<|aj 20 (.d (vI (v.length:Nat))) J okl<|gx J<|nr 4 4 181 6 J J J<|lp (X:=Nat) (fun k=>[(21, .d (vI (k:Nat))),(4, .rw 4)]) (fun k=>[(4,some (.b 181 6 ((v.take k).map eZ) true))]) (fun k=>k<=v.length) (fun k=>v.length-k) 0 J (aS _) (fun _=>J) (fun k hk=>?_);have hm3:((v.take k).map eZ).length<=k:=by rw[aX,bT];omega
 refine br (fu2:=⟨0⟩) J J J (fun hc22=>?_) (fun hc22=>?_)
 .
  obtain⟨p,hx⟩: ∃u,v[k]? =some u:=⟨_,aQ we⟩;haveI:=hb p (aK hx);refine ix _ J (ce hx) J<|cl (fu:=⟨0⟩) J (JL (p:=p) (i:=i) we) J<|fD 27 J<|gx J<|cl J (FM (p:=p) (i:=i) we) J<|rf J J<|ap ((v.take (k+1)).map eZ) J (Dz hx) (Fe [p]) J<|d8 41 4 J<|at_ (k+1) ⟨we,we⟩
 .
  obtain rfl:k=v.length:=by omega
  rw[dQ];refine lv 4 J<|gx (fu:=⟨15⟩) J<|aj 44 (.d (vI (v.length:Nat))) J okx<|gx J<|lp (X:=Nat) (fun k=>[(45, .d (vI (k:Nat))),(7, .d (vI ((gz v k):Nat)))]) (fun k=>[]) (fun k=>k<=v.length) (fun k=>v.length-k) 0 J (aS _) (fun _=>J) (fun k hk=>?_);have hdm:=Iz v k;refine br (fu2:=⟨9⟩) J J J (fun hc46=>?_) (fun hc46=>?_)
  .
   obtain⟨p,hx⟩: ∃u,v[k]? =some u:=⟨_,aQ we⟩;haveI:=hb p (aK hx);have hcm:=FG (l:=v) (k:=k);refine ix _ J (ce hx) J<|cs 52 J J J (fun hg52=>?_) (fun hg52=>?_)
   .
    refine cl J (JT (l:=v) (p:=p) (i:=i) hb we we) J<|br J J J (fun hc58=>?_) (fun hc58=>?_)
    .
     have he7:=H4 we (yD hx);refine aj 7 (.d (vI (gz v (k+1):Nat))) J okd<|at_ (k+1) ⟨we,we⟩
    .
     have he7:=yG (.inr (J7 hx)) hcm;refine aj 7 (.d (vI (gz v (k+1):Nat))) J okd<|at_ (k+1) ⟨we,we⟩
   .
    have he7:=yG (l:=v) (k:=k) (.inl we) hcm;refine aj 7 (.d (vI (gz v (k+1):Nat))) J okd<|at_ (k+1) ⟨we,we⟩
  .
   obtain rfl:k=v.length:=by omega
   refine cF J (omg we) J<|gl (fu:=⟨1⟩) J hE.ErrRing J<|xb (fu:=⟨0⟩) J J<|Jc J Ht J<|Jg 3 J (fun GB1 u hg1 hu=>?_);exact zy u hu J J
def VE(hE:ja GB ai al ar)(hb: ∀p∈v,aE p i)(hi:i<=100000)(hn:v.length<=50)(h3:3<=dC v v.length)(hj:j<v.length)(hbad: ∀p q:ah,v[j]? =some p->v[(j+1)%v.length]? =some q->p.x=q.x/\p.y=q.y)(hpre: ∀(k:Nat) (p q:ah),k<j->v[k]? =some p->v[(k+1)%v.length]? =some q-> ¬(p.x=q.x/\p.y=q.y)):PE GB prog 88 [.sl (v.map iz)] (sI ar (.string (⟨#[116,104,101,32,101,100,103,101,32,102,114,111,109,32,118,101,114,116,101,120,32]⟩++F4 j++⟨#[32,104,97,115,32,110,111,32,108,101,110,103,116,104]⟩))) (fun u=> .tp [.sl [],t8 u]):=by
 have hm1:(v.map iz).length=v.length:=aX ..;have hm2:(v.map eZ).length=v.length:=aX ..;have hrl:(mp v).length=v.length:=by unfold mp;rw[aX,kL]
 refine Yv (fu:=⟨11⟩) func88 J J ntmps88 J J (fun C h0=>?_);refine aj 13 (.d (vI (v.length:Nat))) J okl<|gx (fu:=⟨0⟩) J<|bO (fu:=⟨15⟩) J (omh we) J<|aj 20 (.d (vI (v.length:Nat))) J okl<|gx J<|nr 4 4 181 6 J J J<|lp (X:=Nat) (fun k=>[(21, .d (vI (k:Nat))),(4, .rw 4)]) (fun k=>[(4,some (.b 181 6 ((v.take k).map eZ) true))]) (fun k=>k<=v.length) (fun k=>v.length-k) 0 J (aS _) (fun _=>J) (fun k hk=>?_);have hm3:((v.take k).map eZ).length<=k:=by rw[aX,bT];omega
 refine br (fu2:=⟨0⟩) J J J (fun hc22=>?_) (fun hc22=>?_)
 .
  obtain⟨p,hx⟩: ∃u,v[k]? =some u:=⟨_,aQ we⟩;haveI:=hb p (aK hx);refine ix _ J (ce hx) J<|cl (fu:=⟨0⟩) J (JL (p:=p) (i:=i) we) J<|fD 27 J<|gx J<|cl J (FM (p:=p) (i:=i) we) J<|rf J J<|ap ((v.take (k+1)).map eZ) J (Dz hx) (Fe [p]) J<|d8 41 4 J<|at_ (k+1) ⟨we,we⟩
 .
  obtain rfl:k=v.length:=by omega
  rw[dQ];refine lv 4 J<|gx (fu:=⟨15⟩) J<|aj 44 (.d (vI (v.length:Nat))) J okx<|gx J<|lp (X:=Nat) (fun k=>[(45, .d (vI (k:Nat))),(7, .d (vI ((gz v k):Nat)))]) (fun k=>[]) (fun k=>k<=v.length) (fun k=>v.length-k) 0 J (aS _) (fun _=>J) (fun k hk=>?_);have hdm:=Iz v k;refine br (fu2:=⟨9⟩) J J J (fun hc46=>?_) (fun hc46=>?_)
  .
   obtain⟨p,hx⟩: ∃u,v[k]? =some u:=⟨_,aQ we⟩;haveI:=hb p (aK hx);have hcm:=FG (l:=v) (k:=k);refine ix _ J (ce hx) J<|cs 52 J J J (fun hg52=>?_) (fun hg52=>?_)
   .
    refine cl J (JT (l:=v) (p:=p) (i:=i) hb we we) J<|br J J J (fun hc58=>?_) (fun hc58=>?_)
    .
     have he7:=H4 we (yD hx);refine aj 7 (.d (vI (gz v (k+1):Nat))) J okd<|at_ (k+1) ⟨we,we⟩
    .
     have he7:=yG (.inr (J7 hx)) hcm;refine aj 7 (.d (vI (gz v (k+1):Nat))) J okd<|at_ (k+1) ⟨we,we⟩
   .
    have he7:=yG (l:=v) (k:=k) (.inl we) hcm;refine aj 7 (.d (vI (gz v (k+1):Nat))) J okd<|at_ (k+1) ⟨we,we⟩
  .
   obtain rfl:k=v.length:=by omega
   have hd3:=QI h3;refine bO (fu:=⟨9⟩) J (omh we) J<|?_;have hE0:=hE;refine Eh J J J EE (fun _=>J) (fun GB1 pv hg1 hpv=>?_);have hE:=hE0.up hg1;refine wq 2 2000002 h0.fx J<|wq 3 2000003 h0.fx J ?_;refine CE (σ:=Unit) (fun _=>[(2000002,some (.o 108 [.nl] true)),(2000003,some (.o 41 [.d (.v .nilIface)] true))]) (fun k=>k<=j) (fun _=>[(2000002,some (.o 108 [.nl] true)),(2000003,some (.o 41 [.ip 262 (sI ar (.string (⟨#[116,104,101,32,101,100,103,101,32,102,114,111,109,32,118,101,114,116,101,120,32]⟩++F4 j++⟨#[32,104,97,115,32,110,111,32,108,101,110,103,116,104]⟩)))] true))]) (fun _=>True) [(2, .ov 2000002 0),(3, .ov 2000003 0),(4, .d (.sl (v.map eZ)))] h0 J (D2) (.cons hpv .nil) ⟨J,J,J,trivial⟩ J ⟨J,J,trivial⟩ (aS _) DQ J J (fun k e GB' hE2 hg hp=>?_) (fun D hD hx hp=>?_) (fun D s hD hx hq=>?_)
   .obtain⟨p,q,hpx,hqx,rfl⟩:=Ep hE2
    haveI:=hb p (aK hpx);haveI:=hb q (aK hqx);have hE:=hE.up hg;refine⟨?_,?_,fun C2=>?_,fun C2=>?_⟩
    rotate_left 2
    .refine gx J<|Cu J J J ⟨J,J,J⟩ J ?_
     exact atR
    .refine gx J<|m6 0 (e:=181) (len:=2) (s:=6) J omd omd oma J<|m6 1 (e:=181) (len:=2) (s:=6) J omd omd oma J<|cl J (Ie (p:=p) (q:=q) (i:=i) we) J<|bd J J J (fun hc=>?_) (fun hc=>?_)
     .obtain rfl:j=k:=by rcases gN k j with h|h;exact absurd hc (hpre k p q h hpx hqx);omega
      refine gl J hE.ErrRing J<|cl (fu:=⟨0⟩) J (UK (i:=j)) J<|D5 (fu:=⟨0⟩) J (by have:=Dr j;show 21+_<=1000000;omega) J<|D5 (fu:=⟨1⟩) J (by rw[ByteArray.size_append];have:=Dr j;show 21+_+14<=1000000;omega) J<|xb (fu:=⟨0⟩) J J<|Jc J Ht J<|?_;exact Tm () trivial ⟨J,J,trivial⟩
     .have hkj:k≠j:=fun e=>by subst e;exact hc (hbad p q hpx hqx)
      exact rq we ⟨J,J,trivial⟩
   .exact absurd hp (by rw[hrl];omega)
   .refine gx J<|Jg 2000003 J (fun GB3 u hg3 hu=>?_)
    exact U9 u hu hD hx J J
def av9(hb: ∀p∈v,aE p i)(hi:i<=100000)(hn:v.length<=4000)(h3:3<=dC v v.length)(hne: ∀(k:Nat) (p q:ah),v[k]? =some p->v[(k+1)%v.length]? =some q-> ¬(p.x=q.x/\p.y=q.y)):PF GB prog 88 [.sl (v.map iz)] (.tp [.sl (v.map eZ), .v .nilIface]):=by
 have hm1:(v.map iz).length=v.length:=aX ..;have hm2:(v.map eZ).length=v.length:=aX ..;have hrl:(mp v).length=v.length:=by unfold mp;rw[aX,kL]
 refine K9 (fu:=⟨11⟩) func88 J J ntmps88 J J (fun C h0=>?_);refine aj 13 (.d (vI (v.length:Nat))) J okl<|gx (fu:=⟨0⟩) J<|bO (fu:=⟨15⟩) J (omh we) J<|aj 20 (.d (vI (v.length:Nat))) J okl<|gx J<|nr 4 4 181 6 J J J<|lp (X:=Nat) (fun k=>[(21, .d (vI (k:Nat))),(4, .rw 4)]) (fun k=>[(4,some (.b 181 6 ((v.take k).map eZ) true))]) (fun k=>k<=v.length) (fun k=>v.length-k) 0 J (aS _) (fun _=>J) (fun k hk=>?_);have hm3:((v.take k).map eZ).length<=k:=by rw[aX,bT];omega
 refine br (fu2:=⟨0⟩) J J J (fun hc22=>?_) (fun hc22=>?_)
 .
  obtain⟨p,hx⟩: ∃u,v[k]? =some u:=⟨_,aQ we⟩;haveI:=hb p (aK hx);refine ix _ J (ce hx) J<|cl (fu:=⟨0⟩) J (JL (p:=p) (i:=i) we) J<|fD 27 J<|gx J<|cl J (FM (p:=p) (i:=i) we) J<|rf J J<|ap ((v.take (k+1)).map eZ) J (Dz hx) (Fe [p]) J<|d8 41 4 J<|at_ (k+1) ⟨we,we⟩
 .
  obtain rfl:k=v.length:=by omega
  rw[dQ];refine lv 4 J<|gx (fu:=⟨15⟩) J<|aj 44 (.d (vI (v.length:Nat))) J okx<|gx J<|lp (X:=Nat) (fun k=>[(45, .d (vI (k:Nat))),(7, .d (vI ((gz v k):Nat)))]) (fun k=>[]) (fun k=>k<=v.length) (fun k=>v.length-k) 0 J (aS _) (fun _=>J) (fun k hk=>?_);have hdm:=Iz v k;refine br (fu2:=⟨9⟩) J J J (fun hc46=>?_) (fun hc46=>?_)
  .
   obtain⟨p,hx⟩: ∃u,v[k]? =some u:=⟨_,aQ we⟩;haveI:=hb p (aK hx);have hcm:=FG (l:=v) (k:=k);refine ix _ J (ce hx) J<|cs 52 J J J (fun hg52=>?_) (fun hg52=>?_)
   .
    refine cl J (JT (l:=v) (p:=p) (i:=i) hb we we) J<|br J J J (fun hc58=>?_) (fun hc58=>?_)
    .
     have he7:=H4 we (yD hx);refine aj 7 (.d (vI (gz v (k+1):Nat))) J okd<|at_ (k+1) ⟨we,we⟩
    .
     have he7:=yG (.inr (J7 hx)) hcm;refine aj 7 (.d (vI (gz v (k+1):Nat))) J okd<|at_ (k+1) ⟨we,we⟩
   .
    have he7:=yG (l:=v) (k:=k) (.inl we) hcm;refine aj 7 (.d (vI (gz v (k+1):Nat))) J okd<|at_ (k+1) ⟨we,we⟩
  .
   obtain rfl:k=v.length:=by omega
   have hd3:=QI h3;refine bO (fu:=⟨9⟩) J (omh we) J<|Eh J J J EE (fun _=>J) (fun GB1 pv hg1 hpv=>?_);refine wq 2 2000002 h0.fx J<|wq 3 2000003 h0.fx J ?_;refine CE (σ:=Empty) (fun _=>[(2000002,some (.o 108 [.nl] true)),(2000003,some (.o 41 [.d (.v .nilIface)] true))]) (fun _=>True) (fun _=>[]) (fun _=>False) [(2, .ov 2000002 0),(3, .ov 2000003 0),(4, .d (.sl (v.map eZ)))] h0 J (D2) (.cons hpv .nil) ⟨J,J,J,trivial⟩ J ⟨J,J,trivial⟩ trivial DQ J J (fun k e GB' hE hg hp=>?_) (fun D hD hx hp=>?_) (fun D s hD hx hq=>hq.elim)
   .obtain⟨p,q,hpx,hqx,rfl⟩:=Ep hE
    haveI:=hb p (aK hpx);haveI:=hb q (aK hqx);have hne2:=hne k p q hpx hqx;refine⟨?_,?_,fun C2=>?_,fun C2=>?_⟩
    rotate_left 2
    .refine gx J<|Cu J J J ⟨J,J,J⟩ J ?_
     exact atR
    .refine gx J<|m6 0 (e:=181) (len:=2) (s:=6) J omd omd oma J<|m6 1 (e:=181) (len:=2) (s:=6) J omd omd oma J<|cl J (Ie (p:=p) (q:=q) (i:=i) we) J<|bd J J J (fun hc=>absurd hc hne2) (fun hc=>?_)
     exact rq trivial ⟨J,J,trivial⟩
   .refine gx J<|?_
    exact FE hD hx J J
def fk(r:List WP):DV:= .sl (r.map WP.D)
def cj(r:List WP):List ah:=r.map WP.p
def ZE(v:List ah):DV:= .sl (v.map eZ)
structure lC (r:List WP):Prop where
 sm: ∀q∈r,q.sm
 nm: ∀q∈r,q.nm
 n9:r.length<=9
 c3:3<=dC (cj r) (cj r).length
 ne: ∀i<(cj r).length,tD ((cj r).getD i PZ) (j' (cj r) i)
def px(r:List WP):(cj r).length=r.length:=aX ..
theorem oA(s: ∀q∈r,q.sm)(h: ∀q∈r,q.nm): ∀p∈cj r,aE p 22:=fun p hp=>by
 obtain⟨q,hq,rfl⟩:=aU.1 hp;exact WP.bpt (s q hq) (h q hq)
def zU(s: ∀q∈r,q.sm)(h: ∀q∈r,q.nm):fk r= .sl ((cj r).map iz):=by
 unfold fk cj;rw[pY];congr 1;exact uJ fun q hq=>WP.eq (s q hq) (h q hq)
def Cb(h1:v[k]? =some p)(h2:v[(k+1)%v.length]? =some q):p=v.getD k PZ/\q=j' v k:=⟨(T5 h1).2,aHG h2⟩
def Sp(h:lC r):PF GB prog 88 [fk r] (.tp [ZE (cj r), .v .nilIface]):=by
 rw[zU h.sm h.nm];exact av9 (i:=22) (oA h.sm h.nm) oma (by have:=h.n9;have:=px r;omega) h.c3 fun k p q hp hq=>by
  obtain⟨e1,e2⟩:=Cb hp hq;rw[e1,e2];exact h.ne k (aT.1 hp).1
def wj(ai ar:Addr)(r:List WP)(a:Addr):Prop:=(a=ai/\ ∃q∈r,¬q.nm)\/(a=ar/\(∀q∈r,q.nm)/\(dC (cj r) (cj r).length<3\/ ∃i<(cj r).length,¬tD ((cj r).getD i PZ) (j' (cj r) i)))
def OF{α:Type}{P:α->Prop}: ∀{l:List α},(∃q∈l,P q)-> ∃(j:Nat) (q:α),l[j]? =some q/\P q/\ ∀k x,k<j->l[k]? =some x-> ¬P x
 |[],⟨_,h,_⟩=>by cases h
 |a::t,h=>by
  by_cases ha:P a
  .exact⟨0,a,J,ha,fun k x hk=>absurd hk (pU k)⟩
  .obtain⟨q,hq,hp⟩:=h
   have ht: ∃q∈t,P q:=by
    rcases aW.1 hq with rfl|hq
    .exact absurd hp ha
    .exact⟨q,hq,hp⟩
   obtain⟨j,q,h1,h2,h3⟩:=OF ht;refine⟨j+1,q,h1,h2,fun k x hk hx=>?_⟩
   match k with
   |0=>cases hx;exact ha
   |k+1=>exact h3 k x we hx
def Sh{P:Nat->Prop}: ∀{n:Nat},(∃i<n,P i)-> ∃j<n,P j/\ ∀k<j,¬P k
 |0,⟨_,h,_⟩=>absurd h (pU _)
 |n+1,h=>by
  by_cases hn: ∃i<n,P i
  .obtain⟨j,h1,h2,h3⟩:=Sh hn
   exact⟨j,we,h2,h3⟩
  .obtain⟨i,h1,h2⟩:=h
   have:i=n:=by
    rcases gN i n with k|k
    .exact absurd ⟨i,k,h2⟩ hn
    .omega
   subst this;exact⟨i,we,h2,fun k hk h=>hn ⟨k,hk,h⟩⟩
def Yz(hE:ja GB ai al ar)(hs: ∀q∈r,q.sm)(hn:r.length<=9)(h:wj ai ar r a): ∃s,PE GB prog 88 [fk r] (sI a s) (fun u=> .tp [.sl [],t8 u]):=by
 have hl:=px r;rcases h with⟨rfl,hq⟩|⟨rfl,hnm,hc⟩
 .obtain⟨j,q,h1,h2,h3⟩:=OF hq
  exact aB7 hE hs we h1 h2 fun k x hk hx=>Classical.byContradiction fun e=>h3 k x hk hx e
 .rw[zU hs hnm]
  by_cases h3:dC (cj r) (cj r).length<3
  .exact VB hE (i:=22) (oA hs hnm) oma we (by unfold gz;rw[if_neg we];exact h3)
  .obtain⟨j,j1,j2,j3⟩:=Sh (hc.resolve_left h3)
   exact⟨_,VE hE (i:=22) (oA hs hnm) oma we we j1
    (fun p q hp hq=>by obtain⟨e1,e2⟩:=Cb hp hq;rw[e1,e2];exact Classical.byContradiction fun e=>j2 e)
    (fun k p q hk hp hq=>by obtain⟨e1,e2⟩:=Cb hp hq;rw[e1,e2];exact Classical.byContradiction fun e=>j3 k hk fun d=>e d)⟩
theorem aJB(h:Cj p):aE p 14:=by
 have key: ∀{a:Nat},a<=2^96->a<2^(7*14):=fun h=>dZ h oma;exact⟨⟨key h.xn,key h.xd⟩,⟨key h.yn,key h.yd⟩⟩
theorem Vm(hB:oz V): ∀v∈V,aE v 14:=fun v hv=>aJB (hB.bd v hv)
theorem RO{a c:Rat}(h: ∃(W:Nat) (x y z:Int),0<W/\W<2^582/\x.natAbs<2^582/\y.natAbs<2^582/\z.natAbs<2^582/\a*((W:Int):Rat)=(x:Rat)/\b*((W:Int):Rat)=(y:Rat)/\c*((W:Int):Rat)=(z:Rat)):BQ a 582/\BQ b 582/\BQ c 582:=by
 obtain⟨W,x,y,z,hW,hw,hx,hy,hz,e1,e2,e3⟩:=h;exact⟨Iu hW e1 hx hw,Iu hW e2 hy hw,Iu hW e3 hz hw⟩
theorem aGt(hc:d5 c){n:ah}[hn:aE n 29]{m:Rat}(h:hH c n=some m):BQ m 7059:=by
 unfold hH at h;split at h
 .cases h
 .rename_i h0
  split at h
  .cases h
  .cases h
   have hne:c≠[]:=fun e=>h0 (by rw[e];rfl);exact Qj (n:=n) (i:=29) (RR hc) (T9 hne)
theorem aLo[hp:aE p 14][hq:aE q 14]:aE (bG (p,q)) 29:=by
 have h:=DK q p (i:=14) (j:=14);exact⟨inferInstanceAs (BQ (-(q.y-p.y)) 29),inferInstanceAs (BQ (q.x-p.x) 29)⟩
def YG(hb: ∀l∈ls,LB l)(ho: ∀l∈ls,l.ok)(hn:ls.length<=10000):PF GB prog 49 [.sl (ls.map co)] (.tp [eC ((eO ls []).getD []),vB (eO ls []).isSome]):=by
 cases h:eO ls [] with
 |none=>exact MF hb ho hn h
 |some c=>exact Py hb ho hn h
theorem F0{l:aa}(h:BL l 582):LB l:=⟨BL.mono h⟩
def MK(hV:oz V)(hc:d5 c)(hg:bF c)(ha:f9 c)(hk: ∀s∈c,BL s.l 96)(hn:c.length<=900):PF GB prog 50 [eC c, .sl (V.map eZ)] (eC (mh V c)):=by
 have hVb:=Vm hV;have hV4:=hV.le;have hml:(c.map di).length=c.length:=aX ..;have hpl:(cG V).length=V.length:=by unfold cG;rw[aX,kL]
 have hrl:(mp V).length=(cG V).length:=by unfold mp;rw[aX,kL,hpl]
 refine K9 func50 J J ntmps50 J J (fun C h0=>?_);refine FP 5 0 50 172 9 J J J J J<|lp (X:=Nat) (fun k=>[(22, .d (vI (k:Nat))),(5, .ov 5 0)]) (fun k=>[(5,some (.o 104 [.rw 50] true)),(50,some (.b 172 9 (((c.take k).map fun s=>kn s.l V).map co) true))]) (fun k=>k<=c.length) (fun k=>c.length-k) 0 J (aS _) (fun _=>J) (fun k hkc=>?_);have hm3:(((c.take k).map fun s=>kn s.l V).map co).length<=k:=by rw[aX,aX,bT];omega
 refine br J J J (fun hc23=>?_) (fun hc23=>?_)
 .obtain⟨s,hx⟩: ∃u,c[k]? =some u:=⟨_,aQ we⟩
  have hsm:=aK hx;haveI:=(hc s hsm).lb;obtain⟨q1,q2,q3⟩:=RO (LF (hk s hsm) hV.vne hV.bd);haveI hl0:=Qj (n:=s.l.nor) (i:=97) hVb hV.vne;have hne:=Fg (hg.ok s hsm);refine ix _ J (ce hx) J<|cl J (xm (l:=s.l)) J<|cl J (LN (n:=s.l.nor) (l:=V) (i:=97) (j:=14) hVb hV.vne oma oma we) J<|cl J (rP (p:=(s.l.c:Rat)) (q:=kz s.l.nor V) (i:=97) (j:=97+14+(97+14)+1)) J<|cl J (MU (a:=(s.l.a:Rat)) (b:=(s.l.b:Rat)) (c:=(s.l.c:Rat)-kz s.l.nor V) (i:=582) hne) J<|rf J J<|ap (((c.take (k+1)).map fun s=>kn s.l V).map co) J (avf hx) (QH [_]) J<|d8 47 50 J<|at_ (k+1) ⟨we,we⟩
 .obtain rfl:k=c.length:=by omega
  rw[dQ,<-ZV c V];refine Eh J J J EE (fun _=>J) (fun GB1 pv hg1 hpv=>?_);refine wq 2 2000002 h0.fx J<|wq 5 2000005 h0.fx J ?_;refine CE (σ:=Empty) (fun k=>[(2000002,some (.o 112 [.d (eC c)] true)),(2000005,some (.o 104 [.rw 50] true)),(50,some (.b 172 9 ((mI c V k).map co) true))]) (fun _=>True) (fun _=>[]) (fun _=>False) [(2, .ov 2000002 0),(5, .ov 2000005 0)]
   h0 J (D2) (.cons hpv .nil) ⟨J,J,trivial⟩ J ⟨J,J,J,trivial⟩ trivial DQ J J (fun k e GB' hE hg2 hp=>?_) (fun D hD hx hp=>?_) (fun D s hD hx hq=>hq.elim)
  .obtain⟨q1,q2,hpx,hqx,rfl⟩:=Ep hE
   haveI:=hVb q1 (aK hpx);haveI:=hVb q2 (aK hqx);have z1:=hV.bd q1 (aK hpx);have z2:=hV.bd q2 (aK hqx);have hpr:=aDR hpx hqx;have hnz:=hV.nz _ (aK hpr);haveI hn9:aE (bG (q1,q2)) 29:=aLo;refine⟨?_,?_,fun C2=>?_,fun C2=>?_⟩
   rotate_left 2
   .refine gx J<|Cu J J J ⟨J,J,J⟩ J ?_
    exact atR
   .skip
    refine gx J<|m6 1 (e:=181) (len:=2) (s:=6) J omd omd oma J<|m6 0 (e:=181) (len:=2) (s:=6) J omd omd oma J<|cl J (Ki (p:=q2) (q:=q1) (i:=14) (j:=14)) J<|cl (fu:=⟨0⟩) J (aEH (p:=⟨q2.x-q1.x,q2.y-q1.y⟩) (i:=29) (h:=DK q2 q1)) J<|aj 58 (.d (eZ (bG (q1,q2)))) J J<|gx J<|?_;rcases hf:hH c (bG (q1,q2)) with _|m
    .
     rw[XG hpr hf];refine cl (fu:=⟨3⟩) J (aHr (c:=c) (n:=bG (q1,q2)) (j:=29) hc oma we hf) J<|iG 64 J<|gx J<|?_;exact rq trivial ⟨J,J,J,trivial⟩
    .
     obtain⟨u1,u2,u3⟩:=RO (OV hg ha hk hnz z1 z2 hf);haveI:BQ m 7059:=aGt hc hf;have hm4:=Ue c V k;have hm5:((mI c V k).map co).length<=c.length+V.length:=by rw[aX];exact hm4
     refine cl (fu:=⟨3⟩) J (aKh (c:=c) (n:=bG (q1,q2)) (j:=29) hc oma we hf) J<|fD 64 J<|gx J<|m6 0 (e:=181) (len:=2) (s:=6) J omd omd oma J<|cl J (wv (p:=bG (q1,q2)) (q:=q1) (i:=29) (j:=14)) J<|cl J (tf (p:=m) (q:=(bG (q1,q2)).dot q1) (i:=7059) (j:=87)) J<|cl J (tj (q:=m+(bG (q1,q2)).dot q1) (i:=7147)) J<|cl J (MU (a:=(bG (q1,q2)).x) (b:=(bG (q1,q2)).y) (c:= -(m+(bG (q1,q2)).dot q1)) (i:=582) hnz) J<|rf J J<|ap ((mI c V (k+1)).map co) J (at5 hpr hf) (QH [_]) J<|d8 84 50 J ?_;exact rq trivial ⟨J,J,J,trivial⟩
  .rw[hrl,N8]
   refine gx J<|fz 50 J J<|cl J (YG (ls:=iH c V (cG V)) (fun l hl=>F0 (wS hV hg ha hk l hl).1) (fun l hl=>(wS hV hg ha hk l hl).2) (by have:=Ue c V (cG V).length;rw[N8] at this;omega)) J<|?_;exact FE hD hx J J
def axF{cs:List av}(h:cs[k]? =some c):((cs.take k).map (kB V)).map eU++[eU (kB V c)]=((cs.take (k+1)).map (kB V)).map eU:=by
 rw[dW,h,aM,aM];rfl
def azE(hV:oz V)(g1:bF c)(g2:f9 c)(hk: ∀s∈c,BL s.l 96)(hn:c.length<=900):(kB V c).gd/\(kB V c).size<=65536:=by
 obtain⟨k1,k2⟩:=AE hV g1 g2 hk;have hs:=wS hV g1 g2 hk;unfold kB;refine⟨⟨xt fun l hl=>?_,xt fun l hl=>?_⟩,?_⟩
 .obtain⟨s,hs',rfl⟩:=aU.1 hl;exact F0 (hs _ (k1 s hs')).1
 .obtain⟨s,hs',rfl⟩:=aU.1 hl;exact(hs _ (k1 s hs')).2
 .rw[Sg,aX]
  have:=hV.le;omega
def Y5(hE:EG GB ai al ae)(hV:oz V)(hb:t.all LB)(ho:t.all aa.ok)(hk:t.all fun l=>BL l 96)(hd:t.depth<=800)(hs:t.size<=60000)(hq:mE 1 (Tr.leaf false) ((dE (t.restrict [])).map (kB V))=some u):PF GB prog 39 [eU t, .sl (V.map eZ)] (.tp [eU u, .v .nilIface]):=by
 obtain⟨cs,hcs⟩: ∃cs,cs=dE (t.restrict []):=⟨_,rfl⟩;rw[<-hcs] at hq;have hrs:=t.restrict_size [];have hrd:=t.restrict_depth [];have hrb:=t.restrict_all LB [] hb;have hro:=t.restrict_all aa.ok [] ho;have hrk:=t.restrict_all _ [] hk;have hcl:cs.length<=60001:=by rw[hcs];exact cN (J1 _) we
 have hml:(cs.map eC).length=cs.length:=aX ..;have hcx: ∀c∈cs,bF c/\f9 c/\d5 c/\(∀s∈c,BL s.l 96)/\c.length<=900:=fun c hc=>by rw[hcs] at hc;obtain⟨g1,g2⟩:=B7 ho c hc;exact⟨g1,g2,(Cl hrb hro d5.nil (vR.1 hc)).1,zP (P:=fun l=>BL l 96) (fun l h=>h.rev) hrk (fun s hs=>by cases hs) (vR.1 hc),by have:=H3 hrb hro c hc;omega⟩
 refine fn func39 J J ntmps39 J J (fun C=>?_);refine cl (fu:=⟨0⟩) J (yB (t:=t) we) J<|bO J (omh we) J<|cl J (PA (t:=t) hb ho) J<|cl (fu:=⟨0⟩) J (Wz (t:=t.restrict []) hrb hro we we) J<|aj 16 (.d (.sl (cs.map eC))) J (by rw[hcs])<|gx (fu:=⟨1⟩) J<|aj 17 (.d (vI (cs.length:Nat))) J omo<|gx J<|nr 6 6 149 1 J J J<|lp (X:=Nat) (fun k=>[(18, .d (vI (k:Nat))),(6, .rw 6)]) (fun k=>[(6,some (.b 149 1 (((cs.take k).map (kB V)).map eU) true))]) (fun k=>k<=cs.length) (fun k=>cs.length-k) 0 J (aS _) (fun _=>J) (fun k hk=>?_);have hm3:(((cs.take k).map (kB V)).map eU).length<=k:=by rw[aX,aX,bT];omega
 refine br (fu2:=⟨0⟩) J J J (fun hc19=>?_) (fun hc19=>?_)
 .
  obtain⟨c,hx⟩: ∃u,cs[k]? =some u:=⟨_,aQ we⟩;obtain⟨g1,g2,hck,hbk,hsh⟩:=hcx c (aK hx);have hdl:(mh V c).length<=c.length+7:=by have h1:=(AE hV g1 g2 hbk).2;have:=hV.le;omega
  have hml2:((mh V c).map di).length=(mh V c).length:=aX ..;refine ix _ J (ce hx) J<|cl (fu:=⟨8⟩) J (MK (c:=c) (V:=V) hV hck g1 g2 hbk hsh) J<|aj 26 (.d (vI ((mh V c).length:Nat))) J (by rw[hml2]<;>rfl)<|gx (fu:=⟨0⟩) J<|bO J (omh we) J<|cl (fu:=⟨0⟩) J (XB (c:=mh V c) we) J<|aj 31 (.d (eU (kB V c))) J J<|gx J<|rf J J<|ap (((cs.take (k+1)).map (kB V)).map eU) J (axF hx) (aJz [_]) J<|d8 33 6 J<|at_ (k+1) ⟨we,we⟩
 .
  obtain rfl:k=cs.length:=by omega
  rw[dQ];refine lv 6 rfl<|gx rfl<|cl rfl (rg (b:=false)) rfl<|cl rfl (aD2 hE (op:=1) (a:= .leaf false) (us:=cs.map (kB V)) ⟨trivial,trivial⟩ oma (fun u hu=>by obtain⟨c,hc,rfl⟩:=aU.1 hu;obtain⟨g1,g2,_,hbk,hsh⟩:=hcx c hc;exact azE hV g1 g2 hbk hsh) ozl (by rw[if_neg oma];exact hq)) rfl<|rz J J
section
variable {own:aO}{r:List Oper}
def Pq(fr:aC)(cf:Cf):Option (TypeId×DV):=match c6 fr cf with
 |some ⟨_, .load t x,_,_,_,_⟩=>match bj (cd fr cf) x with
  |some (.ep (d::_))=>some (t,d)
  |_=>none
 |_=>none
def ldP[fu:Fu]{t:TypeId}{D:TypeDesc}{j:TypeInfo}(h:Pq fr cf=some (t,d))(hu:prog.underlying t=some D)(hD:aNG D=true)(hj:prog.info? t=some j)(hs:j.size=1)
  (hgo:cB tt n fu.n fr own cf (.d d) [] []=⟨vc,fr',own',cf'⟩)(k':aA prog GB C n Q0 fr' own' cf')
  (hv:autoParam (ak vc) cL._auto_1):aA prog GB C n Q0 fr own cf:=by
 unfold Pq at h;split at h<;>try (cases h;done)
 rename_i hh;split at h<;>cases h;rename_i hx;have:kC prog t:=⟨fun w=>by(rw[Bc hu w];cases D<;>first|rfl|(cases hD;done)),fun w=>by rw[vJ hj w,hs]⟩;refine us hh ?_ hgo hv k';refine .yd fun ρ G ov a w r=>?_;obtain⟨y,h1,h2⟩:=r.ev hx;obtain⟨b,o,ms,m,rfl,hb,ht,hm⟩:=h2;obtain⟨l',h3,h4⟩:=hm.get (i:=0) rfl;have:=H8 ht (i:=0) (Nat.succ_pos _);rw[gK] at this;exact⟨l',h4,si h1 hb (by rw[this];exact h3)⟩
def Qh(i:TI)(fr:aC)(cf:Cf):Option MT:=match c6 fr cf with
 |some ⟨some d, .buildSlice t len parts,_,_,_,_⟩=>match eo tt t with
  |some ⟨.sl e s _,_,_,_⟩=>match oD i with
   |some z=>match xK (cd fr cf) 0 parts.toList with
    |some ds=>bif Nat.beq z.cells.length s&&(Et s ds&&(Nat.beq parts.toList.length len&&(Nat.ble (len*s) 1000&&Nat.blt 0 (len*s)))) then some ⟨d,e,s,ds⟩ else none
    |none=>none
   |none=>none
  |_=>none
 |_=>none
def Fy[fu:Fu](i:TI){d e s:Nat}(h:Qh i fr cf=some ⟨d,e,s,ds⟩)(hi:fw prog e=some i)(hgo:cB tt n fu.n fr own cf (.d (.sl ds)) [(d,none)] [d]=⟨vc,fr',own',cf'⟩)(k:aA prog GB C n Q0 fr' own' cf')
  (hv:autoParam (ak vc) cL._auto_1):aA prog GB C n Q0 fr own cf:=by
 unfold Qh at h;split at h<;>try (cases h;done)
 rename_i hh;split at h<;>try (cases h;done)
 rename_i hT;split at h<;>try (cases h;done)
 rename_i hz;split at h<;>try (cases h;done)
 rename_i hr;rw[cond_eq_ite] at h;split at h<;>cases h;rename_i hc;simp only[bW] at hc;have:=lf (fi _ _ hT) J;exact us hh ((SW (GB:=GB) (C:=C) (n:=n) (bk:=jk fr own cf) hi hz hc.1 hr hc.2.1 hc.2.2.1 hc.2.2.2.1 hc.2.2.2.2).frzRow J) hgo hv k
end
def Ml(f:FuncId):DV:= .v (.func (.func f) #[] #[])
def XY(t u:Tr):Nat->Tr
 |0=>t
 |_=>u
def sv(V:List ah)(t:Tr):Tr:=qt V (cG V) t
def Jq(hV:A7 V)(h:oy t):gP 54 (sv V t)/\(sv V t).Red []/\(sv V t).all (fun l=>BL l 26):=(On hV h).2
def aDS{b:Nat}:PM GB prog 132 (kw [none,some (vI 0)] b) b 242 [.sl [], .sl [],vI 0, .v (.bool false)] (eU (.leaf false)) [.sl [], .sl [],vI 0, .v (.bool true)]:=by
 refine vU (fu:=⟨10⟩) func132 J J ntmps132 J J (fun C b m lo hmb=>?_);refine bO (fu:=⟨2⟩) J (omh we) J<|bO (fu:=⟨8⟩) J (omh we) J<|bO (fu:=⟨7⟩) J (omh we) J<|aj 28 (.d (vI 0)) J J<|gx (fu:=⟨0⟩) J<|cF J (omg we) J<|cl J (rg (b:=false)) J<|?_;exact jn hmb J J J J
def aLs:PF GB prog 74 [tP] (.tp [.v (.pointer none),vB false]):=by
 refine fn (fu:=⟨13⟩) func74 J J ntmps74 J J (fun C=>?_);refine aj 8 (.d (vI 0)) J J<|gx (fu:=⟨0⟩) J<|bO (fu:=⟨12⟩) J (omh we) J<|aj 14 (.d (vI 0)) J J<|gx J<|mk [] J J J J<|fz 15 J J<|cm (fu:=⟨10⟩) J (fun b=>aDS) J<|cF J J J<|rz J J
structure rx (GB:Gh) (ai al ar ae:Addr):Prop extends ja GB ai al ar where
 ErrEmpty:GB 2=some [.iface 395 (.pointer (some ae))]
def rx.egk(h:rx GB ai al ar ae):ja GB ai al ar:=⟨h.ErrInvalid,h.ErrLimit,h.ErrRing⟩
def rx.eg(h:rx GB ai al ar ae):EG GB ai al ae:=⟨h.ErrInvalid,h.ErrLimit⟩
def rx.upM(h:rx GB ai al ar ae)(k:bI GB GB'):rx GB' ai al ar ae:=⟨⟨k _ _ h.ErrInvalid,k _ _ h.ErrLimit,k _ _ h.ErrRing⟩,k _ _ h.ErrEmpty⟩
def Tg(r:List WP):DV:= .sl ((cj r).map eZ)
def nv(r:List WP):Bool:=rj (cj r)
def I9(h:lC r)(hc:nv r=true):PF GB prog 48 [fk r] (.tp [Tg r, .v .nilIface]):=by
 refine fn func48 J J ntmps48 J J (fun C=>?_);refine cl (fu:=⟨12⟩) J (Sp h) J<|bO J J J<|cl (fu:=⟨0⟩) J (L9 (v:=cj r) (i:=22) (oA h.sm h.nm) oma (by have:=px r;have:=h.n9;omega)) J<|aj 17 (.d (.v (.bool true))) J (by rw[<-hc]<;>rfl)<|fD 17 J<|gx J<|rz J J
def Sy(hE:ja GB ai al ar)(h:lC r)(hc:nv r=false):PF GB prog 48 [fk r] (.tp [.sl [],mc ar]):=by
 refine fn func48 J J ntmps48 J J (fun C=>?_);refine cl (fu:=⟨12⟩) J (Sp h) J<|bO J J J<|cl (fu:=⟨0⟩) J (L9 (v:=cj r) (i:=22) (oA h.sm h.nm) oma (by have:=px r;have:=h.n9;omega)) J<|aj 17 (.d (.v (.bool false))) J (by rw[<-hc]<;>rfl)<|iG 17 J<|gx J<|gl J hE.ErrRing J<|rz J J
def Og(hE:ja GB ai al ar)(hs: ∀q∈r,q.sm)(h9:r.length<=9)(hb:wj ai ar r a): ∃s,PE GB prog 48 [fk r] (sI a s) (fun u=> .tp [.sl [],t8 u]):=by
 obtain⟨s,hF⟩:=Yz hE hs h9 hb;refine⟨s,?_⟩;refine yZ (fu:=⟨9⟩) func48 J J ntmps48 J J (fun C=>?_);refine cE J hF (fun _=>J) (fun GB1 u hg1 hu=>?_);exact zy u hu J J
def Vu{fs:List FuncId}{ts:Nat->Tr}(h0:gP k0 (ts 0))(hr:lC r)(hc:nv r=true)(hF: ∀k f,fs[k]? =some f->PF GB prog f [eU (ts k),Tg r] (.tp [eU (ts (k+1)), .v .nilIface]))(hb:(ts fs.length).all LB)(hs:(ts fs.length).size<=1000000)(hn:fs.length<=1000):PF GB prog 38 [eA (ts 0),fk r, .sl (fs.map Ml)] (.tp [eA (ts fs.length), .v .nilIface]):=by
 have hml:(fs.map Ml).length=fs.length:=aX ..;refine fn func38 J J ntmps38 J J (fun C=>?_);refine cl (fu:=⟨12⟩) J (HI (t:=ts 0) h0) J<|aj 20 (.d (.v (.bool false))) J J<|iG 20 J<|gx J<|cl (fu:=⟨11⟩) J (I9 hr hc) J<|bO (fu:=⟨10⟩) J J J<|aj 33 (.d (vI (fs.length:Nat))) J omo<|gx J<|lp (X:=Nat) (fun k=>[(34, .d (vI (k:Nat))),(8, .d (eU (ts k)))]) (fun k=>[]) (fun k=>k<=fs.length) (fun k=>fs.length-k) 0 J (aS _) (fun _=>J) (fun k hk=>?_);refine br J J J (fun hc35=>?_) (fun hc35=>?_)
 .
  obtain⟨f,hx⟩: ∃u,fs[k]? =some u:=⟨_,aQ we⟩;refine ix (fu:=⟨0⟩) _ J (ce hx) J<|ldP (fu:=⟨8⟩) (d:= .v (.func (.func f) #[] #[])) J J J J J J<|cfw (fu:=⟨10⟩) J .nil .nil (hF k f hx) J<|bO J J J<|at_ (k+1) ⟨we,we⟩
 .
  obtain rfl:k=fs.length:=by omega
  refine cl J (aLm (t:=ts fs.length) hb hs) J<|rz J J
def aBA(hE:ja GB ai al ar)(h0:gP k0 t)(h:lC r)(hc:nv r=false):PF GB prog 38 [eA t,fk r, .sl dl] (.tp [tP,mc ar]):=by
 refine fn func38 J J ntmps38 J J (fun C=>?_);refine cl (fu:=⟨12⟩) J (HI (t:=t) h0) J<|aj 20 (.d (.v (.bool false))) J J<|iG 20 J<|gx J<|cl J (Sy hE h hc) J<|rz J J
def azv(hE:ja GB ai al ar)(hs: ∀q∈r,q.sm)(h9:r.length<=9)(hb:wj ai ar r a)(h0:gP k0 t): ∃s,PE GB prog 38 [eA t,fk r, .sl dl] (sI a s) (fun u=> .tp [tP,t8 u]):=by
 obtain⟨s,hF⟩:=Og hE hs h9 hb;refine⟨s,?_⟩;refine yZ func38 J J ntmps38 J J (fun C=>?_);refine cl (fu:=⟨12⟩) J (HI (t:=t) h0) J<|aj 20 (.d (.v (.bool false))) J J<|iG 20 J<|gx (fu:=⟨8⟩) J<|cE J hF (fun _=>J) (fun GB1 u hg1 hu=>?_);exact zy u hu J J
def Zq(hE:ja GB ai al ar){dr:DV}:PF GB prog 38 [tP,dr, .sl dl] (.tp [tP,mc ai]):=by
 refine fn func38 J J ntmps38 J J (fun C=>?_);refine cl (fu:=⟨12⟩) J aLs J<|aj 20 (.d (.v (.bool true))) J J<|fD 20 J<|gx J<|gl J hE.ErrInvalid J<|rz J J
def NW(hE:EG GB ai al ae)(hr:lC r)(hc:nv r=true)(hV:oz (cj r))(h0:gP k0 t)(hk:t.all fun l=>BL l 96)(hd:t.depth<=800)(hs:t.size<=60000)(hq:mE 1 (Tr.leaf false) ((dE (t.restrict [])).map (kB (cj r)))=some u)(hb:u.all LB)(hus:u.size<=1000000):PF GB prog 11 [eA t,fk r] (.tp [eA u, .v .nilIface]):=by
 have hst:PF GB prog 38 [eA t,fk r, .sl [.v (.func (.func 39) #[] #[])]] (.tp [eA u, .v .nilIface]):=Vu (fs:=[39]) (ts:=XY t u) h0 hr hc (fun k f hf=>by match k,hf with|0,hf=>cases hf;exact Y5 hE hV h0.lb h0.ok hk hd hs hq|k+1,hf=>simp at hf) hb hus omc;refine fn (fu:=⟨11⟩) func11 J J ntmps11 J J (fun C=>?_);refine Fy ⟨.o,1,some [.d (.v .nilFunc)],false⟩ J omd J<|cl J hst J<|rz J J
def aIj(hE:ja GB ai al ar)(h0:gP k0 t)(h:lC r)(hc:nv r=false):PF GB prog 11 [eA t,fk r] (.tp [tP,mc ar]):=by
 refine fn (fu:=⟨11⟩) func11 J J ntmps11 J J (fun C=>?_);refine Fy ⟨.o,1,some [.d (.v .nilFunc)],false⟩ J omd J<|cl J (aBA hE (t:=t) h0 h hc) J<|rz J J
def aKA(hE:ja GB ai al ar)(hs: ∀q∈r,q.sm)(h9:r.length<=9)(hb:wj ai ar r a)(h0:gP k0 t): ∃s,PE GB prog 11 [eA t,fk r] (sI a s) (fun u=> .tp [tP,t8 u]):=by
 obtain⟨s,hF⟩:=azv hE hs h9 hb (t:=t) h0;refine⟨s,?_⟩;refine yZ (fu:=⟨11⟩) func11 J J ntmps11 J J (fun C=>?_);refine Fy (fu:=⟨0⟩) ⟨.o,1,some [.d (.v .nilFunc)],false⟩ J omd J<|cE J hF (fun _=>J) (fun GB1 u hg1 hu=>?_);exact zy u hu J J
def J9(hE:ja GB ai al ar):PF GB prog 14 [tP,fk r] (.tp [tP,mc ai]):=by
 refine fn (fu:=⟨11⟩) func14 J J ntmps14 J J (fun C=>?_);refine Fy ⟨.o,1,some [.d (.v .nilFunc)],false⟩ J omd J<|cl J (Zq hE) J<|rz J J
def Hn(hE:ja GB ai al ar){cs:List RL}(hcs: ∀r∈cs,r.sm)(hcn:cs.length<=500)(hl:i8 cs=none):PF GB prog 15 [.ag [.sl (cs.map RL.d)],fk r] (.tp [.ag [.sl []],mc ai]):=by
 refine fn func15 J J ntmps15 J J (fun C=>?_);refine cl (fu:=⟨3⟩) J (XH hcs we hl) J<|iG 16 J<|gx J<|gl J hE.ErrInvalid J<|rz J J
def aFZ(hE:ja GB ai al ar){cs:List RL}(hcs: ∀r∈cs,r.sm)(hcn:cs.length<=500)(hl:i8 cs=some ls)(h:lC r)(hc:nv r=false):PF GB prog 15 [.ag [.sl (cs.map RL.d)],fk r] (.tp [.ag [.sl []],mc ar]):=by
 refine fn func15 J J ntmps15 J J (fun C=>?_);refine cl (fu:=⟨3⟩) J (Ef hcs we hl) J<|fD 16 J<|gx J<|cl J (Sy hE h hc) J<|rz J J
def aGx(hE:ja GB ai al ar)(hs: ∀q∈r,q.sm)(h9:r.length<=9)(hb:wj ai ar r a){cs:List RL}(hcs: ∀r∈cs,r.sm)(hcn:cs.length<=500)(hl:i8 cs=some ls): ∃s,PE GB prog 15 [.ag [.sl (cs.map RL.d)],fk r] (sI a s) (fun u=> .tp [.ag [.sl []],t8 u]):=by
 obtain⟨s,hF⟩:=Og hE hs h9 hb;refine⟨s,?_⟩;refine yZ func15 J J ntmps15 J J (fun C=>?_);refine cl (fu:=⟨3⟩) J (Ef hcs we hl) J<|fD 16 J<|gx (fu:=⟨17⟩) J<|cE J hF (fun _=>J) (fun GB1 u hg1 hu=>?_);exact zy u hu J J
def aDT(hE:rx GB ai al ar ae){cs:List RL}(hcs: ∀r∈cs,r.sm)(hcn:cs.length<=500)(hl:i8 cs=some ls)(h:lC r)(hc:nv r=true)(hq:eO ls []=none):PF GB prog 15 [.ag [.sl (cs.map RL.d)],fk r] (.tp [.ag [.sl []],mc ae]):=by
 obtain⟨k1,k2,k3⟩:=O7 hcs hl;refine fn func15 J J ntmps15 J J (fun C=>?_);refine cl (fu:=⟨3⟩) J (Ef hcs we hl) J<|fD 16 J<|gx J<|cl J (I9 h hc) J<|cl (fu:=⟨3⟩) J (MF k1 k2 we hq) J<|iG 34 J<|gx J<|gl J hE.ErrEmpty J<|rz J J
def XQ{L:List aa}(ho: ∀l∈L,l.ok)(hc:eO L []=some c):bF c/\f9 c/\im L=c.map (·.l):=by
 obtain⟨g1,g2⟩:=AH bF.nil ho hc;have g2: ∀p,bA c p↔gq L p:=fun p=>by
  rw[g2];exact⟨fun h=>h.2,fun h=>⟨fun s hs=>absurd hs omc,h⟩⟩
 have g3:=DI bF.nil .nil ho hc;exact⟨g1,g3,JA ho g1 g3 g2⟩
def Vq{cs:List RL}(hcs: ∀r∈cs,r.sm)(hcn:cs.length<=500)(hl:i8 cs=some ls)(h96: ∀l∈ls,BL l 96)(h:lC r)(hc:nv r=true)(hV:oz (cj r))(hq:eO ls []=some c):PF GB prog 15 [.ag [.sl (cs.map RL.d)],fk r] (.tp [Om ((mh (cj r) c).map (·.l)), .v .nilIface]):=by
 obtain⟨k1,k2,k3⟩:=O7 hcs hl;obtain⟨g1,g2,g3⟩:=XQ k2 hq;have hin: ∀s∈c,s.l∈ls:=fun s hs=>JK _ (by rw[g3];exact aU.2 ⟨s,hs,J⟩);have hcl:=auj hq;have hbk: ∀s∈c,BL s.l 96:=fun s hs=>h96 _ (hin s hs);obtain⟨m1,m2⟩:=AE hV g1 g2 hbk;have hsb:=wS hV g1 g2 hbk;have hv7:=hV.le;have hdl:((mh (cj r) c).map di).length=(mh (cj r) c).length:=aX ..;refine fn func15 J J ntmps15 J J (fun C=>?_);refine cl (fu:=⟨3⟩) J (Ef hcs we hl) J<|fD 16 J<|gx J<|cl J (I9 h hc) J<|cl (fu:=⟨3⟩) J (Py k1 k2 we hq) J<|fD 34 J<|gx J<|cl (fu:=⟨8⟩) J (MK (c:=c) hV (UU k1 k2 d5.nil hq) g1 g2 hbk we) J<|aj 43 (.d (vI ((mh (cj r) c).length:Nat))) J (by rw[hdl]<;>rfl)<|gx (fu:=⟨0⟩) J<|bO J (omh we) J<|cl J (aHT (c:=mh (cj r) c) (fun s hs=>F0 (hsb _ (m1 s hs)).1) we) J<|rz J J
def aE6(hE:rx GB ai al ar ae){cs:List RL}(hcs: ∀r∈cs,r.sm)(hcn:cs.length<=500)(hl:i8 cs=some ls)(h96: ∀l∈ls,BL l 96)(h:lC r)(hc:nv r=true)(hV:oz (cj r)): ∃(dl:List DV) (w:Value),PF GB prog 15 [.ag [.sl (cs.map RL.d)],fk r] (.tp [.ag [.sl dl], .v w]):=by
 cases hq:eO ls [] with
 |none=>exact⟨_,_,aDT hE hcs hcn hl h hc hq⟩
 |some c=>exact⟨_,_,Vq hcs hcn hl h96 h hc hV hq⟩

def L8{a:Rat}:bw a b<0↔a<b:=by
 unfold bw
 repeat' split
 all_goals grind
def H6{a:Rat}:bw a b=0↔a=b:=by
 unfold bw
 repeat' split
 all_goals grind
def UO:cO p q<0↔p.x<q.x\/(p.x=q.x/\p.y<q.y):=by
 unfold cO;have h1:=L8 (a:=p.x) (b:=q.x);have h2:=H6 (a:=p.x) (b:=q.x);have h3:=L8 (a:=p.y) (b:=q.y);split<;>grind
def Ii:cO p q=0↔p=q:=by
 unfold cO;have h2:=H6 (a:=p.x) (b:=q.x);have h4:=H6 (a:=p.y) (b:=q.y)
 cases p;cases q
 simp only[ah.mk.injEq] at*;split<;>grind
def JM{α:Type}{c:α->α->Int}(h0: ∀a b,c a b=0->a=b){x y:α}: ∀{xs:List α},(y=x\/y∈xs)->y∈c9 c x xs
 |[],h=>by
  rcases h with rfl|h
  .unfold c9;exact aR.2 J
  .cases h
 |u::t,h=>by
  have ih:=fun k=>JM h0 (x:=x) (y:=y) (xs:=t) k;unfold c9;split
  .rcases h with h|h
   .exact aJ _ (ih (.inl h))
   .rcases aW.1 h with h|h
    .exact h▸aZ
    .exact aJ _ (ih (.inr h))
  .split
   .rename_i k
    rcases h with h|h
    .rw[h,<-h0 _ _ k];exact aZ
    .exact h
   .rcases h with h|h
    .rw[h];exact aZ
    .exact aJ _ h
def SB{α:Type}{c:α->α->Int}(h0: ∀a b,c a b=0->a=b){y:α}: ∀{l o:List α},(y∈l\/y∈o)->y∈l.foldl (fun out x=>c9 c x out) o
 |[],o,h=>h.resolve_left (fun h=>by cases h)
 |x::t,o,h=>by
  rw[iK];refine SB h0 ?_;rcases h with h|h
  .rcases aW.1 h with h|h
   .exact .inr (JM h0 (.inl h))
   .exact .inl h
  .exact .inr (JM h0 (.inr h))
def Zp{α:Type}{F:List α}{a b c:α}(ha:a∈F)(hb:b∈F)(hc:c∈F)(h1:a≠b)(h2:a≠c)(h3:b≠c):3<=F.length:=by
 obtain⟨i,hi,ei⟩:=lJ.1 ha;obtain⟨j,hj,ej⟩:=lJ.1 hb;obtain⟨k,hk,ek⟩:=lJ.1 hc;have n1:i≠j:=fun e=>h1 (by subst e;rw[<-ei,<-ej]);have n2:i≠k:=fun e=>h2 (by subst e;rw[<-ei,<-ek]);have n3:j≠k:=fun e=>h3 (by subst e;rw[<-ej,<-ek]);omega
def SL(v:List ah):3<=(gn cO v).length↔3<=dC v v.length:=by
 constructor
 .intro h
  have hs:(gn cO v).Pairwise (fun a b=>cO a b<0):=NX (o:=[])
   (fun u v w h1 h2=>by rw[UO] at*;grind)
   (fun u v h1 h2=>by
    rw[UO] at*;have h2:=mt Ii.2 h2
    cases u;cases v
    simp only[ah.mk.injEq] at h2;grind) List.Pairwise.nil
  have hm: ∀y∈gn cO v,y∈v:=fun y hy=>(DE cO hy).resolve_right (fun h=>by cases h)
  match hl:gn cO v,h with
  |a::b::c::t,_=>
   rw[hl] at hs hm;have ne: ∀{p q:ah},cO p q<0->p≠q:=fun{p q} k e=>by have:=Ii.2 e;omega
   have p1:=(bY.1 hs).1;have p2:=(bY.1 (bY.1 hs).2).1;exact ZD (hm a omc) (hm b omc) (hm c omc) (ne (p1 b omc)) (ne (p1 c omc)) (ne (p2 c omc))
 .intro h
  rw[HB] at h;generalize hF:(List.range v.length).filter (fun k=>decide (lE v (v.getD k ⟨0,0⟩)=((k:Nat):Int)))=F at h;have hn:F.Nodup:=hF▸List.Pairwise.filter _ List.nodup_range;have hm: ∀k∈F,k<v.length/\lE v (v.getD k ⟨0,0⟩)=((k:Nat):Int):=fun k hk=>by
   rw[<-hF] at hk;obtain⟨h1,h2⟩:=nX.1 hk;exact⟨jJ.1 h1,of_decide_eq_true h2⟩
  match F,h,hn,hm with
  |i::j::k::t,_,hn,hm=>
   have n1:=(List.nodup_cons.1 hn).1;have n2:=(List.nodup_cons.1 (List.nodup_cons.1 hn).2).1;obtain⟨i1,i2⟩:=hm i omc;obtain⟨j1,j2⟩:=hm j omc;obtain⟨k1,k2⟩:=hm k omc;have mem: ∀{m:Nat},m<v.length->v.getD m ⟨0,0⟩∈gn cO v:=fun{m} hm=>SB (fun a b=>Ii.1) (.inl (by
    rw[aV,aQ hm];exact cR hm))
   refine Zp (mem i1) (mem j1) (mem k1) (fun e=>?_) (fun e=>?_) (fun e=>?_)
   .rw[e,j2] at i2;exact n1 (by rw[show j=i by exact_mod_cast i2];simp)
   .rw[e,k2] at i2;exact n1 (by rw[show k=i by exact_mod_cast i2];simp)
   .rw[e,k2] at j2;exact n2 (by rw[show k=j by exact_mod_cast j2];simp)
end Go.Sx
end
