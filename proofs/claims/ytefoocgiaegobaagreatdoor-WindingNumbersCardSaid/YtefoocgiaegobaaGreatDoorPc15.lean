import Derived.Test.YtefoocgiaegobaaGreatDoorPc14
import Derived.Shelf.SlSortCmp.NoneTotal
set_option linter.all false
set_option maxHeartbeats 2000000
set_option maxRecDepth 100000
section
namespace Go.Sx
open Go Go.Proofs Tryz
variable {GB:Gh}
def IX(f:aI)(p:aa):Bool:=f.v.nh||decide (bt (dl f.l p) f.v.hi<0)
def Ew(f:aI)(p:aa):Bool:=f.v.nl||decide (0<bt (dl f.l p) f.v.lo)
def fE(p:aa)(f:aI):List aa:=if ir f p then(if IX f p then [cA f.l.dir] else [])++(if Ew f p then [d4 (cA f.l.dir)] else []) else []
def kl(E:List aI)(p:aa):List aa:=ml (E.flatMap (fE p))
def qb(p d q:aa):Rat:=(⟨q.x-p.x,q.y-p.y⟩:aa).dot d/d.dot d
def sv(a b:Rat):Rat×Bool:=
 if 0<Int.sign b.num/\(¬0<Int.sign a.num\/bt b a<0) then(b,true) else if 0<Int.sign a.num then(a,true) else(0,false)
def i4(f:aI)(p d:aa):Rat×Bool:=
 if f.l.nor.dot d=0 then(if f.l.value p=0 then sv (qb p d (f.l.at f.v.lo)) (qb p d (f.l.at f.v.hi)) else(0,false))
 else(-(f.l.value p/f.l.nor.dot d),decide (0<Int.sign (-(f.l.value p/f.l.nor.dot d)).num)&&l8 f.v (dl f.l (cC p d (-(f.l.value p/f.l.nor.dot d)))))
def ky(p d:aa)(s:Rat)(f:aI):Rat:=if ir f p then s else if(i4 f p d).2 then(if(i4 f p d).1<s then(i4 f p d).1 else s) else s
def lj(E:List aI)(p d:aa):aa:=cC p d (E.foldl (ky p d) 1*mkRat 1 2)
def u6(E:List aI)(p:aa)(acc:aa->Bool):Int:=
 if((gz (kl E p)).any fun v=>acc (lj E p v))&&(gz (kl E p)).all (fun v=>acc (lj E p v)) then 2 else if(gz (kl E p)).any fun v=>acc (lj E p v) then 1 else 0
def PS{rs:List (List ZP)}(hr: ∀r∈rs,dt r){f:aa×aa}(hf:f∈ER rs): ∃v w:ZP,v≠w/\(bP v w).l.ok/\bP v w∈ck rs/\f=(v.q,w.q):=by
 obtain⟨r,h1,h2⟩:=gL.1 hf;obtain⟨k,hk,rfl⟩:=bY.1 h2;have hk':=iX.1 hk;have hm:=CU (r:=r) (k:=k) (n:=r.length) hk';exact⟨_,_,(hr r h1).ne k hk',((rQ (hr r h1)).2 _ hm).ok,gL.2 ⟨r,h1,hm⟩,J⟩
def AI{r:List ZP}: ∀{n:Nat} {f:aI},f∈gp r n-> ∃k,k<n/\f=bP (r.getD k (0,0)) (dF r k)
 |0,f,h=>by simp[gp] at h
 |n+1,f,h=>by
  rw[gp] at h;rcases dK.1 h with h|h
  ·obtain⟨k,h1,h2⟩:=AI h
   exact⟨k,by omega,h2⟩
  ·exact⟨n,by omega,aN.1 h⟩
def Ld{rs:List (List ZP)}(hr: ∀r∈rs,dt r){f:aI}(hf:f∈ck rs): ∃v w:ZP,v≠w/\(bP v w).l.ok/\f=bP v w/\(v.q,w.q)∈ER rs:=by
 obtain⟨r,h1,h2⟩:=gL.1 hf;have ho:=((rQ (hr r h1)).2 _ h2).ok;obtain⟨k,hk,rfl⟩:=AI h2;exact⟨_,_,(hr r h1).ne k hk,ho,J,gL.2 ⟨r,h1,bY.2 ⟨k,iX.2 hk,J⟩⟩⟩
def A5{f:aI}{p d:aa}(h:d∈fE p f):f.l.value p=0/\(d=cA f.l.dir\/d=d4 (cA f.l.dir)):=by
 unfold fE at h;split at h
 ·rename_i k
  refine⟨(HJ.1 k).1,?_⟩;rcases dK.1 h with h|h
  ·split at h
   ·exact .inl (aN.1 h)
   ·cases h
  ·split at h
   ·exact .inr (aN.1 h)
   ·cases h
 ·cases h
def Ea{E:List aI}(hE: ∀f∈E,f.l.ok)(p:aa): ∀x∈E.flatMap (fE p),∀y∈E.flatMap (fE p),ci x y=0->x=y:=fun x hx y hy h=>by
 obtain⟨f,k1,k2⟩:=gL.1 hx;obtain⟨g,k3,k4⟩:=gL.1 hy;obtain⟨a1,a2⟩:=A5 k2;obtain⟨b1,b2⟩:=A5 k4;exact RB (hE f k1) (hE g k3) a1 b1 a2 b2 h
def Tk{l:List aa}(ht: ∀x∈l,∀y∈l,ci x y=0->x=y)(y:aa):y∈ml l↔y∈l:=by
 have h2: ∀y,y∈ml l->y∈l:=fun y hy=>by
  rcases u9 ci hy with h|h
  ·exact h
  ·cases h
 refine⟨h2 y,fun hy=>?_⟩;obtain⟨e,e1,e2⟩:=yz ci (o:=[]) hy;rcases e2 with rfl|e2
 ·exact e1
 ·rw[<-ht e (h2 e e1) y hy e2];exact e1
section
variable {rs:List (List ZP)} {fill:Int} {p:aa}
end
def KN{p q:aa}{i:Nat}[hp:aw p i][hq:aw q i](hi:i<=1000000:=by decide):PF GB prog 192 [eZ p,eZ q] (vB (decide (p.x=q.x/\p.y=q.y))):=by
 refine fn func192 J J ntmps192 J J (fun C=>?_);refine cl J (Gu (p:=p.x) (q:=q.x) (i:=i) (j:=i) (by omega) (by omega)) J<|?_;refine csd 10 J J J (fun hg10=>?_) (fun hg10=>?_)
 .
  refine cl J (Gu (p:=p.y) (q:=q.y) (i:=i) (j:=i) (by omega) (by omega)) J<|?_;exact rz J (by show DV.v (.bool _)= .v (.bool _);simp_all)
 .
  exact rz J (by show DV.v (.bool _)= .v (.bool _);simp_all)
def Dc{p q:aa}{i j:Nat}[hp:aw p i][hq:aw q j](hi:i<=10000000:=by decide)(hj:j<=10000000:=by decide):PF GB prog 241 [eZ p,eZ q] (eZ ⟨p.x-q.x,p.y-q.y⟩):=by
 refine fn func241 J J ntmps241 J J (fun C=>?_);refine cl J (sd (p:=p.x) (q:=q.x) (i:=i) (j:=j) (by omega) (by omega)) J<|cl J (sd (p:=p.y) (q:=q.y) (i:=i) (j:=j) (by omega) (by omega)) J<|?_;exact rz J J
def tH{l:ab}{p:aa}{i:Nat}[hl:LB l][hp:aw p i](hi:i<=1000000:=by decide):PF GB prog 254 [cF l,eZ p] (eF (dl l p)):=by
 refine fn func254 J J ntmps254 J J (fun C=>?_);refine cl J (vQ (l:=l)) J<|cl (fu:=⟨0⟩) J (nv (p:=l.dir) (q:=p) (i:=97) (j:=i) (by decide) (by omega)) J<|?_;refine aj 10 (.d (eF (p.dot l.dir))) J (by rw[show l.dir.dot p=p.dot l.dir by unfold aa.dot;grind]) ?_;refine gx J<|cl J (nv (p:=l.dir) (q:=l.dir) (i:=97) (j:=97) (by decide) (by decide)) J<|cl J (vp (p:=p.dot l.dir) (q:=l.dir.dot l.dir) (i:=i+97+(i+97)+1) (j:=97+97+(97+97)+1) (by omega) (by decide)) J<|?_;exact rz J J
def K5{v:bi}{t:Rat}{i:Nat}[h1:BQ v.lo i][h2:BQ v.hi i][h3:BQ t i](hi:i<=1000000:=by decide):PF GB prog 323 [eW v,eF t] (vB (l8 v t)):=by
 refine fn func323 J J ntmps323 J J (fun C=>?_);refine kB 7 J J J (fun hg7=>?_) (fun hg7=>?_)
 .
  refine kB 17 J J J (fun hg17=>?_) (fun hg17=>?_)
  .
   exact rz J (by show DV.v (.bool _)= .v (.bool _);unfold l8;simp_all<;>(intros;omega))
  .
   refine cl J (ij (p:=v.hi) (q:=t) (i:=i) (j:=i) (by omega) (by omega)) J<|?_;exact rz J (by show DV.v (.bool _)= .v (.bool _);unfold l8;simp_all<;>(intros;omega))
 .
  refine cl J (ij (p:=v.lo) (q:=t) (i:=i) (j:=i) (by omega) (by omega)) J<|?_;refine cs 14 J J J (fun hg14=>?_) (fun hg14=>?_)
  .
   refine kB 17 J J J (fun hg17=>?_) (fun hg17=>?_)
   .
    exact rz J (by show DV.v (.bool _)= .v (.bool _);unfold l8;simp_all<;>(intros;omega))
   .
    refine cl J (ij (p:=v.hi) (q:=t) (i:=i) (j:=i) (by omega) (by omega)) J<|?_;exact rz J (by show DV.v (.bool _)= .v (.bool _);unfold l8;simp_all<;>(intros;omega))
  .
   exact rz J (by show DV.v (.bool _)= .v (.bool _);unfold l8;simp_all<;>(intros;omega))
def Uk{G:Gh}{q:Rat}{y:Value}(h: ¬d5 q)(hy:Is G (cH q) y):y= .pointer none:=by
 unfold cH at hy;rw[decide_eq_false h] at hy;rcases rB.1 hy with⟨_,e⟩|⟨e,_⟩
 ·exact e
 ·cases e
def Rn{G:Gh}{q:Rat}(h: ¬d5 q):Is G (cH q) (.pointer none):=by
 unfold cH;rw[decide_eq_false h];exact rB.2 (.inl ⟨J,J⟩)
def xF(q:Rat):List Value:=[.int .i64 (di q), .int .i64 (c7 q), .pointer none]
def r4{G:Gh}{q:Rat}{t:List DV}{m:List Value}(h: ¬d5 q)(hm:IsLs G (vI (di q)::vI (c7 q)::cH q::t) m): ∃n,m=xF q++n/\IsLs G t n:=by
 obtain⟨y1,m1,rfl,h1,hm1⟩:=bD.1 hm;obtain⟨y2,m2,rfl,h2,hm2⟩:=bD.1 hm1;obtain⟨y3,m3,rfl,h3,hm3⟩:=bD.1 hm2;obtain rfl:=bc.1 h1;obtain rfl:=bc.1 h2;obtain rfl:=Uk h h3;exact⟨m3,J,hm3⟩
def s7{G:Gh}{q:Rat}{t:List DV}{n:List Value}(h: ¬d5 q)(k:IsLs G t n):IsLs G (vI (di q)::vI (c7 q)::cH q::t) (xF q++n):= .cons (bc.2 J) (.cons (bc.2 J) (.cons (Rn h) k))
def rV(q:Rat):Value:= .agg ⟨xF q⟩
def Ru{G:Gh}{q:Rat}{y:Value}(h: ¬d5 q)(hy:Is G (eF q) y):y=rV q:=by
 obtain⟨m,rfl,hm⟩:=ef.1 hy;obtain⟨n,rfl,hn⟩:=r4 h hm;rw[cp.1 hn];rfl
def L6{G:Gh}{q:Rat}(h: ¬d5 q):Is G (eF q) (rV q):=ef.2 ⟨_,J,s7 h (cp.2 J)⟩
structure Am (f:aI):Prop where
 a: ¬d5 (f.l.a:Rat)
 b: ¬d5 (f.l.b:Rat)
 c: ¬d5 (f.l.c:Rat)
 lo: ¬d5 f.v.lo
 hi: ¬d5 f.v.hi
def po(f:aI):Value:= .agg ⟨xF f.l.a++(xF f.l.b++(xF f.l.c++(xF f.v.lo++(xF f.v.hi++[.bool f.v.nl, .bool f.v.nh]))))⟩
def rW{G:Gh}{f:aI}{y:Value}(h:Am f)(hy:Is G (b6 f) y):y=po f:=by
 obtain⟨m0,rfl,k0⟩:=ef.1 hy;obtain⟨m1,rfl,k1⟩:=r4 h.a k0;obtain⟨m2,rfl,k2⟩:=r4 h.b k1;obtain⟨m3,rfl,k3⟩:=r4 h.c k2;obtain⟨m4,rfl,k4⟩:=r4 h.lo k3;obtain⟨m5,rfl,k5⟩:=r4 h.hi k4;obtain⟨y1,m6,rfl,h1,k6⟩:=bD.1 k5;obtain⟨y2,m7,rfl,h2,k7⟩:=bD.1 k6;obtain rfl:=bc.1 h1;obtain rfl:=bc.1 h2;obtain rfl:=cp.1 k7;rfl
def tj{G:Gh}{f:aI}(h:Am f):Is G (b6 f) (po f):=ef.2 ⟨_,J,s7 h.a (s7 h.b (s7 h.c (s7 h.lo (s7 h.hi (.cons (bc.2 J) (.cons (bc.2 J) (cp.2 J)))))))⟩
structure FE (f:aI):Prop where
 fo:tS f
 sm:Am f
 nl:f.v.nl=false
 nh:f.v.nh=false
theorem xc{l:ab}{p:aa}{i:Nat}(hl:LB l)[hp:aw p i]:BQ (dl l p) (2*i+600):=by
 haveI:=hl;have h:BQ (p.dot l.dir/l.dir.dot l.dir) (i+97+(i+97)+1+(97+97+(97+97)+1)):=inferInstance;exact BQ.mono (show BQ (dl l p) _ from h) (by omega)
def Bj{f:aI}(hf:FE f){p:aa}{i:Nat}[hp:aw p i](hi:i<=100000:=by decide):PF GB prog 226 [b6 f,eZ p] (vB (ir f p)):=by
 haveI:=hf.fo.lb;haveI:=hf.fo.lo;haveI:=hf.fo.hi;haveI:=xc (p:=p) (i:=i) hf.fo.lb;haveI:BQ f.v.lo (2*i+1800):=hf.fo.lo.mono (by omega);haveI:BQ f.v.hi (2*i+1800):=hf.fo.hi.mono (by omega);haveI:BQ (dl f.l p) (2*i+1800):=(xc (p:=p) (i:=i) hf.fo.lb).mono (by omega);refine fn func226 J J ntmps226 J J (fun C=>?_);refine cl (fu:=⟨0⟩) J (AK (l:=f.l) (p:=p) (i:=i) (by omega)) J<|?_;refine oB (v2:=fun hg9=>by simp only[ah];kernel_rfl) J J J J (fun hg9=>?_) (fun hg9=>?_)
 .
  refine cl J (tH (l:=f.l) (p:=p) (i:=i) (by omega)) J<|cl J (K5 (v:=f.v) (t:=dl f.l p) (i:=2*i+1800) (by omega)) J<|?_;exact rz J (by show DV.v (.bool _)= .v (.bool _);unfold ir;simp_all)
 .
  exact rz J (by show DV.v (.bool _)= .v (.bool _);unfold ir;simp_all)
def yQ{f:aI}(hf:FE f):PF GB prog 260 [b6 f] (.tp [eZ (f.l.at f.v.lo),vB true]):=by
 haveI:=hf.fo.lb;haveI:=hf.fo.lo;haveI:=hf.fo.hi;refine fn (fu:=⟨13⟩) func260 J J ntmps260 J J (fun C=>?_);refine aj 6 (.d (vB false)) J (by rw[hf.nl]<;>rfl) ?_;refine qE 6 J ?_;refine gx J<|cl J (Dv (l:=f.l) (t:=f.v.lo) (i:=1200)) J<|?_;exact rz J J
def A1{f:aI}(hf:FE f):PF GB prog 261 [b6 f] (.tp [eZ (f.l.at f.v.hi),vB true]):=by
 haveI:=hf.fo.lb;haveI:=hf.fo.lo;haveI:=hf.fo.hi;refine fn (fu:=⟨13⟩) func261 J J ntmps261 J J (fun C=>?_);refine aj 6 (.d (vB false)) J (by rw[hf.nh]<;>rfl) ?_;refine qE 6 J ?_;refine gx J<|cl J (Dv (l:=f.l) (t:=f.v.hi) (i:=1200)) J<|?_;exact rz J J
def EY{α:Type}{g:α->Bool}{E:List α}{k:Nat}{f:α}(hk:E[k]? =some f)(h:(E.take k).any g=false):(E.take (k+1)).any g=g f:=by
 rw[cJ,hk,List.any_append,h];simp
def Ip{α:Type}{g:α->Bool}{E:List α}{k:Nat}{f:α}(hk:E[k]? =some f)(h:g f=true):E.any g=true:=jJ.2 ⟨f,aU hk,h⟩
def QC{E:List aI}(hn:E.length<=1000000){f:FuncId}{pv:Value}{dp:DV}(hp:Is GB dp pv){g:aI->Bool}(hF: ∀x∈E,PF GB prog f [b6 x,dp] (vB (g x))):PX GB prog 322 [.sl (E.map b6), .v (.func (.func f) ⟨[]⟩ ⟨[pv]⟩)] {j:Int//(0<=j↔E.any g=true)/\ -1<=j/\j<=1000000} (fun j=>vI j.1):=by
 have hml:(E.map b6).length=E.length:=aX ..;refine Lu (fu:=⟨10⟩) func322 J J ntmps322 J J (fun C=>?_);refine aj 7 (.d (vI (E.length:Nat))) J (by rw[hml]<;>rfl) ?_;refine gx J<|?_;refine lp (X:=Nat) (fun k=>[(8, .d (vI (k:Nat)))]) (fun k=>[]) (fun k=>k<=E.length/\(E.take k).any g=false) (fun k=>E.length-k) 0 J ⟨bJ _,J⟩ (fun _=>J) (fun k hk=>?_);obtain⟨hk,hany⟩:=hk;refine br J J J (fun hc9=>?_) (fun hc9=>?_)
 .
  obtain⟨x,hx⟩: ∃u,E[k]? =some u:=⟨_,aQ (by omega)⟩;refine ix (fu:=⟨1⟩) _ J (cO hx) J<|qm (ds1:=[]) (ds2:=[dp]) J (cp.2 J) (.cons hp (cp.2 J)) (hF x (aU hx)) J<|?_;refine bb J J J (fun hc16=>?_) (fun hc16=>?_)
  .
   exact JN ⟨(k:Int),⟨fun _=>Ip hx hc16,fun _=>by omega⟩,by omega,by omega⟩ J J
  .
   exact at_ (k+1) ⟨⟨by omega,by rw[EY hx hany];simpa using hc16⟩,(by omega)⟩
 .
  obtain rfl:k=E.length:=by omega
  rw[bN] at hany;exact JN ⟨-1,⟨fun h=>by omega,fun h=>by rw[hany] at h;cases h⟩,by omega,by omega⟩ J J
theorem sQ{l:ab}{t:Rat}(hl:LB l)(ht:BQ t 1200):aw (l.at t) 3000:=aw.mono (inferInstance:aw (l.at t) _) (by decide)
def nD{f:aI}(h1:f.v.nl=false)(h2:f.v.nh=false)(p:aa):nE f p=if Int.sign f.l.dir.y.num=0 then 0 else if Int.sign (f.l.value p).num≠Int.sign f.l.dir.y.num then 0 else
  if Int.sign f.l.dir.y.num<0 then(if 0<bt (f.l.at f.v.hi).y p.y then 0 else if bt (f.l.at f.v.lo).y p.y<=0 then 0 else Int.sign f.l.dir.y.num)
  else(if 0<bt (f.l.at f.v.lo).y p.y then 0 else if bt (f.l.at f.v.hi).y p.y<=0 then 0 else Int.sign f.l.dir.y.num):=by
 unfold nE;rw[h1,h2];generalize Int.sign f.l.dir.y.num=U;generalize Int.sign (f.l.value p).num=S;generalize bt (f.l.at f.v.hi).y p.y=a;generalize bt (f.l.at f.v.lo).y p.y=b;by_cases k:U=0
 ·simp[k]
 ·by_cases k2:S≠U
  ·simp[k2]
  ·rw[if_neg (by simp[k,k2]),if_neg k,if_neg k2]
   by_cases k3:U<0
   ·simp[k3]
   ·simp[k3]
def Er(f:aI)(p:aa):(nE f p).natAbs<=1:=by
 unfold nE;have:=QZ f.l.dir.y.num
 repeat' split
 all_goals omega
def Jp{E:List aI}{p:aa}{k:Nat}{f:aI}(h:E[k]? =some f):eo (E.take (k+1)) p=eo (E.take k) p+nE f p:=by
 rw[cJ,h];show eo (E.take k++[f]) p=_;rw[zg];unfold eo;simp
def JQ(E:List aI)(p:aa): ∀k,(eo (E.take k) p).natAbs<=k
 |0=>by simp[eo]
 |k+1=>by
  have ih:=JQ E p k
  cases h:E[k]? with
  |none=>
   have:E.take (k+1)=E.take k:=by rw[cJ,h];simp
   rw[this];omega
  |some f=>
   rw[Jp h];have:=Er f p;omega
def RK{f:aI}(hf:FE f){p:aa}{i:Nat}[hp:aw p i](hi:i<=100000:=by decide):PF GB prog 169 [b6 f,eZ p] (vI (nE f p)):=by
 haveI:=hf.fo.lb;haveI:=hf.fo.lo;haveI:=hf.fo.hi;haveI:aw (f.l.at f.v.hi) 3000:=sQ hf.fo.lb hf.fo.hi;haveI:aw (f.l.at f.v.lo) 3000:=sQ hf.fo.lb hf.fo.lo;refine fn func169 J J ntmps169 J J (fun C=>?_);refine cl J (vQ (l:=f.l)) J<|cl (fu:=⟨6⟩) J (jj (q:=f.l.dir.y) (i:=97)) J<|?_;rcases Int.lt_or_le (Int.sign f.l.dir.y.num) 0 with hu|hu
 .
  refine gx J<|?_;refine cs 19 J J J (fun hg19=>?_) (fun hg19=>?_)
  .
   exact rz J (by rw[nD hf.nl hf.nh];(repeat' split)<;>first|rfl|(exfalso;omega))
  .
   refine cl J (AK (l:=f.l) (p:=p) (i:=i) (by omega)) J<|?_;refine br (fu2:=⟨5⟩) J J J (fun hc26=>?_) (fun hc26=>?_)
   .
    exact rz J (by rw[nD hf.nl hf.nh];(repeat' split)<;>first|rfl|(exfalso;omega))
   .
    refine s4 (fu:=⟨1⟩) (po f) J (fun G y hy=>rW hf.sm hy) J<|s4 (fu:=⟨8⟩) (po f) J (fun G y hy=>rW hf.sm hy) J<|iB (fu:=⟨14⟩) J (by show some (decide _)=some true;rw[decide_eq_true (by omega)]) J<|?_;refine qm (fu:=⟨12⟩) (ds1:=[b6 f]) (ds2:=[]) J (.cons (tj hf.sm) (cp.2 J)) (cp.2 J) (A1 hf) J<|?_;refine ke 41 J ?_;refine gx J<|cl J (ij (i:=3000) (j:=i) (by decide) (by omega)) J<|?_;refine br (fu2:=⟨6⟩) J J J (fun hc48=>?_) (fun hc48=>?_)
    .
     exact rz J (by rw[nD hf.nl hf.nh];(repeat' split)<;>first|rfl|(exfalso;omega))
    .
     refine qm (fu:=⟨12⟩) (ds1:=[b6 f]) (ds2:=[]) J (.cons (tj hf.sm) (cp.2 J)) (cp.2 J) (yQ hf) J<|?_;refine ke 55 J ?_;refine gx J<|cl J (ij (i:=3000) (j:=i) (by decide) (by omega)) J<|?_;refine br J J J (fun hc62=>?_) (fun hc62=>?_)
     .
      exact rz J (by rw[nD hf.nl hf.nh];(repeat' split)<;>first|rfl|(exfalso;omega))
     .
      exact rz J (by rw[nD hf.nl hf.nh];(repeat' split)<;>first|rfl|(exfalso;omega))
 .
  refine gx J<|?_;refine cs 19 J J J (fun hg19=>?_) (fun hg19=>?_)
  .
   exact rz J (by rw[nD hf.nl hf.nh];(repeat' split)<;>first|rfl|(exfalso;omega))
  .
   refine cl J (AK (l:=f.l) (p:=p) (i:=i) (by omega)) J<|?_;refine br (fu2:=⟨5⟩) J J J (fun hc26=>?_) (fun hc26=>?_)
   .
    exact rz J (by rw[nD hf.nl hf.nh];(repeat' split)<;>first|rfl|(exfalso;omega))
   .
    refine s4 (fu:=⟨1⟩) (po f) J (fun G y hy=>rW hf.sm hy) J<|s4 (fu:=⟨8⟩) (po f) J (fun G y hy=>rW hf.sm hy) J<|fq (fu:=⟨9⟩) J (by show some (decide _)=some false;rw[decide_eq_false (by omega)]) J<|?_;refine qm (fu:=⟨12⟩) (ds1:=[b6 f]) (ds2:=[]) J (.cons (tj hf.sm) (cp.2 J)) (cp.2 J) (yQ hf) J<|?_;refine ke 41 J ?_;refine gx J<|cl J (ij (i:=3000) (j:=i) (by decide) (by omega)) J<|?_;refine br (fu2:=⟨6⟩) J J J (fun hc48=>?_) (fun hc48=>?_)
    .
     exact rz J (by rw[nD hf.nl hf.nh];(repeat' split)<;>first|rfl|(exfalso;omega))
    .
     refine qm (fu:=⟨12⟩) (ds1:=[b6 f]) (ds2:=[]) J (.cons (tj hf.sm) (cp.2 J)) (cp.2 J) (A1 hf) J<|?_;refine ke 55 J ?_;refine gx J<|cl J (ij (i:=3000) (j:=i) (by decide) (by omega)) J<|?_;refine br J J J (fun hc62=>?_) (fun hc62=>?_)
     .
      exact rz J (by rw[nD hf.nl hf.nh];(repeat' split)<;>first|rfl|(exfalso;omega))
     .
      exact rz J (by rw[nD hf.nl hf.nh];(repeat' split)<;>first|rfl|(exfalso;omega))
def Dz{E:List aI}(hE: ∀f∈E,FE f)(hn:E.length<=1000000){p:aa}{i:Nat}[hp:aw p i](hi:i<=100000:=by decide):PF GB prog 77 [.sl (E.map b6),eZ p] (vI (eo E p)):=by
 have hml:(E.map b6).length=E.length:=aX ..;refine fn (fu:=⟨16⟩) func77 J J ntmps77 J J (fun C=>?_);refine aj 9 (.d (vI (E.length:Nat))) J (by rw[hml]<;>rfl) ?_;refine gx J<|?_;refine lp (X:=Nat) (fun k=>[(10, .d (vI (k:Nat))),(5, .d (vI (eo (E.take k) p)))]) (fun k=>[]) (fun k=>k<=E.length) (fun k=>E.length-k) 0 J (bJ _) (fun _=>J) (fun k hk=>?_);have hw:=JQ E p k;refine br J J J (fun hc11=>?_) (fun hc11=>?_)
 .
  obtain⟨f,hx⟩: ∃u,E[k]? =some u:=⟨_,aQ (by omega)⟩;have hf:=hE f (aU hx);have hcl:=Er f p;refine ix _ J (cO hx) J<|cl J (RK hf (p:=p) (i:=i) hi) J<|?_;refine aj 5 (.d (vI (eo (E.take (k+1)) p))) J (by rw[Jp hx]<;>rfl) ?_;exact at_ (k+1) ⟨(by omega),(by omega)⟩
 .
  obtain rfl:k=E.length:=by omega
  rw[bN];exact rz J J
def Mo{f:aI}(hf:FE f){p:aa}{i:Nat}[hp:aw p i](hi:i<=100000:=by decide):PF GB prog 225 [b6 f, .pt [vI (di p.x),vI (c7 p.x),cH p.x,vI (di p.y),vI (c7 p.y),cH p.y]] (vB (ir f p)):=by
 refine fn func225 J J ntmps225 J J (fun C=>?_);refine sE 1 J<|gx J<|cl J (Bj hf (p:=p) (i:=i) hi) J<|?_;exact rz J J
def Ms{E:List aI}(hn:E.length<=1000000){f:FuncId}{pv:Value}{dp:DV}(hp:Is GB dp pv){g:aI->Bool}(hF: ∀x∈E,PF GB prog f [b6 x,dp] (vB (g x))):PF GB prog 224 [.sl (E.map b6), .v (.func (.func f) ⟨[]⟩ ⟨[pv]⟩)] (vB (E.any g)):=by
 refine fn func224 J J ntmps224 J J (fun C=>?_);refine cx J (QC hn hp hF) (fun _=>J) (fun⟨j,hj,hj1,hj2⟩=>?_)
 try dsimp only
 exact rz J (by show DV.v (.bool (decide _))= .v (.bool _);congr 2;rw[pN,decide_eq_true_eq];exact hj)
def y4{E:List aI}(hE: ∀f∈E,FE f)(hn:E.length<=1000000){p:aa}{i:Nat}[hp:aw p i](hi:i<=100000:=by decide):PF GB prog 131 [.sl (E.map b6),eZ p] (vB (E.any fun f=>ir f p)):=by
 refine fn (fu:=⟨9⟩) func131 J J ntmps131 J J (fun C=>?_);refine fz 3 J J ?_;refine tg 3 J (fun GB' pv hg hpv=>?_);refine J0 J J<|cl J (Ms (E:=E) hn hpv (fun f hf=>Mo (hE f hf) (p:=p) (i:=i) hi)) J<|?_;exact rz J J
def lf(v:List aa):List (List DV):=(List.range v.length).map fun i=>[vI (i:Nat),wg (v.getD i ⟨0,0⟩) (v.getD ((i+1)%v.length) ⟨0,0⟩)]
def IM{v:List aa}{i:Nat}{p q:aa}(h1:v[i]? =some p)(h2:v[(i+1)%v.length]? =some q):(lf v)[i]? =some [vI (i:Nat),wg p q]:=by
 have hi:=(aL.1 h1).1;unfold lf;rw[fW,qK hi,iJ,aJ,aJ,h1,h2];rfl
def K2{v:List aa}{i:Nat}{e:List DV}(h:(lf v)[i]? =some e): ∃p q,v[i]? =some p/\v[(i+1)%v.length]? =some q/\e=[vI (i:Nat),wg p q]:=by
 have hi:i<v.length:=by
  have:=(aL.1 h).1;unfold lf at this;simpa using this
 have h1:v[i]? =some v[i]:=aQ hi;have hm:(i+1)%v.length<v.length:=cV _ (by omega);have h2:v[(i+1)%v.length]? =some v[(i+1)%v.length]:=aQ hm;refine⟨_,_,h1,h2,?_⟩;rw[IM h1 h2] at h;exact(Option.some.inj h).symm
def DN{v:List aa}: ∀e∈lf v,e.length=2:=fun e he=>by
 obtain⟨i,_,rfl⟩:=bY.1 he;rfl
def F4{v:List aa}(hn:v.length<=100000):It GB prog 253 [.pt [.sl (v.map eZ)]] (lf v):=by
 have hml:(v.map eZ).length=v.length:=aX ..;have hrl:(lf v).length=v.length:=by unfold lf;simp
 refine NK func253 J J ntmps253 J (fun _=>J) (fun l Jv Jx GB' hg H C hp hJ=>?_);refine sE 1 J<|gx J<|?_;refine aj 6 (.d (vI (v.length:Nat))) J (by rw[hml]<;>rfl) ?_;refine P8 (X:=Nat) (fun k=>[(0, .d (.v (.func (.yield l) #[] #[]))),(1, .ep [.sl (v.map eZ)]),(5, .d (.sl (v.map eZ))),(6, .d (vI (v.length:Nat))),(7, .d (vI (k:Nat)))]) (fun k C=>k<=v.length/\Jv k C.G0 C.w0) (fun k=>v.length-k) 0 hp ⟨bJ _,hJ⟩ (fun _=>J) (fun k C1 hp1 hk=>?_);obtain⟨hk1,hJ1⟩:=hk;refine br J J J (fun hc8=>?_) (fun hc8=>?_)
 ·obtain⟨p,hpx⟩: ∃u,v[k]? =some u:=⟨_,aQ (by omega)⟩
  obtain⟨q,hqx⟩: ∃u,v[(k+1)%v.length]? =some u:=⟨_,aQ (cV _ (by omega))⟩;refine ix _ J (cO hpx) J<|?_;refine aj 20 (.d (vI (((k+1)%v.length:Nat):Int))) J (by rw[hml]<;>rfl) ?_;refine gx J<|ix _ J (cO hqx) J<|Nw (len:=2) (s:=6) (e:=141) J (by kernel_rfl) (by kernel_rfl) J<|?_;refine O6 (by kernel_rfl) J ?_;refine cy [(0, .d (.v (.func (.yield l) #[] #[]))),(1, .ep [.sl (v.map eZ)]),(5, .d (.sl (v.map eZ))),(6, .d (vI (v.length:Nat))),(7, .d (vI (k:Nat)))] H hp1 hJ1 J (IM hpx hqx) J (by repeat (first|exact trivial|refine And.intro J ?_)) J J J (fun C3 hp3 hJ3=>?_) (fun C3 hp3 hJ3=>?_)
  ·exact QX (k+1) hp3 ⟨⟨by omega,hJ3⟩,by omega⟩
  ·exact DM H hp3 (.inr hJ3) J
 ·obtain rfl:k=v.length:=by omega
  exact DM H hp1 (.inl (by rw[hrl];exact hJ1)) J
def IC{v:List aa}:CY GB prog 165 [.sl (v.map eZ)] 253 (.pt [.sl (v.map eZ)]):=by
 refine RE func165 J J ntmps165 J J (fun C=>?_);refine fz 1 J J ?_;refine tg 1 J (fun GB' pv hg hp=>?_);refine J0 J J ?_;exact RP J J hp
def Qa:Bn 139:=fun x w=>by kernel_rfl
def Ot(m:List Value):vE 139 (.agg ⟨m⟩) "Mul" 207:=fun w=>by kernel_rfl
def Qi(l:List Rat)(k:Nat)(y:Rat):(l.map eF).set k (eF y)=(l.set k y).map eF:=(nR ..).symm
def jP(L:List Rat)(k:Rat)(j:Nat):List Rat:=(L.take j).map (· *k)++L.drop j
def Ni(L:List Rat)(k:Rat)(j:Nat):(jP L k j).length=L.length:=by
 unfold jP;rw[bK,aX,bR,lQ];omega
def Vx{L:List Rat}{k a:Rat}{j:Nat}(h:L[j]? =some a):(jP L k j)[j]? =some a:=by
 have hj:=(aL.1 h).1;unfold jP;rw[fY (by rw[aX,bR];omega),aX,bR,iM,<-h];congr 1;omega
def Qd{L:List Rat}{k a:Rat}{j:Nat}(h:L[j]? =some a):(jP L k j).set j (a*k)=jP L k (j+1):=by
 have hj:=(aL.1 h).1;unfold jP;rw[cJ,h,List.set_append_right _ _ (by rw[aX,bR];omega),aX,bR,show j-min j L.length=0 by omega,bS hj];simp only[Option.toList_some,cX,cZ,iR,List.set_cons_zero,fX,jZ,jL]
def IS{L:List Rat}{k:Rat}{i:Nat}[hk:BQ k i](hL: ∀a∈L,¬d5 a)(hb: ∀a∈L,BQ a i)(hn:L.length<=1000)(hi:i<=1000000:=by decide):PB GB prog 338 (iv [some (eF k),none]) 3 139 (L.map eF) (fun w=> .v (.slice w.a w.n w.c)) ((L.map (· *k)).map eF):=by
 have hml:(L.map eF).length=L.length:=aX ..;refine ww (fu:=⟨11⟩) func338 J J ntmps338 J J (fun C=>?_);refine aj 7 (.d (vI (L.length:Nat))) J (by rw[hml]<;>rfl) ?_;refine gx J<|?_;refine lp (X:=Nat) (fun j=>[(8, .d (vI (j:Nat)))]) (fun j=>[(1000000,some (.b 139 3 ((jP L k j).map eF) false))]) (fun j=>j<=L.length) (fun j=>L.length-j) 0 J (bJ _) (fun _=>J) (fun j hk=>?_);have hsl:=Ni L k j;have hsm:((jP L k j).map eF).length=(jP L k j).length:=aX ..;refine br J J J (fun hc9=>?_) (fun hc9=>?_)
 .
  obtain⟨a,hx⟩: ∃u,L[j]? =some u:=⟨_,aQ (by omega)⟩;have ham:=aU hx;haveI:=hb a ham;have hga:(jP L k j)[j]? =some a:=Vx hx;refine lb (fu:=⟨0⟩) _ J (cO hga) J<|R5 (fu:=⟨1⟩) (rV a) J Qa (fun G y hy=>Ru (hL a ham) hy) J<|Ul J (Ot _) (PF.arg0 (oF (p:=a) (q:=k) (i:=i) (j:=i) (by omega) (by omega)) (fun G y h=>by rw[bc.1 h];exact L6 (hL a ham))) J<|?_;refine sb (hv:=by simp only[ah];exact⟨by kernel_rfl,by omega⟩) _ ((jP L k (j+1)).map eF) J (cO hga) J (by rw[<-Qd hx,<-Qi]<;>rfl) J<|?_;exact at_ (j+1) ⟨(by omega),(by omega)⟩
 .
  obtain rfl:j=L.length:=by omega
  have hend:jP L k L.length=L.map (· *k):=by unfold jP;rw[bN,gR,kY]
  exact pP J J J (by rw[hend])
def BR{a:Int}{g:Nat}(hg:0<g)(hd:g∣a.natAbs):(a:Rat)*(((g:Nat):Int):Rat)⁻¹=((zv (decide (a<0)) (a.natAbs/g):Int):Rat):=by
 obtain⟨q,hq⟩:=hd;have e:zv (decide (a<0)) (a.natAbs/g)*(g:Int)=a:=by
  rw[hq,oN q hg];unfold zv;have hc:((g*q:Nat):Int)=(g:Int)*(q:Int):=by simp
  have hm:=Int.mul_comm (g:Int) (q:Int);split
  ·rename_i h
   have h:=of_decide_eq_true h;rw[Int.neg_mul];omega
  ·rename_i h
   have h: ¬a<0:=fun k=>h (decide_eq_true k);omega
 generalize zv (decide (a<0)) (a.natAbs/g)=z at*;have h0:((g:Int):Rat)≠0:=by
  intro k;have:(g:Int)=0:=by exact_mod_cast k
  omega
 rw[<-e,dW];generalize ((g:Int):Rat)=r at*;grind
def n4{z:Int}(h:z.natAbs<=1000000): ¬d5 (z:Rat):=fun k=>k ⟨by show z.natAbs<_;omega,by show 1<_;decide⟩
def FJ{q:Rat}{k:Nat}(h:BQ q k)(hk:k<=62): ¬d5 q:=fun b=>b (by
 have hp:2^k<=2^62:=aM (by decide) hk;have e:(2:Nat)^62=4611686018427387904:=by decide
 obtain⟨h1,h2⟩:=h;exact⟨by omega,by omega⟩)
theorem tk(p q:aa){i j:Nat}[aw p i][aw q j]:aw ⟨p.x-q.x,p.y-q.y⟩ (i+j+1):=⟨inferInstanceAs (BQ (p.x-q.x) _),inferInstanceAs (BQ (p.y-q.y) _)⟩
theorem fC{z:Int}(h:z.natAbs<=1000000):BQ (z:Rat) 22:=by
 have e:(2:Nat)^21=2097152:=by decide
 haveI:BI z 21:=⟨by omega⟩;exact(inferInstance:BQ (z:Rat) 22)
def Qs{a b c:Int}(ha:a.natAbs<=1000000)(hb:b.natAbs<=1000000)(hc:c.natAbs<=1000000)(h0: ¬(a=0/\b=0)):PF GB prog 243 [eF (a:Rat),eF (b:Rat),eF (c:Rat)] (.tp [cF (er a b c),vB true]):=by
 haveI:=fC ha;haveI:=fC hb;haveI:=fC hc;have hgn:Nat.gcd a.natAbs b.natAbs≠0:=fun h=>h0 ⟨jQ.1 (jM h),jQ.1 (jS h)⟩;have hgp:0<Nat.gcd (Nat.gcd a.natAbs b.natAbs) c.natAbs:=jK _ (fT hgn);have eg:rgcd (rgcd (a:Rat) b) c=(((Nat.gcd (Nat.gcd a.natAbs b.natAbs) c.natAbs:Nat):Int):Rat):=by rw[Cd,Cd];rfl
 have e1:(a:Rat)*(rgcd (rgcd (a:Rat) b) c)⁻¹=((er a b c).a:Rat):=by rw[eg];exact BR hgp (oV (iY _ _) (iY _ _))
 have e2:(b:Rat)*(rgcd (rgcd (a:Rat) b) c)⁻¹=((er a b c).b:Rat):=by rw[eg];exact BR hgp (oV (iY _ _) (jR _ _))
 have e3:(c:Rat)*(rgcd (rgcd (a:Rat) b) c)⁻¹=((er a b c).c:Rat):=by rw[eg];exact BR hgp (jR _ _)
 haveI:BQ (rgcd (a:Rat) b) 200:=BQ.mono (inferInstance:BQ (rgcd (a:Rat) b) _) (by decide);haveI:BQ (rgcd (rgcd (a:Rat) b) c) 600:=BQ.mono (inferInstance:BQ (rgcd (rgcd (a:Rat) b) c) _) (by decide);haveI:BQ (rgcd (rgcd (a:Rat) b) c)⁻¹ 600:=BQ.mono (inferInstance:BQ (rgcd (rgcd (a:Rat) b) c)⁻¹ _) (by decide);have hl4:([((er a b c).a:Rat),((er a b c).b:Rat),((er a b c).c:Rat)].map eF).length=3:=J;have hl3:[((er a b c).a:Rat),((er a b c).b:Rat),((er a b c).c:Rat)].length=3:=J;refine fn func243 J J ntmps243 J J (fun C=>?_);refine cl J (yk (q:=(a:Rat))) J<|?_;refine csd 11 J J J (fun hg11=>?_) (fun hg11=>?_)
 .
  refine cl J (yk (q:=(b:Rat))) J<|?_;refine bd J J J (fun hc14=>?_) (fun hc14=>?_)
  .
   exact absurd ⟨by exact_mod_cast hg11,by exact_mod_cast hc14⟩ h0
  .
   refine cl J (vg (p:=(a:Rat)) (q:=(b:Rat)) (i:=22) (j:=22)) J<|cl J (vg (p:=rgcd (a:Rat) b) (q:=(c:Rat)) (i:=200) (j:=22)) J<|?_;refine cl rfl (xi (q:=rgcd (rgcd (a:Rat) b) c) (i:=600)) rfl<|ro (fu:=⟨0⟩) J J<|cq (hv:=by simp only[ah];exact⟨by kernel_rfl,by omega⟩) ([((er a b c).a:Rat),((er a b c).b:Rat),((er a b c).c:Rat)].map eF) rfl (IS (L:=[(a:Rat),(b:Rat),(c:Rat)]) (k:=(rgcd (rgcd (a:Rat) b) c)⁻¹) (i:=600) (by intro q hq;simp only[aR,kZ,or_false] at hq;rcases hq with rfl|rfl|rfl;exact n4 ha;exact n4 hb;exact n4 hc) (by intro q hq;simp only[aR,kZ,or_false] at hq;rcases hq with rfl|rfl|rfl;exact(fC ha).mono (by decide);exact(fC hb).mono (by decide);exact(fC hc).mono (by decide)) (nb rfl)) (by simp only[cZ,iR,e1,e2,e3]) rfl<|?_;refine lb _ J J J<|lb _ J J J<|lb _ J J J<|?_;exact rz J J
 .
  refine cl J (vg (p:=(a:Rat)) (q:=(b:Rat)) (i:=22) (j:=22)) J<|cl J (vg (p:=rgcd (a:Rat) b) (q:=(c:Rat)) (i:=200) (j:=22)) J<|?_;refine cl rfl (xi (q:=rgcd (rgcd (a:Rat) b) c) (i:=600)) rfl<|ro (fu:=⟨0⟩) J J<|cq (hv:=by simp only[ah];exact⟨by kernel_rfl,by omega⟩) ([((er a b c).a:Rat),((er a b c).b:Rat),((er a b c).c:Rat)].map eF) rfl (IS (L:=[(a:Rat),(b:Rat),(c:Rat)]) (k:=(rgcd (rgcd (a:Rat) b) c)⁻¹) (i:=600) (by intro q hq;simp only[aR,kZ,or_false] at hq;rcases hq with rfl|rfl|rfl;exact n4 ha;exact n4 hb;exact n4 hc) (by intro q hq;simp only[aR,kZ,or_false] at hq;rcases hq with rfl|rfl|rfl;exact(fC ha).mono (by decide);exact(fC hb).mono (by decide);exact(fC hc).mono (by decide)) (nb rfl)) (by simp only[cZ,iR,e1,e2,e3]) rfl<|?_;refine lb _ J J J<|lb _ J J J<|lb _ J J J<|?_;exact rz J J
theorem n9{z:ZP}(h:ZP.le 100 z):aw z.q 22:=⟨fC (by have:=h.1;omega),fC (by have:=h.2;omega)⟩
def pb{a b:Int}{m n:Nat}(ha:a.natAbs<=m)(hb:b.natAbs<=n):(a*b).natAbs<=m*n:=by
 rw[gQ];exact mY ha hb
def Qg{v w:ZP}(hv:ZP.le 100 v)(hw:ZP.le 100 w)(h:v≠w):PF GB prog 151 [eZ v.q,eZ w.q] (.tp [cF (fp v.1 v.2 w.1 w.2),vB true]):=by
 haveI:=n9 hv;haveI:=n9 hw;have hv1:=hv.1;have hv2:=hv.2;have hw1:=hw.1;have hw2:=hw.2;obtain⟨A,hA⟩: ∃A,A=gy v.2 w.2:=⟨_,rfl⟩;obtain⟨B,hB⟩: ∃B,B=gu v.1 w.1:=⟨_,rfl⟩;obtain⟨C0,hC⟩: ∃C0,C0=mm v.1 v.2 w.1 w.2:=⟨_,rfl⟩;have bA:A.natAbs<=200:=by rw[hA];unfold gy;omega
 have bB:B.natAbs<=200:=by rw[hB];unfold gu;omega
 have m1:=pb bA hv1;have m2:=pb bB hv2;have eC:C0= -(A*v.1+B*v.2):=by rw[hC,hA,hB];rfl
 have bC:C0.natAbs<=40000:=by rw[eC];omega
 have h0: ¬(A=0/\B=0):=fun k=>h (Prod.ext (by have:=k.2;rw[hB] at this;unfold gu at this;omega) (by have:=k.1;rw[hA] at this;unfold gy at this;omega));haveI:aw (iP A B) 22:=⟨fC (by omega),fC (by omega)⟩;haveI:BQ ((A*v.1+B*v.2:Int):Rat) 22:=fC (by omega);have eT:l5 ⟨w.q.x-v.q.x,w.q.y-v.q.y⟩=iP A B:=by rw[hA,hB];unfold l5 iP gy gu ZP.q iP;simp only[aa.mk.injEq];push_cast;constructor<;>grind
 have eD:(iP A B).dot v.q=((A*v.1+B*v.2:Int):Rat):=by unfold aa.dot iP ZP.q iP;push_cast;rfl
 have eN: -((A*v.1+B*v.2:Int):Rat)=((C0:Int):Rat):=by rw[eC];push_cast;rfl
 refine fn func151 J J ntmps151 J J (fun C=>?_);refine cl J (Dc (p:=w.q) (q:=v.q) (i:=22) (j:=22)) J<|cl (fu:=⟨0⟩) J (Hz (p:=⟨w.q.x-v.q.x,w.q.y-v.q.y⟩) (i:=45) (h:=tk w.q v.q)) J<|?_;refine aj 12 (.d (eZ (iP A B))) J (by rw[eT]) ?_;refine gx J<|cl (fu:=⟨0⟩) J (nv (p:=iP A B) (q:=v.q) (i:=22) (j:=22)) J<|?_;refine aj 19 (.d (eF ((A*v.1+B*v.2:Int):Rat))) J (by rw[eD]) ?_;refine gx J<|cl (fu:=⟨0⟩) J (lO (q:=((A*v.1+B*v.2:Int):Rat)) (i:=22)) J<|?_;refine aj 20 (.d (eF ((C0:Int):Rat))) J (by rw[eN]) ?_;refine gx J<|cl J (Qs (a:=A) (b:=B) (c:=C0) (by omega) (by omega) (by omega) h0) J<|?_;exact rz J (by rw[hA,hB,hC];rfl)
theorem IZ{l:ab}(ho:l.ok)(ha:l.a.natAbs<=200)(hb:l.b.natAbs<=200){m n:Int}(hm:m.natAbs<=100)(hn:n.natAbs<=100):BQ (dl l (iP m n)) 60:=by
 have hd:=Bd ho.ne;have p1:=pb ha ha;have p2:=pb hb hb;have p3:=pb hm hb;have p4:=pb hn ha;have h60:(2:Nat)^60=1152921504606846976:=by decide
 have hA:BI (l.a*l.a+l.b*l.b) 60:=⟨by omega⟩;have hB:BI (m*l.b-n*l.a) 60:=⟨by omega⟩;have e1:l.dir.dot l.dir=((l.a*l.a+l.b*l.b:Int):Rat):=by
  rw[qZ,dW,dW];simp only[ab.dir,aa.dot];grind
 have e2:(iP m n).dot l.dir=((m*l.b-n*l.a:Int):Rat):=by
  rw[qJ,dW,dW];simp only[ab.dir,aa.dot,iP];grind
 have hd':((0:Int):Rat)<((l.a*l.a+l.b*l.b:Int):Rat):=by rw[<-e1];exact hd
 unfold dl;rw[e2,e1];clear e1 e2 p1 p2 p3 p4;generalize l.a*l.a+l.b*l.b=D at*;generalize m*l.b-n*l.a=M at*;have hD:0<D:=kM.1 hd';refine BQ.of_fracI (n:=M) (D:=D) (by omega) ?_ hB hA;have h0:(D:Rat)≠0:=fun e=>by rw[e] at hd';exact absurd hd' (by decide)
 have:((D.natAbs:Nat):Rat)=(D:Rat):=by
  have h1:((D.natAbs:Nat):Int)=D:=by omega
  rw[<-h1];rfl
 rw[this];grind
def Hq{v w:ZP}(hv:ZP.le 100 v)(hw:ZP.le 100 w)(h:v≠w):FE (bP v w):=by
 have hf:=HM hv hw h;have hv1:=hv.1;have hv2:=hv.2;have hw1:=hw.1;have hw2:=hw.2;have bA:(gy v.2 w.2).natAbs<=200:=by unfold gy;omega
 have bB:(gu v.1 w.1).natAbs<=200:=by unfold gu;omega
 have m1:=pb bA hv1;have m2:=pb bB hv2;have bC:(mm v.1 v.2 w.1 w.2).natAbs<=40000:=by unfold mm;omega
 obtain⟨k1,k2,k3⟩:=Fh (gy v.2 w.2) (gu v.1 w.1) (mm v.1 v.2 w.1 w.2);have ea:(bP v w).l.a.natAbs<=200:=fQ k1 bA;have eb:(bP v w).l.b.natAbs<=200:=fQ k2 bB;have ec:(bP v w).l.c.natAbs<=40000:=fQ k3 bC;exact⟨hf,⟨n4 (by omega),n4 (by omega),n4 (by omega),FJ (IZ hf.ok ea eb hv1 hv2) (by decide),FJ (IZ hf.ok ea eb hw1 hw2) (by decide)⟩,J,J⟩
def U'{r:List ZP}(h:dt r): ∀f∈eh r,FE f:=fun f hf=>by
 obtain⟨k,hk,rfl⟩:=AI hf;exact Hq (h.le _ (pD hk)) (h.le _ (rm hk)) (h.ne k hk)
def yi{rs:List (List ZP)}(h: ∀r∈rs,dt r): ∀f∈ck rs,FE f:=fun f hf=>by
 obtain⟨r,h1,h2⟩:=gL.1 hf;exact U' (h r h1) f h2
def Vt{v w:ZP}(hv:ZP.le 100 v)(hw:ZP.le 100 w)(h:v≠w):PF GB prog 166 [eZ v.q,eZ w.q] (.tp [b6 (bP v w),vB true]):=by
 have hf:=Hq hv hw h;haveI:LB (fp v.1 v.2 w.1 w.2):=hf.fo.lb;haveI:=n9 hv;haveI:=n9 hw;refine fn func166 J J ntmps166 J J (fun C=>?_);refine cl (fu:=⟨12⟩) J (Qg hv hw h) J<|?_;refine ke 14 J ?_;refine gx J<|cl J (tH (l:=fp v.1 v.2 w.1 w.2) (p:=v.q) (i:=22)) J<|cl J (tH (l:=fp v.1 v.2 w.1 w.2) (p:=w.q) (i:=22)) J<|?_;exact rz J J
def wT{r:List ZP}{k:Nat}{p:aa}(h:(r.map ZP.q)[k]? =some p):k<r.length/\p=(r.getD k (0,0)).q:=by
 rw[fW] at h
 cases e:r[k]? with
 |none=>rw[e] at h;cases h
 |some z=>
  rw[e] at h;cases h;exact⟨(aL.1 e).1,by rw[aJ,e];rfl⟩
def w8(r:List ZP): ∀n,(gp r n).length=n
 |0=>rfl
 |n+1=>by rw[gp,bK,w8 r n];rfl
def Gm{r:List ZP}{k:Nat}: ∀{n:Nat},k<n->(gp r n)[k]? =some (bP (r.getD k (0,0)) (dF r k))
 |0,h=>by omega
 |n+1,h=>by
  rw[gp];by_cases e:k=n
  ·subst e
   rw[fY (by rw[w8];omega),w8,Nat.sub_self];rfl
  ·rw[cR (by rw[w8];omega)]
   exact Gm (by omega)
def IT(l:List aI):dq 17 (l.map b6):=fun d hd=>by
 obtain⟨x,_,rfl⟩:=bY.1 hd;exact⟨J,J⟩
def RH{L:List aI}{k:Nat}{l:aI}(h:L[k]? =some l):((L.take k).map b6)++[b6 l]=(L.take (k+1)).map b6:=by
 rw[cJ,h,cX];rfl
def P2{r:List ZP}(h:dt r):PF GB prog 74 [.sl ((r.map ZP.q).map eZ)] (.sl ((eh r).map b6)):=by
 have hn:=h.n6;obtain⟨v,hv⟩: ∃v,v=r.map ZP.q:=⟨_,rfl⟩;have hvl:v.length=r.length:=by rw[hv,aX]
 rw[<-hv];have hel:(eh r).length=r.length:=(rQ h).1;have hrl:(lf v).length=r.length:=by unfold lf;rw[aX,pV,hvl]
 refine FC func74 J J ntmps74 J J (fun C h0=>?_);refine Ee J J J IC (fun _=>J) (fun GB1 pv hg1 hpv=>?_);refine Le 3 0 50 222 17 J J J J J ?_;refine BD 3 2000003 h0.fx J ?_;refine I0 (σ:=Empty) (fun k=>[(2000003,some (.o 130 [.rw 50] true)),(50,some (.b 222 17 (((eh r).take k).map b6) true))]) (fun _=>True) (fun _=>[]) (fun _=>False) [(3, .ov 2000003 0)]
  h0 J (F4 (by omega)) (.cons hpv .nil) ⟨J,trivial⟩ J ⟨J,J,trivial⟩ trivial DN J J (fun k e GB' hE hg hp=>?_) (fun D hD hx hp=>?_) (fun D s hD hx hq=>hq.elim)
 ·obtain⟨p,q,hpx,hqx,rfl⟩:=K2 hE
  rw[hvl] at hqx;rw[hv] at hpx hqx;obtain⟨hk,rfl⟩:=wT hpx;obtain⟨hk2,rfl⟩:=wT hqx;have hx:(eh r)[k]? =some (bP (r.getD k (0,0)) (dF r k)):=Gm hk;have hml:(((eh r).take k).map b6).length=k:=by rw[aX,bR];omega
  refine⟨?_,?_,fun C2=>?_,fun C2=>?_⟩
  rotate_left 2
  ·refine gx J<|KR J J J ⟨J,J,J⟩ J ?_
   exact atR
  ·refine gx J<|wz 0 (e:=141) (len:=2) (s:=6) J (by kernel_rfl) (by kernel_rfl) (by decide) J<|wz 1 (e:=141) (len:=2) (s:=6) J (by kernel_rfl) (by kernel_rfl) (by decide) J<|?_
   refine cl J (Vt (h.le _ (pD hk)) (h.le _ (rm hk)) (h.ne k hk)) J<|?_;refine rf J J<|ap (((eh r).take (k+1)).map b6) J (RH hx) (IT [bP (r.getD k (0,0)) (dF r k)]) J<|?_;refine fA 23 50 J ?_;exact rq trivial ⟨J,J,trivial⟩
 ·rw[hrl,<-hel,bN]
  refine gx J<|?_;refine jw 50 J ?_;exact Gl hD hx J J
def R2{a i:Nat}[h:BN a i](hi:i<=1000000000:=by decide):PF GB prog 348 [dN a] (.v (.bool true)):=
 (Hd (ds:=dg a) (dB _).2.1 (by have:=jB (a:=a) hi;omega)).to (by unfold vB;rw[decide_eq_true (dB a).2.2])
def Hi{q:Rat}{i:Nat}[hq:BQ q i](hi:i<=1000000:=by decide):PF GB prog 284 [eR q] (.v (.bool true)):=by
 have hd:=q.den_pos;have hdl:0<(dg q.den).length:=fT fun e=>by have:=qn.1 e;omega
 have hml:((dg q.den).map dU).length=(dg q.den).length:=aX ..;have hco:Nat.gcd q.num.natAbs q.den=1:=q.reduced;refine fn func284 J J ntmps284 J J (fun C=>?_);refine cl (fu:=⟨0⟩) J (NT (m:=q.num) (i:=i) (h:=⟨hq.hn⟩) (by omega)) J<|?_;refine ke 5 J ?_;refine gx J<|cl (fu:=⟨0⟩) J (R2 (a:=q.den) (i:=i) (h:=⟨hq.hd⟩) (by omega)) J<|?_;refine ke 10 J ?_;refine gx (fu:=⟨6⟩) J<|fq J (by show some (decide _)=some false;rw[decide_eq_false (by omega)]) J<|cl (fu:=⟨0⟩) J (Db (a:=q.num.natAbs) (b:=q.den) (i:=i) (j:=i) (h:=⟨hq.hn⟩) (k:=⟨hq.hd⟩) (by omega) (by omega)) J<|?_;refine aj 24 (.d (dN 1)) J (by rw[hco]) ?_;refine gx J<|cl J (o4 (a:=1) (i:=1) (h:=⟨by decide⟩)) J<|?_;exact rz J J
def MZ{p:aa}{i:Nat}[hp:aw p i](hi:i<=1000000:=by decide):PF GB prog 189 [gh p] (.v (.bool true)):=by
 refine fn func189 J J ntmps189 J J (fun C=>?_);refine cl (fu:=⟨0⟩) J (Hi (q:=p.x) (i:=i) (by omega)) J<|?_;refine ke 5 J ?_;refine gx J<|cl J (Hi (q:=p.y) (i:=i) (by omega)) J<|?_;exact rz J J
def Jq{m n:Int}(hm:m.natAbs<=1000000)(hn:n.natAbs<=1000000):PF GB prog 111 [vI m,vI n] (gh (iP m n)):=by
 haveI:=fC hm;haveI:=fC hn;haveI:aw (iP m n) 22:=⟨fC hm,fC hn⟩;refine fn func111 J J ntmps111 J J (fun C=>?_);refine cl J (tF (m:=m) (by omega)) J<|cl J (tF (m:=n) (by omega)) J<|cl J (Mv (p:=iP m n) (i:=22)) J<|?_;exact rz J J
def jC(l:List aa)(p:aa):Int:=match l.findIdx? (fun q=>decide (q.x=p.x/\q.y=p.y)) with
 |some i=>(i:Nat)
 |none=> -1
def w4{l:List aa}{p q:aa}{k:Nat}(hx:l[k]? =some q)(h:(l.take k).all (fun q=>!decide (q.x=p.x/\q.y=p.y))=true)(hq:q.x=p.x/\q.y=p.y):jC l p=(k:Nat):=by
 have hk:=(aL.1 hx).1;have e:l.findIdx? (fun q=>decide (q.x=p.x/\q.y=p.y))=some k:=by
  rw[List.findIdx?_eq_some_iff_getElem];refine⟨hk,?_,fun j hj=>?_⟩
  ·rw[(aL.1 hx).2];exact decide_eq_true hq
  ·have:=dT.1 h l[j] (by rw[List.mem_take_iff_getElem];exact⟨j,by omega,J⟩)
   simp at this⊢;intro a b;rcases this with k|k
   ·exact k a
   ·exact k b
 unfold jC;rw[e]
def T2{l:List aa}{p:aa}(h:l.all (fun q=>!decide (q.x=p.x/\q.y=p.y))=true):jC l p= -1:=by
 have e:l.findIdx? (fun q=>decide (q.x=p.x/\q.y=p.y))=none:=by
  rw[List.findIdx?_eq_none_iff];intro x hx;have:=dT.1 h x hx;simp at this⊢;intro a b;rcases this with k|k
  ·exact k a
  ·exact k b
 unfold jC;rw[e]
def OA{l:List aa}{k:Nat}{q:aa}{g:aa->Bool}(hx:l[k]? =some q)(h:(l.take k).all g=true)(hq:g q=true):(l.take (k+1)).all g=true:=by
 rw[cJ,hx,List.all_append,h];simp[hq]
def SE{l:List aa}{p:aa}{i:Nat}[hp:aw p i](hl: ∀q∈l,aw q i)(hn:l.length<=100000)(hi:i<=1000000:=by decide):PF GB prog 191 [.sl (l.map eZ),eZ p] (vI (jC l p)):=by
 have hml:(l.map eZ).length=l.length:=aX ..;refine fn (fu:=⟨11⟩) func191 J J ntmps191 J J (fun C=>?_);refine aj 8 (.d (vI (l.length:Nat))) J (by rw[hml]<;>rfl) ?_;refine gx J<|?_;refine lp (X:=Nat) (fun k=>[(9, .d (vI (k:Nat)))]) (fun k=>[]) (fun k=>k<=l.length/\(l.take k).all (fun q=>!decide (q.x=p.x/\q.y=p.y))=true) (fun k=>l.length-k) 0 J ⟨bJ _,J⟩ (fun _=>J) (fun k hk=>?_);obtain⟨hk,hall⟩:=hk;refine br J J J (fun hc10=>?_) (fun hc10=>?_)
 .
  obtain⟨q,hx⟩: ∃u,l[k]? =some u:=⟨_,aQ (by omega)⟩;haveI:=hl q (aU hx);refine ix _ J (cO hx) J<|cl J (KN (p:=q) (q:=p) (i:=i) hi) J<|?_;refine bd J J J (fun hc16=>?_) (fun hc16=>?_)
  .
   exact rz J (by rw[w4 hx hall hc16];rfl)
  .
   exact at_ (k+1) ⟨⟨by omega,OA hx hall (by rw[decide_eq_false hc16];rfl)⟩,(by omega)⟩
 .
  obtain rfl:k=l.length:=by omega
  rw[bN] at hall;exact rz J (by rw[T2 hall];rfl)
def dz(l:List aa):Nat->Nat
 |0=>0
 |k+1=>dz l k+if jC l (l.getD k ⟨0,0⟩)=(k:Nat) then 1 else 0
def gO(l:List aa)(k:Nat):Nat:=if 3<=dz l k then 3 else dz l k
def Sa{l:List aa}{k:Nat}(h:gO l k<3)(e:dz l (k+1)=dz l k+1):((gO l k:Nat):Int)+1=((gO l (k+1):Nat):Int):=by
 have a:gO l k=if 3<=dz l k then 3 else dz l k:=J
 have b:gO l (k+1)=if 3<=dz l (k+1) then 3 else dz l (k+1):=J
 split at a<;>split at b<;>omega
def Ht{l:List aa}{k:Nat}(h: ¬gO l k<3\/dz l (k+1)=dz l k)(m:dz l k<=dz l (k+1)):((gO l k:Nat):Int)=((gO l (k+1):Nat):Int):=by
 have a:gO l k=if 3<=dz l k then 3 else dz l k:=J
 have b:gO l (k+1)=if 3<=dz l (k+1) then 3 else dz l (k+1):=J
 split at a<;>split at b<;>omega
def Tq(l:List aa)(k:Nat):gO l k<=3:=by unfold gO;split<;>omega
def Vj{l:List aa}{k:Nat}(h:3<=dz l k):gO l k=3:=by unfold gO;rw[if_pos h]
def vM{l:List aa}{k:Nat}{p:aa}(hx:l[k]? =some p)(h:jC l p=(k:Nat)):dz l (k+1)=dz l k+1:=by
 rw[dz,aJ,hx,gU,if_pos h]
def MJ{l:List aa}{k:Nat}{p:aa}(hx:l[k]? =some p)(h: ¬jC l p=(k:Nat)):dz l (k+1)=dz l k:=by
 rw[dz,aJ,hx,gU,if_neg h];rfl
def Jd{l:List aa}{k:Nat}:dz l k<=dz l (k+1):=by rw[dz];split<;>omega
def M4{v:List aa}{k:Nat}{p:aa}(h:v[k]? =some p):((v.take k).map eZ)++[eZ p]=(v.take (k+1)).map eZ:=by
 rw[cJ,h,cX];rfl
def Ly{r:List ZP}(h:dt r){k:Nat}(hk:k<r.length):decide ((r.getD k (0,0)).q.x=(dF r k).q.x/\(r.getD k (0,0)).q.y=(dF r k).q.y)=false:=decide_eq_false fun e=>h.ne k hk (qA (by
 obtain⟨e1,e2⟩:=e;generalize (r.getD k (0,0)).q=a at*;generalize (dF r k).q=b at*
 cases a;cases b
 simp only[aa.mk.injEq];exact⟨e1,e2⟩))
def Rb{r:List ZP}(h:dt r)(h3:3<=dz (r.map ZP.q) (r.map ZP.q).length):PF GB prog 102 [ic r] (.tp [.sl ((r.map ZP.q).map eZ), .v .nilIface]):=by
 have hn:=h.n6;obtain⟨v,hv⟩: ∃v,v=r.map ZP.q:=⟨_,rfl⟩;have hvl:v.length=r.length:=by rw[hv,aX]
 have hb: ∀p∈v,aw p 22:=fun p hp=>by rw[hv] at hp;obtain⟨z,hz,rfl⟩:=bY.1 hp;exact n9 (h.le z hz)
 unfold ic;rw[<-hv] at h3⊢;have hm1:(v.map gh).length=v.length:=aX ..;have hm2:(v.map eZ).length=v.length:=aX ..;have hrl:(lf v).length=v.length:=by unfold lf;rw[aX,pV]
 refine FC (fu:=⟨11⟩) func102 J J ntmps102 J J (fun C h0=>?_);refine aj 13 (.d (vI (v.length:Nat))) J (by rw[hm1]<;>rfl) ?_;refine gx (fu:=⟨0⟩) J<|fq (fu:=⟨15⟩) J (by show some (decide _)=some false;rw[decide_eq_false (by omega)]) J<|?_;refine aj 20 (.d (vI (v.length:Nat))) J (by rw[hm1]<;>rfl) ?_;refine gx J<|?_;refine nr 4 4 141 6 J J J ?_;refine lp (X:=Nat) (fun k=>[(21, .d (vI (k:Nat))),(4, .rw 4)]) (fun k=>[(4,some (.b 141 6 ((v.take k).map eZ) true))]) (fun k=>k<=v.length) (fun k=>v.length-k) 0 J (bJ _) (fun _=>J) (fun k hk=>?_);have hm3:((v.take k).map eZ).length<=k:=by rw[aX,bR];omega
 refine br (fu2:=⟨0⟩) J J J (fun hc22=>?_) (fun hc22=>?_)
 .
  obtain⟨p,hx⟩: ∃u,v[k]? =some u:=⟨_,aQ (by omega)⟩;haveI:=hb p (aU hx);refine ix _ J (cO hx) J<|cl (fu:=⟨0⟩) J (MZ (p:=p) (i:=22)) J<|?_;refine ke 27 J ?_;refine gx J<|cl J (sG (p:=p) (i:=22)) J<|rf J J<|ap ((v.take (k+1)).map eZ) J (M4 hx) (qP [p]) J<|?_;refine fA 41 4 J ?_;exact at_ (k+1) ⟨(by omega),(by omega)⟩
 .
  obtain rfl:k=v.length:=by omega
  rw[bN];refine uq 4 J ?_;refine gx (fu:=⟨15⟩) J<|?_;refine aj 44 (.d (vI (v.length:Nat))) J (by rw[hm2]<;>rfl) ?_;refine gx J<|?_;refine lp (X:=Nat) (fun k=>[(45, .d (vI (k:Nat))),(7, .d (vI ((gO v k):Nat)))]) (fun k=>[]) (fun k=>k<=v.length) (fun k=>v.length-k) 0 J (bJ _) (fun _=>J) (fun k hk=>?_);have hdm:=Tq v k;refine br (fu2:=⟨9⟩) J J J (fun hc46=>?_) (fun hc46=>?_)
  .
   obtain⟨p,hx⟩: ∃u,v[k]? =some u:=⟨_,aQ (by omega)⟩;haveI:=hb p (aU hx);have hcm:=Jd (l:=v) (k:=k);refine ix _ J (cO hx) J<|?_;refine cs 52 J J J (fun hg52=>?_) (fun hg52=>?_)
   .
    refine cl J (SE (l:=v) (p:=p) (i:=22) hb (by omega)) J<|?_;refine br J J J (fun hc58=>?_) (fun hc58=>?_)
    .
     have he7:=Sa (by omega) (vM hx (by omega));refine aj 7 (.d (vI (gO v (k+1):Nat))) J (by rw[he7]<;>rfl) ?_;exact at_ (k+1) ⟨(by omega),(by omega)⟩
    .
     have he7:=Ht (.inr (MJ hx (by omega))) hcm;refine aj 7 (.d (vI (gO v (k+1):Nat))) J (by rw[he7]<;>rfl) ?_;exact at_ (k+1) ⟨(by omega),(by omega)⟩
   .
    have he7:=Ht (l:=v) (k:=k) (.inl (by omega)) hcm;refine aj 7 (.d (vI (gO v (k+1):Nat))) J (by rw[he7]<;>rfl) ?_;exact at_ (k+1) ⟨(by omega),(by omega)⟩
  .
   obtain rfl:k=v.length:=by omega
   have hd3:=Vj h3;refine fq (fu:=⟨9⟩) J (by show some (decide _)=some false;rw[decide_eq_false (by omega)]) J<|?_;refine Ee J J J IC (fun _=>J) (fun GB1 pv hg1 hpv=>?_);refine BD 2 2000002 h0.fx J<|BD 3 2000003 h0.fx J ?_;refine I0 (σ:=Empty) (fun _=>[(2000002,some (.o 132 [.nl] true)),(2000003,some (.o 34 [.d (.v .nilIface)] true))]) (fun _=>True) (fun _=>[]) (fun _=>False) [(2, .ov 2000002 0),(3, .ov 2000003 0),(4, .d (.sl (v.map eZ)))] h0 J (F4 (by omega)) (.cons hpv .nil) ⟨J,J,J,trivial⟩ J ⟨J,J,trivial⟩ trivial DN J J (fun k e GB' hE hg hp=>?_) (fun D hD hx hp=>?_) (fun D s hD hx hq=>hq.elim)
   ·obtain⟨p,q,hpx,hqx,rfl⟩:=K2 hE
    rw[hvl] at hqx;rw[hv] at hpx hqx;obtain⟨hk,rfl⟩:=wT hpx;obtain⟨hk2,rfl⟩:=wT hqx;haveI:=n9 (h.le _ (pD hk));haveI:=n9 (h.le _ (rm hk));have hne:=Ly h hk;refine⟨?_,?_,fun C2=>?_,fun C2=>?_⟩
    rotate_left 2
    ·refine gx J<|KR J J J ⟨J,J,J⟩ J ?_
     exact atR
    ·refine gx J<|wz 0 (e:=141) (len:=2) (s:=6) J (by kernel_rfl) (by kernel_rfl) (by decide) J<|wz 1 (e:=141) (len:=2) (s:=6) J (by kernel_rfl) (by kernel_rfl) (by decide) J<|?_
     refine cl J (KN (p:=(r.getD k (0,0)).q) (q:=(dF r k).q) (i:=22)) J<|?_;refine bd J J J (fun hc=>absurd (decide_eq_true hc) (by rw[hne];decide)) (fun hc=>?_);exact rq trivial ⟨J,J,trivial⟩
   ·refine gx J<|?_
    exact Gl hD hx J J
structure gr (r:List ZP):Prop where
 ok:dt r
 c3:3<=dz (r.map ZP.q) (r.map ZP.q).length
def oE(r:List ZP):DV:= .sl ((r.map ZP.q).map eZ)
def Sb(l:List (List ZP)):dq 1 (l.map oE):=fun d hd=>by
 obtain⟨x,_,rfl⟩:=bY.1 hd;exact⟨J,J⟩
def T3{L:List (List ZP)}{k:Nat}{l:List ZP}(h:L[k]? =some l):((L.take k).map oE)++[oE l]=(L.take (k+1)).map oE:=by
 rw[cJ,h,cX];rfl
def Ph{L:List (List ZP)}{k:Nat}{l:List ZP}(h:L[k]? =some l):((ck (L.take k)).map b6)++((eh l).map b6)=(ck (L.take (k+1))).map b6:=by
 rw[IP h,cX]
def OE{rs:List (List ZP)}(h: ∀r∈rs,gr r)(hn:rs.length<=200):PF GB prog 73 [.sl (rs.map ic)] (.tp [.sl (rs.map oE), .v .nilIface]):=by
 have hml:(rs.map ic).length=rs.length:=aX ..;refine fn (fu:=⟨11⟩) func73 J J ntmps73 J J (fun C=>?_);refine aj 10 (.d (vI (rs.length:Nat))) J (by rw[hml]<;>rfl) ?_;refine gx (fu:=⟨0⟩) J<|fq (fu:=⟨15⟩) J (by show some (decide _)=some false;rw[decide_eq_false (by omega)]) J<|?_;refine aj 17 (.d (vI (rs.length:Nat))) J (by rw[hml]<;>rfl) ?_;refine gx J<|?_;refine nr 4 4 132 1 J J J ?_;refine lp (X:=Nat) (fun k=>[(18, .d (vI (k:Nat))),(4, .rw 4)]) (fun k=>[(4,some (.b 132 1 ((rs.take k).map oE) true))]) (fun k=>k<=rs.length) (fun k=>rs.length-k) 0 J (bJ _) (fun _=>J) (fun k hk=>?_);have hm3:((rs.take k).map oE).length<=k:=by rw[aX,bR];omega
 refine br J J J (fun hc19=>?_) (fun hc19=>?_)
 .
  obtain⟨r,hx⟩: ∃u,rs[k]? =some u:=⟨_,aQ (by omega)⟩;have hr:=h r (aU hx);refine ix _ J (cO hx) J<|cl (fu:=⟨11⟩) J (Rb hr.ok hr.c3) J<|fq J J J<|rf J J<|ap ((rs.take (k+1)).map oE) J (T3 hx) (Sb [r]) J<|?_;refine fA 33 4 J ?_;exact at_ (k+1) ⟨(by omega),(by omega)⟩
 .
  obtain rfl:k=rs.length:=by omega
  rw[bN];refine jw 4 J ?_;exact rz J J
def tG{rs:List (List ZP)}(h: ∀r∈rs,gr r)(hn:rs.length<=200):PF GB prog 107 [.sl (rs.map ic)] (.tp [.sl ((ck rs).map b6), .v .nilIface]):=by
 have hml:(rs.map oE).length=rs.length:=aX ..;refine fn func107 J J ntmps107 J J (fun C=>?_);refine cl (fu:=⟨11⟩) J (OE h hn) J<|fq (fu:=⟨15⟩) J J J<|?_;refine aj 18 (.d (vI (rs.length:Nat))) J (by rw[hml]<;>rfl) ?_;refine gx J<|?_;refine nr 6 6 222 17 J J J ?_;refine lp (X:=Nat) (fun k=>[(19, .d (vI (k:Nat))),(6, .rw 6)]) (fun k=>[(6,some (.b 222 17 ((ck (rs.take k)).map b6) true))]) (fun k=>k<=rs.length) (fun k=>rs.length-k) 0 J (bJ _) (fun _=>J) (fun k hk=>?_);have hm5:=AW (fun r hr=>(h r hr).ok) k;have hm3:((ck (rs.take k)).map b6).length<=6*k:=by rw[aX];exact AW (fun r hr=>(h r hr).ok) k
 refine br J J J (fun hc20=>?_) (fun hc20=>?_)
 .
  obtain⟨r,hx⟩: ∃u,rs[k]? =some u:=⟨_,aQ (by omega)⟩;have hr:=h r (aU hx);have hel:=(rQ hr.ok).1;have hn6:=hr.ok.n6;have hm4:((eh r).map b6).length=(eh r).length:=aX ..;refine ix _ J (cO hx) J<|cl J (P2 hr.ok) J<|ap ((ck (rs.take (k+1))).map b6) J (Ph hx) (IT (eh r)) J<|?_;refine fA 26 6 J ?_;exact at_ (k+1) ⟨(by omega),(by omega)⟩
 .
  obtain rfl:k=rs.length:=by omega
  rw[bN];refine jw 6 J ?_;exact rz J J
def uI{rs:List (List ZP)}(h: ∀r∈rs,gr r)(hn:rs.length<=200):(ck rs).length<=1200:=by
 have:=(pg fun r hr=>(h r hr).ok).1;omega
def ma(rs:List (List ZP))(p:aa):Bool:=(ck rs).any fun f=>ir f p
def OK{fill n:Int}:PF GB prog 59 [vI fill,vI n] (vB (mz fill n)):=by
 refine fn func59 J J ntmps59 J J (fun C=>?_);refine br J J J (fun hc6=>?_) (fun hc6=>?_)
 .
  exact rz J (by show DV.v (.bool _)= .v (.bool _);unfold mz;simp_all)
 .
  refine br J J J (fun hc11=>?_) (fun hc11=>?_)
  .
   exact rz J (by show DV.v (.bool _)= .v (.bool _);unfold mz;simp_all)
  .
   exact rz J (by show DV.v (.bool _)= .v (.bool _);unfold mz;simp_all)
def JV{rs:List (List ZP)}(h: ∀r∈rs,gr r)(hn:rs.length<=200){p:aa}{i:Nat}[hp:aw p i](hno:ma rs p=false)(hi:i<=100000:=by decide):PF GB prog 50 [.sl (rs.map ic),gh p] (.tp [vI (eo (ck rs) p), .v .nilIface]):=by
 have hel:=uI h hn;have hfe:=yi fun r hr=>(h r hr).ok;refine fn func50 J J ntmps50 J J (fun C=>?_);refine cl J (tG h hn) J<|cl (fu:=⟨9⟩) J (sG (p:=p) (i:=i) (by omega)) J<|fq J J J<|cl (fu:=⟨0⟩) J (y4 (E:=ck rs) hfe (by omega) (p:=p) (i:=i) hi) J<|?_;refine aj 23 (.d (vB false)) J (by rw[show(ck rs).any (fun f=>ir f p)=false from hno]) ?_;refine qE 23 J ?_;refine gx J<|cl J (Dz (E:=ck rs) hfe (by omega) (p:=p) (i:=i) hi) J<|?_;exact rz J J
def FT{u v:aa}{i j:Nat}[hp:aw u i][hq:aw v j](hi:i<=10000000:=by decide)(hj:j<=10000000:=by decide):PF GB prog 318 [eZ u,eZ v] (vB (decide (ci u v=0))):=by
 refine fn func318 J J ntmps318 J J (fun C=>?_);refine cl J (Fl (u:=u) (v:=v) hi hj) J<|?_;exact rz J J
def jk(x:aa):List aa->List aa
 |[]=>[]
 |y::l=>if ci y x=0 then jk y l else y::jk y l
def pe:List aa->List aa
 |[]=>[]
 |x::l=>x::jk x l
def xV{l:List aa}{k:Nat}{x y:aa}(h:l[k]? =some y):jk x (l.drop k)=if ci y x=0 then jk y (l.drop (k+1)) else y::jk y (l.drop (k+1)):=by
 obtain⟨h1,h2⟩:=aL.1 h;rw[bS h1,h2,jk]
def Oq{l:List aa}{k:Nat}{y:aa}(h:l[k]? =some y):l.take (k+1)=l.take k++[y]:=by
 rw[cJ,h];rfl
def vZ:DV:= .ag [vI 0,vI 0, .v (.pointer none),vI 0,vI 0, .v (.pointer none)]
def TE(l:List aa)(k:Nat)(y:aa):(l.map eZ).set k (eZ y)=(l.set k y).map eZ:=(nR ..).symm
def UT{l:List aa}(h:l.length<2):pe l=l:=by
 cases l with
 |nil=>rfl
 |cons x l=>cases l with
  |nil=>rfl
  |cons y l=>simp at h;omega
def MC{l:List aa}{x:aa}(h:l[0]? =some x):pe l=l.take 1++jk x (l.drop 1):=by
 cases l with
 |nil=>cases h
 |cons y l=>cases h;rfl
def Gb{r l:List aa}{a b:Nat}(h:a<=b)(e:r.drop a=l.drop a):r[b]? =l[b]? :=by
 have:=congrArg (·[b-a]?) e;simpa[iM,show a+(b-a)=b by omega] using this
def UH{r l:List aa}{a b:Nat}(h:a<=b)(e:r.drop a=l.drop a):r.drop b=l.drop b:=by
 have:=congrArg (List.drop (b-a)) e;simpa[pJ,show a+(b-a)=b by omega] using this
def LC{r:List aa}{i:Nat}{u:aa}(h:i<r.length):(r.set i u).take (i+1)=r.take i++[u]:=by
 rw[cJ,nZ h,qW (aS _)];rfl
def Re{r:List aa}{i:Nat}(h:i<r.length):(r.map eZ)[(i:Int).toNat]? =some (eZ r[i]):=by simp[h]
def RY{l:List aa}{i0:Nat}(hb: ∀d∈l,aw d i0)(hn:l.length<=10000000)(hi:i0<=10000000):PB GB prog 317 (iv [none,some (.v (.func (.func 318) #[] #[]))]) 6 141 (l.map eZ) (fun w=> .v (.slice w.a w.n w.c)) ((pe l).map eZ):=by
 have hml:(l.map eZ).length=l.length:=aX ..;refine ww (fu:=⟨10⟩) func317 J J ntmps317 J J (fun C=>?_);refine aj 9 (.d (vI (l.length:Nat))) J (by rw[hml]<;>rfl) ?_;refine gx J<|?_;refine br J J J (fun hc10=>?_) (fun hc10=>?_)
 .
  exact pP J J J (by rw[UT (by omega)])
 .
  obtain⟨x0,hx0⟩: ∃x,l[0]? =some x:=⟨_,aQ (by omega)⟩;refine lp (fu:=⟨6⟩) (X:=Nat×aa) (fun⟨k,x⟩=>[(5, .d (vI (k:Nat)))]) (fun⟨k,x⟩=>[]) (fun⟨k,x⟩=>1<=k/\k<=l.length/\l[k-1]? =some x/\pe l=l.take k++jk x (l.drop k)) (fun⟨k,x⟩=>l.length-k) ⟨1,x0⟩ J ⟨aS _,by omega,hx0,by rw[MC hx0]⟩ (fun _=>J) (fun⟨k,x⟩ hk=>?_)
  try dsimp only at hk⊢
  obtain⟨h1,h2,h3,h4⟩:=hk;refine aj 14 (.d (vI (l.length:Nat))) J (by rw[hml]<;>rfl) ?_;refine gx J<|?_;refine br J J J (fun hc15=>?_) (fun hc15=>?_)
  .
   obtain⟨y,hy⟩: ∃y,l[k]? =some y:=⟨_,aQ (by omega)⟩;haveI:=hb y (aU hy);haveI:=hb x (aU h3);refine lb (fu:=⟨3⟩) _ J (cO hy) J<|?_;refine aj 25 (.d (vI ((k-1:Nat):Int))) J (by rw[Int.ofNat_sub h1]<;>rfl) ?_;refine gx J<|lb (fu:=⟨0⟩) _ J (cO h3) J<|cl J (FT (u:=y) (v:=x) hi hi) J<|?_;refine bd (fu1:=⟨4⟩) J J J (fun hc28=>?_) (fun hc28=>?_)
   .
    have hc28':=hc28;refine yp k (l.length-k) J J (by omega) (by omega) J<|?_;refine lp (fu:=⟨5⟩) (X:=Nat×Nat×aa×List aa) (fun⟨i,m,z,r⟩=>[(5, .d (vI (i:Nat))),(7, .d (vI (m:Nat)))]) (fun⟨i,m,z,r⟩=>[(1000000,some (.b 141 6 (r.map eZ) false))]) (fun⟨i,m,z,r⟩=>1<=m/\k+m<=l.length/\i+1<=k+m/\r.length=l.length/\r.drop (k+m-1)=l.drop (k+m-1)/\l[k+m-1]? =some z/\pe l=r.take i++jk z (l.drop (k+m))) (fun⟨i,m,z,r⟩=>l.length-m) ⟨k,1,y,l⟩ J ⟨aS _,by omega,by omega,J,J,by rw[iN];exact hy,by rw[h4,xV hy,if_pos hc28']⟩ (fun _=>J) (fun⟨i,m,z,r⟩ hk=>?_)
    try dsimp only at hk⊢
    obtain⟨g1,g2,g3,g4,g5,g6,g7⟩:=hk;have hrl:(r.map eZ).length=r.length:=aX ..;refine HZ J J<|?_;refine br (fu1:=⟨9⟩) (fu2:=⟨9⟩) J J J (fun hc35=>?_) (fun hc35=>?_)
    .
     obtain⟨u,hu⟩: ∃u,l[k+m]? =some u:=⟨_,aQ (by omega)⟩;haveI:=hb u (aU hu);haveI:=hb z (aU g6);have g8:r[k+m]? =some u:=by rw[<-hu];exact Gb (by omega) g5
     have g10:r[k+m-1]? =some z:=by rw[<-g6];exact Gb (aS _) g5
     have g9:r.drop (k+m)=l.drop (k+m):=UH (by omega) g5;refine s5 (k+m) J (by omega) (by omega) (by omega) J<|lb (fu:=⟨3⟩) _ J (cO g8) J<|s5 (k+m-1) J (by omega) (by omega) (by omega) J<|?_;refine lb (fu:=⟨0⟩) _ J (cO g10) J<|cl J (FT (u:=u) (v:=z) hi hi) J<|?_;refine bb (fu1:=⟨6⟩) J J J (fun hc49=>?_) (fun hc49=>?_)
     .
      have hc49': ¬ci u z=0:=by simpa using hc49
      refine s5 (k+m) J (by omega) (by omega) (by omega) J<|lb _ J (cO g8) J<|sb _ ((r.set i u).map eZ) J (Re (by omega)) J (by rw[<-TE]<;>rfl) J<|?_;exact at_ ⟨i+1,m+1,u,r.set i u⟩ (by dsimp only;exact⟨⟨by omega,by omega,by omega,by rw[aW];exact g4,by rw[show k+(m+1)-1=k+m by omega,mJ (by omega)];exact g9,by rw[show k+(m+1)-1=k+m by omega];exact hu,by rw[g7,xV hu,if_neg hc49',LC (by omega),fX];rfl⟩,(by omega)⟩)
     .
      have hc49':ci u z=0:=by simpa using hc49
      exact at_ ⟨i,m+1,u,r⟩ (by dsimp only;exact⟨⟨by omega,by omega,by omega,g4,by rw[show k+(m+1)-1=k+m by omega];exact g9,by rw[show k+(m+1)-1=k+m by omega];exact hu,by rw[g7,xV hu,if_pos hc49'];rfl⟩,(by omega)⟩)
    .
     obtain hm:k+m=l.length:=by omega
     refine yp i (l.length-i) J J (by omega) (by omega) J<|HO (fu:=⟨6⟩) _ J (by rw[hrl];omega) (by omega) J J<|Dq ((r.take i).map eZ) i J J (by rw[bK,bR,aV,hrl];omega) (by rw[fK (by rw[bR,hrl];omega),List.take_take,Nat.min_self,kK]) J<|?_;exact pP J J J (by rw[g7,hm,gR,jk,kY])
   .
    have hc28':=hc28;exact at_ ⟨k+1,y⟩ (by dsimp only;exact⟨⟨by omega,by omega,hy,by rw[h4,xV hy,if_neg hc28',Oq hy,fX];rfl⟩,(by omega)⟩)
  .
   exact pP J J J (by rw[h4,show k=l.length by omega,gR,jk,kY,bN])
def OZ{v:Value}(h:Go.Sx.flat v=true):v.oneCell'=true:=by cases v<;>first|rfl|cases h
def Kb{α:Type}{k:Nat}: ∀(l:List (List α)) (t:Nat),(∀x∈l,x.length=k)->t<l.length*k->l.flatten[t]? =(l[t/k]?).bind (·[t%k]?)
 |[],t,_,h=>by simp at h
 |x::l,t,h,ht=>by
  have hx:=h x aZ;have hk:0<k:=by
   rcases dQ k with e|e
   ·subst e;simp at ht
   ·exact e
  rw[jY];by_cases q:t<k
  ·rw[cR (by omega),gS q,dR q];rfl
  ·rw[fY (by omega),hx,Kb l (t-k) (fun y hy=>h y (aK _ hy)) (by rw[bL,cK] at ht;omega)]
   have e1:t/k=(t-k)/k+1:=by rw[Nat.div_eq_sub_div hk (by omega)]
   have e2:t%k=(t-k)%k:=by rw[Nat.mod_eq_sub_mod (by omega)]
   rw[e1,e2];rfl
section
variable {α:Type} [Inhabited α]
def Qe(enc:α->List Value)(k:Nat)(hk: ∀x,(enc x).length=k)(d:Array α):(Go.Sort.flatK enc k d).toList=(d.toList.map enc).flatten:=by
 apply lR;intro t;have hlen:(d.toList.map enc).flatten.length=d.size*k:=by
  have: ∀l:List α,(l.map enc).flatten.length=l.length*k:=fun l=>by
   induction l with
   |nil=>simp
   |cons x l ih=>rw[cZ,jY,bK,ih,hk,bL,cK];omega
  simpa using this d.toList
 by_cases ht:t<d.size*k
 ·have hk0:0<k:=by
   rcases dQ k with e|e
   ·subst e;simp at ht
   ·exact e
  have hi:t/k<d.size:=pM (by rwa [bV]);rw[Kb (k:=k) _ _ (fun x hx=>by obtain⟨y,_,rfl⟩:=bY.1 hx;exact hk y) (by simpa using ht)];simp only[Go.Sort.flatK,mW,Array.toList_range,fW];rw[qK ht];have hj:t%k<(enc d[t/k]).length:=by rw[hk];exact cV _ hk0
  simp only[iJ];rw[getElem!_pos d (t/k) hi,getElem!_pos (enc d[t/k]) (t%k) hj];simp[hi,hj]
 ·rw[dS (by simp[Go.Sort.flatK];omega),dS (by rw[hlen];omega)]
def Iu(enc:α->List Value)(k:Nat)(w:World)(b m:Nat)(dk:Array α)(os:Array Obj){q:Nat}(hq:q<w.heap.size):
  (sortWorldK enc k w b 0 m dk os).heap[q]? =if q=b then(w.heap[q]?).map (Go.Sort.onCells (Go.Sort.putCells id 0 (Go.Sort.flatK enc k dk))) else w.heap[q]? :=by
 show((w.heap.modify b _)++os)[q]? =_;rw[iZ (by simpa using hq),Array.getElem?_modify];by_cases e:b=q
 ·subst e;simp
 ·simp[e,Ne.symm e]
def M6{F:Array Value}{xs rest:List Value}(h:xs.length=F.size):Go.Sort.putCells id 0 F ⟨xs++rest⟩=⟨F.toList++rest⟩:=by
 apply Array.ext';apply lR;intro k;simp only[Go.Sort.putCells,Array.toList_mapIdx,List.getElem?_mapIdx];by_cases hk:k<F.size
 ·rw[cR (by omega),cR (by simpa using hk),aQ (by omega)]
  simp[hk]
 ·rw[fY (by omega),fY (by simp;omega),h]
  simp only[fR]
  cases rest[k-F.size]? with
  |none=>rfl
  |some v=>simp[hk]
end
def fk{A:Type}(cf:A->A->Int)(ds:List A):List A:=ds.mergeSort fun x y=>!decide (cf y x<0)
def ol{A:Type}(cf:A->A->Int)(ds:List A):(fk cf ds).Perm ds:=List.mergeSort_perm ..
def Bu{A:Type}{cf:A->A->Int}(hO:Go.Sort.SWO (Go.Proofs.ltOf cf))(ds:List A):(fk cf ds).Pairwise fun x y=> ¬cf y x<0:=by
 have:=List.pairwise_mergeSort (le:=fun x y=>!decide (cf y x<0)) (fun a b c h1 h2=>by
  have h1':Go.Proofs.ltOf cf b a=false:=by simpa[Go.Proofs.ltOf] using h1
  have h2':Go.Proofs.ltOf cf c b=false:=by simpa[Go.Proofs.ltOf] using h2
  have:=hO.ntrans c b a h2' h1';simpa[Go.Proofs.ltOf] using this) (fun a b=>by
  cases h1:Go.Proofs.ltOf cf b a with
  |false=>have: ¬cf b a<0:=(by simpa[Go.Proofs.ltOf] using h1);simp;omega
  |true=>
   cases h2:Go.Proofs.ltOf cf a b with
   |false=>have: ¬cf a b<0:=(by simpa[Go.Proofs.ltOf] using h2);simp;omega
   |true=>have:=hO.trans _ _ _ h1 h2;rw[hO.irrefl] at this;cases this) ds
 exact this.imp fun h=>by simpa using h
def IU{P:Program}{ρ:Go.Shelf.Ren}{GB:Gh}(L:SlLaysF0.n6 P ρ)(ha:kO P (ρ.f 6)){s:Nat}(hAg: ∀w,(isAgg (ρ.t 24)).run P w= .ok true w)(hZs: ∀w,(sizeOf (ρ.t 24)).run P w= .ok s w)
  {A:Type}(e:A->DV)(V:A->Prop)(hA: ∀x,∃l,e x= .ag l/\(DV.ag l).okc=true/\l.length=s)(cf:A->A->Int)(hO:Go.Sort.SWO (Go.Proofs.ltOf cf)){g:FuncId}(hg:kO P g)
  (hc: ∀x y,V x->V y->PF GB P g [e x,e y] (.v (.int .i64 (cf x y)))){ty:TypeId}{ds:List A}(hV: ∀x∈ds,V x)(hn:ds.length<4611686018427387904)(hu: ∀x∈ds,∀y∈ds,¬cf x y<0-> ¬cf y x<0->x=y):
  PW GB P (ρ.f 6) [none,some (.v (.func (.func g) #[] #[]))] s ty (ds.map e) (.tp []) ((fk cf ds).map e):=by
 intro G z vs B hgb hB hvs;refine⟨ha,fun w hw=>?_⟩;obtain⟨v1,m1,rfl,q1,hvs⟩:=bD.1 hvs;obtain⟨v2,m2,rfl,q2,hvs⟩:=bD.1 hvs
 cases cp.1 hvs
 rw[bc] at q1 q2;subst q1 q2;obtain⟨es,k1,k2,k3,_⟩:=hB;simp only at k1 k2 k3;have hlen:es.length=ds.length:=by rw[k2.len,aX]
 by_cases h0:ds=[]
 ·subst h0
  have hes:es=[]:=bM (by simpa using hlen);have hz:z.n=0:=by rw[k1.len,hes];rfl
  rw[hz];refine(AnyF.slices_SortFunc_none L z.a z.c _ w).mono fun r w' ⟨h1,h2⟩=>?_;subst h2;exact⟨_,asB B,G,h1,hw,kH.2 ⟨[],J, .nil⟩,es,k1.asB,by subst hes;show IsLs G ((fk cf []).map e) [];unfold fk;rw[List.mergeSort_nil];exact .nil,k3,fun h=>by cases h⟩
 ·have hpos:0<es.length:=by rw[hlen];exact qU.2 h0
  rcases k1 with⟨e1,_,_⟩|⟨b,rest,lo,e1,e2,e3,e4,e5⟩
  ·rw[e1] at hpos;simp at hpos
  subst e2
  -- elements with their cells
  have lift: ∀{ds:List A} {es:List Value},IsLs G (ds.map e) es->(∀x∈ds,V x)-> ∃qs:List {q:A×List Value//V q.1/\Is G (e q.1) (.agg ⟨q.2⟩)},qs.map (·.1.1)=ds/\qs.map (fun q=>Value.agg ⟨q.1.2⟩)=es:=by
   intro ds
   induction ds with
   |nil=>intro es h _;cases cp.1 h;exact⟨[],rfl,rfl⟩
   |cons x ds ih=>
    intro es h hV;obtain⟨y,n,rfl,g1,g2⟩:=bD.1 h;obtain⟨qs,g3,g4⟩:=ih g2 fun x hx=>hV x (aK _ hx);obtain⟨l,hl,_⟩:=hA x;have g1':=g1;rw[hl] at g1';obtain⟨m,rfl,_⟩:=ef.1 g1';exact⟨⟨(x,m),hV x aZ,g1⟩::qs,by simp[g3],by simp[g4]⟩
  obtain⟨qs,hq1,hq2⟩:=lift k2 hV;have:Inhabited {q:A×List Value//V q.1/\Is G (e q.1) (.agg ⟨q.2⟩)}:=⟨qs.head (fun e=>by rw[e] at hq1;exact h0 hq1.symm)⟩
  let enc:{q:A×List Value//V q.1/\Is G (e q.1) (.agg ⟨q.2⟩)}->List Value:=fun q=>q.1.2
  have henc: ∀q,(enc q).length=s/\ ∀v∈enc q,Go.Sx.flat v=true:=fun q=>by
   obtain⟨l,hl,h1,h2⟩:=hA q.1.1;have h3:=q.2.2;rw[hl] at h3;obtain⟨m,hm,h4⟩:=ef.1 h3
   cases hm
   exact⟨by show q.1.2.length=s;rw[h4.len,h2],fun v hv=>h4.flat h1 v hv⟩
  have hk: ∀q,(enc q).length=s:=fun q=>(henc q).1;have hqs:qs.toArray.size=es.length:=by rw[lT,<-hq2,aX]
  have hfl: ∀d:Array {q:A×List Value//V q.1/\Is G (e q.1) (.agg ⟨q.2⟩)},(Go.Sort.flatK enc s d).toList=aH (d.toList.map fun q=>Value.agg ⟨q.1.2⟩):=fun d=>by
   rw[Qe enc s hk];unfold aH;rw[List.map_map];rfl
  have hfe:(Go.Sort.flatK enc s qs.toArray).toList=aH es:=by rw[hfl,<-hq2]
  have hown:=hw.hown ⟨b,aH es++rest,ty,false⟩ aZ;obtain⟨hb,hGb,_,_⟩:=hown;simp only at hb hGb;have hblt:=eH hb;have hH:Go.Sort.HoldsK enc s w b 0 qs.toArray:=by
   intro j hj;refine⟨?_,by simp[World.frozen?,hb]⟩;rw[uT hb,dV];have hj':j<(aH es).length:=by rw[<-hfe];simpa using hj
   rw[cR hj',<-hfe];show _=some ((Go.Sort.flatK enc s qs.toArray)[j]!);rw[getElem!_pos _ j hj];simp
  have hsz: ∀dk:Array {q:A×List Value//V q.1/\Is G (e q.1) (.agg ⟨q.2⟩)},dk.size=qs.toArray.size->(aH es).length=(Go.Sort.flatK enc s dk).size:=fun dk hd=>by rw[<-hfe];simp[hd]
  have hblk: ∀(m:Nat) (os:Array Obj) (dk:Array _),dk.size=qs.toArray.size->(sortWorldK enc s w b 0 m dk os).heap[b]? =some (.cells ⟨(Go.Sort.flatK enc s dk).toList++rest⟩ ty (0,0)):=fun m os dk hd=>by
   rw[Iu enc s w b m dk os hblt,if_pos J,hb];show some (Obj.cells (Go.Sort.putCells id 0 (Go.Sort.flatK enc s dk) ⟨aH es++rest⟩) ty (0,0))=_;rw[M6 (hsz dk hd)]
  have hoth: ∀(m:Nat) (os:Array Obj) (dk:Array _) (q:Nat),q<w.heap.size->q≠b->(sortWorldK enc s w b 0 m dk os).heap[q]? =w.heap[q]? :=fun m os dk q hq hne=>by rw[Iu enc s w b m dk os hq,if_neg hne]
  have hsub: ∀(m:Nat) (os:Array Obj) (dk:Array _) (c:Nat) (cs:List Value),G c=some cs-> ∃ty fz,(sortWorldK enc s w b 0 m dk os).heap[c]? =some (.cells ⟨cs⟩ ty fz):=fun m os dk c cs hcs=>by
   obtain⟨ty',fz,h⟩:=hw.sub c cs hcs;exact⟨ty',fz,by rw[hoth m os dk c (eH h) (fun e=>by subst e;rw[hGb] at hcs;cases hcs)];exact h⟩
  have hsize: ∀(m:Nat) (os:Array Obj) (dk:Array _),w.heap.size<=(sortWorldK enc s w b 0 m dk os).heap.size:=fun m os dk=>by
   show _<=((w.heap.modify b _)++os).size;simp
  have hcmp:Go.Proofs.CmpLays P g #[] enc s (fun q r=>cf q.1.1 r.1.1) b 0 qs.toArray.size w:=by
   intro m os dk _ x y;have hF:=hc x.1.1 y.1.1 x.2.1 y.2.1 G [.agg ⟨x.1.2⟩, .agg ⟨y.1.2⟩] hgb (.cons x.2.2 (.cons y.2.2 .nil));refine(hF.run _ (hsub m os dk)).mono fun r W ⟨v,G',h1,h2,h3⟩=>?_;rw[bc] at h3;subst h3;refine⟨h1,W.drawn-(sortWorldK enc s w b 0 m dk os).drawn,W.heap.extract (sortWorldK enc s w b 0 m dk os).heap.size W.heap.size,?_⟩;have hdr:=h2.dr;have hos:=h2.os;have htp:=h2.tape;have hou:=h2.output;have hkp:=h2.keep;have hss:=h2.size;simp only at hdr hos htp hou hkp hss;generalize sortWorldK enc s w b 0 m dk os=W0 at*
   cases W with
   |mk heap tape drawn os' output=>
    simp only at*;unfold Go.Sort.grow World.drewN;simp only[World.mk.injEq];refine⟨?_,htp,by omega,hos,hou⟩;apply Array.ext_getElem?;intro k;rw[Array.getElem?_append];split
    ·rename_i hk';exact hkp k hk' (by simp)
    ·rename_i hk'
     rw[Array.getElem?_extract];split
     ·congr 1;omega
     ·rw[kR (by omega)]
  have hO':Go.Sort.SWO (Go.Proofs.ltOf fun(q r:{q:A×List Value//V q.1/\Is G (e q.1) (.agg ⟨q.2⟩)})=>cf q.1.1 r.1.1):=⟨fun x=>hO.irrefl x.1.1,fun x y z=>hO.trans x.1.1 y.1.1 z.1.1,fun x y z=>hO.ntrans x.1.1 y.1.1 z.1.1⟩;have hrun:=AnyQ.slices_SortFunc L s hAg hZs enc hk (fun q v hv=>OZ ((henc q).2 v hv)) (fun q r=>cf q.1.1 r.1.1) hO' g #[] b 0 z.c qs.toArray w (fun args w=>xg hg args w) hcmp hH hblt (by rw[hqs,hlen];exact hn);have ez:z=⟨some ⟨b,0,none⟩,qs.toArray.size,z.c⟩:=by rw[hqs];exact e1
  have ea:(⟨[Value.slice z.a z.n z.c, .func (.func g) #[] #[]]⟩:Array Value)= #[.slice (some ⟨b,0,none⟩) qs.toArray.size z.c, .func (.func g) #[] #[]]:=by rw[ez]
  rw[ea];refine hrun.mono fun r w' ⟨h1,d',n,os,hp,hs,h2⟩=>?_;subst h2;have hdz:d'.size=qs.toArray.size:=hp.1;have hperm:d'.toList.Perm qs:=by
   have:=hp.2.2;have e1:d'.toList.take qs.length=d'.toList:=aT (by rw[fR,hdz];simp);simpa[e1] using this
  have hasc:d'.toList.Pairwise fun x y=> ¬cf y.1.1 x.1.1<0:=by
   rw[List.pairwise_iff_getElem];intro i j hi hj hij;have:=hs i j (bJ _) hij (by rw[<-hdz];simpa using hj);rw[getElem!_pos d' j (by simpa using hj),getElem!_pos d' i (by simpa using hi)] at this;simpa[Go.Proofs.ltOf] using this
  have hds:d'.toList.map (·.1.1)=fk cf ds:=by
   refine List.Perm.eq_of_pairwise (le:=fun x y=> ¬cf y x<0) (fun x y hx hy k1 k2=>?_) ?_ (Bu hO ds) ?_
   ·have m1:x∈ds:=by
     obtain⟨q,hq,rfl⟩:=bY.1 hx;rw[<-hq1];exact bY.2 ⟨q,hperm.mem_iff.1 hq,J⟩
    exact hu x m1 y ((ol cf ds).mem_iff.1 hy) k2 k1
   ·rw[pZ];exact hasc
   ·refine(hperm.map _).trans ?_
    rw[hq1];exact(ol cf ds).symm
  have hlen':(d'.toList.map fun q=>Value.agg ⟨q.1.2⟩).length=es.length:=by rw[aX,fR,hdz,hqs]
  have hIs: ∀l:List {q:A×List Value//V q.1/\Is G (e q.1) (.agg ⟨q.2⟩)},IsLs G ((l.map (·.1.1)).map e) (l.map fun q=>Value.agg ⟨q.1.2⟩):=fun l=>by
   induction l with
   |nil=>exact .nil
   |cons q l ih=>exact .cons q.2.2 ih
  have hcell: ∀v∈d'.toList.map (fun q=>Value.agg ⟨q.1.2⟩),(aF v).length=s:=fun v hv=>by
   obtain⟨q,_,rfl⟩:=bY.1 hv;exact hk q
  refine⟨_,[⟨b,aH (d'.toList.map fun q=>Value.agg ⟨q.1.2⟩)++rest,ty,false⟩],G,h1,?_,kH.2 ⟨[],J, .nil⟩,d'.toList.map (fun q=>Value.agg ⟨q.1.2⟩), .inr ⟨b,rest,false,by rw[hlen'];exact e1,J,f0 _ hcell,?_,by rw[hlen'];exact e5⟩,by rw[<-hds];exact hIs _,hcell,fun h=>by cases h⟩
  ·refine⟨J,J,J,hsize n os d',fun q hq hqm=>hoth n os d' q hq fun e=>hqm (by rw[e];exact aZ),hsub n os d',bg.refl _,fun _ _=>J,fun o ho=>?_,List.pairwise_singleton _ _,?_,fun p hp=>(by cases hp)⟩
   ·rw[aN.1 ho]
    exact⟨by rw[<-hfl];exact hblk n os d' hdz,hGb,(fun h=>by cases h),fun _=>aZ⟩
   ·show w.drawn<=w.drawn+n
    omega
  ·rw[<-e4,f0 _ hcell,e3,hlen']
def Se{a b c:aa}(h:c6 c a):c6 c b\/c6 b a:=by
 by_cases h1:c.half<b.half
 ·exact .inl (.inl h1)
 ·by_cases h2:b.half<a.half
  ·exact .inr (.inl h2)
  ·rcases h with h|⟨h,k⟩
   ·omega
   ·have e1:c.half=b.half:=by omega
    have e2:b.half=a.half:=by omega
    by_cases q1:0<c.cross b
    ·exact .inl (.inr ⟨e1,q1⟩)
    ·by_cases q2:0<b.cross a
     ·exact .inr (.inr ⟨e2,q2⟩)
     ·exfalso
      have i1:b.y*c.cross a=a.y*c.cross b+c.y*b.cross a:=by unfold aa.cross;grind
      have i2:b.x*c.cross a=a.x*c.cross b+c.x*b.cross a:=by unfold aa.cross;grind
      have q1':c.cross b<=0:=by grind
      have q2':b.cross a<=0:=by grind
      rcases kG b with⟨eb,kb⟩|⟨eb,kb⟩|⟨eb,kb⟩<;>rcases kG a with⟨ea,ka⟩|⟨ea,ka⟩|⟨ea,ka⟩<;>rcases kG c with⟨ec,kc⟩|⟨ec,kc⟩|⟨ec,kc⟩<;>first|omega|skip
      ·have ha:0<=a.y:=by grind
       have hc:0<=c.y:=by grind
       rcases kb with kb|⟨kb,kb'⟩
       ·have g1:=mT ha (show 0<= -c.cross b by grind)
        have g2:=mT hc (show 0<= -b.cross a by grind);have g3:=fw kb k;grind
       ·have hx:b.cross a=b.x*a.y:=by unfold aa.cross;rw[kb];grind
        have ha0:a.y=0:=by
         rcases ka with ka|ka
         ·have:=fw kb' ka;grind
         ·exact ka.1
        have hax:0<a.x:=by grind
        have hy:c.cross a= -(c.y*a.x):=by unfold aa.cross;rw[ha0];grind
        have:=mT hc (show 0<=a.x by grind);grind
      ·have ha:0<= -a.y:=by grind
       have hc:0<= -c.y:=by grind
       rcases kb with kb|⟨kb,kb'⟩
       ·have g1:=mT ha (show 0<= -c.cross b by grind)
        have g2:=mT hc (show 0<= -b.cross a by grind);have g3:=fw (show 0< -b.y by grind) k;grind
       ·have hx:b.cross a=b.x*a.y:=by unfold aa.cross;rw[kb];grind
        have ha0:a.y=0:=by
         rcases ka with ka|ka
         ·have:=fw (show 0< -b.x by grind) (show 0< -a.y by grind);grind
         ·exact ka.1
        have hax:0< -a.x:=by grind
        have hy:c.cross a= -(c.y*a.x):=by unfold aa.cross;rw[ha0];grind
        have:=mT hc (show 0<= -a.x by grind);grind
      ·have hy:c.cross a=0:=by unfold aa.cross;rw[ka.1,ka.2];grind
       rw[hy] at k;exact absurd k (by decide)
def IH:Go.Sort.SWO (Go.Proofs.ltOf ci):=by
 have e: ∀x y,Go.Proofs.ltOf ci x y=true↔c6 x y:=fun x y=>by rw[<-mw];simp[Go.Proofs.ltOf]
 have e2: ∀x y,Go.Proofs.ltOf ci x y=false↔ ¬c6 x y:=fun x y=>by rw[<-e];simp
 refine⟨fun x=>(e2 x x).2 (xj x),fun x y z h k=>(e x z).2 (xh ((e x y).1 h) ((e y z).1 k)),fun x y z h k=>(e2 x z).2 fun q=>?_⟩;rcases Se (b:=y) q with q|q
 ·exact(e2 x y).1 h q
 ·exact(e2 y z).1 k q
def E3: ∀{l m:List aa},l.Pairwise c6->m.Pairwise c6->(∀x,x∈l↔x∈m)->l=m
 |[],[],_,_,_=>rfl
 |[],b::m,_,_,h=>absurd ((h b).2 aZ) (by simp)
 |a::l,[],_,_,h=>absurd ((h a).1 aZ) (by simp)
 |a::l,b::m,h1,h2,h=>by
  obtain⟨p1,p2⟩:=bU.1 h1;obtain⟨q1,q2⟩:=bU.1 h2;have e:a=b:=by
   rcases aR.1 ((h a).1 aZ) with e|e
   ·exact e
   ·rcases aR.1 ((h b).2 aZ) with f|f
    ·exact f.symm
    ·exact(U1 (q1 a e) (p1 b f)).elim
  subst e;congr 1;refine E3 p2 q2 fun x=>⟨fun hx=>?_,fun hx=>?_⟩
  ·rcases aR.1 ((h x).1 (aK _ hx)) with e|e
   ·subst e;exact(xj _ (p1 _ hx)).elim
   ·exact e
  ·rcases aR.1 ((h x).2 (aK _ hx)) with e|e
   ·subst e;exact(xj _ (q1 _ hx)).elim
   ·exact e
def sZ(l:List aa):Prop:= ∀x∈l,∀y∈l,ci x y=0->x=y
def I4: ∀{l:List aa} {x:aa},(x::l).Pairwise (fun a b=> ¬c6 b a)->sZ (x::l)->(jk x l).Pairwise c6/\(∀y∈jk x l,c6 x y)/\ ∀y,y∈x::jk x l↔y∈x::l
 |[],_,_,_=>⟨.nil,(fun y hy=>by cases hy),fun _=>Iff.rfl⟩
 |z::l,x,h,ht=>by
  obtain⟨p1,p2⟩:=bU.1 h;obtain⟨i1,i2,i3⟩:=I4 p2 fun a ha b hb=>ht a (aK _ ha) b (aK _ hb);rw[jk];by_cases e:ci z x=0
  ·rw[if_pos e]
   obtain rfl:=ht z (by simp) x (by simp) e;exact⟨i1,i2,fun y=>by rw[i3];simp⟩
  ·rw[if_neg e]
   have hb:c6 x z:=by
    by_cases q:c6 x z
    ·exact q
    ·exact absurd (Dy (p1 z aZ) q) e
   refine⟨bU.2 ⟨i2,i1⟩,fun y hy=>?_,fun y=>?_⟩
   ·rcases aR.1 hy with rfl|hy
    ·exact hb
    ·exact xh hb (i2 y hy)
   ·rw[aR,i3,aR (b:=x) (l:=z::l)]
def Q1{l:List aa}(h:l.Pairwise fun a b=> ¬c6 b a)(ht:sZ l):(pe l).Pairwise c6/\ ∀y,y∈pe l↔y∈l:=by
 cases l with
 |nil=>exact⟨.nil,fun _=>Iff.rfl⟩
 |cons x l=>
  obtain⟨i1,i2,i3⟩:=I4 h ht;exact⟨bU.2 ⟨i2,i1⟩,i3⟩
def Qh{l:List aa}(ht:sZ l)(y:aa):y∈ml l↔y∈l:=by
 have h2: ∀y,y∈ml l->y∈l:=fun y hy=>by
  rcases u9 ci hy with h|h
  ·exact h
  ·cases h
 refine⟨h2 y,fun hy=>?_⟩;obtain⟨e,e1,e2⟩:=yz ci (o:=[]) hy;rcases e2 with rfl|e2
 ·exact e1
 ·rw[<-ht e (h2 e e1) y hy e2];exact e1
def P1{l:List aa}(ht:sZ l):pe (fk ci l)=ml l:=by
 have hm: ∀y,y∈fk ci l↔y∈l:=fun y=>(ol ci l).mem_iff;have h1:(fk ci l).Pairwise fun a b=> ¬c6 b a:=(Bu IH l).imp fun h=>by rw[<-mw];exact h
 obtain⟨k1,k2⟩:=Q1 h1 fun a ha b hb=>ht a ((hm a).1 ha) b ((hm b).1 hb);exact E3 k1 (Oc l) fun x=>by rw[k2,hm,Qh ht]
end Go.Sx
end
