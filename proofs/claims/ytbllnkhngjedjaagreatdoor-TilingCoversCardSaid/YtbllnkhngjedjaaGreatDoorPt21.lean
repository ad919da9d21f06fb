import Derived.Test.YtbllnkhngjedjaaGreatDoorPt20
import Derived.Shelf.SlSortCmp.NoneTotal
import Derived.Test.YtbllnkhngjedjaaGreatDoorProg
set_option linter.all false
set_option maxHeartbeats 2000000
set_option maxRecDepth 100000
section
namespace Go.Sx
open Go Go.Proofs Tryz
variable {GB:Gh}
def SK{u v z:aa}(hu:u.half≠0)(hv:v.half≠0)(h0:u.cross v=0)(h1:0<u.cross z)(h2:0<v.cross z):u.half=v.half:=by
 have ex:v.x*(u.cross z)=u.x*(v.cross z):=by unfold aa.cross at*;grind
 have ey:v.y*(u.cross z)=u.y*(v.cross z):=by unfold aa.cross at*;grind
 have key: ∀{a b:Rat},a*(u.cross z)=b*(v.cross z)->(0<a↔0<b)/\(a=0↔b=0):=fun{a b} e=>by
  have k1:0<a*(u.cross z)↔0<a:=gv h1;have k2:0<b*(v.cross z)↔0<b:=gv h2;refine⟨by rw[<-k1,<-k2,e],fun h=>?_,fun h=>?_⟩
  .rw[h,Rat.zero_mul] at e
   rcases gV.1 e.symm with q|q
   .exact q
   .grind
  .rw[h,Rat.zero_mul] at e
   rcases gV.1 e with q|q
   .exact q
   .grind
 obtain⟨x1,x2⟩:=key ex;obtain⟨y1,y2⟩:=key ey;have:u.half=1↔v.half=1:=by rw[lB,lB,x1,y1,y2]
 rcases gq hu with a|a<;>rcases gq hv with b|b<;>omega
def apj{c:az}(hc:bO c)(ha:lj c)(hb:dE c=true){i j:Nat}{w w' s:aP}(hw:c[i]? =some w)(hw':c[(i+1)%c.length]? =some w')(hs:c[j]? =some s)(hz:s.l.value (w.l.at w.v.hi)=0):j=i\/j=(i+1)%c.length:=by
 apply Classical.byContradiction;intro hne;have n1:j≠i:=fun e=>hne (.inl e);have n2:j≠(i+1)%c.length:=fun e=>hne (.inr e);obtain⟨h1,_,h3⟩:=Bv hc ha hb hw hw';have mw:=aV hw;have mw':=aV hw';have ms:=aV hs;have lt: ∀x∈c,x.v.lo<x.v.hi:=fun x hx=>by
  have h:=(hc.edge x hx).1;obtain⟨a,b⟩:=(u7 hb).2 x hx;unfold aj.Pos at h;rw[a,b] at h;rcases h with h|h|h
  .cases h
  .cases h
  .exact h
 have a1:s.l.nor.dot w.l.dir<=0:=by
  have k:=((hc.edge w mw).2 _).1 (Hi (hc.edge w mw).1 ((u7 hb).2 w mw).1) s ms;rw[show w.v.lo=w.v.hi+(w.v.lo-w.v.hi) by grind,DU,hz] at k;have l1:=lt w mw;apply Classical.byContradiction;intro q;have:=(gv (s:=s.l.nor.dot w.l.dir) (k:=w.v.hi-w.v.lo) (by grind)).2 (by grind);grind
 have a2:0<=s.l.nor.dot w'.l.dir:=by
  have k:=((hc.edge w' mw').2 _).1 (AO (hc.edge w' mw').1 ((u7 hb).2 w' mw').2) s ms;rw[show w'.v.hi=w'.v.lo+(w'.v.hi-w'.v.lo) by grind,DU,h3,hz] at k;have l1:=lt w' mw';apply Classical.byContradiction;intro q;have:=(gv (s:= -(s.l.nor.dot w'.l.dir)) (k:=w'.v.hi-w'.v.lo) (by grind)).2 (by grind);grind
 have b1:0<=w.l.dir.cross s.l.dir:=by rw[eB,qn];grind
 have b2:0<=s.l.dir.cross w'.l.dir:=by rw[qn];exact a2
 have nz:=Hv hc;have md: ∀x∈c,x.l.dir∈c.map fun s=>s.l.dir:=fun x hx=>bQ.2 ⟨x,hx,J⟩;have hn:ku (c.map fun s=>s.l.dir) w.l.dir w'.l.dir:=MC ha (by rw[cK,hw];rfl) (by rw[aJ,cK,hw'];rfl);have bef: ∀{a b:Nat} {x y:aP},c[a]? =some x->c[b]? =some y->a≠b->x.l.dir.cross y.l.dir=0->x.l.dir.half≠y.l.dir.half:=fun{a b x y} hx hy hab h0 e=>by
  obtain⟨ha',ea⟩:=aY.1 hx;obtain⟨hb',eb⟩:=aY.1 hy;have hp:=jU.1 ha;have hsw:y.l.dir.cross x.l.dir=0:=by rw[eB,h0];rfl
  rcases Nat.lt_or_gt_of_ne hab with q|q
  .have:=hp a b (by simpa using ha') (by simpa using hb') q
   rw[lK,lK,ea,eb] at this;rcases this with r|⟨_,r⟩
   .omega
   .rw[h0] at r;exact absurd r (by decide)
  .have:=hp b a (by simpa using hb') (by simpa using ha') q
   rw[lK,lK,ea,eb] at this;rcases this with r|⟨_,r⟩
   .omega
   .rw[hsw] at r;exact absurd r (by decide)
 by_cases c1:0<w.l.dir.cross s.l.dir
 .by_cases c2:0<s.l.dir.cross w'.l.dir
  .exact E7 nz (md w mw) (md s ms) (md w' mw') hn c1 c2 h1
  .have z2:s.l.dir.cross w'.l.dir=0:=by grind
   have z2':w'.l.dir.cross s.l.dir=0:=by rw[eB,z2];rfl
   refine bef hs hw' n2 z2 ?_;exact SK (z:=bE w.l.dir) (nz _ (md s ms)) (nz _ (md w' mw')) z2 (by rw[lv,eB];grind) (by rw[lv,eB];grind)
 .have z1:w.l.dir.cross s.l.dir=0:=by grind
  by_cases c2:0<s.l.dir.cross w'.l.dir
  .exact bef hw hs (Ne.symm n1) z1 (SK (z:=w'.l.dir) (nz _ (md w mw)) (nz _ (md s ms)) z1 h1 c2)
  .have z2:s.l.dir.cross w'.l.dir=0:=by grind
   have hz0:=nz _ (md s ms);have ex:s.l.dir.x*(w.l.dir.cross w'.l.dir)=0:=by unfold aa.cross at*;grind
   have ey:s.l.dir.y*(w.l.dir.cross w'.l.dir)=0:=by unfold aa.cross at*;grind
   have x0:s.l.dir.x=0:=by rcases gV.1 ex with q|q;exact q;grind
   have y0:s.l.dir.y=0:=by rcases gV.1 ey with q|q;exact q;grind
   rcases gq hz0 with q|q
   .rw[lB] at q;grind
   .have:s.l.dir.half=0:=by unfold aa.half;rw[x0,y0];decide
    exact hz0 this
def UK{t:Tr}(ht:t.all ab.ok){p:aa}(h:xq t p≠0): ∃c∈ce t,mm c p:=by
 have hd:AE t p true:=Classical.byContradiction fun k=>h ((L8 ht).2 k);obtain⟨w,k1,k2⟩:=Z2 hd (pg ht);obtain⟨e,e0,he⟩:=Dc k1;obtain⟨o,hv⟩:=he e e0 fN;rw[hv] at k2;obtain⟨b,c,hc,hi⟩:=Hn (c:=[]) ht bO.nil (fun s hs=>by cases hs) o;have hb:=((yL ht bO.nil hc).2 _ hi).2;have:b=true:=by rw[<-hb];exact k2
 subst this;refine⟨c,vr.2 hc,fun s hs=>?_⟩;have hl:s.l∈t.lns\/s.l.rev∈t.lns:=EK (P:=fun l=>l∈t.lns\/l.rev∈t.lns) (fun l h=>h.elim (fun h=> .inr (by rw[Hp];exact h)) .inl) (r6.2 fun l hl=> .inl hl) (fun s hs=>by cases hs) hc s hs;have h1:=hi s hs;rw[gH] at h1;apply Classical.byContradiction;intro hn;have hn':s.l.value p<0:=by grind
 -- somewhere on the way it is 0
 have kp:0<s.l.nor.dot w:=(gv (s:=s.l.nor.dot w) (k:=e) e0).1 (by grind);obtain⟨d,hd⟩: ∃d,d= -s.l.value p/s.l.nor.dot w:=⟨_,rfl⟩;have ed:d*s.l.nor.dot w= -s.l.value p:=by rw[hd];generalize s.l.nor.dot w=z at*;grind
 have d0:0<d:=(gv kp).1 (by rw[ed];grind);have d1:d<=e:=by
  have:0<=(e-d)*s.l.nor.dot w:=by grind
  have:=(kg kp).1 this;grind
 have ho:=(he d d0 d1).1;have hz:s.l.value (bP p w d)=0:=by rw[gH];grind
 rcases hl with hl|hl
 .exact ho _ hl hz
 .exact ho _ hl (by rw[fq,hz];rfl)
def aLW(M:List ab)(E:List (aa×aa)):Prop:= ∀f∈E,∃m∈M,m.value f.1=0/\m.value f.2=0
def Tb(m:ab)(a p:aa):m.nor.dot ⟨a.x-p.x,a.y-p.y⟩=m.value a-m.value p:=by
 rw[jf,jf];unfold ab.nor aa.dot;dsimp only;grind
section
variable {rs:List (List ZP)} {fill:Int} {p:aa}
def aMa(rs:List (List ZP))(fill:Int)(p:aa)(b:Bool):Prop:= ∃x,Z8 (ER rs) p x/\Zr rs fill p x b
end
section
variable {rs:List (List ZP)} {fill:Int} {L:List ab} {p:aa}
end
def Pb(v:aj)(t:Rat):Bool:=(v.nl||decide (bg v.lo t<=0))&&(v.nh||decide (0<=bg v.hi t))
def Ga(f:aP)(p:aa):Bool:=decide (Int.sign (f.l.value p).num=0)&&Pb f.v (fG f.l p)
def aG6(f:aP)(p:aa):Int:=
 if Int.sign f.l.dir.y.num=0\/Int.sign (f.l.value p).num≠Int.sign f.l.dir.y.num then 0
 else if(if Int.sign f.l.dir.y.num<0 then f.v.nh=false/\0<bg (f.l.at f.v.hi).y p.y else f.v.nl=false/\0<bg (f.l.at f.v.lo).y p.y) then 0
 else if(if Int.sign f.l.dir.y.num<0 then f.v.nl=false/\bg (f.l.at f.v.lo).y p.y<=0 else f.v.nh=false/\bg (f.l.at f.v.hi).y p.y<=0) then 0
 else Int.sign f.l.dir.y.num
def aKv(E:List aP)(p:aa):Int:=E.foldl (fun n f=>n+aG6 f p) 0
def U9(f:aP)(p:aa):Bool:=f.v.nh||decide (bg (fG f.l p) f.v.hi<0)
def loR(f:aP)(p:aa):Bool:=f.v.nl||decide (0<bg (fG f.l p) f.v.lo)
def aKR(p:aa)(f:aP):List aa:=if Ga f p then(if U9 f p then [dG f.l.dir] else [])++(if loR f p then [bE (dG f.l.dir)] else []) else []
def I0(E:List aP)(p:aa):List aa:=ij (E.flatMap (aKR p))
def MK(p d q:aa):Rat:=(⟨q.x-p.x,q.y-p.y⟩:aa).dot d/d.dot d
def aK7(a b:Rat):Rat×Bool:=
 if 0<Int.sign b.num/\(¬0<Int.sign a.num\/bg b a<0) then(b,true) else if 0<Int.sign a.num then(a,true) else(0,false)
def H3(f:aP)(p d:aa):Rat×Bool:=
 if f.l.nor.dot d=0 then(if f.l.value p=0 then aK7 (MK p d (f.l.at f.v.lo)) (MK p d (f.l.at f.v.hi)) else(0,false))
 else(-(f.l.value p/f.l.nor.dot d),decide (0<Int.sign (-(f.l.value p/f.l.nor.dot d)).num)&&Pb f.v (fG f.l (bP p d (-(f.l.value p/f.l.nor.dot d)))))
def ZH(p d:aa)(s:Rat)(f:aP):Rat:=if Ga f p then s else if(H3 f p d).2 then(if(H3 f p d).1<s then(H3 f p d).1 else s) else s
def F3(E:List aP)(p d:aa):aa:=bP p d (E.foldl (ZH p d) 1*mkRat 1 2)
def aLL(E:List aP)(p:aa)(acc:aa->Bool):Int:=
 if((js (I0 E p)).any fun v=>acc (F3 E p v))&&(js (I0 E p)).all (fun v=>acc (F3 E p v)) then 2 else if(js (I0 E p)).any fun v=>acc (F3 E p v) then 1 else 0
section
variable {rs:List (List ZP)} {fill:Int} {p:aa}
end
def PE{p q:aa}{i:Nat}[hp:aC p i][hq:aC q i](hi:i<=1000000:=by decide):PF GB prog 115 [eZ p,eZ q] (vB (decide (p.x=q.x/\p.y=q.y))):=by
 refine fn func115 J J ntmps115 J J (fun C=>?_);refine cl J (yp (p:=p.x) (q:=q.x) (i:=i) (j:=i) (by omega) (by omega)) J<|?_;refine csd 10 J J J (fun hg10=>?_) (fun hg10=>?_)
 .
  refine cl J (yp (p:=p.y) (q:=q.y) (i:=i) (j:=i) (by omega) (by omega)) J<|?_;exact rz J (by show DV.v (.bool _)= .v (.bool _);simp_all)
 .
  exact rz J (by show DV.v (.bool _)= .v (.bool _);simp_all)
def Qv{p q:aa}{i j:Nat}[hp:aC p i][hq:aC q j](hi:i<=10000000:=by decide)(hj:j<=10000000:=by decide):PF GB prog 137 [eZ p,eZ q] (eZ ⟨p.x-q.x,p.y-q.y⟩):=by
 refine fn func137 J J ntmps137 J J (fun C=>?_);refine cl J (q8 (p:=p.x) (q:=q.x) (i:=i) (j:=j) (by omega) (by omega)) J<|cl J (q8 (p:=p.y) (q:=q.y) (i:=i) (j:=j) (by omega) (by omega)) J<|?_;exact rz J J
def xF(q:Rat):List Value:=[.int .i64 (cH q), .int .i64 (cG q), .pointer none]
def rV(q:Rat):Value:= .agg ⟨xF q⟩
structure SmF (f:aP):Prop where
 a: ¬iw (f.l.a:Rat)
 b: ¬iw (f.l.b:Rat)
 c: ¬iw (f.l.c:Rat)
 lo: ¬iw f.v.lo
 hi: ¬iw f.v.hi
def frV(f:aP):Value:= .agg ⟨xF f.l.a++(xF f.l.b++(xF f.l.c++(xF f.v.lo++(xF f.v.hi++[.bool f.v.nl, .bool f.v.nh]))))⟩
structure FE (f:aP):Prop where
 fo:nk f
 sm:SmF f
 nl:f.v.nl=false
 nh:f.v.nh=false

def nH(v:List aa):List (List DV):=(List.range v.length).map fun i=>[vI (i:Nat),CZ (v.getD i ⟨0,0⟩) (v.getD ((i+1)%v.length) ⟨0,0⟩)]
def Rq{v:List aa}{i:Nat}{p q:aa}(h1:v[i]? =some p)(h2:v[(i+1)%v.length]? =some q):(nH v)[i]? =some [vI (i:Nat),CZ p q]:=by
 have hi:=(aY.1 h1).1;unfold nH;rw[cK,oS hi,jX,aX,aX,h1,h2];rfl
def HL{v:List aa}{i:Nat}{e:List DV}(h:(nH v)[i]? =some e): ∃p q,v[i]? =some p/\v[(i+1)%v.length]? =some q/\e=[vI (i:Nat),CZ p q]:=by
 have hi:i<v.length:=by
  have:=(aY.1 h).1;unfold nH at this;simpa using this
 have h1:v[i]? =some v[i]:=aQ hi;have hm:(i+1)%v.length<v.length:=cS _ (by omega);have h2:v[(i+1)%v.length]? =some v[(i+1)%v.length]:=aQ hm;refine⟨_,_,h1,h2,?_⟩;rw[Rq h1 h2] at h;exact(Option.some.inj h).symm
def GO{v:List aa}: ∀e∈nH v,e.length=2:=fun e he=>by
 obtain⟨i,_,rfl⟩:=bQ.1 he;rfl
def IP{v:List aa}(hn:v.length<=100000:=by omega):It GB prog 136 [.pt [.sl (v.map eZ)]] (nH v):=by
 have hml:(v.map eZ).length=v.length:=aJ ..;have hrl:(nH v).length=v.length:=by unfold nH;simp
 refine Pf func136 J J ntmps136 J (fun _=>J) (fun l Jv Jx GB' hg H C hp hJ=>?_);refine SI 1 J<|gx J<|?_;refine ak 6 (.d (vI (v.length:Nat))) J (by rw[hml]<;>rfl) ?_;refine JH (X:=Nat) (fun k=>[(0, .d (.v (.func (.yield l) #[] #[]))),(1, .ep [.sl (v.map eZ)]),(5, .d (.sl (v.map eZ))),(6, .d (vI (v.length:Nat))),(7, .d (vI (k:Nat)))]) (fun k C=>k<=v.length/\Jv k C.G0 C.w0) (fun k=>v.length-k) 0 hp ⟨aN _,hJ⟩ (fun _=>J) (fun k C1 hp1 hk=>?_);obtain⟨hk1,hJ1⟩:=hk;refine br J J J (fun hc8=>?_) (fun hc8=>?_)
 .obtain⟨p,hpx⟩: ∃u,v[k]? =some u:=⟨_,aQ (by omega)⟩
  obtain⟨q,hqx⟩: ∃u,v[(k+1)%v.length]? =some u:=⟨_,aQ (cS _ (by omega))⟩;refine ix _ J (cA hpx) J<|?_;refine ak 20 (.d (vI (((k+1)%v.length:Nat):Int))) J (by rw[hml]<;>rfl) ?_;refine gx J<|ix _ J (cA hqx) J<|QD (len:=2) (s:=6) (e:=92) J (by kernel_rfl) (by kernel_rfl) J<|?_;refine Ly (by kernel_rfl) J ?_;refine cy [(0, .d (.v (.func (.yield l) #[] #[]))),(1, .ep [.sl (v.map eZ)]),(5, .d (.sl (v.map eZ))),(6, .d (vI (v.length:Nat))),(7, .d (vI (k:Nat)))] H hp1 hJ1 J (Rq hpx hqx) J (by repeat (first|exact trivial|refine And.intro J ?_)) J J J (fun C3 hp3 hJ3=>?_) (fun C3 hp3 hJ3=>?_)
  .exact H5 (k+1) hp3 ⟨⟨by omega,hJ3⟩,by omega⟩
  .exact Dj H hp3 (.inr hJ3) J
 .obtain rfl:k=v.length:=by omega
  exact Dj H hp1 (.inl (by rw[hrl];exact hJ1)) J
def HZ{v:List aa}:CV GB prog 78 [.sl (v.map eZ)] 136 (.pt [.sl (v.map eZ)]):=by
 refine NB func78 J J ntmps78 J J (fun C=>?_);refine fz 1 J J ?_;refine Mi 1 J (fun GB' pv hg hp=>?_);refine Ky J J ?_;exact RD J J hp
def scR(L:List Rat)(k:Rat)(j:Nat):List Rat:=(L.take j).map (· *k)++L.drop j
theorem Pw(p q:aa){i j:Nat}[aC p i][aC q j]:aC ⟨p.x-q.x,p.y-q.y⟩ (i+j+1):=⟨inferInstanceAs (BQ (p.x-q.x) _),inferInstanceAs (BQ (p.y-q.y) _)⟩

def aEb{a i:Nat}[h:BN a i](hi:i<=1000000000:=by decide):PF GB prog 228 [dN a] (.v (.bool true)):=
 (R6 (ds:=dg a) (ew _).2.1 (by have:=mH (a:=a) hi;omega)).to (by unfold vB;rw[decide_eq_true (ew a).2.2])
def Ml{q:Rat}{i:Nat}[hq:BQ q i](hi:i<=1000000:=by decide):PF GB prog 182 [eR q] (.v (.bool true)):=by
 have hd:=q.den_pos;have hdl:0<(dg q.den).length:=iY fun e=>by have:=vJ.1 e;omega
 have hml:((dg q.den).map dU).length=(dg q.den).length:=aJ ..;have hco:Nat.gcd q.num.natAbs q.den=1:=q.reduced;refine fn func182 J J ntmps182 J J (fun C=>?_);refine cl (fu:=⟨0⟩) J (rk (m:=q.num) (i:=i) (h:=⟨hq.hn⟩) (by omega)) J<|?_;refine lG 5 J ?_;refine gx J<|cl (fu:=⟨0⟩) J (aEb (a:=q.den) (i:=i) (h:=⟨hq.hd⟩) (by omega)) J<|?_;refine lG 10 J ?_;refine gx (fu:=⟨6⟩) J<|ck J (by show some (decide _)=some false;rw[decide_eq_false (by omega)]) J<|cl (fu:=⟨0⟩) J (Ho (a:=q.num.natAbs) (b:=q.den) (i:=i) (j:=i) (h:=⟨hq.hn⟩) (k:=⟨hq.hd⟩) (by omega) (by omega)) J<|?_;refine ak 24 (.d (dN 1)) J (by rw[hco]) ?_;refine gx J<|cl J (uX (a:=1) (i:=1) (h:=⟨by decide⟩)) J<|?_;exact rz J J
def X1{p:aa}{i:Nat}[hp:aC p i](hi:i<=1000000:=by decide):PF GB prog 112 [jr p] (.v (.bool true)):=by
 refine fn func112 J J ntmps112 J J (fun C=>?_);refine cl (fu:=⟨0⟩) J (Ml (q:=p.x) (i:=i) (by omega)) J<|?_;refine lG 5 J ?_;refine gx J<|cl J (Ml (q:=p.y) (i:=i) (by omega)) J<|?_;exact rz J J
def th(l:List aa)(p:aa):Int:=match l.findIdx? (fun q=>decide (q.x=p.x/\q.y=p.y)) with
 |some i=>(i:Nat)
 |none=> -1
def ZT{l:List aa}{p q:aa}{k:Nat}(hx:l[k]? =some q)(h:(l.take k).all (fun q=>!decide (q.x=p.x/\q.y=p.y))=true)(hq:q.x=p.x/\q.y=p.y):th l p=(k:Nat):=by
 have hk:=(aY.1 hx).1;have e:l.findIdx? (fun q=>decide (q.x=p.x/\q.y=p.y))=some k:=by
  rw[List.findIdx?_eq_some_iff_getElem];refine⟨hk,?_,fun j hj=>?_⟩
  .rw[(aY.1 hx).2];exact decide_eq_true hq
  .have:=dK.1 h l[j] (by rw[List.mem_take_iff_getElem];exact⟨j,by omega,J⟩)
   simp at this⊢;intro a b;rcases this with k|k
   .exact k a
   .exact k b
 unfold th;rw[e]
def X9{l:List aa}{p:aa}(h:l.all (fun q=>!decide (q.x=p.x/\q.y=p.y))=true):th l p= -1:=by
 have e:l.findIdx? (fun q=>decide (q.x=p.x/\q.y=p.y))=none:=by
  rw[List.findIdx?_eq_none_iff];intro x hx;have:=dK.1 h x hx;simp at this⊢;intro a b;rcases this with k|k
  .exact k a
  .exact k b
 unfold th;rw[e]
def Ym{l:List aa}{k:Nat}{q:aa}{g:aa->Bool}(hx:l[k]? =some q)(h:(l.take k).all g=true)(hq:g q=true):(l.take (k+1)).all g=true:=by
 rw[eY,hx,List.all_append,h];simp[hq]
def Vm{l:List aa}{p:aa}{i:Nat}[hp:aC p i](hl: ∀q∈l,aC q i)(hn:l.length<=100000)(hi:i<=1000000:=by decide):PF GB prog 114 [.sl (l.map eZ),eZ p] (vI (th l p)):=by
 have hml:(l.map eZ).length=l.length:=aJ ..;refine fn (fu:=⟨11⟩) func114 J J ntmps114 J J (fun C=>?_);refine ak 8 (.d (vI (l.length:Nat))) J (by rw[hml]<;>rfl) ?_;refine gx J<|?_;refine lp (X:=Nat) (fun k=>[(9, .d (vI (k:Nat)))]) (fun k=>[]) (fun k=>k<=l.length/\(l.take k).all (fun q=>!decide (q.x=p.x/\q.y=p.y))=true) (fun k=>l.length-k) 0 J ⟨aN _,J⟩ (fun _=>J) (fun k hk=>?_);obtain⟨hk,hall⟩:=hk;refine br J J J (fun hc10=>?_) (fun hc10=>?_)
 .
  obtain⟨q,hx⟩: ∃u,l[k]? =some u:=⟨_,aQ (by omega)⟩;haveI:=hl q (aV hx);refine ix _ J (cA hx) J<|cl J (PE (p:=q) (q:=p) (i:=i) hi) J<|?_;refine bd J J J (fun hc16=>?_) (fun hc16=>?_)
  .
   exact rz J (by rw[ZT hx hall hc16];rfl)
  .
   exact at_ (k+1) ⟨⟨by omega,Ym hx hall (by rw[decide_eq_false hc16];rfl)⟩,(by omega)⟩
 .
  obtain rfl:k=l.length:=by omega
  rw[dW] at hall;exact rz J (by rw[X9 hall];rfl)
def fP(l:List aa):Nat->Nat
 |0=>0
 |k+1=>fP l k+if th l (l.getD k ⟨0,0⟩)=(k:Nat) then 1 else 0
def kB(l:List aa)(k:Nat):Nat:=if 3<=fP l k then 3 else fP l k
def Yw{l:List aa}{k:Nat}(h:kB l k<3)(e:fP l (k+1)=fP l k+1):((kB l k:Nat):Int)+1=((kB l (k+1):Nat):Int):=by
 have a:kB l k=if 3<=fP l k then 3 else fP l k:=J
 have b:kB l (k+1)=if 3<=fP l (k+1) then 3 else fP l (k+1):=J
 split at a<;>split at b<;>omega
def Rt{l:List aa}{k:Nat}(h: ¬kB l k<3\/fP l (k+1)=fP l k)(m:fP l k<=fP l (k+1)):((kB l k:Nat):Int)=((kB l (k+1):Nat):Int):=by
 have a:kB l k=if 3<=fP l k then 3 else fP l k:=J
 have b:kB l (k+1)=if 3<=fP l (k+1) then 3 else fP l (k+1):=J
 split at a<;>split at b<;>omega
def aH4(l:List aa)(k:Nat):kB l k<=3:=by unfold kB;split<;>omega
def Wf{l:List aa}{k:Nat}(h:3<=fP l k):kB l k=3:=by unfold kB;rw[if_pos h]
def aBB{l:List aa}{k:Nat}{p:aa}(hx:l[k]? =some p)(h:th l p=(k:Nat)):fP l (k+1)=fP l k+1:=by
 rw[fP,aX,hx,iK,if_pos h]
def UO{l:List aa}{k:Nat}{p:aa}(hx:l[k]? =some p)(h: ¬th l p=(k:Nat)):fP l (k+1)=fP l k:=by
 rw[fP,aX,hx,iK,if_neg h];rfl
def VW{l:List aa}{k:Nat}:fP l k<=fP l (k+1):=by rw[fP];split<;>omega
def aus{v:List aa}{k:Nat}{p:aa}(h:v[k]? =some p):((v.take k).map eZ)++[eZ p]=(v.take (k+1)).map eZ:=by
 rw[eY,h,bY];rfl
structure aL9 (r:List ZP):Prop where
 ok:d7 r
 c3:3<=fP (r.map ZP.q) (r.map ZP.q).length
def eZr(r:List ZP):DV:= .sl ((r.map ZP.q).map eZ)
def onR(rs:List (List ZP))(p:aa):Bool:=(ip rs).any fun f=>Ga f p
def WU{v:List aa}{i:Nat}(hb: ∀p∈v,aC p i)(hi:i<=100000)(hn:v.length<=4000)(h3:3<=fP v v.length)(hne: ∀(k:Nat) (p q:aa),v[k]? =some p->v[(k+1)%v.length]? =some q-> ¬(p.x=q.x/\p.y=q.y)):PF GB prog 61 [.sl (v.map jr)] (.tp [.sl (v.map eZ), .v .nilIface]):=by
 have hm1:(v.map jr).length=v.length:=aJ ..;have hm2:(v.map eZ).length=v.length:=aJ ..;have hrl:(nH v).length=v.length:=by unfold nH;rw[aJ,lR]
 refine Eh (fu:=⟨11⟩) func61 J J ntmps61 J J (fun C h0=>?_);refine ak 13 (.d (vI (v.length:Nat))) J (by rw[hm1]<;>rfl) ?_;refine gx (fu:=⟨0⟩) J<|ck (fu:=⟨15⟩) J (by show some (decide _)=some false;rw[decide_eq_false (by omega)]) J<|?_;refine ak 20 (.d (vI (v.length:Nat))) J (by rw[hm1]<;>rfl) ?_;refine gx J<|?_;refine nr 4 4 92 6 J J J ?_;refine lp (X:=Nat) (fun k=>[(21, .d (vI (k:Nat))),(4, .rw 4)]) (fun k=>[(4,some (.b 92 6 ((v.take k).map eZ) true))]) (fun k=>k<=v.length) (fun k=>v.length-k) 0 J (aN _) (fun _=>J) (fun k hk=>?_);have hm3:((v.take k).map eZ).length<=k:=by rw[aJ,cJ];omega
 refine br (fu2:=⟨0⟩) J J J (fun hc22=>?_) (fun hc22=>?_)
 .
  obtain⟨p,hx⟩: ∃u,v[k]? =some u:=⟨_,aQ (by omega)⟩;haveI:=hb p (aV hx);refine ix _ J (cA hx) J<|cl (fu:=⟨0⟩) J (X1 (p:=p) (i:=i) (by omega)) J<|?_;refine lG 27 J ?_;refine gx J<|cl J (IZ (p:=p) (i:=i) (by omega)) J<|rf J J<|ap ((v.take (k+1)).map eZ) J (aus hx) (BZ [p]) J<|?_;refine fE 41 4 J ?_;exact at_ (k+1) ⟨(by omega),(by omega)⟩
 .
  obtain rfl:k=v.length:=by omega
  rw[dW];refine u' 4 J ?_;refine gx (fu:=⟨15⟩) J<|?_;refine ak 44 (.d (vI (v.length:Nat))) J (by rw[hm2]<;>rfl) ?_;refine gx J<|?_;refine lp (X:=Nat) (fun k=>[(45, .d (vI (k:Nat))),(7, .d (vI ((kB v k):Nat)))]) (fun k=>[]) (fun k=>k<=v.length) (fun k=>v.length-k) 0 J (aN _) (fun _=>J) (fun k hk=>?_);have hdm:=aH4 v k;refine br (fu2:=⟨9⟩) J J J (fun hc46=>?_) (fun hc46=>?_)
  .
   obtain⟨p,hx⟩: ∃u,v[k]? =some u:=⟨_,aQ (by omega)⟩;haveI:=hb p (aV hx);have hcm:=VW (l:=v) (k:=k);refine ix _ J (cA hx) J<|?_;refine cs 52 J J J (fun hg52=>?_) (fun hg52=>?_)
   .
    refine cl J (Vm (l:=v) (p:=p) (i:=i) hb (by omega) (by omega)) J<|?_;refine br J J J (fun hc58=>?_) (fun hc58=>?_)
    .
     have he7:=Yw (by omega) (aBB hx (by omega));refine ak 7 (.d (vI (kB v (k+1):Nat))) J (by rw[he7]<;>rfl) ?_;exact at_ (k+1) ⟨(by omega),(by omega)⟩
    .
     have he7:=Rt (.inr (UO hx (by omega))) hcm;refine ak 7 (.d (vI (kB v (k+1):Nat))) J (by rw[he7]<;>rfl) ?_;exact at_ (k+1) ⟨(by omega),(by omega)⟩
   .
    have he7:=Rt (l:=v) (k:=k) (.inl (by omega)) hcm;refine ak 7 (.d (vI (kB v (k+1):Nat))) J (by rw[he7]<;>rfl) ?_;exact at_ (k+1) ⟨(by omega),(by omega)⟩
  .
   obtain rfl:k=v.length:=by omega
   have hd3:=Wf h3;refine ck (fu:=⟨9⟩) J (by show some (decide _)=some false;rw[decide_eq_false (by omega)]) J<|?_;refine DC J J J HZ (fun _=>J) (fun GB1 pv hg1 hpv=>?_);refine vA 2 2000002 h0.fx J<|vA 3 2000003 h0.fx J ?_;refine DM (σ:=Empty) (fun _=>[(2000002,some (.o 76 [.nl] true)),(2000003,some (.o 50 [.d (.v .nilIface)] true))]) (fun _=>True) (fun _=>[]) (fun _=>False) [(2, .ov 2000002 0),(3, .ov 2000003 0),(4, .d (.sl (v.map eZ)))] h0 J (IP) (.cons hpv .nil) ⟨J,J,J,trivial⟩ J ⟨J,J,trivial⟩ trivial GO J J (fun k e GB' hE hg hp=>?_) (fun D hD hx hp=>?_) (fun D s hD hx hq=>hq.elim)
   .obtain⟨p,q,hpx,hqx,rfl⟩:=HL hE
    haveI:=hb p (aV hpx);haveI:=hb q (aV hqx);have hne2:=hne k p q hpx hqx;refine⟨?_,?_,fun C2=>?_,fun C2=>?_⟩
    rotate_left 2
    .refine gx J<|JK J J J ⟨J,J,J⟩ J ?_
     exact atR
    .refine gx J<|pG 0 (e:=92) (len:=2) (s:=6) J (by kernel_rfl) (by kernel_rfl) (by decide) J<|pG 1 (e:=92) (len:=2) (s:=6) J (by kernel_rfl) (by kernel_rfl) (by decide) J<|?_
     refine cl J (PE (p:=p) (q:=q) (i:=i) (by omega)) J<|?_;refine bd J J J (fun hc=>absurd hc hne2) (fun hc=>?_);exact rq trivial ⟨J,J,trivial⟩
   .refine gx J<|?_
    exact AQ hD hx J J
def aHc{a b c:aa}(h:bD a b c≠0):3<=fP [a,b,c] [a,b,c].length/\ ∀(k:Nat) (p q:aa),[a,b,c][k]? =some p->[a,b,c][(k+1)% [a,b,c].length]? =some q-> ¬(p.x=q.x/\p.y=q.y):=by
 have e1: ¬(a.x=b.x/\a.y=b.y):=fun⟨k1,k2⟩=>h (by unfold bD;rw[k1,k2];grind);have e2: ¬(b.x=c.x/\b.y=c.y):=fun⟨k1,k2⟩=>h (by unfold bD;rw[k1,k2];grind);have e3: ¬(c.x=a.x/\c.y=a.y):=fun⟨k1,k2⟩=>h (by unfold bD;rw[k1,k2];grind);refine⟨?_,fun k p q hp hq=>?_⟩
 .have f1: ¬(b.x=a.x/\b.y=a.y):=fun k=>e1 ⟨k.1.symm,k.2.symm⟩
  have f2: ¬(c.x=b.x/\c.y=b.y):=fun k=>e2 ⟨k.1.symm,k.2.symm⟩;have f3: ¬(a.x=c.x/\a.y=c.y):=fun k=>e3 ⟨k.1.symm,k.2.symm⟩;simp[fP,th,List.findIdx?_cons,e1,e2,f3,aX]
 .match k with
  |0=>obtain rfl:a=p:=Option.some.inj hp;obtain rfl:b=q:=Option.some.inj hq;exact e1
  |1=>obtain rfl:b=p:=Option.some.inj hp;obtain rfl:c=q:=Option.some.inj hq;exact e2
  |2=>obtain rfl:c=p:=Option.some.inj hp;obtain rfl:a=q:=(by simpa using hq);exact e3
  |k+3=>simp at hp
def aIU(l:ab)(a b:Rat)(p:aa):bD (l.at a) (l.at b) p=(b-a)*(l.value p-l.value (l.at a)):=by
 have e:l.at b=bP (l.at a) l.dir (b-a):=by rw[<-Ay];congr 1;grind
 rw[e];unfold bD bP ab.value ab.nor ab.dir aa.dot;dsimp only;grind
def QF(a b p:aa):bD b a p= -bD a b p:=by unfold bD;grind
def H1(a b p:aa):bD a b p=bD b p a:=by unfold bD;grind
def UR(l:ab)(a b d p:aa):bD a b d*l.value p=bD b d p*l.value a+bD d a p*l.value b+bD a b p*l.value d:=by
 unfold bD ab.value ab.nor aa.dot;grind
def dt(c:az)(i:Nat):aa:=(gh (c.map (·.l))).getD i ⟨0,0⟩
section
variable {c:az} (hc:bO c) (ha:lj c) (hb:dE c=true)
include hc ha hb
def Cc{i:Nat}{s:aP}(h:c[i]? =some s):dt c i=s.l.at s.v.hi:=by
 unfold dt;rw[QI hc ha hb,aX,cK,h];rfl
def Pp{i:Nat}{w:aP}(hw:c[(i+1)%c.length]? =some w)(hi:i<c.length)(p:aa):bD (dt c i) (dt c ((i+1)%c.length)) p=(w.v.hi-w.v.lo)*w.l.value p:=by
 obtain⟨s,hs⟩: ∃s,c[i]? =some s:=⟨_,aQ hi⟩;obtain⟨_,_,h3⟩:=Bv hc ha hb hs hw;rw[Cc hc ha hb hs,Cc hc ha hb hw,<-h3,aIU,mz (hc.ok w (aV hw)).ne];grind
def Rv:3<=c.length:=by
 have h0:=Tv hc ha hb;obtain⟨s,hs⟩: ∃s,c[0]? =some s:=⟨_,aQ h0⟩;obtain⟨w,hw⟩: ∃w,c[(0+1)%c.length]? =some w:=⟨_,aQ (cS _ h0)⟩;have k1:=(Bv hc ha hb hs hw).1;by_cases e1:c.length=1
 .rw[show(0+1)%c.length=0 by rw[e1]] at hw
  rw[hs] at hw;cases hw;unfold aa.cross at k1;grind
 .by_cases e2:c.length=2
  .obtain⟨u,hu⟩: ∃u,c[(1+1)%c.length]? =some u:=⟨_,aQ (cS _ h0)⟩
   rw[show(0+1)%c.length=1 by rw[e2]] at hw;have k2:=(Bv hc ha hb hw hu).1;rw[show(1+1)%c.length=0 by rw[e2]] at hu;rw[hs] at hu;cases hu;unfold aa.cross at k1 k2;grind
  .omega
def Ms{k:Nat}(hk:k+2<c.length):0<bD (dt c 0) (dt c (k+1)) (dt c (k+2)):=by
 obtain⟨w,hw⟩: ∃w,c[(k+1+1)%c.length]? =some w:=⟨_,aQ (cS _ (by omega))⟩;have e:=Pp hc ha hb hw (by omega) (dt c 0);rw[show(k+1+1)%c.length=k+2 from dV hk] at e hw;obtain⟨s,hs⟩: ∃s,c[0]? =some s:=⟨_,aQ (by omega)⟩;obtain⟨s',hs'⟩: ∃s,c[(0+1)%c.length]? =some s:=⟨_,aQ (cS _ (by omega))⟩;have hlt:=Ny hc hb (aV hw);have hv:0<w.l.value (dt c 0):=by
  rw[Cc hc ha hb hs];have h1:0<=w.l.value (s.l.at s.v.hi):=((hc.edge s (aV hs)).2 _).1 (AO (hc.edge s (aV hs)).1 ((u7 hb).2 s (aV hs)).2) w (aV hw);by_cases h0:w.l.value (s.l.at s.v.hi)=0
  .have:=apj hc ha hb hs hs' hw h0
   rw[dV (show 0+1<c.length by omega)] at this;omega
  .grind
 rw[H1,e];exact bH (by grind) hv
def FK{i:Nat}(hi:i<c.length){s:aP}(hs:s∈c):0<=s.l.value (dt c i):=by
 obtain⟨w,hw⟩: ∃w,c[i]? =some w:=⟨_,aQ hi⟩;have hm:=aV hw;rw[Cc hc ha hb hw];exact((hc.edge w hm).2 _).1 (AO (hc.edge w hm).1 ((u7 hb).2 w hm).2) s hs
def RY(p:aa):mm c p↔ ∃k,k+2<c.length/\0<=bD (dt c 0) (dt c (k+1)) p/\0<=bD (dt c (k+1)) (dt c (k+2)) p/\0<=bD (dt c (k+2)) (dt c 0) p:=by
 have hn:=Rv hc ha hb;constructor
 .intro hp
  have side: ∀i,i<c.length->0<=bD (dt c i) (dt c ((i+1)%c.length)) p:=fun i hi=>by
   obtain⟨w,hw⟩: ∃w,c[(i+1)%c.length]? =some w:=⟨_,aQ (cS _ (by omega))⟩;rw[Pp hc ha hb hw hi];have hlt:=Ny hc hb (aV hw);exact cO (by grind) (hp w (aV hw))
  have last:bD (dt c 0) (dt c (c.length-1)) p<=0:=by
   have:=side (c.length-1) (by omega);rw[show(c.length-1+1)%c.length=0 by rw[Nat.sub_add_cancel (by omega),tV],QF] at this;grind
  have first:0<=bD (dt c 0) (dt c 1) p:=by
   have:=side 0 (by omega);rwa [show(0+1)%c.length=1 from dV (by omega)] at this
  -- the first place where the sign has changed
  have ivt: ∀m,m+1<=c.length-1->bD (dt c 0) (dt c (m+1)) p<=0->(∃k,k+1<m+1/\0<=bD (dt c 0) (dt c (k+1)) p/\bD (dt c 0) (dt c (k+2)) p<=0)\/m=0:=by
   intro m
   induction m with
   |zero=>intro _ _;exact .inr rfl
   |succ m ih=>
    intro hm h;left;by_cases q:0<=bD (dt c 0) (dt c (m+1)) p
    .exact⟨m,by omega,q,h⟩
    .rcases ih (by omega) (by grind) with⟨k,h1,h2⟩|rfl
     .exact⟨k,by omega,h2⟩
     .exact absurd first q
  obtain⟨k,k1,k2,k3⟩: ∃k,k+2<c.length/\0<=bD (dt c 0) (dt c (k+1)) p/\bD (dt c 0) (dt c (k+2)) p<=0:=by
   rcases ivt (c.length-2) (by omega) (by rw[show c.length-2+1=c.length-1 by omega];exact last) with⟨k,h1,h2⟩|h
   .exact⟨k,by omega,h2⟩
   .omega
  refine⟨k,k1,k2,?_,by rw[QF];grind⟩;have:=side (k+1) (by omega);rwa [show(k+1+1)%c.length=k+2 from dV k1] at this
 .rintro ⟨k,hk,h1,h2,h3⟩ s hs
  have hp:=Ms hc ha hb hk;have e:=UR s.l (dt c 0) (dt c (k+1)) (dt c (k+2)) p;have a0:=FK hc ha hb (i:=0) (by omega) hs;have a1:=FK hc ha hb (i:=k+1) (by omega) hs;have a2:=FK hc ha hb (i:=k+2) hk hs;have m0:=cO h2 a0;have m1:=cO h3 a1;have m2:=cO h1 a2;exact(kg hp).1 (by grind)
end
def ax0{t:Tr}(ht:t.all ab.ok){c:az}(hc:c∈ce t){p:aa}(hp:mm c p):xq t p≠0:=fun k=>by
 obtain⟨hg,hv⟩:=yL ht bO.nil (vr.1 hc);obtain⟨q,hq,ho⟩:=Ql hg t.lns (pg ht);refine(L8 ht).1 k ?_;have hgn:Gn t.lns p ⟨q.x-p.x,q.y-p.y⟩:=fun m hm hz=>by rw[Tb,hz];have:=ho m hm;grind
 have hd:=ZR hgn;obtain⟨e,he,hs⟩:=Dc hgn;obtain⟨d,hd0,d1,d2⟩:=min2 he (show(0:Rat)<1 by decide);rw[(hs d hd0 d1).2] at hd;have hin:bm c (bP p ⟨q.x-p.x,q.y-p.y⟩ d):=fun s hs=>by
  rw[gH,show d*s.l.nor.dot ⟨q.x-p.x,q.y-p.y⟩=d*(s.l.value q-s.l.value p) by rw[Tb]];have a:=hp s hs;have b:=bH hd0 (hq s hs);have c:=cO (show 0<=1-d by grind) a;grind
 rw[(hv _ hin).2] at hd;exact hd
def xl(a b d:aa):Rat:=a.cross b+b.cross d+d.cross a
def HW(f:Nat->Rat)(n:Nat):b7 f (List.range (n+1))=b7 f (List.range n)+f n:=by
 rw[pU,Dn];show _+(f n+0)=_;grind
def Ow(g:Nat->aa): ∀n,b7 (fun k=>xl (g 0) (g (k+1)) (g (k+2))) (List.range n)=b7 (fun k=>(g k).cross (g (k+1))) (List.range (n+1))+(g (n+1)).cross (g 0)
 |0=>by show(0:Rat)=(g 0).cross (g 1)+0+(g 1).cross (g 0);unfold aa.cross;grind
 |n+1=>by
  rw[HW,Ow g n,HW _ (n+1)];unfold xl aa.cross;grind
def ay1{v:List aa}(h:3<=v.length):b7 (fun k=>xl (v.getD 0 ⟨0,0⟩) (v.getD (k+1) ⟨0,0⟩) (v.getD (k+2) ⟨0,0⟩)) (List.range (v.length-2))=Ab aa.cross v:=by
 rw[Ow fun i=>v.getD i ⟨0,0⟩];unfold Ab;obtain⟨n,hn⟩: ∃n,v.length=n+2:=⟨v.length-2,by omega⟩;rw[hn,show n+2-2=n by omega,HW _ (n+1)];rw[show(n+1+1)%(n+2)=0 from tV _];congr 1;refine yo fun k hk=>?_;have:=jS.1 hk;rw[dV (show k+1<n+2 by omega)]
def eCA(L:List ab):DV:= .ag [.sl (L.map eL)]
def iC(v:List aa):Rat:=b7 (fun x=>x.1.cross x.2) (jc v)
def VQ{v:List aa}{k:Nat}{p q:aa}(h1:v[k]? =some p)(h2:v[(k+1)%v.length]? =some q):b7 (fun x=>x.1.cross x.2) ((jc v).take (k+1))=b7 (fun x=>x.1.cross x.2) ((jc v).take k)+p.cross q:=F2 _ (OH v h1 h2)
def Vo{v:List aa}{b m:Nat}(hv: ∀p∈v,aC p b)(hn:v.length<=100000)(hs: ∀k,BQ (b7 (fun x=>x.1.cross x.2) ((jc v).take k)) m)(hb4:b<=10000000)(hm0:m<=100000000):PF GB prog 26 [.sl (v.map eZ)] (eF (iC v*mkRat 1 2)):=by
 have hml:(v.map eZ).length=v.length:=aJ ..;obtain⟨S,hS⟩: ∃S:Nat->Rat,S=fun k=>b7 (fun x=>x.1.cross x.2) ((jc v).take k):=⟨_,rfl⟩;have hSk: ∀k,BQ (S k) m:=by rw[hS];exact hs
 have h00:S 0=0:=by rw[hS];rfl
 refine fn (fu:=⟨15⟩) func26 J J ntmps26 J J (fun C=>?_);refine ak 7 (.d (vI (v.length:Nat))) J (by rw[hml]<;>rfl) ?_;refine gx J<|?_;refine IQ 3 [vI (cH (S 0)),vI (cG (S 0)),cP (S 0)] rfl (fun G m=>by rw[h00];exact zF) J ?_;refine lp (X:=Nat) (fun k=>[(8, .d (vI (k:Nat))),(3, .ov 3 0)]) (fun k=>[(3,some (.o 83 [.d (vI (cH (S k))), .d (vI (cG (S k))), .d (cP (S k))] true))]) (fun k=>k<=v.length) (fun k=>v.length-k) 0 J (aN _) (fun _=>J) (fun k hk=>?_);haveI:=hSk k;refine br J J J (fun hc9=>?_) (fun hc9=>?_)
 .
  obtain⟨p,hx⟩: ∃u,v[k]? =some u:=⟨_,aQ (by omega)⟩;obtain⟨q,hw⟩: ∃w,v[(k+1)%v.length]? =some w:=⟨_,aQ (cS _ (by omega))⟩;haveI:=hv p (aV hx);haveI:=hv q (aV hw);have eS:S (k+1)=S k+p.cross q:=by rw[hS];exact VQ hx hw
  haveI:BQ (p.cross q) (2*b+2*b+1):=BQ.mono (inferInstance:BQ (p.cross q) _) (by omega);refine ix (fu:=⟨14⟩) _ J (cA hx) J<|?_;refine ak 19 (.d (vI (v.length:Nat))) J (by rw[hml]<;>rfl) ?_;refine gx (fu:=⟨1⟩) J<|?_;refine ak 20 (.d (vI (((k+1)%v.length:Nat):Int))) J J ?_;refine gx J<|ix _ J (cA hw) J<|cl J (wR (p:=p) (q:=q) (i:=b) (j:=b) (by omega) (by omega)) J<|cl (fu:=⟨0⟩) J (pj (p:=S k) (q:=p.cross q) (i:=m) (j:=2*b+2*b+1) (by omega) (by omega)) J<|?_;refine ak 24 (.d (eF (S (k+1)))) J (by rw[eS]) ?_;refine gx (hv:=by simp only[ah];exact⟨by kernel_rfl,by omega⟩) J<|?_;exact at_ (k+1) ⟨(by omega),(by omega)⟩
 .
  obtain rfl:k=v.length:=by omega
  have eN:S v.length=iC v:=by rw[hS];show b7 _ (List.take _ _)=_;rw[aS (by rw[Fd];exact aM _)];rfl
  refine cl J (Dy (q:=S v.length) (i:=m) (by omega)) J<|?_;exact rz J (by rw[eN];rfl)
def aKH(cs:List az)(k:Nat):Rat:=b7 (fun c=>iC (gh (c.map (·.l)))*mkRat 1 2) (cs.take k)
def WP(cs:List az):b7 (fun c=>iC (gh (c.map (·.l)))*mkRat 1 2) cs=b7 (fun x=>x.1.cross x.2) (gr (fi cs))*mkRat 1 2:=by
 unfold gr fi;rw[H0,D7,qW,<-B7];exact yo fun c _=>by unfold iC;rw[qW]
def q3(q:Rat):List DV:=[.v (.bool (decide (q.num<0))),dN q.num.natAbs,dD q.den]
def oc(p:aa):List aa->Bool
 |[a,b,d]=>decide (0<=bD a b p)&&(decide (0<=bD b d p)&&decide (0<=bD d a p))
 |_=>false
def El{t:Tr}(ht:t.all ab.ok){c:az}(hc:c∈ce t):bO c/\lj c:=
 ⟨(yL ht bO.nil (vr.1 hc)).1,Hj ht bO.nil .nil _ (vr.1 hc)⟩
def R3{c:az}(hc:bO c)(ha:lj c)(hb:dE c=true):(gh (c.map (·.l))).length=c.length:=by
 rw[QI hc ha hb,aJ]
def Z0{c:az}{k:Nat}:pC (gh (c.map (·.l))) k=[dt c 0,dt c (k+1),dt c (k+2)]:=rfl
def Fc{c:az}(hc:bO c)(ha:lj c)(hb:dE c=true){r:List aa}:r∈gl c↔ ∃k,k+2<c.length/\r=[dt c 0,dt c (k+1),dt c (k+2)]:=by
 unfold gl rA;rw[R3 hc ha hb];simp only[bQ,jS,Z0];constructor
 .rintro ⟨k,hk,rfl⟩;exact⟨k,by omega,rfl⟩
 .rintro ⟨k,hk,rfl⟩;exact⟨k,by omega,rfl⟩
def ayi{t:Tr}(ht:t.all ab.ok)(hbd:(ce t).all dE=true){ts:List (List aa)}(hts:ts=(ce t).flatMap gl): ∀r∈ts,∃a b d,r=[a,b,d]/\0<bD a b d:=fun r hr=>by
 subst hts;obtain⟨c,hc,hr⟩:=fZ.1 hr;obtain⟨g,a⟩:=El ht hc;have hb:=dK.1 hbd c hc;obtain⟨k,hk,rfl⟩:=(Fc g a hb).1 hr;exact⟨_,_,_,J,Ms g a hb hk⟩
def Xq{t:Tr}(ht:t.all ab.ok)(hbd:(ce t).all dE=true){ts:List (List aa)}(hts:ts=(ce t).flatMap gl)(p:aa):ts.any (oc p)=decide (xq t p≠0):=by
 subst hts;rw[Bool.eq_iff_iff,iS,decide_eq_true_eq];constructor
 .rintro ⟨r,hr,h⟩
  obtain⟨c,hc,hr⟩:=fZ.1 hr;obtain⟨g,a⟩:=El ht hc;have hb:=dK.1 hbd c hc;obtain⟨k,hk,rfl⟩:=(Fc g a hb).1 hr;simp only[oc,bT,decide_eq_true_eq] at h;exact ax0 ht hc ((RY g a hb p).2 ⟨k,hk,h.1,h.2.1,h.2.2⟩)
 .intro h
  obtain⟨c,hc,hin⟩:=UK ht h;obtain⟨g,a⟩:=El ht hc;have hb:=dK.1 hbd c hc;obtain⟨k,hk,h1,h2,h3⟩:=(RY g a hb p).1 hin;refine⟨[dt c 0,dt c (k+1),dt c (k+2)],fZ.2 ⟨c,hc,(Fc g a hb).2 ⟨k,hk,J⟩⟩,?_⟩;simp only[oc,bT,decide_eq_true_eq];exact⟨h1,h2,h3⟩
def Lq(a b d:aa):iC [a,b,d]=xl a b d:=by
 unfold iC;rw[show jc [a,b,d]=[(a,b),(b,d),(d,a)] by unfold jc;simp[pU]];show a.cross b+(b.cross d+(d.cross a+0))=xl a b d;unfold xl;grind
def Vh(v:List aa):Ab aa.cross v=iC v:=by
 unfold Ab iC jc;rw[D7]
def auy{c:az}(hc:bO c)(ha:lj c)(hb:dE c=true):b7 (fun r=>iC r*mkRat 1 2) (gl c)=iC (gh (c.map (·.l)))*mkRat 1 2:=by
 have hl:=R3 hc ha hb;have h3:=Rv hc ha hb;rw[<-Vh,<-ay1 (by omega)];unfold gl rA;rw[D7,qW,<-B7];refine yo fun k _=>?_;show iC (pC _ k)*mkRat 1 2=_;unfold pC;rw[Lq,qW]
def UH{t:Tr}(ht:t.all ab.ok)(hbd:(ce t).all dE=true){ts:List (List aa)}(hts:ts=(ce t).flatMap gl):b7 (fun r=>iC r*mkRat 1 2) ts=vy t:=by
 subst hts;unfold vy;rw[<-WP,H0];exact yo fun c hc=>by
  obtain⟨g,a⟩:=El ht hc;exact auy g a (dK.1 hbd c hc)
def lg(p:aa)(ts:List (List aa)):Nat->List Int
 |0=>[]
 |k+1=>lg p ts k++(if oc p (ts.getD k []) then [(k:Int)] else [])
def LR(p:aa)(ts:List (List aa)): ∀k,(lg p ts k).length<=k
 |0=>aM _
 |k+1=>by
  have:=LR p ts k;rw[lg,aW];split<;>simp<;>omega
def QG(p:aa)(ts:List (List aa)): ∀k,k<=ts.length->decide ((0:Int)<((lg p ts k).length:Nat))=(ts.take k).any (oc p)
 |0,_=>rfl
 |k+1,h=>by
  have ih:=QG p ts k (by omega);obtain⟨r,hr⟩: ∃r,ts[k]? =some r:=⟨_,aQ (by omega)⟩;rw[lg,eY,hr,aX,hr,List.any_append,<-ih,aW];simp only[iK,Option.toList_some,List.any_cons,List.any_nil,sW];by_cases hc:oc p r=true
  .simp[hc]
   try omega
  .simp[hc]
def RH{a b c:aa}{i j k:Nat}[ha:aC a i][hb:aC b j][hc:aC c k](hi:i<=80000:=by decide)(hj:j<=80000:=by decide)(hk:k<=80000:=by decide):PF GB prog 79 [eZ a,eZ b,eZ c] (vI (bD a b c).num.sign):=by
 haveI h1:=Pw b a;haveI h2:=Pw c a;have e:(⟨b.x-a.x,b.y-a.y⟩:aa).cross ⟨c.x-a.x,c.y-a.y⟩=bD a b c:=by unfold aa.cross bD;grind
 refine fn func79 J J ntmps79 J J (fun C=>?_);refine cl J (Qv (p:=b) (q:=a) (i:=j) (j:=i) (by omega) (by omega)) J<|cl J (Qv (p:=c) (q:=a) (i:=k) (j:=i) (by omega) (by omega)) J<|?_;refine cl J (wR (p:=⟨b.x-a.x,b.y-a.y⟩) (q:=⟨c.x-a.x,c.y-a.y⟩) (i:=j+i+1) (j:=k+i+1) (hp:=h1) (hq:=h2) (by omega) (by omega)) J<|?_;refine cl J (nB (q:=(⟨b.x-a.x,b.y-a.y⟩:aa).cross ⟨c.x-a.x,c.y-a.y⟩) (h:= @BQ.cross _ _ _ _ h1 h2) (by omega)) J<|?_;exact rz J (by rw[e]<;>rfl)
def Am(a b d p:aa)(k:Nat):Rat:=bD ([a,b,d].getD k ⟨0,0⟩) ([a,b,d].getD ((k+1)%3) ⟨0,0⟩) p
def XM{a b d p:aa}(h: ∀j,j<3->0<=Am a b d p j):oc p [a,b,d]=true:=by
 unfold oc;simp only[bT,decide_eq_true_eq];exact⟨h 0 (by decide),h 1 (by decide),h 2 (by decide)⟩
def aC4{a b d p:aa}{k:Nat}(hk:k<3)(h:Am a b d p k<0):oc p [a,b,d]=false:=by
 rw[<-mJ];unfold oc;simp only[bT,decide_eq_true_eq];rintro ⟨h0,h1,h2⟩
 match k,hk with
 |0,_=>exact tU.2 h h0
 |1,_=>exact tU.2 h h1
 |2,_=>exact tU.2 h h2
def VG{a b d p q1 q2:aa}{k:Nat}(h1:[a,b,d][k]? =some q1)(h2:[a,b,d][(k+1)% [a,b,d].length]? =some q2):bD q1 q2 p=Am a b d p k/\k<3:=by
 have hk:=(aY.1 h1).1;refine⟨?_,hk⟩;unfold Am;have h2':[a,b,d][(k+1)%3]? =some q2:=h2;rw[aX,aX,h1,h2'];rfl
def Z3{o:Rat}(h:0<o):0<o.num:=by
 have h1:=tT.2 (show 0<=o by grind);have h2:o.num≠0:=fun e=>by have:=lM.1 e;grind
 omega
def Mz{x:Rat}:x.num.sign<0↔x<0:=by
 rw[<-tU,<-tT];constructor
 .intro h k
  rcases(show x.num=0\/0<x.num by omega) with e|e
  .rw[e] at h;exact absurd h (by decide)
  .rw[dS e] at h;omega
 .intro h
  rw[eJ (by omega)];decide
def aF8{a b d p:aa}{i:Nat}(hb: ∀u∈[a,b,d],aC u i)[hp0:aC p i](hi:i<=80000):PF GB prog 31 [.sl ([a,b,d].map eZ),eZ p] (vB (oc p [a,b,d])):=by
 obtain⟨v,hv⟩: ∃v,v=[a,b,d]:=⟨_,rfl⟩;have hrl:(nH v).length=3:=by rw[hv];unfold nH;rw[aJ,lR];rfl
 have hvl:v.length=3:=by rw[hv];rfl
 rw[<-hv] at hb⊢;refine Eh func31 J J ntmps31 J J (fun C h0=>?_);refine DC J J J HZ (fun _=>J) (fun GB1 pv hg1 hpv=>?_);refine vA 3 2000003 h0.fx J<|vA 4 2000004 h0.fx J ?_;refine DM (σ:=Unit) (fun _=>[(2000003,some (.o 92 [.d (vI (cH p.x)), .d (vI (cG p.x)), .d (cP p.x), .d (vI (cH p.y)), .d (vI (cG p.y)), .d (cP p.y)] true)),(2000004,some (.o 4 [.ff] true))]) (fun k=> ∀j,j<k->0<=Am a b d p j) (fun _=>[(2000003,some (.o 92 [.d (vI (cH p.x)), .d (vI (cG p.x)), .d (cP p.x), .d (vI (cH p.y)), .d (vI (cG p.y)), .d (cP p.y)] true)),(2000004,some (.o 4 [.ff] true))]) (fun _=>oc p v=false) [(3, .ov 2000003 0),(4, .ov 2000004 0)] h0 J (IP) (.cons hpv .nil) ⟨J,J,trivial⟩ J ⟨J,J,trivial⟩ (fun j hj=>absurd hj (sN j)) GO J J (fun k e GB' hE hg hp=>?_) (fun D hD hx hp=>?_) (fun D s hD hx hq=>?_)
 .obtain⟨q1,q2,hpx,hqx,rfl⟩:=HL hE
  haveI:=hb q1 (aV hpx);haveI:=hb q2 (aV hqx);rw[hv] at hpx hqx;obtain⟨hts,hk3⟩:=VG (p:=p) hpx hqx;refine⟨?_,?_,fun C2=>?_,fun C2=>?_⟩
  rotate_left 2
  .refine gx J<|JK J J J ⟨J,J,J⟩ J ?_
   exact atR
  .refine gx J<|pG 0 (e:=92) (len:=2) (s:=6) J (by kernel_rfl) (by kernel_rfl) (by decide) J<|pG 1 (e:=92) (len:=2) (s:=6) J (by kernel_rfl) (by kernel_rfl) (by decide) J<|?_
   refine cl J (RH (a:=q1) (b:=q2) (c:=p) (i:=i) (j:=i) (k:=i) (by omega) (by omega) (by omega)) J<|?_;refine br J J J (fun hc=>?_) (fun hc=>?_)
   .exact rqX () (by rw[hv];exact aC4 hk3 (by rw[<-hts];exact Mz.1 hc))
   .exact rq (fun j hj=>by
     rcases Nat.lt_succ_iff_lt_or_eq.1 hj with h|h
     .exact hp j h
     .rw[h,<-hts];exact tL.1 fun k=>hc (Mz.2 k))
 .refine gx J<|?_
  rw[hrl] at hp;exact AQ hD hx J (by rw[hv,XM hp]<;>rfl)
 .refine gx J<|?_
  exact AQ hD hx J (by rw[hq]<;>rfl)
def Z6{x:Rat}(h:0<x):0<x.num.sign:=by rw[dS (Z3 h)];decide
def awT{a b d q1 q2 w:aa}{k j:Nat}(h:0<bD a b d)(h1:[a,b,d][k]? =some q1)(h2:[a,b,d][(k+1)% [a,b,d].length]? =some q2)(h3:[a,b,d][j]? =some w)(n1:j≠k)(n2:j≠(k+1)%3):0<bD q1 q2 w:=by
 have hk:=(aY.1 h1).1;have hj:=(aY.1 h3).1;have h2':[a,b,d][(k+1)%3]? =some q2:=h2;have c1:=H1 a b d;have c2:=H1 b d a;simp only[bJ,fV] at hk hj
 match k,j,hk,hj with
 |0,0,_,_=>exact absurd J n1
 |0,1,_,_=>exact absurd J n2
 |0,2,_,_=>simp at h1 h2' h3;subst h1 h2' h3;exact h
 |1,0,_,_=>simp at h1 h2' h3;subst h1 h2' h3;rw[<-c1];exact h
 |1,1,_,_=>exact absurd J n1
 |1,2,_,_=>exact absurd J n2
 |2,0,_,_=>exact absurd J n2
 |2,1,_,_=>simp at h1 h2' h3;subst h1 h2' h3;rw[<-c2,<-c1];exact h
 |2,2,_,_=>exact absurd J n1
def aDw{a b d:aa}{i:Nat}(hb: ∀u∈[a,b,d],aC u i)(hi:i<=80000)(h0p:0<bD a b d):PF GB prog 62 [.sl ([a,b,d].map eZ)] (.v (.bool true)):=by
 obtain⟨v,hv⟩: ∃v,v=[a,b,d]:=⟨_,rfl⟩;have hrl:(nH v).length=3:=by rw[hv];unfold nH;rw[aJ,lR];rfl
 have hvl:v.length=3:=by rw[hv];rfl
 have hml:(v.map eZ).length=3:=by rw[aJ,hvl]
 rw[<-hv] at hb⊢;refine Eh func62 J J ntmps62 J J (fun C h0=>?_);refine DC J J J HZ (fun _=>J) (fun GB1 pv hg1 hpv=>?_);refine vA 1 2000001 h0.fx J<|vA 2 2000002 h0.fx J ?_;refine DM (σ:=Empty) (fun _=>[(2000001,some (.o 76 [.d (.sl (v.map eZ))] true)),(2000002,some (.o 4 [.ff] true))]) (fun _=>True) (fun _=>[]) (fun _=>False) [(1, .ov 2000001 0),(2, .ov 2000002 0)] h0 J (IP) (.cons hpv .nil) ⟨J,J,trivial⟩ J ⟨J,J,trivial⟩ trivial GO J J (fun k e GB' hE hg hp=>?_) (fun D hD hx hp=>?_) (fun D s hD hx hq=>hq.elim)
 .obtain⟨q1,q2,hpx,hqx,rfl⟩:=HL hE
  haveI:=hb q1 (aV hpx);haveI:=hb q2 (aV hqx);have hk3:k<3:=by have:=(aY.1 hpx).1;omega
  refine⟨?_,?_,fun C2=>?_,fun C2=>?_⟩
  rotate_left 2
  .refine gx J<|JK J J J ⟨J,J,J⟩ J ?_
   exact atR
  .skip
   refine gx (fu:=⟨5⟩) J<|?_;refine ak 12 (.d (vI 3)) J (by rw[hml]<;>rfl) ?_;refine gx J<|?_;refine lp (X:=Nat) (fun j=>[(13, .d (vI (j:Nat)))]) (fun j=>[]) (fun j=>j<=3) (fun j=>3-j) 0 J (aN _) (fun _=>J) (fun j hk=>?_);refine br J J J (fun hc14=>?_) (fun hc14=>?_)
   .
    obtain⟨w,hx⟩: ∃u,v[j]? =some u:=⟨_,aQ (by omega)⟩;haveI:=hb w (aV hx);refine ix _ J (cA hx) J<|?_;refine cs (fu1:=⟨5⟩) 21 J J J (fun hg21=>?_) (fun hg21=>?_)
    .
     refine ak 26 (.d (vI 3)) J (by rw[hml]<;>rfl) ?_;refine gx (fu:=⟨1⟩) J<|?_;refine ak 27 (.d (vI (((k+1)%3:Nat):Int))) J J ?_;refine gx J<|?_;refine cs 30 J J J (fun hg30=>?_) (fun hg30=>?_)
     .
      have hpos:=awT h0p (by rw[<-hv];exact hpx) (by rw[<-hv];exact hqx) (by rw[<-hv];exact hx) (fun e=>hg21 (by rw[e])) (fun e=>hg30 (by rw[e]));refine pG 0 (e:=92) (len:=2) (s:=6) J (by kernel_rfl) (by kernel_rfl) (by decide) J<|pG 1 (e:=92) (len:=2) (s:=6) J (by kernel_rfl) (by kernel_rfl) (by decide) J<|?_;refine cl J (RH (a:=q1) (b:=q2) (c:=w) (i:=i) (j:=i) (k:=i) (by omega) (by omega) (by omega)) J<|?_;refine br J J J (fun hc38=>?_) (fun hc38=>?_)
      .
       exact absurd hc38 (by have:=Z6 hpos;omega)
      .
       exact at_ (j+1) ⟨(by omega),(by omega)⟩
     .
      exact at_ (j+1) ⟨(by omega),(by omega)⟩
    .
     exact at_ (j+1) ⟨(by omega),(by omega)⟩
   .
    obtain rfl:j=3:=by omega
    exact rq trivial ⟨J,J,trivial⟩
 .refine gx J<|?_
  exact AQ hD hx J J
def MZ{u v:aa}{i j:Nat}[hp:aC u i][hq:aC v j](hi:i<=10000000:=by decide)(hj:j<=10000000:=by decide):PF GB prog 146 [eZ u,eZ v] (vB (decide (co u v=0))):=by
 refine fn func146 J J ntmps146 J J (fun C=>?_);refine cl J (Hc (u:=u) (v:=v) hi hj) J<|?_;exact rz J J
def ll(x:aa):List aa->List aa
 |[]=>[]
 |y::l=>if co y x=0 then ll y l else y::ll y l
def ru:List aa->List aa
 |[]=>[]
 |x::l=>x::ll x l
def E4{l:List aa}{k:Nat}{x y:aa}(h:l[k]? =some y):ll x (l.drop k)=if co y x=0 then ll y (l.drop (k+1)) else y::ll y (l.drop (k+1)):=by
 obtain⟨h1,h2⟩:=aY.1 h;rw[bX h1,h2,ll]
def TH{l:List aa}{k:Nat}{y:aa}(h:l[k]? =some y):l.take (k+1)=l.take k++[y]:=by
 rw[eY,h];rfl
def vZ:DV:= .ag [vI 0,vI 0, .v (.pointer none),vI 0,vI 0, .v (.pointer none)]
def WA(l:List aa)(k:Nat)(y:aa):(l.map eZ).set k (eZ y)=(l.set k y).map eZ:=(kM ..).symm
def apS{l:List aa}(h:l.length<2):ru l=l:=by
 cases l with
 |nil=>rfl
 |cons x l=>cases l with
  |nil=>rfl
  |cons y l=>simp at h;omega
def Yp{l:List aa}{x:aa}(h:l[0]? =some x):ru l=l.take 1++ll x (l.drop 1):=by
 cases l with
 |nil=>cases h
 |cons y l=>cases h;rfl
def Pg{r l:List aa}{a b:Nat}(h:a<=b)(e:r.drop a=l.drop a):r[b]? =l[b]? :=by
 have:=congrArg (·[b-a]?) e;simpa[nT,show a+(b-a)=b by omega] using this
def atu{r l:List aa}{a b:Nat}(h:a<=b)(e:r.drop a=l.drop a):r.drop b=l.drop b:=by
 have:=congrArg (List.drop (b-a)) e;simpa[tW,show a+(b-a)=b by omega] using this
def alY{r:List aa}{i:Nat}{u:aa}(h:i<r.length):(r.set i u).take (i+1)=r.take i++[u]:=by
 rw[eY,nX h,List.take_set_of_le (aM _)];rfl
def Wg{r:List aa}{i:Nat}(h:i<r.length):(r.map eZ)[(i:Int).toNat]? =some (eZ r[i]):=by simp[h]
def Uk{l:List aa}{i0:Nat}(hb: ∀d∈l,aC d i0)(hn:l.length<=10000000)(hi:i0<=10000000):PB GB prog 145 (dP [none,some (.v (.func (.func 146) #[] #[]))]) 6 92 (l.map eZ) (fun w=> .v (.slice w.a w.n w.c)) ((ru l).map eZ):=by
 have hml:(l.map eZ).length=l.length:=aJ ..;refine vp (fu:=⟨10⟩) func145 J J ntmps145 J J (fun C=>?_);refine ak 9 (.d (vI (l.length:Nat))) J (by rw[hml]<;>rfl) ?_;refine gx J<|?_;refine br J J J (fun hc10=>?_) (fun hc10=>?_)
 .
  exact oz J J J (by rw[apS (by omega)])
 .
  obtain⟨x0,hx0⟩: ∃x,l[0]? =some x:=⟨_,aQ (by omega)⟩;refine lp (fu:=⟨6⟩) (X:=Nat×aa) (fun⟨k,x⟩=>[(5, .d (vI (k:Nat)))]) (fun⟨k,x⟩=>[]) (fun⟨k,x⟩=>1<=k/\k<=l.length/\l[k-1]? =some x/\ru l=l.take k++ll x (l.drop k)) (fun⟨k,x⟩=>l.length-k) ⟨1,x0⟩ J ⟨aM _,by omega,hx0,by rw[Yp hx0]⟩ (fun _=>J) (fun⟨k,x⟩ hk=>?_)
  try dsimp only at hk⊢
  obtain⟨h1,h2,h3,h4⟩:=hk;refine ak 14 (.d (vI (l.length:Nat))) J (by rw[hml]<;>rfl) ?_;refine gx J<|?_;refine br J J J (fun hc15=>?_) (fun hc15=>?_)
  .
   obtain⟨y,hy⟩: ∃y,l[k]? =some y:=⟨_,aQ (by omega)⟩;haveI:=hb y (aV hy);haveI:=hb x (aV h3);refine lb (fu:=⟨3⟩) _ J (cA hy) J<|?_;refine ak 25 (.d (vI ((k-1:Nat):Int))) J (by rw[Int.ofNat_sub h1]<;>rfl) ?_;refine gx J<|lb (fu:=⟨0⟩) _ J (cA h3) J<|cl J (MZ (u:=y) (v:=x) hi hi) J<|?_;refine bd (fu1:=⟨4⟩) J J J (fun hc28=>?_) (fun hc28=>?_)
   .
    have hc28':=hc28;refine Sb k (l.length-k) J J (by omega) (by omega) J<|?_;refine lp (fu:=⟨5⟩) (X:=Nat×Nat×aa×List aa) (fun⟨i,m,z,r⟩=>[(5, .d (vI (i:Nat))),(7, .d (vI (m:Nat)))]) (fun⟨i,m,z,r⟩=>[(1000000,some (.b 92 6 (r.map eZ) false))]) (fun⟨i,m,z,r⟩=>1<=m/\k+m<=l.length/\i+1<=k+m/\r.length=l.length/\r.drop (k+m-1)=l.drop (k+m-1)/\l[k+m-1]? =some z/\ru l=r.take i++ll z (l.drop (k+m))) (fun⟨i,m,z,r⟩=>l.length-m) ⟨k,1,y,l⟩ J ⟨aM _,by omega,by omega,J,J,by rw[lZ];exact hy,by rw[h4,E4 hy,if_pos hc28']⟩ (fun _=>J) (fun⟨i,m,z,r⟩ hk=>?_)
    try dsimp only at hk⊢
    obtain⟨g1,g2,g3,g4,g5,g6,g7⟩:=hk;have hrl:(r.map eZ).length=r.length:=aJ ..;refine T6 J J<|?_;refine br (fu1:=⟨9⟩) (fu2:=⟨9⟩) J J J (fun hc35=>?_) (fun hc35=>?_)
    .
     obtain⟨u,hu⟩: ∃u,l[k+m]? =some u:=⟨_,aQ (by omega)⟩;haveI:=hb u (aV hu);haveI:=hb z (aV g6);have g8:r[k+m]? =some u:=by rw[<-hu];exact Pg (by omega) g5
     have g10:r[k+m-1]? =some z:=by rw[<-g6];exact Pg (aM _) g5
     have g9:r.drop (k+m)=l.drop (k+m):=atu (by omega) g5;refine GC (k+m) J (by omega) (by omega) (by omega) J<|lb (fu:=⟨3⟩) _ J (cA g8) J<|GC (k+m-1) J (by omega) (by omega) (by omega) J<|?_;refine lb (fu:=⟨0⟩) _ J (cA g10) J<|cl J (MZ (u:=u) (v:=z) hi hi) J<|?_;refine bb (fu1:=⟨6⟩) J J J (fun hc49=>?_) (fun hc49=>?_)
     .
      have hc49': ¬co u z=0:=by simpa using hc49
      refine GC (k+m) J (by omega) (by omega) (by omega) J<|lb _ J (cA g8) J<|sb _ ((r.set i u).map eZ) J (Wg (by omega)) J (by rw[<-WA]<;>rfl) J<|?_;exact at_ ⟨i+1,m+1,u,r.set i u⟩ (by dsimp only;exact⟨⟨by omega,by omega,by omega,by rw[bZ];exact g4,by rw[show k+(m+1)-1=k+m by omega,qU (by omega)];exact g9,by rw[show k+(m+1)-1=k+m by omega];exact hu,by rw[g7,E4 hu,if_neg hc49',alY (by omega),gX];rfl⟩,(by omega)⟩)
     .
      have hc49':co u z=0:=by simpa using hc49
      exact at_ ⟨i,m+1,u,r⟩ (by dsimp only;exact⟨⟨by omega,by omega,by omega,g4,by rw[show k+(m+1)-1=k+m by omega];exact g9,by rw[show k+(m+1)-1=k+m by omega];exact hu,by rw[g7,E4 hu,if_pos hc49'];rfl⟩,(by omega)⟩)
    .
     obtain hm:k+m=l.length:=by omega
     refine Sb i (l.length-i) J J (by omega) (by omega) J<|rcl (fu:=⟨6⟩) _ J (by rw[hrl];omega) (by omega) J J<|rct ((r.take i).map eZ) i J J (by rw[aW,cJ,aR,hrl];omega) (by rw[fQ (by rw[cJ,hrl];omega),List.take_take,Nat.min_self,gR]) J<|?_;exact oz J J J (by rw[g7,hm,fY,ll,mM])
   .
    have hc28':=hc28;exact at_ ⟨k+1,y⟩ (by dsimp only;exact⟨⟨by omega,by omega,hy,by rw[h4,E4 hy,if_neg hc28',TH hy,gX];rfl⟩,(by omega)⟩)
  .
   exact oz J J J (by rw[h4,show k=l.length by omega,fY,ll,mM,dW])
def awc{v:Value}(h:Go.Sx.flat v=true):v.oneCell'=true:=by cases v<;>first|rfl|cases h
def Qh{α:Type}{k:Nat}: ∀(l:List (List α)) (t:Nat),(∀x∈l,x.length=k)->t<l.length*k->l.flatten[t]? =(l[t/k]?).bind (·[t%k]?)
 |[],t,_,h=>by simp at h
 |x::l,t,h,ht=>by
  have hx:=h x aZ;have hk:0<k:=by
   rcases fT k with e|e
   .subst e;simp at ht
   .exact e
  rw[lW];by_cases q:t<k
  .rw[cN (by omega),jN q,dV q];rfl
  .rw[gQ (by omega),hx,Qh l (t-k) (fun y hy=>h y (aK _ hy)) (by rw[bJ,cM] at ht;omega)]
   have e1:t/k=(t-k)/k+1:=by rw[Nat.div_eq_sub_div hk (by omega)]
   have e2:t%k=(t-k)%k:=by rw[Nat.mod_eq_sub_mod (by omega)]
   rw[e1,e2];rfl
section
variable {α:Type} [Inhabited α]
def UP(enc:α->List Value)(k:Nat)(hk: ∀x,(enc x).length=k)(d:Array α):(Go.Sort.flatK enc k d).toList=(d.toList.map enc).flatten:=by
 apply kU;intro t;have hlen:(d.toList.map enc).flatten.length=d.size*k:=by
  have: ∀l:List α,(l.map enc).flatten.length=l.length*k:=fun l=>by
   induction l with
   |nil=>simp
   |cons x l ih=>rw[cV,lW,aW,ih,hk,bJ,cM];omega
  simpa using this d.toList
 by_cases ht:t<d.size*k
 .have hk0:0<k:=by
   rcases fT k with e|e
   .subst e;simp at ht
   .exact e
  have hi:t/k<d.size:=sS (by rwa [bN]);rw[Qh (k:=k) _ _ (fun x hx=>by obtain⟨y,_,rfl⟩:=bQ.1 hx;exact hk y) (by simpa using ht)];simp only[Go.Sort.flatK,pQ,Array.toList_range,cK];rw[oS ht];have hj:t%k<(enc d[t/k]).length:=by rw[hk];exact cS _ hk0
  simp only[jX];rw[getElem!_pos d (t/k) hi,getElem!_pos (enc d[t/k]) (t%k) hj];simp[hi,hj]
 .rw[dX (by simp[Go.Sort.flatK];omega),dX (by rw[hlen];omega)]
def Ph(enc:α->List Value)(k:Nat)(w:World)(b m:Nat)(dk:Array α)(os:Array Obj){q:Nat}(hq:q<w.heap.size):
  (sortWorldK enc k w b 0 m dk os).heap[q]? =if q=b then(w.heap[q]?).map (Go.Sort.onCells (Go.Sort.putCells id 0 (Go.Sort.flatK enc k dk))) else w.heap[q]? :=by
 show((w.heap.modify b _)++os)[q]? =_;rw[kK (by simpa using hq),Array.getElem?_modify];by_cases e:b=q
 .subst e;simp
 .simp[e,Ne.symm e]
def TL{F:Array Value}{xs rest:List Value}(h:xs.length=F.size):Go.Sort.putCells id 0 F ⟨xs++rest⟩=⟨F.toList++rest⟩:=by
 apply Array.ext';apply kU;intro k;simp only[Go.Sort.putCells,Array.toList_mapIdx,List.getElem?_mapIdx];by_cases hk:k<F.size
 .rw[cN (by omega),cN (by simpa using hk),aQ (by omega)]
  simp[hk]
 .rw[gQ (by omega),gQ (by simp;omega),h]
  simp only[iR]
  cases rest[k-F.size]? with
  |none=>rfl
  |some v=>simp[hk]
end
def pn{A:Type}(cf:A->A->Int)(ds:List A):List A:=ds.mergeSort fun x y=>!decide (cf y x<0)
def x5{A:Type}(cf:A->A->Int)(ds:List A):(pn cf ds).Perm ds:=List.mergeSort_perm ..
def Qk{A:Type}{cf:A->A->Int}(hO:Go.Sort.SWO (Go.Proofs.ltOf cf))(ds:List A):(pn cf ds).Pairwise fun x y=> ¬cf y x<0:=by
 have:=List.pairwise_mergeSort (le:=fun x y=>!decide (cf y x<0)) (fun a b c h1 h2=>by
  have h1':Go.Proofs.ltOf cf b a=false:=by simpa[Go.Proofs.ltOf] using h1
  have h2':Go.Proofs.ltOf cf c b=false:=by simpa[Go.Proofs.ltOf] using h2
  have:=hO.ntrans c b a h2' h1';simpa[Go.Proofs.ltOf] using this) (fun a b=>by
  cases h1:Go.Proofs.ltOf cf b a with
  |false=>have: ¬cf b a<0:=(by simpa[Go.Proofs.ltOf] using h1);simp;omega
  |true=>
   cases h2:Go.Proofs.ltOf cf a b with
   |false=>have: ¬cf a b<0:=(by simpa[Go.Proofs.ltOf] using h2);simp;omega
   |true=>have:=hO.trans _ _ _ h1 h2;rw[hO.irrefl] at this;cases this) ds
 exact this.imp fun h=>by simpa using h
def WK{P:Program}{ρ:Go.Shelf.Ren}{GB:Gh}(L:SlLaysF0.n6 P ρ)(ha:ri P (ρ.f 6)){s:Nat}(hAg: ∀w,(isAgg (ρ.t 24)).run P w= .ok true w)(hZs: ∀w,(sizeOf (ρ.t 24)).run P w= .ok s w)
  {A:Type}(e:A->DV)(V:A->Prop)(hA: ∀x,∃l,e x= .ag l/\(DV.ag l).okc=true/\l.length=s)(cf:A->A->Int)(hO:Go.Sort.SWO (Go.Proofs.ltOf cf)){g:FuncId}(hg:ri P g)
  (hc: ∀x y,V x->V y->PF GB P g [e x,e y] (.v (.int .i64 (cf x y)))){ty:TypeId}{ds:List A}(hV: ∀x∈ds,V x)(hn:ds.length<4611686018427387904)(hu: ∀x∈ds,∀y∈ds,¬cf x y<0-> ¬cf y x<0->x=y):
  PW GB P (ρ.f 6) [none,some (.v (.func (.func g) #[] #[]))] s ty (ds.map e) (.tp []) ((pn cf ds).map e):=by
 intro G z vs B hgb hB hvs;refine⟨ha,fun w hw=>?_⟩;obtain⟨v1,m1,rfl,q1,hvs⟩:=bu.1 hvs;obtain⟨v2,m2,rfl,q2,hvs⟩:=bu.1 hvs
 cases fh.1 hvs
 rw[bc] at q1 q2;subst q1 q2;obtain⟨es,k1,k2,k3,_⟩:=hB;simp only at k1 k2 k3;have hlen:es.length=ds.length:=by rw[k2.len,aJ]
 by_cases h0:ds=[]
 .subst h0
  have hes:es=[]:=bS (by simpa using hlen);have hz:z.n=0:=by rw[k1.len,hes];rfl
  rw[hz];refine(AnyF.slices_SortFunc_none L z.a z.c _ w).mono fun r w' ⟨h1,h2⟩=>?_;subst h2;exact⟨_,asB B,G,h1,hw,i8.2 ⟨[],J, .nil⟩,es,k1.asB,by subst hes;show IsLs G ((pn cf []).map e) [];unfold pn;rw[List.mergeSort_nil];exact .nil,k3,fun h=>by cases h⟩
 .have hpos:0<es.length:=by rw[hlen];exact nQ.2 h0
  rcases k1 with⟨e1,_,_⟩|⟨b,rest,lo,e1,e2,e3,e4,e5⟩
  .rw[e1] at hpos;simp at hpos
  subst e2
  -- elements with their cells
  have lift: ∀{ds:List A} {es:List Value},IsLs G (ds.map e) es->(∀x∈ds,V x)-> ∃qs:List {q:A×List Value//V q.1/\Is G (e q.1) (.agg ⟨q.2⟩)},qs.map (·.1.1)=ds/\qs.map (fun q=>Value.agg ⟨q.1.2⟩)=es:=by
   intro ds
   induction ds with
   |nil=>intro es h _;cases fh.1 h;exact⟨[],rfl,rfl⟩
   |cons x ds ih=>
    intro es h hV;obtain⟨y,n,rfl,g1,g2⟩:=bu.1 h;obtain⟨qs,g3,g4⟩:=ih g2 fun x hx=>hV x (aK _ hx);obtain⟨l,hl,_⟩:=hA x;have g1':=g1;rw[hl] at g1';obtain⟨m,rfl,_⟩:=et.1 g1';exact⟨⟨(x,m),hV x aZ,g1⟩::qs,by simp[g3],by simp[g4]⟩
  obtain⟨qs,hq1,hq2⟩:=lift k2 hV;have:Inhabited {q:A×List Value//V q.1/\Is G (e q.1) (.agg ⟨q.2⟩)}:=⟨qs.head (fun e=>by rw[e] at hq1;exact h0 hq1.symm)⟩
  let enc:{q:A×List Value//V q.1/\Is G (e q.1) (.agg ⟨q.2⟩)}->List Value:=fun q=>q.1.2
  have henc: ∀q,(enc q).length=s/\ ∀v∈enc q,Go.Sx.flat v=true:=fun q=>by
   obtain⟨l,hl,h1,h2⟩:=hA q.1.1;have h3:=q.2.2;rw[hl] at h3;obtain⟨m,hm,h4⟩:=et.1 h3
   cases hm
   exact⟨by show q.1.2.length=s;rw[h4.len,h2],fun v hv=>h4.flat h1 v hv⟩
  have hk: ∀q,(enc q).length=s:=fun q=>(henc q).1;have hqs:qs.toArray.size=es.length:=by rw[oZ,<-hq2,aJ]
  have hfl: ∀d:Array {q:A×List Value//V q.1/\Is G (e q.1) (.agg ⟨q.2⟩)},(Go.Sort.flatK enc s d).toList=aE (d.toList.map fun q=>Value.agg ⟨q.1.2⟩):=fun d=>by
   rw[UP enc s hk];unfold aE;rw[qV];rfl
  have hfe:(Go.Sort.flatK enc s qs.toArray).toList=aE es:=by rw[hfl,<-hq2]
  have hown:=hw.hown ⟨b,aE es++rest,ty,false⟩ aZ;obtain⟨hb,hGb,_,_⟩:=hown;simp only at hb hGb;have hblt:=il hb;have hH:Go.Sort.HoldsK enc s w b 0 qs.toArray:=by
   intro j hj;refine⟨?_,by simp[World.frozen?,hb]⟩;rw[BC hb,eK];have hj':j<(aE es).length:=by rw[<-hfe];simpa using hj
   rw[cN hj',<-hfe];show _=some ((Go.Sort.flatK enc s qs.toArray)[j]!);rw[getElem!_pos _ j hj];simp
  have hsz: ∀dk:Array {q:A×List Value//V q.1/\Is G (e q.1) (.agg ⟨q.2⟩)},dk.size=qs.toArray.size->(aE es).length=(Go.Sort.flatK enc s dk).size:=fun dk hd=>by rw[<-hfe];simp[hd]
  have hblk: ∀(m:Nat) (os:Array Obj) (dk:Array _),dk.size=qs.toArray.size->(sortWorldK enc s w b 0 m dk os).heap[b]? =some (.cells ⟨(Go.Sort.flatK enc s dk).toList++rest⟩ ty (0,0)):=fun m os dk hd=>by
   rw[Ph enc s w b m dk os hblt,if_pos J,hb];show some (Obj.cells (Go.Sort.putCells id 0 (Go.Sort.flatK enc s dk) ⟨aE es++rest⟩) ty (0,0))=_;rw[TL (hsz dk hd)]
  have hoth: ∀(m:Nat) (os:Array Obj) (dk:Array _) (q:Nat),q<w.heap.size->q≠b->(sortWorldK enc s w b 0 m dk os).heap[q]? =w.heap[q]? :=fun m os dk q hq hne=>by rw[Ph enc s w b m dk os hq,if_neg hne]
  have hsub: ∀(m:Nat) (os:Array Obj) (dk:Array _) (c:Nat) (cs:List Value),G c=some cs-> ∃ty fz,(sortWorldK enc s w b 0 m dk os).heap[c]? =some (.cells ⟨cs⟩ ty fz):=fun m os dk c cs hcs=>by
   obtain⟨ty',fz,h⟩:=hw.sub c cs hcs;exact⟨ty',fz,by rw[hoth m os dk c (il h) (fun e=>by subst e;rw[hGb] at hcs;cases hcs)];exact h⟩
  have hsize: ∀(m:Nat) (os:Array Obj) (dk:Array _),w.heap.size<=(sortWorldK enc s w b 0 m dk os).heap.size:=fun m os dk=>by
   show _<=((w.heap.modify b _)++os).size;simp
  have hcmp:Go.Proofs.CmpLays P g #[] enc s (fun q r=>cf q.1.1 r.1.1) b 0 qs.toArray.size w:=by
   intro m os dk _ x y;have hF:=hc x.1.1 y.1.1 x.2.1 y.2.1 G [.agg ⟨x.1.2⟩, .agg ⟨y.1.2⟩] hgb (.cons x.2.2 (.cons y.2.2 .nil));refine(hF.run _ (hsub m os dk)).mono fun r W ⟨v,G',h1,h2,h3⟩=>?_;rw[bc] at h3;subst h3;refine⟨h1,W.drawn-(sortWorldK enc s w b 0 m dk os).drawn,W.heap.extract (sortWorldK enc s w b 0 m dk os).heap.size W.heap.size,?_⟩;have hdr:=h2.dr;have hos:=h2.os;have htp:=h2.tape;have hou:=h2.output;have hkp:=h2.keep;have hss:=h2.size;simp only at hdr hos htp hou hkp hss;generalize sortWorldK enc s w b 0 m dk os=W0 at*
   cases W with
   |mk heap tape drawn os' output=>
    simp only at*;unfold Go.Sort.grow World.drewN;simp only[World.mk.injEq];refine⟨?_,htp,by omega,hos,hou⟩;apply Array.ext_getElem?;intro k;rw[Array.getElem?_append];split
    .rename_i hk';exact hkp k hk' (by simp)
    .rename_i hk'
     rw[Array.getElem?_extract];split
     .congr 1;omega
     .rw[nZ (by omega)]
  have hO':Go.Sort.SWO (Go.Proofs.ltOf fun(q r:{q:A×List Value//V q.1/\Is G (e q.1) (.agg ⟨q.2⟩)})=>cf q.1.1 r.1.1):=⟨fun x=>hO.irrefl x.1.1,fun x y z=>hO.trans x.1.1 y.1.1 z.1.1,fun x y z=>hO.ntrans x.1.1 y.1.1 z.1.1⟩;have hrun:=AnyQ.slices_SortFunc L s hAg hZs enc hk (fun q v hv=>awc ((henc q).2 v hv)) (fun q r=>cf q.1.1 r.1.1) hO' g #[] b 0 z.c qs.toArray w (fun args w=>Ij hg args w) hcmp hH hblt (by rw[hqs,hlen];exact hn);have ez:z=⟨some ⟨b,0,none⟩,qs.toArray.size,z.c⟩:=by rw[hqs];exact e1
  have ea:(⟨[Value.slice z.a z.n z.c, .func (.func g) #[] #[]]⟩:Array Value)= #[.slice (some ⟨b,0,none⟩) qs.toArray.size z.c, .func (.func g) #[] #[]]:=by rw[ez]
  rw[ea];refine hrun.mono fun r w' ⟨h1,d',n,os,hp,hs,h2⟩=>?_;subst h2;have hdz:d'.size=qs.toArray.size:=hp.1;have hperm:d'.toList.Perm qs:=by
   have:=hp.2.2;have e1:d'.toList.take qs.length=d'.toList:=aS (by rw[iR,hdz];simp);simpa[e1] using this
  have hasc:d'.toList.Pairwise fun x y=> ¬cf y.1.1 x.1.1<0:=by
   rw[jU];intro i j hi hj hij;have:=hs i j (aN _) hij (by rw[<-hdz];simpa using hj);rw[getElem!_pos d' j (by simpa using hj),getElem!_pos d' i (by simpa using hi)] at this;simpa[Go.Proofs.ltOf] using this
  have hds:d'.toList.map (·.1.1)=pn cf ds:=by
   refine List.Perm.eq_of_pairwise (le:=fun x y=> ¬cf y x<0) (fun x y hx hy k1 k2=>?_) ?_ (Qk hO ds) ?_
   .have m1:x∈ds:=by
     obtain⟨q,hq,rfl⟩:=bQ.1 hx;rw[<-hq1];exact bQ.2 ⟨q,hperm.mem_iff.1 hq,J⟩
    exact hu x m1 y ((x5 cf ds).mem_iff.1 hy) k2 k1
   .rw[rT];exact hasc
   .refine(hperm.map _).trans ?_
    rw[hq1];exact(x5 cf ds).symm
  have hlen':(d'.toList.map fun q=>Value.agg ⟨q.1.2⟩).length=es.length:=by rw[aJ,iR,hdz,hqs]
  have hIs: ∀l:List {q:A×List Value//V q.1/\Is G (e q.1) (.agg ⟨q.2⟩)},IsLs G ((l.map (·.1.1)).map e) (l.map fun q=>Value.agg ⟨q.1.2⟩):=fun l=>by
   induction l with
   |nil=>exact .nil
   |cons q l ih=>exact .cons q.2.2 ih
  have hcell: ∀v∈d'.toList.map (fun q=>Value.agg ⟨q.1.2⟩),(aG v).length=s:=fun v hv=>by
   obtain⟨q,_,rfl⟩:=bQ.1 hv;exact hk q
  refine⟨_,[⟨b,aE (d'.toList.map fun q=>Value.agg ⟨q.1.2⟩)++rest,ty,false⟩],G,h1,?_,i8.2 ⟨[],J, .nil⟩,d'.toList.map (fun q=>Value.agg ⟨q.1.2⟩), .inr ⟨b,rest,false,by rw[hlen'];exact e1,J,eO _ hcell,?_,by rw[hlen'];exact e5⟩,by rw[<-hds];exact hIs _,hcell,fun h=>by cases h⟩
  .refine⟨J,J,J,hsize n os d',fun q hq hqm=>hoth n os d' q hq fun e=>hqm (by rw[e];exact aZ),hsub n os d',bp.refl _,fun _ _=>J,fun o ho=>?_,List.pairwise_singleton _ _,?_,fun p hp=>(by cases hp)⟩
   .rw[aU.1 ho]
    exact⟨by rw[<-hfl];exact hblk n os d' hdz,hGb,(fun h=>by cases h),fun _=>aZ⟩
   .show w.drawn<=w.drawn+n
    omega
  .rw[<-e4,eO _ hcell,e3,hlen']
def VC{a b c:aa}(h:cd c a):cd c b\/cd b a:=by
 by_cases h1:c.half<b.half
 .exact .inl (.inl h1)
 .by_cases h2:b.half<a.half
  .exact .inr (.inl h2)
  .rcases h with h|⟨h,k⟩
   .omega
   .have e1:c.half=b.half:=by omega
    have e2:b.half=a.half:=by omega
    by_cases q1:0<c.cross b
    .exact .inl (.inr ⟨e1,q1⟩)
    .by_cases q2:0<b.cross a
     .exact .inr (.inr ⟨e2,q2⟩)
     .exfalso
      have i1:b.y*c.cross a=a.y*c.cross b+c.y*b.cross a:=by unfold aa.cross;grind
      have i2:b.x*c.cross a=a.x*c.cross b+c.x*b.cross a:=by unfold aa.cross;grind
      have q1':c.cross b<=0:=by grind
      have q2':b.cross a<=0:=by grind
      rcases kD b with⟨eb,kb⟩|⟨eb,kb⟩|⟨eb,kb⟩<;>rcases kD a with⟨ea,ka⟩|⟨ea,ka⟩|⟨ea,ka⟩<;>rcases kD c with⟨ec,kc⟩|⟨ec,kc⟩|⟨ec,kc⟩<;>first|omega|skip
      .have ha:0<=a.y:=by grind
       have hc:0<=c.y:=by grind
       rcases kb with kb|⟨kb,kb'⟩
       .have g1:=pJ ha (show 0<= -c.cross b by grind)
        have g2:=pJ hc (show 0<= -b.cross a by grind);have g3:=bH kb k;grind
       .have hx:b.cross a=b.x*a.y:=by unfold aa.cross;rw[kb];grind
        have ha0:a.y=0:=by
         rcases ka with ka|ka
         .have:=bH kb' ka;grind
         .exact ka.1
        have hax:0<a.x:=by grind
        have hy:c.cross a= -(c.y*a.x):=by unfold aa.cross;rw[ha0];grind
        have:=pJ hc (show 0<=a.x by grind);grind
      .have ha:0<= -a.y:=by grind
       have hc:0<= -c.y:=by grind
       rcases kb with kb|⟨kb,kb'⟩
       .have g1:=pJ ha (show 0<= -c.cross b by grind)
        have g2:=pJ hc (show 0<= -b.cross a by grind);have g3:=bH (show 0< -b.y by grind) k;grind
       .have hx:b.cross a=b.x*a.y:=by unfold aa.cross;rw[kb];grind
        have ha0:a.y=0:=by
         rcases ka with ka|ka
         .have:=bH (show 0< -b.x by grind) (show 0< -a.y by grind);grind
         .exact ka.1
        have hax:0< -a.x:=by grind
        have hy:c.cross a= -(c.y*a.x):=by unfold aa.cross;rw[ha0];grind
        have:=pJ hc (show 0<= -a.x by grind);grind
      .have hy:c.cross a=0:=by unfold aa.cross;rw[ka.1,ka.2];grind
       rw[hy] at k;exact absurd k (by decide)
def SM:Go.Sort.SWO (Go.Proofs.ltOf co):=by
 have e: ∀x y,Go.Proofs.ltOf co x y=true↔cd x y:=fun x y=>by rw[<-m6];simp[Go.Proofs.ltOf]
 have e2: ∀x y,Go.Proofs.ltOf co x y=false↔ ¬cd x y:=fun x y=>by rw[<-e];simp
 refine⟨fun x=>(e2 x x).2 (sO x),fun x y z h k=>(e x z).2 (uV ((e x y).1 h) ((e y z).1 k)),fun x y z h k=>(e2 x z).2 fun q=>?_⟩;rcases VC (b:=y) q with q|q
 .exact(e2 x y).1 h q
 .exact(e2 y z).1 k q
def P8: ∀{l m:List aa},l.Pairwise cd->m.Pairwise cd->(∀x,x∈l↔x∈m)->l=m
 |[],[],_,_,_=>rfl
 |[],b::m,_,_,h=>absurd ((h b).2 aZ) (by simp)
 |a::l,[],_,_,h=>absurd ((h a).1 aZ) (by simp)
 |a::l,b::m,h1,h2,h=>by
  obtain⟨p1,p2⟩:=bR.1 h1;obtain⟨q1,q2⟩:=bR.1 h2;have e:a=b:=by
   rcases aT.1 ((h a).1 aZ) with e|e
   .exact e
   .rcases aT.1 ((h b).2 aZ) with f|f
    .exact f.symm
    .exact(x6 (q1 a e) (p1 b f)).elim
  subst e;congr 1;refine P8 p2 q2 fun x=>⟨fun hx=>?_,fun hx=>?_⟩
  .rcases aT.1 ((h x).1 (aK _ hx)) with e|e
   .subst e;exact(sO _ (p1 _ hx)).elim
   .exact e
  .rcases aT.1 ((h x).2 (aK _ hx)) with e|e
   .subst e;exact(sO _ (q1 _ hx)).elim
   .exact e
def wb(l:List aa):Prop:= ∀x∈l,∀y∈l,co x y=0->x=y
def OI: ∀{l:List aa} {x:aa},(x::l).Pairwise (fun a b=> ¬cd b a)->wb (x::l)->(ll x l).Pairwise cd/\(∀y∈ll x l,cd x y)/\ ∀y,y∈x::ll x l↔y∈x::l
 |[],_,_,_=>⟨.nil,(fun y hy=>by cases hy),fun _=>Iff.rfl⟩
 |z::l,x,h,ht=>by
  obtain⟨p1,p2⟩:=bR.1 h;obtain⟨i1,i2,i3⟩:=OI p2 fun a ha b hb=>ht a (aK _ ha) b (aK _ hb);rw[ll];by_cases e:co z x=0
  .rw[if_pos e]
   obtain rfl:=ht z (by simp) x (by simp) e;exact⟨i1,i2,fun y=>by rw[i3];simp⟩
  .rw[if_neg e]
   have hb:cd x z:=by
    by_cases q:cd x z
    .exact q
    .exact absurd (ES (p1 z aZ) q) e
   refine⟨bR.2 ⟨i2,i1⟩,fun y hy=>?_,fun y=>?_⟩
   .rcases aT.1 hy with rfl|hy
    .exact hb
    .exact uV hb (i2 y hy)
   .rw[aT,i3,aT (b:=x) (l:=z::l)]
def Mg: ∀(l:List aa) (x:aa),(ll x l).length<=l.length
 |[],_=>aM _
 |y::l,x=>by
  have:=Mg l y;rw[ll];split<;>simp only[bJ]<;>omega
def auH(l:List aa):(ru l).length<=l.length:=by
 cases l with
 |nil=>exact aM _
 |cons x l=>have:=Mg l x;simp only[ru,bJ];omega
def Uv{l:List aa}(h:l.Pairwise fun a b=> ¬cd b a)(ht:wb l):(ru l).Pairwise cd/\ ∀y,y∈ru l↔y∈l:=by
 cases l with
 |nil=>exact⟨.nil,fun _=>Iff.rfl⟩
 |cons x l=>
  obtain⟨i1,i2,i3⟩:=OI h ht;exact⟨bR.2 ⟨i2,i1⟩,i3⟩
def NL{l:List aa}(ht:wb l)(y:aa):y∈ij l↔y∈l:=by
 have h2: ∀y,y∈ij l->y∈l:=fun y hy=>by
  rcases EW co hy with h|h
  .exact h
  .cases h
 refine⟨h2 y,fun hy=>?_⟩;obtain⟨e,e1,e2⟩:=Fj co (o:=[]) hy;rcases e2 with rfl|e2
 .exact e1
 .rw[<-ht e (h2 e e1) y hy e2];exact e1
def Rz{l:List aa}(ht:wb l):ru (pn co l)=ij l:=by
 have hm: ∀y,y∈pn co l↔y∈l:=fun y=>(x5 co l).mem_iff;have h1:(pn co l).Pairwise fun a b=> ¬cd b a:=(Qk SM l).imp fun h=>by rw[<-m6];exact h
 obtain⟨k1,k2⟩:=Uv h1 fun a ha b hb=>ht a ((hm a).1 ha) b ((hm b).1 hb);exact P8 k1 (S8 l) fun x=>by rw[k2,hm,NL ht]
def ayL{t:Tr}(ht:t.all ab.ok)(p:aa):wb (dH t p):=fun x hx y hy h=>by
 obtain⟨l,k1,k2⟩:=qf.1 hx;obtain⟨m,k3,k4⟩:=qf.1 hy;obtain⟨a1,a2⟩:=o5 k1;obtain⟨b1,b2⟩:=o5 k3;exact QP (pg ht _ a1) (pg ht _ b1) a2 b2 k2 k4 h
end Go.Sx
end
section
namespace Go.Proofs
open Go.Shelf
def Tryz.sortPt_ren:Go.Shelf.Ren:=⟨fun|6=>143|15=>195|14=>194|28=>231|29=>242|20=>234|21=>235|22=>236|23=>237|24=>238|25=>239|26=>240|27=>241|46=>267|47=>268|48=>269|49=>270|50=>271|57=>287|n=>n,fun|22=>75|24=>92|25=>250|3=>3|39=>241|0=>0|53=>182|55=>197|4=>4|46=>325|45=>324|50=>329|5=>5|9=>9|66=>355|70=>359|76=>371|77=>372|n=>n,fun|n=>n⟩
def Tryz.sortPt:Go.Proofs.SlLaysF0.n6 Tryz.prog Tryz.sortPt_ren:={
 mixed:=by kernel_rfl
 f6:=⟨Tryz.f143.name,by decide,Tryz.func143.trans (congrArg some (by kernel_rfl))⟩
 f14:=⟨Tryz.f194.name,by decide,Tryz.func194.trans (congrArg some (by kernel_rfl))⟩
 f15:=Tryz.func195.trans (congrArg some (by kernel_rfl))
 f20:=⟨Tryz.f234.name,by decide,Tryz.func234.trans (congrArg some (by kernel_rfl))⟩
 f21:=⟨Tryz.f235.name,by decide,Tryz.func235.trans (congrArg some (by kernel_rfl))⟩
 f22:=⟨Tryz.f236.name,by decide,Tryz.func236.trans (congrArg some (by kernel_rfl))⟩
 f23:=⟨Tryz.f237.name,by decide,Tryz.func237.trans (congrArg some (by kernel_rfl))⟩
 f24:=⟨Tryz.f238.name,by decide,Tryz.func238.trans (congrArg some (by kernel_rfl))⟩
 f25:=⟨Tryz.f239.name,by decide,Tryz.func239.trans (congrArg some (by kernel_rfl))⟩
 f26:=⟨Tryz.f240.name,by decide,Tryz.func240.trans (congrArg some (by kernel_rfl))⟩
 f27:=⟨Tryz.f241.name,by decide,Tryz.func241.trans (congrArg some (by kernel_rfl))⟩
 f28:=Tryz.func231.trans (congrArg some (by kernel_rfl))
 f29:=Tryz.func242.trans (congrArg some (by kernel_rfl))
 f46:=⟨Tryz.f267.name,by decide,Tryz.func267.trans (congrArg some (by kernel_rfl))⟩
 f47:=Tryz.func268.trans (congrArg some (by kernel_rfl))
 f48:=Tryz.func269.trans (congrArg some (by kernel_rfl))
 f49:=⟨Tryz.f270.name,by decide,Tryz.func270.trans (congrArg some (by kernel_rfl))⟩
 f50:=⟨Tryz.f271.name,by decide,Tryz.func271.trans (congrArg some (by kernel_rfl))⟩
 f57:=⟨Tryz.f287.name,by decide,Tryz.func287.trans (congrArg some (by kernel_rfl))⟩
 t0:=Tryz.underlying0
 a0:=Tryz.isAgg0
 z0:=Tryz.sizeOf0
 v0:=Tryz.zeroValue0
 t3:=Tryz.underlying3
 a3:=Tryz.isAgg3
 z3:=Tryz.sizeOf3
 v3:=Tryz.zeroValue3
 t4:=Tryz.underlying4
 a4:=Tryz.isAgg4
 z4:=Tryz.sizeOf4
 v4:=Tryz.zeroValue4
 t5:=Tryz.underlying5
 a5:=Tryz.isAgg5
 z5:=Tryz.sizeOf5
 v5:=Tryz.zeroValue5
 t9:=Tryz.underlying9
 a9:=Tryz.isAgg9
 z9:=Tryz.sizeOf9
 v9:=Tryz.zeroValue9
 t22:=Tryz.underlying75
 a22:=Tryz.isAgg75
 z22:=Tryz.sizeOf75
 v22:=Tryz.zeroValue75
 t25:=Tryz.underlying250
 a25:=Tryz.isAgg250
 z25:=Tryz.sizeOf250
 v25:=Tryz.zeroValue250
 t39:=Tryz.underlying241
 a39:=Tryz.isAgg241
 z39:=Tryz.sizeOf241
 v39:=Tryz.zeroValue241
 t45:=Tryz.underlying324
 a45:=Tryz.isAgg324
 z45:=Tryz.sizeOf324
 v45:=Tryz.zeroValue324
 t46:=Tryz.underlying325
 a46:=Tryz.isAgg325
 z46:=Tryz.sizeOf325
 v46:=Tryz.zeroValue325
 t50:=Tryz.underlying329
 a50:=Tryz.isAgg329
 z50:=Tryz.sizeOf329
 v50:=Tryz.zeroValue329
 t53:=Tryz.underlying182
 a53:=Tryz.isAgg182
 z53:=Tryz.sizeOf182
 v53:=Tryz.zeroValue182
 t55:=Tryz.underlying197
 a55:=Tryz.isAgg197
 z55:=Tryz.sizeOf197
 v55:=Tryz.zeroValue197
 t66:=Tryz.underlying355
 a66:=Tryz.isAgg355
 z66:=Tryz.sizeOf355
 v66:=Tryz.zeroValue355
 t70:=Tryz.underlying359
 a70:=Tryz.isAgg359
 z70:=Tryz.sizeOf359
 v70:=Tryz.zeroValue359
 t76:=Tryz.underlying371
 a76:=Tryz.isAgg371
 z76:=Tryz.sizeOf371
 v76:=Tryz.zeroValue371
 t77:=Tryz.underlying372
 a77:=Tryz.isAgg372
 z77:=Tryz.sizeOf372
 v77:=Tryz.zeroValue372}
end Go.Proofs
end
