import Derived.Test.YtidmgdlbilojcaaGreatDoorMc15
set_option linter.unusedSimpArgs false
set_option maxHeartbeats 4000000
set_option maxRecDepth 100000
set_option linter.unusedVariables false
section
namespace Go.Sx
open Go Go.Proofs Tryz
variable {GB:Gh}
def aGT(L:List LnQ)(p:PtQ):List PtQ:=L.flatMap fun l=>if Int.sign (l.value p).num=0 then [l.dir,aj9 l.dir] else []
theorem Bef.trans{u v w:PtQ}(hu:u.half≠0)(hv:v.half≠0)(hw:w.half≠0)(h:Bef u v)(k:Bef v w):Bef u w:=by
 rcases h with h|⟨h,h'⟩<;>rcases k with k|⟨k,k'⟩
 ·exact .inl (by omega)
 ·exact .inl (by omega)
 ·exact .inl (by omega)
 ·refine .inr ⟨h.trans k,?_⟩
  have id1:u.cross w*v.y=u.cross v*w.y+v.cross w*u.y:=by unfold PtQ.cross;grind
  rcases acz v with⟨x,q⟩|⟨x,q⟩|⟨x,q⟩
  ·rw[x] at h k
   have qu:=ada.1 h
   have qw:=ada.1 k.symm
   rcases q with q|⟨q,q'⟩
   ·rw[←aaq q,id1]
    have wy:0≤w.y:=by grind
    have uy:0≤u.y:=by grind
    have a1:=aab (cN h') wy
    rcases qu with qu|⟨qu,qu'⟩
    ·have:=aan k' qu;grind
    ·rcases qw with qw|⟨qw,qw'⟩
     ·have:=aan h' qw;rw[qu];grind
     ·exfalso
      have hx:v.cross w= -(w.x*v.y):=by unfold PtQ.cross;rw[qw];grind
      have:=aan qw' q
      grind
   ·exfalso
    have hx:u.cross v= -(v.x*u.y):=by unfold PtQ.cross;rw[q];grind
    have:=aab (a:=v.x) (b:=u.y) (cN q') (by grind)
    grind
  ·rw[x] at h k
   have qu:=aed.1 h
   have qw:=aed.1 k.symm
   rcases q with q|⟨q,q'⟩
   ·have e1:u.cross w* -v.y=u.cross v* -w.y+v.cross w* -u.y:=by grind
    rw[←aaq (k:= -v.y) (by grind),e1]
    have a1:=aab (a:=u.cross v) (b:= -w.y) (cN h') (by grind)
    rcases qu with qu|⟨qu,qu'⟩
    ·have:=aan (a:=v.cross w) (b:= -u.y) k' (by grind);grind
    ·rcases qw with qw|⟨qw,qw'⟩
     ·have:=aan (a:=u.cross v) (b:= -w.y) h' (by grind);rw[qu];grind
     ·exfalso
      have hx:v.cross w= -(-w.x* -v.y):=by unfold PtQ.cross;rw[qw];grind
      have:=aan (a:= -w.x) (b:= -v.y) (by grind) (by grind)
      grind
   ·exfalso
    have hx:u.cross v= -(-v.x* -u.y):=by unfold PtQ.cross;rw[q];grind
    have:=aab (a:= -v.x) (b:= -u.y) (by grind) (by grind)
    grind
  ·exact absurd x hv
def aGG(S:List PtQ)(x:PtQ):Nat→Nat
 |0=>0
 |k+1=>if 0<aa6 (S.getD k ⟨0,0⟩) x then aGG S x k else k+1
def aH1(S:List PtQ)(x:PtQ):List PtQ:=S.take (aGG S x S.length)++x::S.drop (aGG S x S.length)
def aGN(ds:List PtQ):List PtQ:=ds.foldl aH1 []
structure aIO (L:List LnQ):Prop where
 ok: ∀l∈L,l.ok
 cn: ∀l∈L,aAl l=false
 nd:L.Pairwise (fun a b=>a≠b)
theorem avN{l:LnQ}(h:l.ok):l.dir.half≠0:=fun e=>by
 have hn:=h.ne
 unfold LnQ.Ne at hn
 rcases acz l.dir with⟨k,_⟩|⟨k,_⟩|⟨_,k1,k2⟩
 ·rw[k] at e;cases e
 ·rw[k] at e;cases e
 ·unfold LnQ.dir at k1 k2
  simp only at k1 k2
  apply hn
  refine⟨?_,dQ.1 k2⟩
  have:(l.a:Rat)=0:=by grind
  exact dQ.1 this
def aDF(v:PtQ):Nat:=Nat.gcd (v.x.num.natAbs*v.y.den) (v.y.num.natAbs*v.x.den)
def aEM(n:Int)(d g:Nat):Int:=if n<0 then-((n.natAbs*d/g:Nat):Int) else((n.natAbs*d/g:Nat):Int)
def aE3(v:PtQ):PtQ:=if v.half=0 then⟨0,0⟩ else⟨(aEM v.x.num v.y.den (aDF v):Int),(aEM v.y.num v.x.den (aDF v):Int)⟩
def aII(ds:List PtQ)(i:Nat):List PtQ:=
 if aa6 (ds.getD i ⟨0,0⟩) (ds.getD ((i+1)%ds.length) ⟨0,0⟩)=0∧2<ds.length then []
 else if Int.sign ((ds.getD i ⟨0,0⟩).cross (ds.getD ((i+1)%ds.length) ⟨0,0⟩)).num=0 then [ahj (ds.getD i ⟨0,0⟩)]
 else [adk (aE3 (ds.getD i ⟨0,0⟩)) (aE3 (ds.getD ((i+1)%ds.length) ⟨0,0⟩)) 1]
def aGD(ds:List PtQ):List PtQ:=if ds.length=0 then [⟨1,0⟩] else(List.range ds.length).flatMap (aII ds)
def aEo(L:List LnQ)(p:PtQ):List PtQ:=aGD (aGN (aGT L p))
def aJj(t:Tr)(p:PtQ):Bool:=(aEo (ao5 t.lns) p).any fun v=>(aAf t p v).1
def aJg(t:Tr)(p:PtQ):Bool:=(aEo (ao5 t.lns) p).all fun v=>(aAf t p v).1
def aFw:Tr→PtQ→List LnQ
 | .leaf _,_=>[]
 | .node l x y,p=>(if Int.sign (l.value p).num=0 then [l] else [])++((if 0≤Int.sign (l.value p).num then aFw x p else [])++(if Int.sign (l.value p).num≤0 then aFw y p else []))
def aJo(t:Tr)(p:PtQ)(b:Bool):Prop:= ∃v,Gn (aFw t p) p v∧(aAf t p v).1=b
def aH9(ds:List PtQ)(i:Nat):PtQ:=
 if 0<Int.sign ((ds.getD i ⟨0,0⟩).cross (ds.getD ((i+1)%ds.length) ⟨0,0⟩)).num then(ds.getD i ⟨0,0⟩).add (ds.getD ((i+1)%ds.length) ⟨0,0⟩) else ahj (ds.getD i ⟨0,0⟩)
def aDx(ds:List PtQ):List PtQ:=if ds.length=0 then [⟨1,0⟩] else(List.range ds.length).map (aH9 ds)
def aHO(v:PtQ):PtQ:=v.scale (rgcd v.x v.y)⁻¹
def aEr(t:Tr)(p:PtQ):List PtQ:=(aFw t p).flatMap fun l=>[aHO l.dir,aj9 (aHO l.dir)]
def aG8(ds:List PtQ):List PtQ:=ale aa6 ds
theorem aye{u v:PtQ}:aa6 u v=0↔u.half=v.half∧u.cross v=0:=by
 unfold aa6
 split
 ·constructor
  ·intro h;exact absurd h (by decide)
  ·intro h;omega
 ·split
  ·constructor
   ·intro h;exact absurd h (by decide)
   ·intro h;omega
  ·constructor
   ·intro h
    exact⟨by omega,(abV _).1 (by omega)⟩
   ·intro h
    rw[(abV _).2 h.2];rfl
theorem afi{u v w:PtQ}(h:Bef u v)(k:Bef v w):Bef u w:=by
 by_cases hu:u.half=0
 ·by_cases hw:w.half=0
  ·have z: ∀x y:PtQ,x.half=0→x.cross y=0:=fun x y hx=>by
    rcases acz x with⟨e,_⟩|⟨e,_⟩|⟨_,e1,e2⟩
    ·rw[hx] at e;exact absurd e (by decide)
    ·rw[hx] at e;exact absurd e (by decide)
    ·unfold PtQ.cross;rw[e1,e2];grind
   rcases h with h|⟨h,h'⟩
   ·rcases k with k|⟨k,k'⟩
    ·omega
    ·have hv:v.half≠0:=by omega
     omega
   ·rw[z u v hu] at h';exact absurd h' (by decide)
  ·refine .inl ?_
   have h1:=adK hw
   omega
 ·have hv:v.half≠0:=by
   intro e
   rcases h with h|⟨h,_⟩
   ·have:=adK hu;omega
   ·omega
  have hw:w.half≠0:=by
   intro e
   rcases k with k|⟨k,_⟩
   ·have:=adK hv;omega
   ·omega
  exact Bef.trans hu hv hw h k
section
variable {α:Type} (c:α→α→Int)
end
def inP(t:Tr)(p:PtQ):Bool:=(aDx (aG8 (aEr t p))).any fun v=>(aAf t p v).1
def alP(t:Tr)(p:PtQ):Bool:=(aDx (aG8 (aEr t p))).all fun v=>(aAf t p v).1
def aHm(t:Tr)(p:PtQ):Int:=if inP t p&&alP t p then 2 else if inP t p then 1 else 0
theorem af5(u:PtQ): ¬Bef u u:=by
 rintro (h|⟨_,h⟩)
 ·omega
 ·have:u.cross u=0:=by unfold PtQ.cross;grind
  rw[this] at h;exact absurd h (by decide)
theorem ahg{u v:PtQ}(h:Bef u v)(k:Bef v u):False:=af5 u (afi h k)
theorem auV{x y:PtQ}(h: ¬Bef x y)(k: ¬Bef y x):aa6 x y=0:=by
 rw[←ahV] at h k
 unfold aa6 at*
 split at h<;>try omega
 split at h<;>try omega
 split at k<;>try omega
 rw[show y.cross x= -(x.cross y) by unfold PtQ.cross;grind,oK,Int.sign_neg] at k
 omega
theorem arL(vs:List IvQ):adh 8 (vs.map eV):=fun d hd=>by
 obtain⟨u,_,rfl⟩:=bJ.1 hd;exact⟨rfl,rfl⟩
theorem adX(qs:List Rat):adh 3 (qs.map eQ):=fun d hd=>by
 obtain⟨u,_,rfl⟩:=bJ.1 hd;exact⟨rfl,rfl⟩
theorem aFg(bs:List Bool):adh 1 (bs.map vB):=fun d hd=>by
 obtain⟨u,_,rfl⟩:=bJ.1 hd;exact⟨rfl,rfl⟩
theorem axJ{l:List IvQ}{k:Nat}{v:IvQ}{t:Rat}{a b:Int}(h:l[k]? =some v)(ha:a=if v.nl then 1 else abd t v.lo)(hb:b=if v.nh then-1 else abd t v.hi):
  avU (l.drop k) t=if 0<a∧b<0 then 2 else if(a=0∧b≤0)∨(b=0∧0≤a) then 1 else avU (l.drop (k+1)) t:=by
 obtain⟨hk,rfl⟩:=aS.1 h
 rw[bQ hk,avU,ha,hb]
structure IvB (v:IvQ):Prop where
 lo:BQ v.lo 1200
 hi:BQ v.hi 1200
theorem awX{l:List IvQ}{t:Rat}{i:Nat}[ht:BQ t i](hb: ∀v∈l,IvB v)(hn:l.length≤100000)(hi:i≤20000:=by decide):PF GB prog 298 [.sl (l.map eV),eQ t] (vI (avU l t)):=by
 have hm:=aaG eV l
 refine fn (fu:=⟨11⟩) func298 J J ntmps298 J J (fun C=>?_)
 refine eqF 10 (.d (vI (l.length:Nat))) rfl (by rw[hm]<;>rfl) ?_
 refine gx rfl<|?_
 refine lp (X:=Nat) (fun k=>[(11, .d (vI (k:Nat)))]) (fun k=>[]) (fun k=>k≤l.length∧avU (l.drop k) t=avU l t) (fun k=>l.length-k) 0 rfl ⟨bX _,rfl⟩ (fun _=>rfl) (fun k hk=>?_)
 obtain⟨h1,h2⟩:=hk
 refine br J J J (fun hc12=>?_) (fun hc12=>?_)
 ·
  obtain⟨v,hz⟩: ∃s,l[k]? =some s:=⟨_,aQ (by omega)⟩
  have hv:=hb v (aU hz)
  haveI:=hv.lo
  haveI:=hv.hi
  refine ix (fu:=⟨12⟩) _ rfl (aav hz) rfl<|?_
  refine mg (fu:=⟨1⟩) (X:=Int) (fun a=>[(7, .d (vI a))]) (fun a=>[]) (fun a=>a=if v.nl then 1 else abd t v.lo) [7] [] rfl ?_ (fun _=>rfl) (fun a ha=>?_)
  ·
   refine gx rfl<|?_
   refine bb J J J (fun hc17=>?_) (fun hc17=>?_)
   ·
    refine cl rfl (q_C (a:=t) (b:=v.lo) (i:=i) (by omega)) rfl<|?_
    exact at_ (abd t v.lo) (by rw[if_neg (by simpa using hc17)])
   ·
    exact at_ 1 (by rw[if_pos (by simpa using hc17)])
  ·
   refine mg (X:=Int) (fun b=>[(8, .d (vI b))]) (fun b=>[]) (fun b=>b=if v.nh then-1 else abd t v.hi) [8] [] rfl ?_ (fun _=>rfl) (fun b hb'=>?_)
   ·
    refine gx rfl<|?_
    refine bb J J J (fun hc24=>?_) (fun hc24=>?_)
    ·
     refine cl rfl (q_C (a:=t) (b:=v.hi) (i:=i) (by omega)) rfl<|?_
     exact at_ (abd t v.hi) (by rw[if_neg (by simpa using hc24)])
    ·
     exact at_ (-1) (by rw[if_pos (by simpa using hc24)])
   ·
    have hst:=axJ hz ha hb'
    refine cs 31 J J J (fun hg31=>?_) (fun hg31=>?_)
    ·
     refine br J J J (fun hc34=>?_) (fun hc34=>?_)
     ·
      exact rz rfl (by first|(rw[←h2,fV];rfl)|(rw[←h2,hst,if_pos (by omega)];rfl)|(rw[←h2,hst,if_neg (by omega),if_pos (by omega)];rfl))
     ·
      refine cs 37 J J J (fun hg37=>?_) (fun hg37=>?_)
      ·
       refine cs 41 J J J (fun hg41=>?_) (fun hg41=>?_)
       ·
        exact rz rfl (by first|(rw[←h2,fV];rfl)|(rw[←h2,hst,if_pos (by omega)];rfl)|(rw[←h2,hst,if_neg (by omega),if_pos (by omega)];rfl))
       ·
        refine cs 44 J J J (fun hg44=>?_) (fun hg44=>?_)
        ·
         refine br J J J (fun hc48=>?_) (fun hc48=>?_)
         ·
          exact rz rfl (by first|(rw[←h2,fV];rfl)|(rw[←h2,hst,if_pos (by omega)];rfl)|(rw[←h2,hst,if_neg (by omega),if_pos (by omega)];rfl))
         ·
          exact at_ (k+1) ⟨⟨by omega,by rw[←h2,hst,if_neg (by omega),if_neg (by omega)]⟩,(by omega)⟩
        ·
         exact at_ (k+1) ⟨⟨by omega,by rw[←h2,hst,if_neg (by omega),if_neg (by omega)]⟩,(by omega)⟩
      ·
       refine cs 44 J J J (fun hg44=>?_) (fun hg44=>?_)
       ·
        refine br J J J (fun hc48=>?_) (fun hc48=>?_)
        ·
         exact rz rfl (by first|(rw[←h2,fV];rfl)|(rw[←h2,hst,if_pos (by omega)];rfl)|(rw[←h2,hst,if_neg (by omega),if_pos (by omega)];rfl))
        ·
         exact at_ (k+1) ⟨⟨by omega,by rw[←h2,hst,if_neg (by omega),if_neg (by omega)]⟩,(by omega)⟩
       ·
        exact at_ (k+1) ⟨⟨by omega,by rw[←h2,hst,if_neg (by omega),if_neg (by omega)]⟩,(by omega)⟩
    ·
     refine cs 37 J J J (fun hg37=>?_) (fun hg37=>?_)
     ·
      refine cs 41 J J J (fun hg41=>?_) (fun hg41=>?_)
      ·
       exact rz rfl (by first|(rw[←h2,fV];rfl)|(rw[←h2,hst,if_pos (by omega)];rfl)|(rw[←h2,hst,if_neg (by omega),if_pos (by omega)];rfl))
      ·
       refine cs 44 J J J (fun hg44=>?_) (fun hg44=>?_)
       ·
        refine br J J J (fun hc48=>?_) (fun hc48=>?_)
        ·
         exact rz rfl (by first|(rw[←h2,fV];rfl)|(rw[←h2,hst,if_pos (by omega)];rfl)|(rw[←h2,hst,if_neg (by omega),if_pos (by omega)];rfl))
        ·
         exact at_ (k+1) ⟨⟨by omega,by rw[←h2,hst,if_neg (by omega),if_neg (by omega)]⟩,(by omega)⟩
       ·
        exact at_ (k+1) ⟨⟨by omega,by rw[←h2,hst,if_neg (by omega),if_neg (by omega)]⟩,(by omega)⟩
     ·
      refine cs 44 J J J (fun hg44=>?_) (fun hg44=>?_)
      ·
       refine br J J J (fun hc48=>?_) (fun hc48=>?_)
       ·
        exact rz rfl (by first|(rw[←h2,fV];rfl)|(rw[←h2,hst,if_pos (by omega)];rfl)|(rw[←h2,hst,if_neg (by omega),if_pos (by omega)];rfl))
       ·
        exact at_ (k+1) ⟨⟨by omega,by rw[←h2,hst,if_neg (by omega),if_neg (by omega)]⟩,(by omega)⟩
      ·
       exact at_ (k+1) ⟨⟨by omega,by rw[←h2,hst,if_neg (by omega),if_neg (by omega)]⟩,(by omega)⟩
 ·
  obtain rfl:k=l.length:=by omega
  exact rz rfl (by first|(rw[←h2,fV];rfl)|(rw[←h2,hst,if_pos (by omega)];rfl)|(rw[←h2,hst,if_neg (by omega),if_pos (by omega)];rfl))
theorem aEc{l:List IvQ}{t:Rat}{i:Nat}[ht:BQ t i](hb: ∀v∈l,IvB v)(hn:l.length≤100000)(hi:i≤20000:=by decide):PF GB prog 281 [.sl (l.map eV),eQ t] (vB (acm l t)):=by
 refine fn func281 J J ntmps281 J J (fun C=>?_)
 refine cl rfl (awX (l:=l) (t:=t) hb hn hi) rfl<|?_
 exact rz J J
theorem anY: ∀{l:List Rat} {i:Nat} {a b:Rat},l[i]? =some a→l[i+1]? =some b→adI (l.take (i+2))=adI (l.take (i+1))++[(a+b)/2]
 |[],i,a,b,h,_=>by simp at h
 |[_],i,a,b,h,k=>by simp at k
 |c::d::t,0,a,b,h,k=>by
  simp at h k;subst h;subst k
  simp[adI]
 |c::d::t,i+1,a,b,h,k=>by
  have:=anY (l:=d::t) (i:=i) (by simpa using h) (by simpa using k)
  rw[show(c::d::t).take (i+1+2)=c::d::t.take (i+1) by simp,show(c::d::t).take (i+1+1)=c::d::t.take i by simp,adI,adI,jX]
  congr 1
theorem ajV: ∀l:List Rat,(adI l).length≤l.length
 |[]=>aM _
 |[_]=>bX _
 |a::b::t=>by rw[adI,bW,bW];exact Nat.succ_le_succ (ajV (b::t))
theorem atK{a:Rat}{t:List Rat}{z:Rat}(h:(a::t)[t.length]? =some z):ab6 (a::t)=(a-1)::(adI (a::t)++[z+1]):=by
 rw[ab6]
 have:(a::t).getLast (by simp)=z:=by
  rw[List.getLast_eq_getElem]
  have:=aS.1 h
  obtain⟨h1,h2⟩:=this
  rw[←h2];congr 1
 rw[this]
theorem av6{cuts:List Rat}(hb: ∀q∈cuts,BQ q 1200)(hn:cuts.length≤100000):PF GB prog 280 [.sl (cuts.map eQ)] (.sl ((ab6 cuts).map eQ)):=by
 have hm:=aaG eQ cuts
 refine fn (fu:=⟨10⟩) func280 J J ntmps280 J J (fun C=>?_)
 refine eqF 6 (.d (vI (cuts.length:Nat))) rfl (by rw[hm]<;>rfl) ?_
 refine gx rfl<|?_
 refine br J J J (fun hc7=>?_) (fun hc7=>?_)
 ·
  obtain rfl:cuts=[]:=bR (by omega)
  refine rf J J<|?_
  exact rz rfl (by rw[ab6];show DV.sl [_]=DV.sl [_];rw[au0])
 ·
  obtain⟨a,ct,rfl⟩: ∃a t,cuts=a::t:=by cases cuts with|nil=>exact absurd rfl hc7|cons a t=>exact⟨a,t,rfl⟩
  haveI hab:=hb a aZ
  have hcl:ct.length+1≤100000:=hn
  refine ix _ J J J<|cl rfl (anH (n:=1) (by decide) (by decide)) rfl<|cl (fu:=⟨0⟩) rfl (alA (a:=a) (b:=((1:Int):Rat))) rfl<|?_
  refine eqF 14 (.d (eQ (a-1))) J J ?_
  refine gx rfl<|ro J J<|?_
  refine lp (fu:=⟨6⟩) (X:=Nat) (fun i=>[(4, .d (vI ((i+1:Nat):Int))),(3, .rw 15)]) (fun i=>[(15,some (.b 48 3 (((a-1)::adI ((a::ct).take (i+1))).map eQ) true))]) (fun i=>i≤ct.length) (fun i=>ct.length-i) 0 rfl (bX _) (fun _=>rfl) (fun i hk=>?_)
  have hm2:=aaG eQ (a::ct)
  have hml:=ajV (a::ct.take i)
  rw[bW,cR] at hml
  have hml2:=ajV (a::ct)
  rw[bW] at hml2
  refine eqF 18 (.d (vI ((ct.length+1:Nat):Int))) rfl (by rw[hm2]<;>rfl) ?_
  refine gx rfl<|?_
  refine br (fu2:=⟨11⟩) J J J (fun hc19=>?_) (fun hc19=>?_)
  ·
   obtain⟨u,hu⟩: ∃s,(a::ct)[i]? =some s:=⟨_,aQ (by simp;omega)⟩
   obtain⟨w,hw⟩: ∃s,(a::ct)[i+1]? =some s:=⟨_,aQ (by simp;omega)⟩
   haveI:=hb u (aU hu)
   haveI:=hb w (aU hw)
   refine ix _ rfl (by rw[show((((i+1:Nat):Int))-1).toNat=i by omega,cJ,hu];rfl) rfl<|ix _ rfl (by rw[bZ,cJ,hw];rfl) rfl<|?_
   refine cl rfl (aAc (a:=u) (b:=w)) rfl<|rf J J<|ap (hv:=by simp only[aah];exact⟨by kernel_rfl,by omega⟩) (((a-1)::adI ((a::ct).take (i+1+1))).map eQ) rfl (by rw[anY hu hw,←jX,bU];rfl) (adX [(u+w)/2]) rfl<|?_
   refine rnE 34 15 rfl ?_
   exact at_ (i+1) ⟨(by omega),(by omega)⟩
  ·
   obtain rfl:i=ct.length:=by omega
   obtain⟨z,hz⟩: ∃s,(a::ct)[ct.length]? =some s:=⟨_,aQ (by simp)⟩
   haveI:=hb z (aU hz)
   rw[show(a::ct).take (ct.length+1)=a::ct from cM (l:=a::ct)]
   refine eqF 38 (.d (vI ((ct.length+1:Nat):Int))) rfl (by rw[hm2]<;>rfl) ?_
   refine gx rfl<|ix _ rfl (by rw[show((((ct.length+1:Nat):Int))-1).toNat=ct.length by omega,cJ,hz];rfl) rfl<|cl rfl (anH (n:=1) (by decide) (by decide)) rfl<|?_
   refine cl rfl (aez (a:=z) (b:=((1:Int):Rat))) rfl<|rf J J<|ap ((ab6 (a::ct)).map eQ) rfl (by rw[atK hz,←jX,bU];rfl) (adX [z+1]) rfl<|?_
   refine fzE 45 rfl ?_
   exact rz J J
theorem aqx(o:List Rat)(s:IvQ):(anj o s).length≤o.length+2:=by
 unfold anj
 have h:=fun(x:Rat) (l:List Rat)=>amu (x:=x) (l:=l)▸aim abd x l
 have h1:=h s.lo o
 have h2:=h s.hi o
 have h3:=h s.hi (aoJ s.lo o)
 split<;>split<;>omega
def aj3(l:List IvQ)(k:Nat):List Rat:=adc (l.take k)
theorem akn{l:List IvQ}{k:Nat}{v:IvQ}(h:l[k]? =some v):aj3 l (k+1)=anj (aj3 l k) v:=by
 unfold aj3 adc;rw[iX,h,rX];rfl
theorem agt(l:List IvQ): ∀k,(aj3 l k).length≤2*k
 |0=>aM _
 |k+1=>by
  cases h:l[k]? with
  |none=>
   have:=agt l k
   unfold aj3 at*
   rw[iX,h];simp;omega
  |some v=>rw[akn h];have:=agt l k;have:=aqx (aj3 l k) v;omega
theorem aqU{l:List IvQ}(hb: ∀v∈l,IvB v){k:Nat}: ∀y∈aj3 l k,BQ y 1200:=fun y hy=>by
 obtain⟨s,hs,h⟩:=(ahF _).2 y hy
 have:=hb s (fZ hs)
 rcases h with⟨_,rfl⟩|⟨_,rfl⟩
 ·exact this.lo
 ·exact this.hi
def avT(o:List Rat)(v:IvQ)(j:Nat):List Rat:=if j=0 then o else if j=1 then(if v.nl then o else aoJ v.lo o) else anj o v
def aEO(v:IvQ)(j:Nat):Rat:=if j=0 then v.lo else v.hi
def ave(v:IvQ)(j:Nat):Bool:=if j=0 then v.nl else v.nh
theorem ade{o:List Rat}{v:IvQ}{j:Nat}(hj:j<2):avT o v (j+1)=if ave v j then avT o v j else afU abd (aEO v j) (avT o v j):=by
 have:j=0∨j=1:=by omega
 rcases this with rfl|rfl
 ·simp[avT,ave,aEO,amu]
 ·simp[avT,ave,aEO,anj,amu]
theorem awK{o:List Rat}{v:IvQ}{j:Nat}(hj:j≤2):(avT o v j).length≤o.length+2:=by
 unfold avT
 have:=aqx o v
 have h:=amu (x:=v.lo) (l:=o)▸aim abd v.lo o
 split
 ·omega
 ·split
  ·split<;>omega
  ·exact this
theorem aBp{o:List Rat}(ho: ∀q∈o,BQ q 1200){v:IvQ}(hv:IvB v){j:Nat}(hj:j≤2): ∀q∈avT o v j,BQ q 1200:=fun q hq=>by
 unfold avT anj at hq
 have lo:=hv.lo
 have hi:=hv.hi
 split at hq
 ·exact ho q hq
 ·split at hq
  ·split at hq
   ·exact ho q hq
   ·rcases acI.1 hq with rfl|hq
    ·exact lo
    ·exact ho q hq
  ·split at hq
   ·split at hq
    ·exact ho q hq
    ·rcases acI.1 hq with rfl|hq
     ·exact lo
     ·exact ho q hq
   ·rcases acI.1 hq with rfl|hq
    ·exact hi
    ·split at hq
     ·exact ho q hq
     ·rcases acI.1 hq with rfl|hq
      ·exact lo
      ·exact ho q hq
theorem aEf{l:List IvQ}(hb: ∀v∈l,IvB v)(hn:l.length≤10000):PF GB prog 279 [.sl (l.map eV)] (.sl ((adc l).map eQ)):=by
 have hm:=aaG eV l
 refine fn (fu:=⟨15⟩) func279 J J ntmps279 J J (fun C=>?_)
 refine eqF 10 (.d (vI (l.length:Nat))) rfl (by rw[hm]<;>rfl) ?_
 refine gx rfl<|?_
 refine nlC 3 rfl ?_
 refine lp (X:=List Rat×Nat) (fun⟨o,k⟩=>[(11, .d (vI (k:Nat))),(3, .d (.sl (o.map eQ)))]) (fun⟨o,k⟩=>[]) (fun⟨o,k⟩=>o=aj3 l k∧k≤l.length) (fun⟨o,k⟩=>l.length-k) ([],0) rfl ⟨rfl,bX _⟩ (fun _=>rfl) (fun⟨o,k⟩ hk=>?_)
 dsimp only at hk⊢
 obtain⟨h1,h2⟩:=hk
 refine br J J J (fun hc12=>?_) (fun hc12=>?_)
 ·
  obtain⟨v,hz⟩: ∃s,l[k]? =some s:=⟨_,aQ (by omega)⟩
  have hv:=hb v (aU hz)
  haveI:=hv.lo
  haveI:=hv.hi
  have hob:=aqU hb (k:=k)
  have hol:=agt l k
  rw[←h1] at hob hol
  refine ix _ rfl (aav hz) rfl<|rf J J<|?_
  refine lp (X:=List Rat×Nat) (fun⟨xs,j⟩=>[(21, .d (vI (j:Nat))),(3, .d (.sl (xs.map eQ)))]) (fun⟨xs,j⟩=>[]) (fun⟨xs,j⟩=>xs=avT o v j∧j≤2) (fun⟨xs,j⟩=>2-j) (o,0) rfl ⟨rfl,by omega⟩ (fun _=>rfl) (fun⟨xs,j⟩ hk=>?_)
  dsimp only at hk⊢
  obtain⟨g1,g2⟩:=hk
  refine br J J J (fun hc22=>?_) (fun hc22=>?_)
  ·
   have hj2:j<2:=by have:=hc22;simp only[bW,gX] at this;omega
   obtain⟨m,hm2⟩: ∃m,m=aEO v j:=⟨_,rfl⟩
   haveI hmb:BQ m 1200:=by rw[hm2];unfold aEO;split;exact hv.lo;exact hv.hi
   have hxl:=aaG eQ xs
   have hxn:xs.length≤2*k+2:=by rw[g1];have:=awK (o:=o) (v:=v) (j:=j) g2;omega
   have hxb: ∀q∈xs,BQ q 1200:=by rw[g1];exact aBp hob hv g2
   refine ix (fu:=⟨10⟩) _ rfl (by rw[bZ];exact(show([v.lo,v.hi].map eQ)[j]? =some (eQ m) by rw[hm2];have:j=0∨j=1:=(by omega);rcases this with rfl|rfl<;>rfl)) rfl<|?_
   rcases(show j=0∨j=1 by omega) with rfl|rfl
   ·
    refine knT J J J<|?_
    refine csb (fu2:=⟨1⟩) 32 J J J (fun hg32=>?_) (fun hg32=>?_)
    ·
     exact at_ (xs,0+1) (by dsimp only;exact⟨⟨by rw[ade (by decide),if_pos (by simpa[ave] using hg32),←g1],by omega⟩,(by omega)⟩)
    ·
     refine knF (fu:=⟨16⟩) J J J<|?_
     refine mg (fu:=⟨5⟩) (X:=Nat) (fun n=>[(8, .d (vI (n:Nat)))]) (fun n=>[]) (fun n=>ami abd m xs=n) [8] [] rfl ?_ (fun _=>rfl) (fun n hnx=>?_)
     ·
      refine gx rfl<|?_
      refine lp (fu:=⟨6⟩) (X:=Nat) (fun n=>[(8, .d (vI (n:Nat)))]) (fun n=>[]) (fun n=>n≤xs.length∧ ∀j (h:j<xs.length),j<n→abd xs[j] m<0) (fun n=>xs.length-n) 0 rfl ⟨bX _,fun j _ hj=>absurd hj (by omega)⟩ (fun _=>rfl) (fun n hk=>?_)
      obtain⟨n1,n2⟩:=hk
      refine csS (v2:=fun hg43=>by simp only[aah];kernel_rfl) J J J J (fun hg43=>?_) (fun hg43=>?_)
      ·
       refine ix _ rfl (ac7 (by omega)) rfl<|cl rfl (q_C (a:=xs[n]'(by omega)) (b:=m) (ha:=hxb _ (bN (by omega))) (hb:=hmb)) rfl<|?_
       refine br J J J (fun hc52=>?_) (fun hc52=>?_)
       ·
        exact at_ (n+1) ⟨⟨by omega,fun j h hj=>by by_cases q:j=n;(subst q;exact hc52);exact n2 j h (by omega)⟩,(by omega)⟩
       ·
        exact at_ n (afa abd n1 n2 (fun h=>hc52))
      ·
       exact at_ n (afa abd n1 n2 (fun h=>absurd h (by omega)))
     ·
      have hnl:n≤xs.length:=by rw[←hnx];exact ama _ _ _
      refine csS (v1:=fun hg58=>by simp only[aah];kernel_rfl) J J J J (fun hg58=>?_) (fun hg58=>?_)
      ·
       have hnew: ∀h:n<xs.length,abd xs[n] m≠0:=fun h=>absurd h (by omega)
       obtain⟨ys,hys⟩: ∃ys,ys=xs.take n++m::xs.drop n:=⟨_,rfl⟩
       have hin:afU abd m xs=ys:=by rw[hys];exact ads abd hnx hnew
       have hyl:ys.length≤xs.length+1:=by rw[hys];simp;omega
       refine s3 n _ J J J J (adX _) (by rw[hxl];exact hnl) rfl<|ro J J<|sc' n xs.length _ J J (by rw[hxl]) rfl (adX _) hnl (by omega) rfl<|?_
       refine ap _ J J (slD adX _ _ _) rfl<|apf (hv:=by simp only[aah];exact⟨by kernel_rfl,by omega⟩) (ho:=fun _=>⟨slT adX _ _,by simp⟩) (ys.map eQ) rfl (by rw[hys,bU,cZ,gW,iL,aW (l:=xs.map eQ) (i:=xs.length) (by simp)];rfl) (slI adX _ _ _ _) rfl<|?_
       exact at_ (ys,0+1) (by dsimp only;exact⟨⟨by rw[ade (by decide),if_neg (by simpa[ave] using hg32),←g1,←hm2,hin],by omega⟩,(by omega)⟩)
      ·
       refine ix _ rfl (ac7 (by omega)) rfl<|cl rfl (q_C (a:=xs[n]'(by omega)) (b:=m) (ha:=hxb _ (bN (by omega))) (hb:=hmb)) rfl<|?_
       refine br (fu2:=⟨7⟩) J J J (fun hc67=>?_) (fun hc67=>?_)
       ·
        have hnew: ∀h:n<xs.length,abd xs[n] m≠0:=fun h=>hc67
        obtain⟨ys,hys⟩: ∃ys,ys=xs.take n++m::xs.drop n:=⟨_,rfl⟩
        have hin:afU abd m xs=ys:=by rw[hys];exact ads abd hnx hnew
        have hyl:ys.length≤xs.length+1:=by rw[hys];simp;omega
        refine s3 n _ J J J J (adX _) (by rw[hxl];exact hnl) rfl<|ro J J<|sc' n xs.length _ J J (by rw[hxl]) rfl (adX _) hnl (by omega) rfl<|?_
        refine ap _ J J (slD adX _ _ _) rfl<|apf (hv:=by simp only[aah];exact⟨by kernel_rfl,by omega⟩) (ho:=fun _=>⟨slT adX _ _,by simp⟩) (ys.map eQ) rfl (by rw[hys,bU,cZ,gW,iL,aW (l:=xs.map eQ) (i:=xs.length) (by simp)];rfl) (slI adX _ _ _ _) rfl<|?_
        exact at_ (ys,0+1) (by dsimp only;exact⟨⟨by rw[ade (by decide),if_neg (by simpa[ave] using hg32),←g1,←hm2,hin],by omega⟩,(by omega)⟩)
       ·
        have hin:afU abd m xs=xs:=agV abd hnx (by omega) (Decidable.not_not.1 hc67)
        exact at_ (xs,0+1) (by dsimp only;exact⟨⟨by rw[ade (by decide),if_neg (by simpa[ave] using hg32),←g1,←hm2,hin],by omega⟩,(by omega)⟩)
   ·
    refine knF (fu:=⟨6⟩) J J J<|knT J J J<|?_
    refine bb (fu2:=⟨8⟩) J J J (fun hc39=>?_) (fun hc39=>?_)
    ·
     exact at_ (xs,1+1) (by dsimp only;exact⟨⟨by rw[ade (by decide),if_pos (by simpa[ave] using hc39),←g1],by omega⟩,(by omega)⟩)
    ·
     refine mg (fu:=⟨5⟩) (X:=Nat) (fun n=>[(8, .d (vI (n:Nat)))]) (fun n=>[]) (fun n=>ami abd m xs=n) [8] [] rfl ?_ (fun _=>rfl) (fun n hnx=>?_)
     ·
      refine gx rfl<|?_
      refine lp (fu:=⟨6⟩) (X:=Nat) (fun n=>[(8, .d (vI (n:Nat)))]) (fun n=>[]) (fun n=>n≤xs.length∧ ∀j (h:j<xs.length),j<n→abd xs[j] m<0) (fun n=>xs.length-n) 0 rfl ⟨bX _,fun j _ hj=>absurd hj (by omega)⟩ (fun _=>rfl) (fun n hk=>?_)
      obtain⟨n1,n2⟩:=hk
      refine csS (v2:=fun hg43=>by simp only[aah];kernel_rfl) J J J J (fun hg43=>?_) (fun hg43=>?_)
      ·
       refine ix _ rfl (ac7 (by omega)) rfl<|cl rfl (q_C (a:=xs[n]'(by omega)) (b:=m) (ha:=hxb _ (bN (by omega))) (hb:=hmb)) rfl<|?_
       refine br J J J (fun hc52=>?_) (fun hc52=>?_)
       ·
        exact at_ (n+1) ⟨⟨by omega,fun j h hj=>by by_cases q:j=n;(subst q;exact hc52);exact n2 j h (by omega)⟩,(by omega)⟩
       ·
        exact at_ n (afa abd n1 n2 (fun h=>hc52))
      ·
       exact at_ n (afa abd n1 n2 (fun h=>absurd h (by omega)))
     ·
      have hnl:n≤xs.length:=by rw[←hnx];exact ama _ _ _
      refine csS (v1:=fun hg58=>by simp only[aah];kernel_rfl) J J J J (fun hg58=>?_) (fun hg58=>?_)
      ·
       have hnew: ∀h:n<xs.length,abd xs[n] m≠0:=fun h=>absurd h (by omega)
       obtain⟨ys,hys⟩: ∃ys,ys=xs.take n++m::xs.drop n:=⟨_,rfl⟩
       have hin:afU abd m xs=ys:=by rw[hys];exact ads abd hnx hnew
       have hyl:ys.length≤xs.length+1:=by rw[hys];simp;omega
       refine s3 n _ J J J J (adX _) (by rw[hxl];exact hnl) rfl<|ro J J<|sc' n xs.length _ J J (by rw[hxl]) rfl (adX _) hnl (by omega) rfl<|?_
       refine ap _ J J (slD adX _ _ _) rfl<|apf (hv:=by simp only[aah];exact⟨by kernel_rfl,by omega⟩) (ho:=fun _=>⟨slT adX _ _,by simp⟩) (ys.map eQ) rfl (by rw[hys,bU,cZ,gW,iL,aW (l:=xs.map eQ) (i:=xs.length) (by simp)];rfl) (slI adX _ _ _ _) rfl<|?_
       exact at_ (ys,1+1) (by dsimp only;exact⟨⟨by rw[ade (by decide),if_neg (by simpa[ave] using hc39),←g1,←hm2,hin],by omega⟩,(by omega)⟩)
      ·
       refine ix _ rfl (ac7 (by omega)) rfl<|cl rfl (q_C (a:=xs[n]'(by omega)) (b:=m) (ha:=hxb _ (bN (by omega))) (hb:=hmb)) rfl<|?_
       refine br J J J (fun hc67=>?_) (fun hc67=>?_)
       ·
        have hnew: ∀h:n<xs.length,abd xs[n] m≠0:=fun h=>hc67
        obtain⟨ys,hys⟩: ∃ys,ys=xs.take n++m::xs.drop n:=⟨_,rfl⟩
        have hin:afU abd m xs=ys:=by rw[hys];exact ads abd hnx hnew
        have hyl:ys.length≤xs.length+1:=by rw[hys];simp;omega
        refine s3 n _ J J J J (adX _) (by rw[hxl];exact hnl) rfl<|ro J J<|sc' n xs.length _ J J (by rw[hxl]) rfl (adX _) hnl (by omega) rfl<|?_
        refine ap _ J J (slD adX _ _ _) rfl<|apf (hv:=by simp only[aah];exact⟨by kernel_rfl,by omega⟩) (ho:=fun _=>⟨slT adX _ _,by simp⟩) (ys.map eQ) rfl (by rw[hys,bU,cZ,gW,iL,aW (l:=xs.map eQ) (i:=xs.length) (by simp)];rfl) (slI adX _ _ _ _) rfl<|?_
        exact at_ (ys,1+1) (by dsimp only;exact⟨⟨by rw[ade (by decide),if_neg (by simpa[ave] using hc39),←g1,←hm2,hin],by omega⟩,(by omega)⟩)
       ·
        have hin:afU abd m xs=xs:=agV abd hnx (by omega) (Decidable.not_not.1 hc67)
        exact at_ (xs,1+1) (by dsimp only;exact⟨⟨by rw[ade (by decide),if_neg (by simpa[ave] using hc39),←g1,←hm2,hin],by omega⟩,(by omega)⟩)
  ·
   have hj2: ¬j<2:=by have:=hc22;simp only[bW,gX] at this;omega
   exact at_ (xs,k+1) (by dsimp only;exact⟨⟨by rw[akn hz,←h1,g1,show j=2 by omega];rfl,by omega⟩,(by omega)⟩)
 ·
  have hfin:adc l=o:=by rw[h1,show k=l.length by omega];unfold aj3;rw[cM]
  exact rz rfl (by rw[hfin];rfl)
theorem axn(t:Rat):eV ⟨t,0,false,true⟩= .ag [.v (.bool (decide (t.num<0))),dN t.num.natAbs,dD t.den, .v (.bool false), .sl [], .sl [], .v (.bool false), .v (.bool true)]:=by
 unfold eV dD
 simp only[show(0:Rat).num=0 from rfl,show(0:Rat).den=1 from rfl,kW,acW];rfl
theorem ayd(t:Rat):eV ⟨0,t,true,false⟩= .ag [.v (.bool false), .sl [], .sl [], .v (.bool (decide (t.num<0))),dN t.num.natAbs,dD t.den, .v (.bool true), .v (.bool false)]:=by
 unfold eV dD
 simp only[show(0:Rat).num=0 from rfl,show(0:Rat).den=1 from rfl,kW,acW];rfl
def auI(l m:LnQ)(side:Int):DV:= .tp [.sl ((adL l m side).map eV),vB (onB l m)]
theorem aof{l m:LnQ}(h:crossI l m≠0):onB l m=false:=by unfold onB;rw[decide_eq_false];exact fun e=>h e.1
theorem at8{l m:LnQ}(h:crossI l m=0):onB l m=decide ((m.value l.base).num.sign=0):=by unfold onB;simp[h]
theorem at9{l m:LnQ}{side:Int}[hl:LB l][hm:LB m](hlo:l.ok)(hmo:m.ok)(hs:side=1∨side= -1):PF GB prog 238 [eL l,eL m,vI side] (auI l m side):=by
 refine fn func238 J J ntmps238 J J (fun C=>?_)
 refine cl rfl (azn (l:=l) (m:=m)) rfl<|?_
 refine bb J J J (fun hc19=>?_) (fun hc19=>?_)
 ·
  have hc:crossI l m=0:=by simpa using hc19
  refine cl rfl (asQ hlo.ne) rfl<|cl rfl (aqj (l:=m) (p:=l.base)) rfl<|?_
  refine br J J J (fun hc26=>?_) (fun hc26=>?_)
  ·
   refine cl rfl ayU rfl<|rf J J<|?_
   exact rz rfl (by unfold auI adL;rw[if_pos hc,if_pos hc26,at8 hc];rfl)
  ·
   exact rz rfl (by unfold auI adL;rw[if_pos hc,if_neg hc26,at8 hc];rfl)
 ·
  have hc:crossI l m≠0:=by simpa using hc19
  haveI hpb:=aip (l:=l) (m:=m) hlo.ne hc
  obtain⟨t,ht⟩: ∃t,t=abv l (abE l m):=⟨_,rfl⟩
  refine cl (fu:=⟨0⟩) rfl (alX (l:=l) (p:=abE l m) hlo.ne) rfl<|?_
  refine eqF 35 (.d (eQ t)) rfl (by rw[ht]) ?_
  rw[←ht] at hpb
  refine gx rfl<|cl rfl (anH (n:=1) (by decide) (by decide)) rfl<|cl rfl (aez (a:=t) (b:=((1:Int):Rat))) rfl<|cl rfl (aG9 (l:=l) (t:=t+((1:Int):Rat)) hlo.ne) rfl<|?_
  refine cl rfl (aqj (l:=m) (p:=l.at (t+((1:Int):Rat)))) rfl<|?_
  refine br J J J (fun hc44=>?_) (fun hc44=>?_)
  ·
   refine rf J J<|?_
   exact rz rfl (by unfold auI adL;rw[if_neg hc,←ht,if_pos (show(m.value (l.at (t+1))).num.sign=side from hc44),aof hc,cZ,axn];rfl)
  ·
   refine rf J J<|?_
   exact rz rfl (by unfold auI adL;rw[if_neg hc,←ht,if_neg (show¬(m.value (l.at (t+1))).num.sign=side from hc44),aof hc,cZ,ayd];rfl)
def eFF(f:FrQ):DV:= .ag [.v (.bool (decide (f.l.a<0))),dN f.l.a.natAbs, .v (.bool (decide (f.l.b<0))),dN f.l.b.natAbs, .v (.bool (decide (f.l.c<0))),dN f.l.c.natAbs, .v (.bool (decide (f.v.lo.num<0))),dN f.v.lo.num.natAbs,dD f.v.lo.den, .v (.bool (decide (f.v.hi.num<0))),dN f.v.hi.num.natAbs,dD f.v.hi.den, .v (.bool f.v.nl), .v (.bool f.v.nh)]
theorem akV(fs:List FrQ):adh 14 (fs.map eFF):=fun d hd=>by
 obtain⟨u,_,rfl⟩:=bJ.1 hd;exact⟨rfl,rfl⟩
theorem bpZ{p:ZP}(h:ZP.le 100 p):BPt p.q 12:=by
 haveI:BI p.1 11:=biC (by have:=h.1;omega) (by decide)
 haveI:BI p.2 11:=biC (by have:=h.2;omega) (by decide)
 exact(inferInstance:BPt (iP p.1 p.2) 12)
theorem ast{v w:ZP}(hv:ZP.le 100 v)(hw:ZP.le 100 w)(h:v≠w):PF GB prog 175 [eP v.q,eP w.q] (.tp [eFF (ae3 v w),vB true]):=by
 have hne: ¬(w.1=v.1∧w.2=v.2):=fun e=>h (Prod.ext e.1.symm e.2.symm)
 obtain⟨hlb,hlo⟩:=azd (m:=v.1) (n:=v.2) (p:=w.1) (q:=w.2) (by have:=hv.1;omega) (by have:=hv.2;omega) (by have:=hw.1;omega) (by have:=hw.2;omega) hne
 haveI:=hlb
 haveI:=bpZ hv
 haveI:=bpZ hw
 refine fn func175 J J ntmps175 J J (fun C=>?_)
 refine cl (fu:=⟨3⟩) rfl (at2 (m:=v.1) (n:=v.2) (m':=w.1) (n':=w.2) (by have:=hv.1;omega) (by have:=hv.2;omega) (by have:=hw.1;omega) (by have:=hw.2;omega) (fun e=>hne ⟨e.1.symm,e.2.symm⟩)) rfl<|?_
 refine kbT 13 rfl ?_
 refine gx rfl<|cl rfl (alX (l:=aol v.1 v.2 w.1 w.2) (p:=v.q) hlo.ne) rfl<|cl rfl (alX (l:=aol v.1 v.2 w.1 w.2) (p:=w.q) hlo.ne) rfl<|?_
 exact rz J J
theorem aGn(a b:Bool):eV ⟨0,0,a,b⟩= .ag [.v (.bool false), .sl [], .sl [], .v (.bool false), .sl [], .sl [], .v (.bool a), .v (.bool b)]:=by
 unfold eV dD
 simp only[show(0:Rat).num=0 from rfl,show(0:Rat).den=1 from rfl,kW,acW];rfl
theorem aDE(t:Rat)(a b:Bool):eV ⟨t,0,a,b⟩= .ag [.v (.bool (decide (t.num<0))),dN t.num.natAbs,dD t.den, .v (.bool false), .sl [], .sl [], .v (.bool a), .v (.bool b)]:=by
 unfold eV dD
 simp only[show(0:Rat).num=0 from rfl,show(0:Rat).den=1 from rfl,kW,acW];rfl
theorem aGy(t:Rat)(a b:Bool):eV ⟨0,t,a,b⟩= .ag [.v (.bool false), .sl [], .sl [], .v (.bool (decide (t.num<0))),dN t.num.natAbs,dD t.den, .v (.bool a), .v (.bool b)]:=by
 unfold eV dD
 simp only[show(0:Rat).num=0 from rfl,show(0:Rat).den=1 from rfl,kW,acW];rfl
theorem aA7{cuts:List Rat}{i:Nat}(h:i=0)(k: ¬i<cuts.length):adU cuts i=⟨0,0,decide (i=0),decide (i=cuts.length)⟩:=by unfold adU;rw[if_pos h,if_neg k]
theorem aCr{cuts:List Rat}{i:Nat}{y:Rat}(h:i=0)(k:cuts[i]? =some y):adU cuts i=⟨0,y,decide (i=0),decide (i=cuts.length)⟩:=by
 unfold adU;rw[if_pos h,if_pos (aS.1 k).1,aX,k];rfl
theorem aBk{cuts:List Rat}{i:Nat}{x:Rat}(h: ¬i=0)(k:cuts[i-1]? =some x)(k2: ¬i<cuts.length):adU cuts i=⟨x,0,decide (i=0),decide (i=cuts.length)⟩:=by
 unfold adU;rw[if_neg h,if_neg k2,aX,k];rfl
theorem aB8{cuts:List Rat}{i:Nat}{x y:Rat}(h: ¬i=0)(k:cuts[i-1]? =some x)(k2:cuts[i]? =some y):adU cuts i=⟨x,y,decide (i=0),decide (i=cuts.length)⟩:=by
 unfold adU;rw[if_neg h,if_pos (aS.1 k2).1,aX,k,aX,k2];rfl
theorem axd{cuts:List Rat}{marks:List Bool}{k:Nat}(h:marks[k]? =some false):acq cuts marks (k+1)=acq cuts marks k:=by
 rw[acq,aX,h];rfl
theorem ahb{cuts:List Rat}{marks:List Bool}{k:Nat}(h:marks[k]? =some true)(hp: ¬(0<k∧marks[k-1]? =some true)):acq cuts marks (k+1)=acq cuts marks k++[adU cuts k]:=by
 rw[acq,aX,h]
 show(if 0<k∧_ then _ else _)=_
 rw[if_neg]
 rintro ⟨h1,h2⟩
 rw[aX] at h2
 cases e:marks[k-1]? with
 |none=>rw[e] at h2;cases h2
 |some b=>rw[e] at h2;exact hp ⟨h1,by rw[e];simp at h2;rw[h2]⟩
theorem ap1{cuts:List Rat}{marks:List Bool}{k:Nat}(h:marks[k]? =some true):acq cuts marks (k+1)≠[]:=by
 rw[acq,aX,h]
 show(if 0<k∧_ then _ else _)≠[]
 split
 ·split<;>simp
 ·simp
theorem ak1{cuts:List Rat}{marks:List Bool}{k:Nat}{xs:List IvQ}{v:IvQ}(hk:0<k)(h:marks[k]? =some true)(hp:marks[k-1]? =some true)(hx:acq cuts marks k=xs)(hv:xs[xs.length-1]? =some v):acq cuts marks (k+1)=xs.set (xs.length-1) (aoe v (adU cuts k)):=by
 rw[acq,aX,h]
 show(if 0<k∧_ then _ else _)=_
 rw[if_pos ⟨hk,by rw[aX,hp];rfl⟩,hx,lX,hv]
 have hn:0<xs.length:=by
  have:=(aS.1 hv).1;omega
 show xs.dropLast++[_]=_
 apply kS
 intro i
 rw[lM]
 by_cases hi:i<xs.length-1
 ·rw[dR (by rw[gL];exact hi),rZ,if_pos hi,if_neg (by omega)]
 ·by_cases hi2:i=xs.length-1
  ·subst hi2
   rw[jZ (by rw[gL];exact aM _),gL,Nat.sub_self,if_pos rfl,if_pos (by omega)];rfl
  ·rw[dJ (by rw[aR,gL];simp;omega),if_neg (by omega),dJ (by omega)]
theorem afB{α:Type}{f:α→DV}{l:List α}{k:Nat}{x:α}(hk:0<k)(h:l[k-1]? =some x):(l.map f)[(((k:Nat):Int)-1).toNat]? =some (f x):=by
 rw[show(((k:Nat):Int)-1).toNat=k-1 by omega,cJ,h];rfl
theorem avS{k n:Nat}:decide (k=n)=decide (((k:Nat):Int)=((n:Nat):Int)):=decide_eq_decide.2 (by omega)
def aIp(v w:IvQ):IvQ:=⟨v.lo,w.hi,v.nl,v.nh⟩
theorem aEe{cuts:List Rat}{marks:List Bool}(hn:cuts.length≤100000)(hmk:marks.length≤cuts.length+1):PF GB prog 282 [.sl (cuts.map eQ), .sl (marks.map vB)] (.sl ((anB cuts marks).map eV)):=by
 have hm:=aaG vB marks
 have hmc:=aaG eQ cuts
 refine fn (fu:=⟨15⟩) func282 J J ntmps282 J J (fun C=>?_)
 refine eqF 11 (.d (vI (marks.length:Nat))) rfl (by rw[hm]<;>rfl) ?_
 refine gx rfl<|?_
 refine nr 5 5 223 8 J J J ?_
 refine lp (X:=List IvQ×Nat) (fun⟨xs,k⟩=>[(12, .d (vI (k:Nat))),(5, .rw 5)]) (fun⟨xs,k⟩=>[(5,some (.b 223 8 (xs.map eV) true))]) (fun⟨xs,k⟩=>xs=acq cuts marks k∧k≤marks.length) (fun⟨xs,k⟩=>marks.length-k) ([],0) rfl ⟨rfl,bX _⟩ (fun _=>rfl) (fun⟨xs,k⟩ hk=>?_)
 dsimp only at hk⊢
 obtain⟨h1,h2⟩:=hk
 have hml:=aaG eV xs
 have hxl:xs.length≤k:=by rw[h1];exact ai7
 refine br J J J (fun hc13=>?_) (fun hc13=>?_)
 ·
  obtain⟨b,hz⟩: ∃s,marks[k]? =some s:=⟨_,aQ (by omega)⟩
  refine ix (fu:=⟨8⟩) _ rfl (aav hz) rfl<|?_
  cases b
  ·
   refine knF (fu:=⟨12⟩) J J J<|?_
   exact at_ (xs,k+1) (by dsimp only;exact⟨⟨by rw[axd hz,←h1],by omega⟩,(by omega)⟩)
  ·
   refine knT (fu:=⟨13⟩) J J J<|?_
   rcases(show(k=0∧k<cuts.length)∨(k=0∧ ¬k<cuts.length)∨(0<k∧k<cuts.length)∨(0<k∧ ¬k<cuts.length) by omega) with⟨c1,c2⟩|⟨c1,c2⟩|⟨c1,c2⟩|⟨c1,c2⟩
   ·
    obtain⟨y,hy⟩: ∃s,cuts[k]? =some s:=⟨_,aQ (by omega)⟩
    have hgap:=aCr (cuts:=cuts) (i:=k) c1 hy
    have hnp: ¬(0<k∧marks[k-1]? =some true):=fun e=>by omega
    refine eqF 23 (.d (vI (cuts.length:Nat))) rfl (by rw[hmc]<;>rfl) ?_
    refine gx (fu:=⟨10⟩) rfl<|knF (fu:=⟨11⟩) rfl (by show some (decide _)=some false;rw[decide_eq_false (by omega)]) rfl<|?_
    refine eqF 36 (.d (vI (cuts.length:Nat))) rfl (by rw[hmc]<;>rfl) ?_
    refine gx (fu:=⟨0⟩) rfl<|knT rfl (by show some (decide _)=some true;rw[decide_eq_true (by omega)]) rfl<|ix (fu:=⟨10⟩) _ rfl (aav hy) rfl<|?_
    refine eqF 44 (.d (vI (xs.length:Nat))) rfl (by rw[hml]<;>rfl) ?_
    refine gx (fu:=⟨6⟩) rfl<|knF (fu:=⟨19⟩) rfl (by show some (decide _)=some false;rw[decide_eq_false (by omega)]) rfl<|?_
    refine eqF 73 (.d (eV (adU cuts k))) rfl (by rw[hgap,aGy,avS (k:=k) (n:=0),avS (k:=k) (n:=cuts.length)]<;>rfl) ?_
    refine gx rfl<|rf J J<|ap (fu:=⟨12⟩) ((xs++[adU cuts k]).map eV) rfl (by rw[bU];rfl) (arL [adU cuts k]) rfl<|?_
    refine rnE 75 5 rfl ?_
    exact at_ (xs++[adU cuts k],k+1) (by dsimp only;exact⟨⟨by rw[ahb hz hnp,←h1],by omega⟩,(by omega)⟩)
   ·
    have hgap:=aA7 (cuts:=cuts) (i:=k) c1 c2
    have hnp: ¬(0<k∧marks[k-1]? =some true):=fun e=>by omega
    refine eqF 23 (.d (vI (cuts.length:Nat))) rfl (by rw[hmc]<;>rfl) ?_
    refine gx (fu:=⟨10⟩) rfl<|knF (fu:=⟨11⟩) rfl (by show some (decide _)=some false;rw[decide_eq_false (by omega)]) rfl<|?_
    refine eqF 36 (.d (vI (cuts.length:Nat))) rfl (by rw[hmc]<;>rfl) ?_
    refine gx (fu:=⟨0⟩) rfl<|knF (fu:=⟨10⟩) rfl (by show some (decide _)=some false;rw[decide_eq_false (by omega)]) rfl<|?_
    refine eqF 44 (.d (vI (xs.length:Nat))) rfl (by rw[hml]<;>rfl) ?_
    refine gx (fu:=⟨6⟩) rfl<|knF (fu:=⟨19⟩) rfl (by show some (decide _)=some false;rw[decide_eq_false (by omega)]) rfl<|?_
    refine eqF 73 (.d (eV (adU cuts k))) rfl (by rw[hgap,aGn,avS (k:=k) (n:=0),avS (k:=k) (n:=cuts.length)]<;>rfl) ?_
    refine gx rfl<|rf J J<|ap (fu:=⟨12⟩) ((xs++[adU cuts k]).map eV) rfl (by rw[bU];rfl) (arL [adU cuts k]) rfl<|?_
    refine rnE 75 5 rfl ?_
    exact at_ (xs++[adU cuts k],k+1) (by dsimp only;exact⟨⟨by rw[ahb hz hnp,←h1],by omega⟩,(by omega)⟩)
   ·
    obtain⟨x,hx⟩: ∃s,cuts[k-1]? =some s:=⟨_,aQ (by omega)⟩
    obtain⟨pb,hpb⟩: ∃s,marks[k-1]? =some s:=⟨_,aQ (by omega)⟩
    obtain⟨y,hy⟩: ∃s,cuts[k]? =some s:=⟨_,aQ (by omega)⟩
    have hgap:=aB8 (cuts:=cuts) (i:=k) (by omega) hx hy
    refine eqF 23 (.d (vI (cuts.length:Nat))) rfl (by rw[hmc]<;>rfl) ?_
    refine gx (fu:=⟨10⟩) rfl<|knT rfl (by show some (decide _)=some true;rw[decide_eq_true (by omega)]) rfl<|ix (fu:=⟨11⟩) _ rfl (afB (by omega) hx) rfl<|?_
    refine eqF 36 (.d (vI (cuts.length:Nat))) rfl (by rw[hmc]<;>rfl) ?_
    refine gx (fu:=⟨0⟩) rfl<|knT rfl (by show some (decide _)=some true;rw[decide_eq_true (by omega)]) rfl<|ix (fu:=⟨10⟩) _ rfl (aav hy) rfl<|?_
    refine eqF 44 (.d (vI (xs.length:Nat))) rfl (by rw[hml]<;>rfl) ?_
    refine gx (fu:=⟨6⟩) rfl<|knT rfl (by show some (decide _)=some true;rw[decide_eq_true (by omega)]) rfl<|ix _ rfl (afB (by omega) hpb) rfl<|?_
    refine csb (fu1:=⟨1⟩) (fu2:=⟨11⟩) 54 J J J (fun hg54=>?_) (fun hg54=>?_)
    ·
     have hpb':marks[k-1]? =some true:=by rw[hpb];congr 1
     have hxn:0<xs.length:=by rw[h1];have:=ap1 (cuts:=cuts) hpb';rw[show k-1+1=k by omega] at this;exact nR.2 this
     obtain⟨w,hw⟩: ∃s,xs[xs.length-1]? =some s:=⟨_,aQ (by omega)⟩
     refine knT rfl (by show some (decide _)=some true;rw[decide_eq_true (by omega)]) rfl<|sb (eV w) ((xs.set (xs.length-1) (⟨w.lo,y,w.nl,w.nh⟩:IvQ)).map eV) rfl (afB hxn hw) rfl (by rw[show(((xs.length:Nat):Int)-1).toNat=xs.length-1 by omega,kL];rfl) rfl<|?_
     refine sb (hv:=by simp only[aah];exact⟨by kernel_rfl,by omega⟩) (eV (⟨w.lo,y,w.nl,w.nh⟩:IvQ)) ((xs.set (xs.length-1) (aoe w (adU cuts k))).map eV) rfl (by rw[show(((xs.length:Nat):Int)-1).toNat=xs.length-1 by omega,kL,oT (by rw[hml];omega)]) rfl (by rw[show(((xs.length:Nat):Int)-1).toNat=xs.length-1 by omega,kL,List.set_set,kL,hgap];unfold aoe;dsimp only;rw[avS (k:=k) (n:=cuts.length)]<;>rfl) rfl<|?_
     exact at_ (xs.set (xs.length-1) (aoe w (adU cuts k)),k+1) (by dsimp only;exact⟨⟨(ak1 (by omega) hz hpb' h1.symm hw).symm,by omega⟩,(by omega)⟩)
    ·
     have hnp: ¬(0<k∧marks[k-1]? =some true):=fun e=>by rw[hpb,hg54] at e;simpa using e.2
     refine eqF 73 (.d (eV (adU cuts k))) rfl (by rw[hgap];unfold eV;dsimp only;rw[avS (k:=k) (n:=0),avS (k:=k) (n:=cuts.length)]<;>rfl) ?_
     refine gx rfl<|rf J J<|ap (fu:=⟨12⟩) ((xs++[adU cuts k]).map eV) rfl (by rw[bU];rfl) (arL [adU cuts k]) rfl<|?_
     refine rnE 75 5 rfl ?_
     exact at_ (xs++[adU cuts k],k+1) (by dsimp only;exact⟨⟨by rw[ahb hz hnp,←h1],by omega⟩,(by omega)⟩)
   ·
    obtain⟨x,hx⟩: ∃s,cuts[k-1]? =some s:=⟨_,aQ (by omega)⟩
    obtain⟨pb,hpb⟩: ∃s,marks[k-1]? =some s:=⟨_,aQ (by omega)⟩
    have hgap:=aBk (cuts:=cuts) (i:=k) (by omega) hx c2
    refine eqF 23 (.d (vI (cuts.length:Nat))) rfl (by rw[hmc]<;>rfl) ?_
    refine gx (fu:=⟨10⟩) rfl<|knT rfl (by show some (decide _)=some true;rw[decide_eq_true (by omega)]) rfl<|ix (fu:=⟨11⟩) _ rfl (afB (by omega) hx) rfl<|?_
    refine eqF 36 (.d (vI (cuts.length:Nat))) rfl (by rw[hmc]<;>rfl) ?_
    refine gx (fu:=⟨0⟩) rfl<|knF (fu:=⟨10⟩) rfl (by show some (decide _)=some false;rw[decide_eq_false (by omega)]) rfl<|?_
    refine eqF 44 (.d (vI (xs.length:Nat))) rfl (by rw[hml]<;>rfl) ?_
    refine gx (fu:=⟨6⟩) rfl<|knT rfl (by show some (decide _)=some true;rw[decide_eq_true (by omega)]) rfl<|ix _ rfl (afB (by omega) hpb) rfl<|?_
    refine csb (fu1:=⟨1⟩) (fu2:=⟨11⟩) 54 J J J (fun hg54=>?_) (fun hg54=>?_)
    ·
     have hpb':marks[k-1]? =some true:=by rw[hpb];congr 1
     have hxn:0<xs.length:=by rw[h1];have:=ap1 (cuts:=cuts) hpb';rw[show k-1+1=k by omega] at this;exact nR.2 this
     obtain⟨w,hw⟩: ∃s,xs[xs.length-1]? =some s:=⟨_,aQ (by omega)⟩
     refine knT rfl (by show some (decide _)=some true;rw[decide_eq_true (by omega)]) rfl<|sb (eV w) ((xs.set (xs.length-1) (⟨w.lo,0,w.nl,w.nh⟩:IvQ)).map eV) rfl (afB hxn hw) rfl (by rw[show(((xs.length:Nat):Int)-1).toNat=xs.length-1 by omega,kL,aDE];rfl) rfl<|?_
     refine sb (hv:=by simp only[aah];exact⟨by kernel_rfl,by omega⟩) (eV (⟨w.lo,0,w.nl,w.nh⟩:IvQ)) ((xs.set (xs.length-1) (aoe w (adU cuts k))).map eV) rfl (by rw[show(((xs.length:Nat):Int)-1).toNat=xs.length-1 by omega,kL,oT (by rw[hml];omega)]) rfl (by rw[show(((xs.length:Nat):Int)-1).toNat=xs.length-1 by omega,kL,List.set_set,kL,hgap];unfold aoe;dsimp only;rw[avS (k:=k) (n:=cuts.length)]<;>rfl) rfl<|?_
     exact at_ (xs.set (xs.length-1) (aoe w (adU cuts k)),k+1) (by dsimp only;exact⟨⟨(ak1 (by omega) hz hpb' h1.symm hw).symm,by omega⟩,(by omega)⟩)
    ·
     have hnp: ¬(0<k∧marks[k-1]? =some true):=fun e=>by rw[hpb,hg54] at e;simpa using e.2
     refine eqF 73 (.d (eV (adU cuts k))) rfl (by rw[hgap,aDE,avS (k:=k) (n:=0),avS (k:=k) (n:=cuts.length)]<;>rfl) ?_
     refine gx rfl<|rf J J<|ap ((xs++[adU cuts k]).map eV) rfl (by rw[bU];rfl) (arL [adU cuts k]) rfl<|?_
     refine rnE 75 5 rfl ?_
     exact at_ (xs++[adU cuts k],k+1) (by dsimp only;exact⟨⟨by rw[ahb hz hnp,←h1],by omega⟩,(by omega)⟩)
 ·
  have hfin:anB cuts marks=xs:=by rw[h1,anB,show k=marks.length by omega]
  refine fzE 5 rfl ?_
  exact rz rfl (by rw[hfin];rfl)
theorem aqM{g:Rat}: ∀{l:List Rat},g∈adI l→ ∃a∈l,∃b∈l,g=(a+b)/2
 |[],h=>by cases h
 |[_],h=>by cases h
 |a::b::t,h=>by
  rw[adI] at h
  rcases aT.1 h with rfl|h
  ·exact⟨a,aZ,b,aJ _ aZ,rfl⟩
  ·obtain⟨c,hc,d,hd,e⟩:=aqM h
   exact⟨c,aJ _ hc,d,aJ _ hd,e⟩
theorem aAF{l:List Rat}(h: ∀q∈l,BQ q 1200): ∀g∈ab6 l,BQ g 2500:=fun g hg=>by
 cases l with
 |nil=>
  rw[ab6,aV] at hg;subst hg
  exact BQ.mono (k:=1) ⟨by decide,by decide⟩ (by decide)
 |cons a t=>
  rw[ab6] at hg
  rcases aT.1 hg with rfl|hg
  ·haveI:=h a aZ
   exact BQ.mono (inferInstance:BQ (a-1) _) (by omega)
  ·rcases bY.1 hg with hg|hg
   ·obtain⟨c,hc,d,hd,rfl⟩:=aqM hg
    haveI:=h c hc
    haveI:=h d hd
    exact BQ.mono (inferInstance:BQ ((c+d)/2) _) (by omega)
   ·rw[aV] at hg
    haveI:=h _ (List.getLast_mem (l:=a::t) (by simp))
    subst hg
    exact BQ.mono (inferInstance:BQ ((a::t).getLast (by simp)+1) _) (by omega)
theorem akZ(l:List IvQ):aj3 l l.length=adc l:=by unfold aj3;rw[cM]
theorem ax1{l:List IvQ}(h: ∀v∈l,IvB v): ∀y∈adc l,BQ y 1200:=by rw[←akZ];exact aqU h
theorem ai3(l:List IvQ):(adc l).length≤2*l.length:=by rw[←akZ];exact agt l _
theorem IvB.app{a b:List IvQ}(ha: ∀v∈a,IvB v)(hb: ∀v∈b,IvB v): ∀v∈a++b,IvB v:=fun v hv=>(bY.1 hv).elim (ha v) (hb v)
theorem amz{a b:List IvQ}(ha: ∀v∈a,IvB v)(hb: ∀v∈b,IvB v)(hna:a.length≤100)(hnb:b.length≤100):PF GB prog 239 [vI 2, .sl (a.map eV), .sl (b.map eV)] (.sl ((ahB 2 a b).map eV)):=by
 obtain⟨cuts,hcu⟩: ∃c,c=adc (a++b):=⟨_,rfl⟩
 have hab:=IvB.app ha hb
 have hcb: ∀q∈cuts,BQ q 1200:=by rw[hcu];exact ax1 hab
 have hcl:cuts.length≤2*(a.length+b.length):=by rw[hcu];have:=ai3 (a++b);rw[aR] at this;exact this
 have hgb:=aAF hcb
 have hgl:=afp (l:=cuts)
 have hmp:=aaG eQ (ab6 cuts)
 refine fn func239 J J ntmps239 J J (fun C=>?_)
 refine ro0 J J<|ap (a.map eV) J J (arL _) rfl<|apf ((a++b).map eV) rfl (by rw[bU]) (arL b) rfl<|cl (fu:=⟨0⟩) rfl (aEf (l:=a++b) hab (by rw[aR];omega)) rfl<|?_
 refine eqF 19 (.d (.sl (cuts.map eQ))) rfl (by rw[hcu]) ?_
 refine gx rfl<|cl (fu:=⟨1⟩) rfl (av6 (cuts:=cuts) hcb (by omega)) rfl<|?_
 refine eqF 22 (.d (vI ((cuts.length+1:Nat):Int))) rfl (by rw[hmp,hgl]<;>rfl) ?_
 refine gx rfl<|?_
 refine nr 8 8 4 1 J J J ?_
 refine lp (X:=Nat) (fun k=>[(23, .d (vI (k:Nat))),(8, .rw 8)]) (fun k=>[(8,some (.b 4 1 ((((ab6 cuts).map (fun t=>agR 2 (acm a t) (acm b t))).take k).map vB) true))]) (fun k=>k≤cuts.length+1) (fun k=>cuts.length+1-k) 0 rfl (bX _) (fun _=>rfl) (fun k hk=>?_)
 have hml:(((((ab6 cuts).map (fun t=>agR 2 (acm a t) (acm b t))).take k).map vB)).length=k:=by rw[aK,cR,aK,hgl];omega
 refine br (fu2:=⟨0⟩) J J J (fun hc24=>?_) (fun hc24=>?_)
 ·
  obtain⟨t,hz⟩: ∃s,(ab6 cuts)[k]? =some s:=⟨_,aQ (by omega)⟩
  haveI:=hgb t (aU hz)
  have hz2:((ab6 cuts).map (fun t=>agR 2 (acm a t) (acm b t)))[k]? =some (agR 2 (acm a t) (acm b t)):=by rw[cJ,hz];rfl
  refine ix _ rfl (aav hz) rfl<|cl rfl (aEc (l:=a) (t:=t) ha (by omega)) rfl<|cl (fu:=⟨6⟩) rfl (aEc (l:=b) (t:=t) hb (by omega)) rfl<|?_
  cases hx:acm a t
  ·
   refine knF (fu:=⟨15⟩) J J J<|knT (fu:=⟨5⟩) J J J<|knF J J J<|rf J J<|ap (fu:=⟨8⟩) ((((ab6 cuts).map (fun t=>agR 2 (acm a t) (acm b t))).take (k+1)).map vB) rfl (by rw[←abq hz2,hx];rfl) (aFg [false]) rfl<|?_
   refine rnE 59 8 rfl ?_
   exact at_ (k+1) ⟨(by omega),(by omega)⟩
  ·
   refine knT (fu:=⟨15⟩) J J J<|knT (fu:=⟨5⟩) J J J<|knT J J J<|rf J J<|ap ((((ab6 cuts).map (fun t=>agR 2 (acm a t) (acm b t))).take (k+1)).map vB) rfl (by rw[←abq hz2,hx];rfl) (aFg [_]) rfl<|?_
   refine rnE 59 8 rfl ?_
   exact at_ (k+1) ⟨(by omega),(by omega)⟩
 ·
  obtain rfl:k=cuts.length+1:=by omega
  have htk:((ab6 cuts).map (fun t=>agR 2 (acm a t) (acm b t))).take (cuts.length+1)=(ab6 cuts).map (fun t=>agR 2 (acm a t) (acm b t)):=aW (by rw[aK,hgl];exact aM _)
  rw[htk]
  refine fzC 8 rfl ?_
  refine gx rfl<|cl rfl (aEe (cuts:=cuts) (marks:=(ab6 cuts).map (fun t=>agR 2 (acm a t) (acm b t))) (by omega) (by rw[aK,hgl];exact aM _)) rfl<|?_
  exact rz rfl (by unfold ahB;rw[←hcu];rfl)
section
variable {GB:Gh} {C:Ctx} {n:Nat} {Q0:Exit→Act→World→Prop} {fr fr':FrX} {own own':OwX} {cf cf':Cf} {vc:List Prop}
theorem aDV{lk:LK}{bk:BM}{dst:Option Nat}{t ty':TypeId}{pos:String}{af:Array Edge}{gd:Option (Nat×Bool)}{x y:Operand}{e len s nm off:Nat}{k:IntKind}{i:Nat}(hu:prog.underlying t=some (.array len e))(hs:(prog.info? e).map (·.size)=some s)
  (e1:evX lk x=some (.ov nm off))(e2:evX lk y=some (.d (.v (.int k (i:Nat)))))(hi:i<len):OpR prog GB C n lk bk ⟨dst, .indexAddr t x y,ty',pos,af,gd⟩ (.ov nm (off+i*s)) [] []:= .yd fun ρ G ov a w r=>by
 obtain⟨p,h1,h2⟩:=r.ev e1
 obtain⟨q,h3,h4⟩:=r.ev e2
 rw[aay] at h4;subst h4
 obtain⟨b,hb,rfl⟩:=h2
 refine⟨_,⟨b,hb,rfl⟩,?_⟩
 obtain⟨j,hj,hjs⟩: ∃j,prog.info? e=some j∧j.size=s:=by
  cases h:prog.info? e with
  |none=>rw[h] at hs;cases hs
  |some j=>rw[h] at hs;exact⟨j,rfl,by simpa using hs⟩
 intro a' w' hf hh
 simp only[execOp,aac hf h1,aac hf h3]
 have:(Instr.indexAt t (.pointer (some ⟨b,off,none⟩)) (.int k (i:Nat))).run prog w'= .ok (.pointer (some ⟨b,off+i*s,none⟩)) w':=by
  unfold Instr.indexAt
  show(underlying t>>=_).run prog w'=_
  rw[aaa (adl hu w')]
  show(underlying t>>=_).run prog w'=_
  rw[aaa (adl hu w')]
  have h0:0≤((i:Nat):Int):=qW i
  have h1:((i:Nat):Int)<((len:Nat):Int):=by omega
  simp only[h0,h1,and_self,if_true]
  show(sizeOf e>>=_).run prog w'=_
  rw[aaa (ad0 hj w'),acD,hjs,bZ]
  rfl
 exact aal this
def aHA(fr:FrX)(cf:Cf):Option (TypeId×Nat×Nat×Int):=match opC fr cf with
 |some ⟨_, .indexAddr t x y,_,_,_,_⟩=>match evX (lkC fr cf) x with
  |some (.ov nm off)=>match evX (lkC fr cf) y with
   |some (.d (.v (.int _ i)))=>some (t,nm,off,i)
   |_=>none
  |_=>none
 |_=>none
theorem ixa[fu:Fu](i:Nat){t nm off e len s:Nat}(h:aHA fr cf=some (t,nm,off,((i:Nat):Int)))(hu:prog.underlying t=some (.array len e))(hs:(prog.info? e).map (·.size)=some s)(hi:i<len)
  (hgo:goA tt n fu.n fr own cf (.ov nm (off+i*s)) [] []=⟨vc,fr',own',cf'⟩)(k:CfS prog GB C n Q0 fr' own' cf')
  (hv:aah vc:=by first|exact trivial|(simp only[aah];kernel_rfl)|(simp only[aah];omega)):CfS prog GB C n Q0 fr own cf:=by
 unfold aHA at h
 split at h<;>try (cases h;done)
 rename_i hh
 split at h<;>try (cases h;done)
 rename_i hx
 split at h<;>cases h
 rename_i hy
 exact us hh (aDV hu hs hx hy hi) hgo hv k
theorem aFa{lk:LK}{bk:BM}{d s:Nat}{e t ty':TypeId}{pos:String}{af:Array Edge}{gd:Option (Nat×Bool)}{ps:List (Nat×Operand)}{fo:List (Nat×Nat×Nat)}{i:TI}{z zx:List FX}{k:Nat}{pre post:List DV}(hi:afC prog t=some i)(hk:i.k= .st fo)(hz:i.z=some z)
  (hb:ax3 lk fo z ps=some zx)(h0:zx[k]? =some .nl)(h1:adV (zx.take k)=some pre)(h2:adV (zx.drop (k+1))=some post):OpR prog GB C n lk bk ⟨some d, .build t ⟨ps⟩,ty',pos,af,gd⟩ (.bx false pre d post) [(d,some (.b e s [] true))] [d]:=by
 intro hd tl tb K' s1 s2 hf hk'
 refine⟨fun ρ G ov a w r Q=>?_⟩
 obtain⟨v,hv,hv'⟩:=aiU hi hz
 have:=azq hi hk
 have hsp:zx=zx.take k++ .nl::zx.drop (k+1):=by
  obtain⟨hk1,hk2⟩:=aS.1 h0
  conv=>lhs;rw[←iM k zx,bQ hk1,hk2]
 obtain⟨l,h1',h2'⟩:=aiH (r.mono s1 s2) (fo:=fo) ps _ _ _ hb (hv' ρ G)
 rw[hsp] at h2'
 obtain⟨m1,m2',rfl,k1,y,m2,rfl,k2,k3⟩:=akH h2'
 cases (show y= .slice none 0 0 from k2)
 have hy:Yd prog C (frA a) ov G ⟨some d, .build t ⟨ps⟩,ty',pos,af,gd⟩ (.agg ⟨m1++Value.slice none 0 0::m2⟩):=alZ h1'
 have r3:=r.new' (x:=⟨none,0,0⟩) (B':= .b e s [] true) (os:=[]) (ov':=ov) (f:= .bx false pre d post) (y:= .agg ⟨m1++Value.slice none 0 0::m2⟩) hf (GLe.refl G) r.h
  ⟨[],by simp only[if_true];exact .inl ⟨rfl,rfl,rfl⟩, .nil,by simp,fun _ o ho=>by cases ho⟩ (fun o ho=>by cases ho) (fun m B _ _ o ho _=>⟨ho,by simp⟩)
  ⟨m1,m2,by simp,acN k1 h1,acN k3 h2⟩ (r.putA _ hd)
 exact abA (hy a w (aaF a) r.h) (hk'.run _ G ov _ w r3)
def aHh(fr:FrX)(cf:Cf):Option (Nat×List FX):=match opC fr cf with
 |some ⟨some d, .build t ⟨ps⟩,_,_,_,_⟩=>match abc tt t with
  |some ⟨.st fo,_,some zx,_⟩=>match ax3 (lkC fr cf) fo zx ps with
   |some l=>some (d,l)
   |none=>none
  |_=>none
 |_=>none
theorem bzp[fu:Fu]{d:Nat}{zx:List FX}(e s kk:Nat)(pre post:List DV)(h:aHh fr cf=some (d,zx))(h0:zx[kk]? =some .nl)(h1:adV (zx.take kk)=some pre)(h2:adV (zx.drop (kk+1))=some post)(hgo:goA tt n fu.n fr own cf (.bx false pre d post) [(d,some (.b e s [] true))] [d]=⟨vc,fr',own',cf'⟩)(k:CfS prog GB C n Q0 fr' own' cf')
  (hv:aah vc:=by first|exact trivial|(simp only[aah];kernel_rfl)|(simp only[aah];omega)):CfS prog GB C n Q0 fr own cf:=by
 unfold aHh at h
 split at h<;>try (cases h;done)
 rename_i hh
 split at h<;>try (cases h;done)
 rename_i hT
 split at h<;>cases h
 rename_i hb
 exact us hh (aFa (ab2 _ _ hT) J J hb h0 h1 h2) hgo hv k
end
def sp1(f:FrQ)(m:LnQ)(k:Nat):List FrQ:=if k=0 then [] else aaX f m 1
def sp2(f:FrQ)(m:LnQ)(k:Nat):List FrQ:=if k≤1 then [] else aaX f m (-1)
theorem apY{l m:LnQ}(hl:LB l)(hm:LB m)(hlo:l.ok){side:Int}: ∀v∈adL l m side,IvB v:=fun v hv=>⟨(aoD hl hm hlo v hv).2.1,(aoD hl hm hlo v hv).2.2⟩
theorem agC{l m:LnQ}{side:Int}:(adL l m side).length≤1:=by
 unfold adL;split
 ·split<;>simp
 ·split<;>simp
theorem apA(op:Int)(a b:List IvQ):(ahB op a b).length≤2*(a.length+b.length)+1:=by
 unfold ahB anB
 refine cW ai7 ?_
 rw[aK,afp]
 have:=ai3 (a++b);rw[aR] at this;omega
theorem aAX{f:FrQ}{m:LnQ}(h:FOk f)[hm:LB m](hmo:m.ok):PF GB prog 177 [eFF f,eL m] (.tp [.sl ((aaX f m 1).map eFF), .sl ((aaX f m (-1)).map eFF)]):=by
 haveI:=h.lb
 refine fn func177 J J ntmps177 J J (fun C=>?_)
 refine rf (fu:=⟨1⟩) J J<|?_
 refine eqF 14 (.d (vI (2:Nat))) J J ?_
 refine gx rfl<|?_
 refine nro 6 0 60 225 14 J J J J J ?_
 refine nro 6 1 61 225 14 J J J J J ?_
 refine lp (X:=Nat) (fun k=>[(15, .d (vI (k:Nat))),(6, .ov 6 0)]) (fun k=>[(6,some (.o 347 [.rw 60, .rw 61] true)),(60,some (.b 225 14 ((sp1 f m k).map eFF) true)),(61,some (.b 225 14 ((sp2 f m k).map eFF) true))]) (fun k=>k≤2) (fun k=>2-k) 0 rfl (by omega) (fun _=>rfl) (fun k hk=>?_)
 refine br J J J (fun hc16=>?_) (fun hc16=>?_)
 ·
  rcases(show k=0∨k=1 by omega) with rfl|rfl
  ·
   refine ix _ J J J<|cl (fu:=⟨0⟩) rfl (at9 (l:=f.l) (m:=m) (side:=1) h.ok hmo (.inl rfl)) rfl<|?_
   obtain⟨cs,hcs⟩: ∃c,c=ahB 2 [f.v] (adL f.l m 1):=⟨_,rfl⟩
   have hcl:cs.length≤5:=by rw[hcs];have h1:=apA 2 [f.v] (adL f.l m 1);have h2:=agC (l:=f.l) (m:=m) (side:=1);simp only[gU] at h1;omega
   refine eqF 25 (.d (.tp [.sl ((adL f.l m 1).map eV),vB (onB f.l m)])) J J ?_
   refine gx rfl<|?_
   refine bb J J J (fun hc28=>?_) (fun hc28=>?_)
   ·
    have hon:onB f.l m=true:=hc28
    exact rz rfl (by first|(unfold aaX;rw[if_pos hon,if_pos hon];rfl)|rfl)
   ·
    have hon:onB f.l m=false:=by simpa using hc28
    refine rf J J<|cl (fu:=⟨0⟩) rfl (amz (a:=[f.v]) (b:=adL f.l m 1) (fun v hv=>by rw[aV] at hv;subst hv;exact⟨h.lo,h.hi⟩) (apY h.lb hm h.ok) (by show 1≤100;decide) (by have:=agC (l:=f.l) (m:=m) (side:=1);omega)) rfl<|?_
    refine eqF 33 (.d (.sl (cs.map eV))) rfl (by rw[hcs]) ?_
    refine gx (fu:=⟨1⟩) rfl<|?_
    refine eqF 34 (.d (vI (cs.length:Nat))) rfl (by rw[aaG eV cs]<;>rfl) ?_
    refine gx rfl<|?_
    refine lp (X:=Nat) (fun j=>[(35, .d (vI (j:Nat)))]) (fun j=>[(60,some (.b 225 14 (((cs.take j).map fun v=>(⟨f.l,v⟩:FrQ)).map eFF) true))]) (fun j=>j≤cs.length) (fun j=>cs.length-j) 0 rfl (bX _) (fun _=>rfl) (fun j hk=>?_)
    have hml:(((cs.take j).map fun v=>(⟨f.l,v⟩:FrQ)).map eFF).length≤j:=by rw[aK,aK,cR];omega
    refine br J J J (fun hc36=>?_) (fun hc36=>?_)
    ·
     obtain⟨z,hz⟩: ∃s,cs[j]? =some s:=⟨_,aQ (by omega)⟩
     refine ix _ rfl (aav hz) rfl<|ixa 0 (e:=218) (len:=2) (s:=1) rfl (by kernel_rfl) (by kernel_rfl) (by decide) rfl<|rf J J<|?_
     refine ap (((cs.take (j+1)).map fun v=>(⟨f.l,v⟩:FrQ)).map eFF) rfl (by rw[←abq hz,bU];rfl) (akV [⟨f.l,z⟩]) rfl<|ixa (hv:=by simp only[aah];exact⟨by kernel_rfl,by omega⟩) 0 (e:=218) (len:=2) (s:=1) rfl (by kernel_rfl) (by kernel_rfl) (by decide) rfl<|?_
     refine rnE 48 60 rfl ?_
     exact at_ (j+1) ⟨(by omega),(by omega)⟩
    ·
     obtain rfl:j=cs.length:=by omega
     rw[show(cs.take cs.length).map (fun v=>(⟨f.l,v⟩:FrQ))=aaX f m 1 from by rw[cM];unfold aaX;rw[if_neg (by rw[hon];decide),←hcs]]
     exact at_ (0+1) ⟨(by omega),(by omega)⟩
  ·
   refine ix _ J J J<|cl (fu:=⟨0⟩) rfl (at9 (l:=f.l) (m:=m) (side:= -1) h.ok hmo (.inr rfl)) rfl<|?_
   obtain⟨cs,hcs⟩: ∃c,c=ahB 2 [f.v] (adL f.l m (-1)):=⟨_,rfl⟩
   have hcl:cs.length≤5:=by rw[hcs];have h1:=apA 2 [f.v] (adL f.l m (-1));have h2:=agC (l:=f.l) (m:=m) (side:=(-1));simp only[gU] at h1;omega
   refine eqF 25 (.d (.tp [.sl ((adL f.l m (-1)).map eV),vB (onB f.l m)])) J J ?_
   refine gx rfl<|?_
   refine bb J J J (fun hc28=>?_) (fun hc28=>?_)
   ·
    have hon:onB f.l m=true:=hc28
    exact rz rfl (by first|(unfold aaX;rw[if_pos hon,if_pos hon];rfl)|rfl)
   ·
    have hon:onB f.l m=false:=by simpa using hc28
    refine rf J J<|cl (fu:=⟨0⟩) rfl (amz (a:=[f.v]) (b:=adL f.l m (-1)) (fun v hv=>by rw[aV] at hv;subst hv;exact⟨h.lo,h.hi⟩) (apY h.lb hm h.ok) (by show 1≤100;decide) (by have:=agC (l:=f.l) (m:=m) (side:=(-1));omega)) rfl<|?_
    refine eqF 33 (.d (.sl (cs.map eV))) rfl (by rw[hcs]) ?_
    refine gx (fu:=⟨1⟩) rfl<|?_
    refine eqF 34 (.d (vI (cs.length:Nat))) rfl (by rw[aaG eV cs]<;>rfl) ?_
    refine gx rfl<|?_
    refine lp (X:=Nat) (fun j=>[(35, .d (vI (j:Nat)))]) (fun j=>[(61,some (.b 225 14 (((cs.take j).map fun v=>(⟨f.l,v⟩:FrQ)).map eFF) true))]) (fun j=>j≤cs.length) (fun j=>cs.length-j) 0 rfl (bX _) (fun _=>rfl) (fun j hk=>?_)
    have hml:(((cs.take j).map fun v=>(⟨f.l,v⟩:FrQ)).map eFF).length≤j:=by rw[aK,aK,cR];omega
    refine br J J J (fun hc36=>?_) (fun hc36=>?_)
    ·
     obtain⟨z,hz⟩: ∃s,cs[j]? =some s:=⟨_,aQ (by omega)⟩
     refine ix _ rfl (aav hz) rfl<|ixa 1 (e:=218) (len:=2) (s:=1) rfl (by kernel_rfl) (by kernel_rfl) (by decide) rfl<|rf J J<|?_
     refine ap (((cs.take (j+1)).map fun v=>(⟨f.l,v⟩:FrQ)).map eFF) rfl (by rw[←abq hz,bU];rfl) (akV [⟨f.l,z⟩]) rfl<|ixa (hv:=by simp only[aah];exact⟨by kernel_rfl,by omega⟩) 1 (e:=218) (len:=2) (s:=1) rfl (by kernel_rfl) (by kernel_rfl) (by decide) rfl<|?_
     refine rnE 48 61 rfl ?_
     exact at_ (j+1) ⟨(by omega),(by omega)⟩
    ·
     obtain rfl:j=cs.length:=by omega
     rw[show(cs.take cs.length).map (fun v=>(⟨f.l,v⟩:FrQ))=aaX f m (-1) from by rw[cM];unfold aaX;rw[if_neg (by rw[hon];decide),←hcs]]
     exact at_ (1+1) ⟨(by omega),(by omega)⟩
 ·
  obtain rfl:k=2:=by omega
  refine ixa 0 (e:=218) (len:=2) (s:=1) rfl (by kernel_rfl) (by kernel_rfl) (by decide) rfl<|ixa 1 (e:=218) (len:=2) (s:=1) rfl (by kernel_rfl) (by kernel_rfl) (by decide) rfl<|?_
  refine fzE 60 rfl ?_
  refine fzE 61 rfl ?_
  exact rz rfl (by first|(unfold aaX;rw[if_pos hon,if_pos hon];rfl)|rfl)
def eZp(p:ZP):DV:=eP p.q
def eRg(r:List ZP):DV:= .sl (r.map eZp)
theorem aB9(l:List ZP):adh 6 (l.map eZp):=fun d hd=>by
 obtain⟨u,_,rfl⟩:=bJ.1 hd;exact⟨rfl,rfl⟩
theorem azw(l:List (List ZP)):adh 1 (l.map eRg):=fun d hd=>by
 obtain⟨u,_,rfl⟩:=bJ.1 hd;exact⟨rfl,rfl⟩
theorem aF6{r:List ZP}{i:Nat}(h:i<r.length):(r.map eZp)[((i:Nat):Int).toNat]? =some (eZp (r.getD i (0,0))):=by
 rw[bZ,cJ,aX,aQ h];rfl
theorem aDA{r:List ZP}{i:Nat}(h:i<r.length):(r.map eZp)[(((i+1)%r.length:Nat):Int).toNat]? =some (eZp (acQ r i)):=aF6 (dX _ (by omega))
theorem aEW(v w p:PtQ):(aur v w p).natAbs≤1:=by
 unfold aur;split<;>split<;>decide
theorem al6(r:List ZP)(p:PtQ): ∀k,(arr r p k).natAbs≤k
 |0=>aM _
 |k+1=>by rw[arr];have:=al6 r p k;have:=aEW (r.getD k (0,0)).q (acQ r k).q p;omega
theorem avl{r:List ZP}(h:aaQ r):PF GB prog 116 [.sl (r.map eZp)] (.sl ((acO r).map eFF)):=by
 have hm:=aaG eZp r
 have h3:=h.n3
 have h6:=h.n6
 refine fn (fu:=⟨15⟩) func116 J J ntmps116 J J (fun C=>?_)
 refine eqF 8 (.d (vI (r.length:Nat))) rfl (by rw[hm]<;>rfl) ?_
 refine gx rfl<|?_
 refine nr 3 3 225 14 J J J ?_
 refine lp (X:=Nat) (fun k=>[(9, .d (vI (k:Nat))),(3, .rw 3)]) (fun k=>[(3,some (.b 225 14 ((afm r k).map eFF) true))]) (fun k=>k≤r.length) (fun k=>r.length-k) 0 rfl (bX _) (fun _=>rfl) (fun k hk=>?_)
 have hel:=fun hh=>(ajn (k:=k) h hh).1
 refine br J J J (fun hc10=>?_) (fun hc10=>?_)
 ·
  have hkr:k<r.length:=by omega
  have hel:=hel (by omega)
  have hem:=aaG eFF (afm r k)
  refine ix (fu:=⟨7⟩) _ rfl (aF6 hkr) rfl<|?_
  refine eqF 22 (.d (vI ((k+1)%r.length:Nat))) rfl (by rw[hm]<;>rfl) ?_
  refine gx rfl<|ix _ rfl (aDA hkr) rfl<|cl rfl (ast (v:=r.getD k (0,0)) (w:=acQ r k) (h.le _ (agq hkr)) (h.le _ (agB hkr)) (h.ne k hkr)) rfl<|?_
  refine rf J J<|ap ((afm r (k+1)).map eFF) rfl (by rw[afm,bU];rfl) (akV [ae3 (r.getD k (0,0)) (acQ r k)]) rfl<|?_
  refine rnE 31 3 rfl ?_
  exact at_ (k+1) ⟨(by omega),(by omega)⟩
 ·
  obtain rfl:k=r.length:=by omega
  refine fzE 3 rfl ?_
  exact rz J J
theorem ayf{r:List ZP}{p:PtQ}{i:Nat}[hp:BPt p i](h:aaQ r)(hi:i≤80000:=by decide):PF GB prog 236 [.sl (r.map eZp),eP p] (vI (anr r p)):=by
 have hm:=aaG eZp r
 have h3:=h.n3
 have h6:=h.n6
 refine fn (fu:=⟨16⟩) func236 J J ntmps236 J J (fun C=>?_)
 refine eqF 12 (.d (vI (r.length:Nat))) rfl (by rw[hm]<;>rfl) ?_
 refine gx rfl<|?_
 refine lp (X:=Nat×Int) (fun⟨k,c⟩=>[(13, .d (vI (k:Nat))),(5, .d (vI c))]) (fun⟨k,c⟩=>[]) (fun⟨k,c⟩=>c=arr r p k∧k≤r.length) (fun⟨k,c⟩=>r.length-k) (0,0) rfl ⟨rfl,bX _⟩ (fun _=>rfl) (fun⟨k,c⟩ hk=>?_)
 dsimp only at hk⊢
 obtain⟨h1,h2⟩:=hk
 have hcl:c.natAbs≤k:=by rw[h1];exact al6 r p k
 refine br J J J (fun hc14=>?_) (fun hc14=>?_)
 ·
  have hkr:k<r.length:=by omega
  obtain⟨v,hv⟩: ∃v,v=r.getD k (0,0):=⟨_,rfl⟩
  obtain⟨w,hw⟩: ∃v,v=acQ r k:=⟨_,rfl⟩
  haveI hvb:BPt v.q 12:=by rw[hv];exact bpZ (h.le _ (agq hkr))
  haveI hwb:BPt w.q 12:=by rw[hw];exact bpZ (h.le _ (agB hkr))
  refine ix (fu:=⟨1⟩) _ rfl (aF6 hkr) rfl<|?_
  refine eqF 19 (.d (eP v.q)) rfl (by rw[hv];rfl) ?_
  refine gx (fu:=⟨6⟩) rfl<|?_
  refine eqF 25 (.d (vI ((k+1)%r.length:Nat))) rfl (by rw[hm]<;>rfl) ?_
  refine gx rfl<|ix (fu:=⟨1⟩) _ rfl (aDA hkr) rfl<|?_
  refine eqF 27 (.d (eP w.q)) rfl (by rw[hw];rfl) ?_
  refine gx rfl<|cl rfl (q_C (a:=v.q.y) (b:=p.y) (i:=12) (j:=i) (by decide) (by omega)) rfl<|cl (fu:=⟨9⟩) rfl (q_C (a:=w.q.y) (b:=p.y) (i:=12) (j:=i) (by decide) (by omega)) rfl<|?_
  rcases(show(abd v.q.y p.y≤0∧abd w.q.y p.y≤0)∨(abd v.q.y p.y≤0∧ ¬abd w.q.y p.y≤0)∨(¬abd v.q.y p.y≤0∧abd w.q.y p.y≤0)∨(¬abd v.q.y p.y≤0∧ ¬abd w.q.y p.y≤0) by omega) with⟨ca,cb⟩|⟨ca,cb⟩|⟨ca,cb⟩|⟨ca,cb⟩
  ·
   refine knT (fu:=⟨3⟩) rfl (by show some (decide _)=some true;rw[decide_eq_true (by omega)]) rfl<|knF (fu:=⟨15⟩) rfl (by show some (decide _)=some false;rw[decide_eq_false (by omega)]) rfl<|?_
   refine knF (fu:=⟨20⟩) rfl (by show some (decide _)=some false;rw[decide_eq_false (by omega)]) rfl<|?_
   exact at_ (k+1,c) (by dsimp only;exact⟨⟨by rw[arr,←h1,←hv,←hw];unfold aur;split<;>split<;>omega,by omega⟩,(by omega)⟩)
  ·
   refine knT (fu:=⟨3⟩) rfl (by show some (decide _)=some true;rw[decide_eq_true (by omega)]) rfl<|knT rfl (by show some (decide _)=some true;rw[decide_eq_true (by omega)]) rfl<|?_
   refine cl rfl (aqG (a:=v.q) (b:=w.q) (c:=p) (i:=12) (j:=12) (k:=i) (by decide) (by decide) hi) rfl<|?_
   refine br (fu1:=⟨10⟩) (fu2:=⟨6⟩) J J J (fun hc51=>?_) (fun hc51=>?_)
   ·
    refine knF rfl (by show some (decide _)=some false;rw[decide_eq_false (by omega)]) rfl<|?_
    exact at_ (k+1,c+1) (by dsimp only;exact⟨⟨by rw[arr,←h1,←hv,←hw];unfold aur;split<;>split<;>omega,by omega⟩,(by omega)⟩)
   ·
    refine knF (fu:=⟨20⟩) rfl (by show some (decide _)=some false;rw[decide_eq_false (by omega)]) rfl<|?_
    exact at_ (k+1,c) (by dsimp only;exact⟨⟨by rw[arr,←h1,←hv,←hw];unfold aur;split<;>split<;>omega,by omega⟩,(by omega)⟩)
  ·
   refine knF (fu:=⟨19⟩) rfl (by show some (decide _)=some false;rw[decide_eq_false (by omega)]) rfl<|knT (fu:=⟨2⟩) rfl (by show some (decide _)=some true;rw[decide_eq_true (by omega)]) rfl<|?_
   refine knT rfl (by show some (decide _)=some true;rw[decide_eq_true (by omega)]) rfl<|cl rfl (aqG (a:=v.q) (b:=w.q) (c:=p) (i:=12) (j:=12) (k:=i) (by decide) (by decide) hi) rfl<|?_
   refine br (fu2:=⟨8⟩) J J J (fun hc65=>?_) (fun hc65=>?_)
   ·
    exact at_ (k+1,c-1) (by dsimp only;exact⟨⟨by rw[arr,←h1,←hv,←hw];unfold aur;split<;>split<;>omega,by omega⟩,(by omega)⟩)
   ·
    exact at_ (k+1,c) (by dsimp only;exact⟨⟨by rw[arr,←h1,←hv,←hw];unfold aur;split<;>split<;>omega,by omega⟩,(by omega)⟩)
  ·
   refine knF (fu:=⟨19⟩) rfl (by show some (decide _)=some false;rw[decide_eq_false (by omega)]) rfl<|knT (fu:=⟨2⟩) rfl (by show some (decide _)=some true;rw[decide_eq_true (by omega)]) rfl<|?_
   refine knF rfl (by show some (decide _)=some false;rw[decide_eq_false (by omega)]) rfl<|?_
   exact at_ (k+1,c) (by dsimp only;exact⟨⟨by rw[arr,←h1,←hv,←hw];unfold aur;split<;>split<;>omega,by omega⟩,(by omega)⟩)
 ·
  obtain rfl:k=r.length:=by omega
  have hfin:anr r p=c:=h1.symm
  exact rz rfl (by rw[hfin];rfl)
theorem aup{fill n:Int}(hn:n.natAbs≤1000):PF GB prog 237 [vI fill,vI n] (vB (avZ fill n)):=by
 refine fn func237 J J ntmps237 J J (fun C=>?_)
 refine cs 7 J J J (fun hg7=>?_) (fun hg7=>?_)
 ·
  refine cs 12 J J J (fun hg12=>?_) (fun hg12=>?_)
  ·
   exact rz rfl (by show vB _=vB _;unfold avZ;congr 1;simp_all)
  ·
   refine cs 15 J J J (fun hg15=>?_) (fun hg15=>?_)
   ·
    exact rz rfl (by show vB _=vB _;unfold avZ;congr 1;simp_all)
   ·
    exact rz rfl (by show vB _=vB _;unfold avZ;congr 1;simp_all)
 ·
  refine cs 15 J J J (fun hg15=>?_) (fun hg15=>?_)
  ·
   exact rz rfl (by show vB _=vB _;unfold avZ;congr 1;simp_all)
  ·
   exact rz rfl (by show vB _=vB _;unfold avZ;congr 1;simp_all)
def aGH(rs:List (List ZP)):List LnQ:=(abU rs).map FrQ.l
def eRR(rs:List (List ZP))(fill:Int):DV:= .ag [.sl (rs.map eRg), .v (.int .i64 fill), .sl ((ao5 (aGH rs)).map eL)]
theorem aDN{rs:List (List ZP)}{p:PtQ}(h: ∀r∈rs,aaQ r)(k:Nat):((rs.take k).foldl (fun n r=>n+anr r p) 0).natAbs≤6*k:=by
 induction k with
 |zero=>rw[nM];exact bX _
 |succ k ih=>
  rw[iX,rX]
  cases e:rs[k]? with
  |none=>exact cW ih (by omega)
  |some r=>
   have h1:(anr r p).natAbs≤r.length:=al6 r p r.length
   have h2:=(h r (aU e)).n6
   show(List.foldl _ 0 (rs.take k)+anr r p).natAbs≤_
   omega
theorem aGS{rs:List (List ZP)}{fill:Int}{p:PtQ}{i:Nat}[hp:BPt p i](h: ∀r∈rs,aaQ r)(hn:rs.length≤100)(hi:i≤80000:=by decide):PF GB prog 176 [eRR rs fill,eP p] (vB (inR rs fill p)):=by
 have hm:=aaG eRg rs
 refine fn (fu:=⟨18⟩) func176 J J ntmps176 J J (fun C=>?_)
 refine eqF 10 (.d (vI (rs.length:Nat))) rfl (by rw[hm]<;>rfl) ?_
 refine gx rfl<|?_
 refine lp (X:=Nat×Int) (fun⟨k,c⟩=>[(11, .d (vI (k:Nat))),(5, .d (vI c))]) (fun⟨k,c⟩=>[]) (fun⟨k,c⟩=>c=(rs.take k).foldl (fun n r=>n+anr r p) 0∧k≤rs.length) (fun⟨k,c⟩=>rs.length-k) (0,0) rfl ⟨by rw[nM];rfl,bX _⟩ (fun _=>rfl) (fun⟨k,c⟩ hk=>?_)
 dsimp only at hk⊢
 obtain⟨h1,h2⟩:=hk
 have hcl:c.natAbs≤6*k:=by rw[h1];exact aDN h k
 refine br J J J (fun hc12=>?_) (fun hc12=>?_)
 ·
  obtain⟨r,hz⟩: ∃s,rs[k]? =some s:=⟨_,aQ (by omega)⟩
  have hr:=h r (aU hz)
  have hnz:(anr r p).natAbs≤6:=cW (al6 r p r.length) hr.n6
  refine ix _ rfl (aav hz) rfl<|cl rfl (ayf (r:=r) (p:=p) hr hi) rfl<|?_
  exact at_ (k+1,c+anr r p) (by dsimp only;exact⟨⟨by rw[iX,hz,rX,←h1];rfl,by omega⟩,(by omega)⟩)
 ·
  obtain rfl:k=rs.length:=by omega
  rw[cM] at h1
  refine cl rfl (aup (fill:=fill) (n:=c) (by omega)) rfl<|?_
  exact rz rfl (by unfold inR;rw[←h1];rfl)
def eAr(r:List ZP):DV:= .sl ((r.map ZP.q).map ePt)
theorem aE2(l:List (List ZP)):adh 1 (l.map eAr):=fun d hd=>by
 obtain⟨u,_,rfl⟩:=bJ.1 hd;exact⟨rfl,rfl⟩
theorem avH{r:List ZP}(h: ∀p∈r,ZP.le 100 p): ∀p∈r.map ZP.q,BPt p 1200:=fun p hp=>by
 obtain⟨z,hz,rfl⟩:=bJ.1 hp
 have:=bpZ (h z hz)
 exact⟨BQ.mono this.x (by decide),BQ.mono this.y (by decide)⟩
theorem aza(r:List ZP):DV.sl ((r.map ZP.q).map eP)=eRg r:=by unfold eRg;rw[rQ];rfl
theorem aiW{rs:List (List ZP)}{k:Nat}{r:List ZP}(h:rs[k]? =some r):abU (rs.take (k+1))=abU (rs.take k)++acO r:=by
 unfold abU;rw[iX,h,nL];simp
theorem ajI{rs:List (List ZP)}(h: ∀r∈rs,aaQ r)(k:Nat):(abU (rs.take k)).length≤6*k:=by
 have:=(acM (rs:=rs.take k) (fun r hr=>h r (fZ hr))).1
 have h2:(rs.take k).length≤k:=by rw[cR];omega
 omega
theorem as0{rs:List (List ZP)}{fill:Int}(h: ∀r∈rs,aaQ r)(hn:rs.length≤100):PF GB prog 55 [.sl (rs.map eAr), .v (.int .i64 fill)] (eRR rs fill):=by
 have hm:=aaG eAr rs
 refine fn (fu:=⟨8⟩) func55 J J ntmps55 J J (fun C=>?_)
 refine bzp (fu:=⟨14⟩) 130 1 0 [] [.v (.int .i64 fill), .sl []] J J J J J<|?_
 refine eqF 15 (.d (vI (rs.length:Nat))) rfl (by rw[hm]<;>rfl) ?_
 refine gx rfl<|?_
 refine nr 6 6 175 6 J J J ?_
 refine lp (X:=Nat) (fun k=>[(16, .d (vI (k:Nat))),(6, .rw 6),(5, .ov 5 0)]) (fun k=>[(5,some (.o 126 [.rw 13, .d (.v (.int .i64 fill)), .d (.sl [])] true)),(13,some (.b 130 1 ((rs.take k).map eRg) true)),(6,some (.b 175 6 (((abU (rs.take k)).map FrQ.l).map eL) true))]) (fun k=>k≤rs.length) (fun k=>rs.length-k) 0 rfl (bX _) (fun _=>rfl) (fun k hk=>?_)
 refine br (fu2:=⟨0⟩) J J J (fun hc17=>?_) (fun hc17=>?_)
 ·
  obtain⟨r,hz⟩: ∃s,rs[k]? =some s:=⟨_,aQ (by omega)⟩
  have hr:=h r (aU hz)
  have hel:(acO r).length≤6:=by have:=(aii hr).1;have:=hr.n6;omega
  have het:=ajI h k
  have hrl:((rs.take k).map eRg).length=k:=by rw[aK,cR];omega
  refine ix _ rfl (aav hz) rfl<|cl (fu:=⟨0⟩) rfl (aGU (ps:=r.map ZP.q) (avH hr.le) (by rw[aK];have:=hr.n6;omega)) rfl<|?_
  refine eqF 21 (.d (eRg r)) rfl (by rw[aza]) ?_
  refine gx rfl<|rf J J<|ap ((rs.take (k+1)).map eRg) rfl (abq hz) (azw [r]) rfl<|cl (fu:=⟨1⟩) rfl (avl (r:=r) hr) rfl<|?_
  refine eqF 30 (.d (vI ((acO r).length:Nat))) rfl (by rw[aaG eFF (acO r)]<;>rfl) ?_
  refine gx rfl<|?_
  rw[←nQ (abU (rs.take k)),←nM (l:=acO r)]
  refine lp (X:=Nat) (fun j=>[(31, .d (vI (j:Nat))),(6, .rw 6)]) (fun j=>[(6,some (.b 175 6 (((abU (rs.take k)++(acO r).take j).map FrQ.l).map eL) true))]) (fun j=>j≤(acO r).length) (fun j=>(acO r).length-j) 0 rfl (bX _) (fun _=>rfl) (fun j hk=>?_)
  have hml:(((abU (rs.take k)++(acO r).take j).map FrQ.l).map eL).length≤6*k+6:=by rw[aK,aK,aR,cR];omega
  refine br J J J (fun hc32=>?_) (fun hc32=>?_)
  ·
   obtain⟨e,he⟩: ∃s,(acO r)[j]? =some s:=⟨_,aQ (by omega)⟩
   refine ix _ rfl (aav he) rfl<|rf J J<|ap (((abU (rs.take k)++(acO r).take (j+1)).map FrQ.l).map eL) rfl (by rw[iX,he];simp only[bU,iQ];rfl) (acR [e.l]) rfl<|?_
   refine rnE 39 6 rfl ?_
   exact at_ (j+1) ⟨(by omega),(by omega)⟩
  ·
   obtain rfl:j=(acO r).length:=by omega
   rw[cM,←aiW hz]
   refine rnE 26 13 rfl ?_
   exact at_ (k+1) ⟨(by omega),(by omega)⟩
 ·
  obtain rfl:k=rs.length:=by omega
  rw[cM]
  refine fzC 6 rfl ?_
  refine fzC 13 rfl ?_
  refine gx rfl<|cl rfl (arR (ls:=aGH rs) (fun l hl=>by obtain⟨f,hf,rfl⟩:=bJ.1 hl;exact((acM h).2 f hf).lb) (by unfold aGH;rw[aK];have:=(acM h).1;omega)) rfl<|?_
  exact rz J J
theorem aGX{rs:List (List ZP)}(h: ∀r∈rs,aaQ r)(hn:rs.length≤100):PF GB prog 95 [.sl (rs.map eRg)] (.sl (rs.map eAr)):=by
 have hm:=aaG eRg rs
 refine fn (fu:=⟨15⟩) func95 J J ntmps95 J J (fun C=>?_)
 refine eqF 7 (.d (vI (rs.length:Nat))) rfl (by rw[hm]<;>rfl) ?_
 refine gx rfl<|?_
 refine nr 3 3 160 1 J J J ?_
 refine lp (X:=Nat) (fun k=>[(8, .d (vI (k:Nat))),(3, .rw 3)]) (fun k=>[(3,some (.b 160 1 ((rs.take k).map eAr) true))]) (fun k=>k≤rs.length) (fun k=>rs.length-k) 0 rfl (bX _) (fun _=>rfl) (fun k hk=>?_)
 have hml:((rs.take k).map eAr).length≤k:=by rw[aK,cR];omega
 refine br J J J (fun hc9=>?_) (fun hc9=>?_)
 ·
  obtain⟨r,hz⟩: ∃s,rs[k]? =some s:=⟨_,aQ (by omega)⟩
  have hr:=h r (aU hz)
  refine ix (fu:=⟨1⟩) _ rfl (aav hz) rfl<|?_
  refine eqF 11 (.d (.sl ((r.map ZP.q).map eP))) rfl (by rw[aza]) ?_
  refine gx rfl<|cl rfl (ayE (ps:=r.map ZP.q) (avH hr.le) (by rw[aK];have:=hr.n6;omega)) rfl<|rf J J<|ap ((rs.take (k+1)).map eAr) rfl (abq hz) (aE2 [r]) rfl<|?_
  refine rnE 16 3 rfl ?_
  exact at_ (k+1) ⟨(by omega),(by omega)⟩
 ·
  obtain rfl:k=rs.length:=by omega
  refine fzE 3 rfl ?_
  exact rz rfl (by rw[cM];rfl)
theorem amr(out:List LnQ)(l:LnQ):(acr out l).length≤out.length+1:=by
 unfold acr
 split
 ·omega
 ·simp;omega
theorem akD(c:List LnQ): ∀(t out:List LnQ),(ad1 c t out).length≤out.length+t.length
 |[],out=>by simp[ad1]
 |l::t,out=>by
  rw[ad1]
  refine cW (akD c t _) ?_
  have:=amr out l
  split<;>simp<;>omega
theorem afI(c:List LnQ):(aa3 c).length≤c.length:=cW (akD c c []) (by simp)
theorem aq2{c:List LnQ}(h: ∀m∈c,LB m): ∀m∈aa3 c,LB m:=fun m hm=>h m (abb.1 hm).1
theorem aqh{c:List LnQ}(h: ∀m∈c,m.ok): ∀m∈aa3 c,m.ok:=fun m hm=>h m (abb.1 hm).1
theorem aqW{c:List LnQ}{l:LnQ}(hc: ∀m∈c,LB m)(hok: ∀m∈c,m.ok)(hn:c.length≤900)(hl:LB l)(hlo:l.ok):PF GB prog 92 [.sl (c.map eL),eL l] (.sl ((aa3 (c++[l])).map eL)):=by
 have hcl:=aeF c
 refine fn func92 J J ntmps92 J J (fun C=>?_)
 refine ro0 J J<|ap (c.map eL) J J (acR _) rfl<|rf J J<|apf ((c++[l]).map eL) rfl (by rw[bU];rfl) (acR [l]) rfl<|?_
 refine cl rfl (az5 (c:=c++[l]) (ag8 hc hl) (abS hok hlo) (by simp;omega)) rfl<|?_
 exact rz J J
theorem axN{l l1:LnQ}{x y u:Tr}:PF GB prog 91 [eL l,eT (.node l1 x y),eT u] (eT (.node l (.node l1 x y) u)):=by
 refine fn (fu:=⟨12⟩) func91 J J ntmps91 J J (fun C=>?_)
 refine knF J J J<|?_
 refine fzE 33 rfl ?_
 exact rz J J
theorem asl{l l1:LnQ}{x y:Tr}{p:Bool}:PF GB prog 91 [eL l,eT (.leaf p),eT (.node l1 x y)] (eT (.node l (.leaf p) (.node l1 x y))):=by
 refine fn (fu:=⟨12⟩) func91 J J ntmps91 J J (fun C=>?_)
 refine knT (fu:=⟨4⟩) J J J<|knF J J J<|?_
 refine fzE 33 rfl ?_
 exact rz J J
theorem auR{l:LnQ}{p q:Bool}:PF GB prog 91 [eL l,eT (.leaf p),eT (.leaf q)] (eT (Tr.joinQ l (.leaf p) (.leaf q))):=by
 refine fn (fu:=⟨12⟩) func91 J J ntmps91 J J (fun C=>?_)
 refine knT (fu:=⟨4⟩) J J J<|knT J J J<|?_
 refine bd J J J (fun hc27=>?_) (fun hc27=>?_)
 ·
  exact rz rfl (by rw[show Tr.joinQ l (.leaf p) (.leaf q)= .leaf p by simp[Tr.joinQ,Tr.isLeaf,Tr.code,hc27]];rfl)
 ·
  refine fzE 33 rfl ?_
  exact rz rfl (by rw[show Tr.joinQ l (.leaf p) (.leaf q)= .node l (.leaf p) (.leaf q) by simp[Tr.joinQ,Tr.isLeaf,Tr.code,hc27]];rfl)
theorem ayL{l:LnQ}: ∀{x y:Tr},PF GB prog 91 [eL l,eT x,eT y] (eT (Tr.joinQ l x y))
 | .leaf _, .leaf _=>auR
 | .leaf _, .node .. =>asl
 | .node ..,_=>axN
theorem aig{b:Bool}{c:List LnQ}:PF GB prog 87 [eT (.leaf b), .sl (c.map eL)] (eT (Tr.restrictL (.leaf b) c)):=by
 refine fn (fu:=⟨11⟩) func87 J J ntmps87 J J (fun C=>?_)
 refine knT J J J<|?_
 exact rz J J
theorem aie{l:LnQ}{x y:Tr}{c:List LnQ}(hl:LB l)(hlo:l.ok)(hc: ∀m∈c,LB m)(hok: ∀m∈c,m.ok)(hn:c.length+(Tr.node l x y).depth≤900)(ihx: ∀{c:List LnQ},(∀m∈c,LB m)→(∀m∈c,m.ok)→c.length+x.depth≤900→PF GB prog 87 [eT x, .sl (c.map eL)] (eT (Tr.restrictL x c)))(ihy: ∀{c:List LnQ},(∀m∈c,LB m)→(∀m∈c,m.ok)→c.length+y.depth≤900→PF GB prog 87 [eT y, .sl (c.map eL)] (eT (Tr.restrictL y c))):PF GB prog 87 [eT (.node l x y), .sl (c.map eL)] (eT (Tr.restrictL (.node l x y) c)):=by
 have hdp:(Tr.node l x y).depth=1+Nat.max x.depth y.depth:=rfl
 have hdx:x.depth≤Nat.max x.depth y.depth:=sK _ _
 have hdy:y.depth≤Nat.max x.depth y.depth:=rR _ _
 have hca:=afI (c++[l])
 have hcb:=afI (c++[l.rev])
 rw[aR,gU] at hca hcb
 refine fn (fu:=⟨11⟩) func87 J J ntmps87 J J (fun C=>?_)
 refine knF J J J<|cl rfl (atN (c:=c) (l:=l) hc hok (by omega) hl hlo) rfl<|?_
 refine br J J J (fun hc16=>?_) (fun hc16=>?_)
 ·
  refine cl rfl (ihx hc hok (by omega)) rfl<|?_
  exact rz rfl (by rw[Tr.restrictL,if_pos hc16];rfl)
 ·
  refine br J J J (fun hc24=>?_) (fun hc24=>?_)
  ·
   refine cl rfl (ihy hc hok (by omega)) rfl<|?_
   exact rz rfl (by rw[Tr.restrictL,if_neg hc16,if_pos hc24];rfl)
  ·
   refine cl rfl (aqW (c:=c) (l:=l) hc hok (by omega) hl hlo) rfl<|cl rfl (ihx (c:=aa3 (c++[l])) (aq2 (ag8 hc hl)) (aqh (abS hok hlo)) (by omega)) rfl<|?_
   refine cl rfl (akL (l:=l)) rfl<|cl rfl (aqW (c:=c) (l:=l.rev) hc hok (by omega) hl.rev hlo.rev) rfl<|cl rfl (ihy (c:=aa3 (c++[l.rev])) (aq2 (ag8 hc hl.rev)) (aqh (abS hok hlo.rev)) (by omega)) rfl<|?_
   refine cl rfl ayL rfl<|?_
   exact rz rfl (by rw[Tr.restrictL,if_neg hc16,if_neg hc24];rfl)
theorem aeI: ∀{t:Tr} {c:List LnQ},t.all LB→t.all LnQ.ok→(∀m∈c,LB m)→(∀m∈c,m.ok)→c.length+t.depth≤900→PF GB prog 87 [eT t, .sl (c.map eL)] (eT (Tr.restrictL t c))
 | .leaf _,_,_,_,_,_,_=>aig
 | .node l x y,c,hb,ho,hc,hok,hn=>aie hb.1 ho.1 hc hok hn (fun h1 h2 h3=>aeI hb.2.1 ho.2.1 h1 h2 h3) (fun h1 h2 h3=>aeI hb.2.2 ho.2.2 h1 h2 h3)
def p7:PtQ:=⟨mkRat 1 7,mkRat 1 5⟩
structure LP (l:LnQ):Prop where
 s:LS l
 p:0<l.value p7
def lsR(es:List Int):Nat→Nat→List LnQ×Nat
 |0,a=>([],a)
 |i+1,a=>((lF es a).1::(lsR es i (lF es a).2).1,(lsR es i (lF es a).2).2)
def lsF(es:List Int)(most a:Nat):List LnQ×Nat:=lsR es (aaf es ((most:Int)+1) a).1 (aaf es ((most:Int)+1) a).2
def aCG(l:LnQ):LnQ:=if(l.value p7).num.sign<0 then l.rev else l
def aIb(xs:List LnQ)(i:Nat):List LnQ:=(xs.take i).map aCG++xs.drop i
def aIj(es:List Int)(a:Nat):List LnQ×Nat:=((lsF es 3 a).1.map aCG,(lsF es 3 a).2)
theorem aAw{n d:Nat}(hn:n≤1000)(hd:0<d)(hd1:d≤1000):PF GB prog 62 [.v (.int .i64 (n:Int)), .v (.int .i64 (d:Nat))] (eQ (mkRat n d)):=by
 haveI:BI (n:Int) 10:=aFj (by rw[iS];omega)
 haveI:BN d 10:=⟨by omega⟩
 refine fn func62 J J ntmps62 J J (fun C=>?_)
 refine cl rfl (aC8 (n:=(n:Int)) (by omega) (by omega)) rfl<|cl rfl (agw (u:=d) (by omega)) rfl<|cl rfl (ajQ (x:=(n:Int)) (d:=d) hd) rfl<|?_
 exact rz J J
end Go.Sx
end
