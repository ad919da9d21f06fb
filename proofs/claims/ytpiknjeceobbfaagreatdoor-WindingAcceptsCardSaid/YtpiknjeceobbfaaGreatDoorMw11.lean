import Derived.Test.YtpiknjeceobbfaaGreatDoorMw10
import Derived.WalkKit
import Derived.LaidEql
import Derived.Stop.Asserts
import Derived.RowKitTokens
set_option linter.all false
set_option maxHeartbeats 1000000
set_option maxRecDepth 100000
section
namespace Go.Sx
open Go Go.Proofs Tryz
variable {GB:Gh}
instance BQ.i1':BQ (1:Rat) 2:=⟨by decide,by decide⟩
instance BQ.i2':BQ (2:Rat) 2:=⟨by decide,by decide⟩
instance av.at (l:ab) (t:Rat) (k:Nat) [LB l] [BQ t k]:av (l.at t) (900+(k+97)+1):=by
 rw[<-L9];infer_instance
def jx(d:aa):aa:=⟨-d.y,d.x⟩
instance av.turn (d:aa) (k:Nat) [av d k]:av (jx d) k:=⟨inferInstanceAs (BQ (-d.y) k),inferInstanceAs (BQ d.x k)⟩
def uT(p v:aa)(m:ab):Rat:= -(m.value p/(m.value (ee p v ((1:Int):Rat))-m.value p))
def Mk(p v:aa)(m:ab)(s:Rat):Rat:=if(m.value (ee p v ((1:Int):Rat))-m.value p).num.sign=0 then s else if(m.value p).num.sign=0 then s else if 0<(uT p v m).num.sign then(if bw (uT p v m/2) s<0 then uT p v m/2 else s) else s
def DY(p v:aa):List ab->Rat->Rat
 |[],s=>s
 |m::t,s=>DY p v t (Mk p v m s)
def Ie(c:List ab)(p v:aa):aa:=ee p v (DY p v c ((1:Int):Rat))
def Ex(c:List ab):List ab->aa
 |[]=>⟨0,0⟩
 |m::t=>if(nW m c aP.all).2=true then Ie c (m.at (K9 (nW m c aP.all).1)) (jx m.dir) else Ex c t
def Oy(l m:ab):Int:=A9 [bw l.a m.a,bw l.b m.b,bw l.c m.c]
def xj{p:aa}{i:Nat}[hp:av p i](hi:i<=10000000:=by decide):PF GB prog 249 [eZ p] (vI p.half):=by
 refine fn func249 J J ntmps249 J J (fun C=>?_);refine cl J (ik (q:=p.y) (by omega)) J<|?_;refine cs 10 J J J (fun hg10=>?_) (fun hg10=>?_)
 .
  exact rz J (by unfold aa.half;(repeat' split)<;>first|rfl|(exfalso;omega))
 .
  refine cs 13 J J J (fun hg13=>?_) (fun hg13=>?_)
  .
   refine cl J (ik (q:=p.x) (by omega)) J<|?_;refine br J J J (fun hc7=>?_) (fun hc7=>?_)
   .
    exact rz J (by unfold aa.half;(repeat' split)<;>first|rfl|(exfalso;omega))
   .
    refine cs 23 J J J (fun hg23=>?_) (fun hg23=>?_)
    .
     exact rz J (by unfold aa.half;(repeat' split)<;>first|rfl|(exfalso;omega))
    .
     refine cl J (ik (q:=p.x) (by omega)) J<|?_;refine br J J J (fun hc20=>?_) (fun hc20=>?_)
     .
      exact rz J (by unfold aa.half;(repeat' split)<;>first|rfl|(exfalso;omega))
     .
      exact rz J (by unfold aa.half;(repeat' split)<;>first|rfl|(exfalso;omega))
  .
   refine cs 23 J J J (fun hg23=>?_) (fun hg23=>?_)
   .
    exact rz J (by unfold aa.half;(repeat' split)<;>first|rfl|(exfalso;omega))
   .
    refine cl J (ik (q:=p.x) (by omega)) J<|?_;refine br J J J (fun hc20=>?_) (fun hc20=>?_)
    .
     exact rz J (by unfold aa.half;(repeat' split)<;>first|rfl|(exfalso;omega))
    .
     exact rz J (by unfold aa.half;(repeat' split)<;>first|rfl|(exfalso;omega))
def Dt{u v:aa}{i j:Nat}[hp:av u i][hq:av v j](hi:i<=10000000:=by decide)(hj:j<=10000000:=by decide):PF GB prog 231 [eZ u,eZ v] (vI (bP u v)):=by
 refine fn func231 J J ntmps231 J J (fun C=>?_);refine cl J (xj (p:=u) hi) J<|cl J (xj (p:=v) hj) J<|?_;refine br J J J (fun hc11=>?_) (fun hc11=>?_)
 .
  exact rz J (by unfold bP;rw[if_pos hc11];rfl)
 .
  refine br J J J (fun hc15=>?_) (fun hc15=>?_)
  .
   exact rz J (by unfold bP;rw[if_neg hc11,if_pos hc15];rfl)
  .
   refine cl J (x8 (p:=u) (q:=v) (by omega) (by omega)) J<|cl (fu:=⟨0⟩) J (ik (q:=u.cross v) (by omega)) J<|?_;have hs:=Int.sign_trichotomy (u.cross v).num;refine gx J<|?_;exact rz J (by unfold bP;rw[if_neg hc11,if_neg hc15];rfl)
def HD{m:Int}:cG (dg m.natAbs)/\(decide (m<0)=true->0<(dg m.natAbs).length):=⟨(dB _).2.2,fun h=>by
 have:0<m.natAbs:=by have:=of_decide_eq_true h;omega
 exact pP.2 this⟩
def LO{m:Int}{i:Nat}[h:BI m i](hi:i<=1000000000:=by decide):PF GB prog 242 [eI m] (.v (.bool true)):=(Fe (neg:=decide (m<0)) (ds:=dg m.natAbs) (dB _).2.1 (by have:=gv (a:=m.natAbs) hi;omega)).to (by unfold vB;rw[decide_eq_true HD])
instance BQ.rgcd (p q:Rat) (i j:Nat) [h:BQ p i] [k:BQ q j]:BQ (rgcd p q) (i+j+(i+j)):=by
 unfold Sx.rgcd;refine sZ (iV (kh p) (kh q)) ?_ ?_
 ·rw[iZ]
  have h1:=je h.hn k.hd;have h2:=je k.hn h.hd;rw[mJ j i] at h2;exact ur h1 h2
 ·have h1:=je h.hd k.hd
  have:2^(i+j)<=2^(i+j+(i+j)):=bW (by decide) (by omega);omega
def bG(f:aI):DV:= .ag [vI (cD (f.l.a:Rat)),vI (cE (f.l.a:Rat)),cB (f.l.a:Rat),vI (cD (f.l.b:Rat)),vI (cE (f.l.b:Rat)),cB (f.l.b:Rat),vI (cD (f.l.c:Rat)),vI (cE (f.l.c:Rat)),cB (f.l.c:Rat),vI (cD f.v.lo),vI (cE f.v.lo),cB f.v.lo,vI (cD f.v.hi),vI (cE f.v.hi),cB f.v.hi, .v (.bool f.v.nl), .v (.bool f.v.nh)]
structure Kx (v:aP):Prop where
 z:rQ v
 lo:BQ v.lo 1200
 hi:BQ v.hi 1200
structure E5 (s:aI):Prop where
 lb:LB s.l
 ok:s.l.ok
 v:Kx s.v
abbrev PO (c:bE):Prop:= ∀s∈c,E5 s
def Pc(o:Option aP):aP:=o.getD ⟨0,0,false,false⟩
def d7{α:Type}{f:α->DV}{l:List α}{i:Nat}{s:α}(h:l[i]? =some s):(l.map f)[(i:Int).toNat]? =some (f s):=by simp[h]
theorem BQ.z1:BQ (0:Rat) 1:=⟨by decide,by decide⟩
instance BQ.sample (v:aP) [h1:BQ v.lo 1200] [h2:BQ v.hi 1200]:BQ v.sample 2500:=by
 unfold aP.sample;split
 ·exact BQ.z1.mono (by decide)
 ·split
  ·exact BQ.mono (inferInstance:BQ (v.hi-((1:Int):Rat)) _) (by decide)
  ·split
   ·exact BQ.mono (inferInstance:BQ (v.lo+((1:Int):Rat)) _) (by decide)
   ·exact BQ.mono (inferInstance:BQ ((v.lo+v.hi)*mkRat 1 2) _) (by decide)

def Oz(c:bE)(l:ab)(i:Nat):Bool:=match c[i]? with
 |some s=>decide (bP s.l.dir l.dir=0)
 |none=>false
def cU:Tr->List DV
 | .leaf b=>[vI 0,vI 0, .v (.pointer none),vI 0,vI 0, .v (.pointer none),vI 0,vI 0, .v (.pointer none), .v (.pointer none), .v (.pointer none), .v (.bool b)]
 | .node l x y=>[vI (cD (l.a:Rat)),vI (cE (l.a:Rat)),cB (l.a:Rat),vI (cD (l.b:Rat)),vI (cE (l.b:Rat)),cB (l.b:Rat),vI (cD (l.c:Rat)),vI (cE (l.c:Rat)),cB (l.c:Rat), .pt (cU x), .pt (cU y), .v (.bool false)]
def eU(t:Tr):DV:= .pt (cU t)
def Tr.compl:Tr->Tr
 | .leaf b=> .leaf !b
 | .node l x y=> .node l x.compl y.compl
def Tr.chooseQ(op:Int)(b:Bool)(t:Tr)(c:bE):Tr:=
 if op=1\/op=2 then(if b=decide (op=1) then .leaf b else t.restrict c)
 else if op=3/\b=false then .leaf false
 else if b then(t.restrict c).compl else t.restrict c
def Tr.mergeQ(op:Int):Tr->Tr->bE->Tr
 | .leaf b,u,c=>u.chooseQ op b c
 | .node l x y,u,c=>if !gw c l.rev then x.mergeQ op u c else if !gw c l then y.mergeQ op u c else joinQ l (x.mergeQ op u (ge c l)) (y.mergeQ op u (ge c l.rev))
def Fh:DV:= .ag [vI 0,vI 0, .v (.pointer none),vI 0,vI 0, .v (.pointer none),vI 0,vI 0, .v (.pointer none)]
def N8:Option ab->DV
 |some l=> .tp [jn l,vB true]
 |none=> .tp [Fh,vB false]
def r9(n:Bool)(ds:List Nat):Prop:=cG ds/\(n=true->0<ds.length)
instance (n:Bool) (ds:List Nat):Decidable (r9 n ds):=inferInstanceAs (Decidable (_/\_))
structure RL where
 na:Bool
 da:List Nat
 nb:Bool
 db:List Nat
 nc:Bool
 dc:List Nat
def RL.d(r:RL):DV:= .ag [.v (.bool r.na),d8 r.da, .v (.bool r.nb),d8 r.db, .v (.bool r.nc),d8 r.dc]
def u'(n:Bool)(ds:List Nat):Int:=if n then-(dv ds:Int) else dv ds
def RL.l(r:RL):ab:=⟨u' r.na r.da,u' r.nb r.db,u' r.nc r.dc⟩
def RL.nm(r:RL):Prop:=r9 r.na r.da/\r9 r.nb r.db/\r9 r.nc r.dc
instance (l:ab):Decidable l.ok:=inferInstanceAs (Decidable (_/\_))
instance (r:RL):Decidable r.nm:=inferInstanceAs (Decidable (_/\_/\_))
def RL.ln(r:RL):Option ab:=if r.nm/\r.l.ok then some r.l else none
structure RL.sm (r:RL):Prop where
 a:bj r.da/\r.da.length<=3
 b:bj r.db/\r.db.length<=3
 c:bj r.dc/\r.dc.length<=3
def Na(n:Nat)(f:Nat->Bool):List Value:=(List.range n).map fun j=> .bool (f j)
def ny(f:Nat->Bool)(i:Nat):Nat->Bool:=fun j=>f j||Nat.beq j i
structure RN where
 g:RL
 l:Int
 r:Int
def RN.d(n:RN):DV:= .ag [.v (.bool n.g.na),d8 n.g.da, .v (.bool n.g.nb),d8 n.g.db, .v (.bool n.g.nc),d8 n.g.dc, .v (.int .i64 n.l), .v (.int .i64 n.r)]
structure RS where
 f:Nat->Bool
 c:Nat
 b:Bool
inductive RR (ns:List RN):Int->RS->Tr->RS->Prop where
 |leaf (b:Bool) (s:RS):RR ns (sW b) s (.leaf b) s
 |ij (rt:Int) (s:RS) (h1:rt≠ -1) (h2:rt≠ -2) (h:rt<0\/(ns.length:Int)<=rt\/(∃k:Nat,rt=k/\k<ns.length/\s.f k=true)):RR ns rt s (.leaf false) ⟨s.f,s.c,true⟩
 |line (k:Nat) (n:RN) (s:RS) (h:ns[k]? =some n) (hf:s.f k=false) (hl:n.g.ln=none):RR ns (k:Int) s (.leaf false) ⟨ny s.f k,s.c+1,true⟩
 |node (k:Nat) (n:RN) (l:ab) (s s2 s3:RS) (x y:Tr) (h:ns[k]? =some n) (hf:s.f k=false) (hl:n.g.ln=some l) (h1:RR ns n.l ⟨ny s.f k,s.c+1,s.b⟩ x s2) (h2:RR ns n.r s2 y s3):RR ns (k:Int) s (.node l x y) s3
abbrev P1 (x:SV) (ns:List RN) (A:Gh):Prop:= ∃es,di A 8 x es/\IsLs A (ns.map RN.d) es
def Jo:RS:=⟨fun _=>false,0,false⟩
def Oo(ns:List RN)(t:Tr)(s:RS):DV:=if s.b=false/\s.c=ns.length then .tp [eU t,vB true] else .tp [.v (.pointer none),vB false]
def E1(rt:Int)(ns:List RN):DV:= .ag [vI rt, .sl (ns.map RN.d)]

def Tr.pre:Tr->List Tr
 | .leaf b=>[.leaf b]
 | .node l x y=> .node l x y::(x.pre++y.pre)
structure Nd (f:FuncId) (c2:List Value) (σ:Type) (step:σ->Tr->σ) (ok:σ->Tr->Prop) (Inv:σ->List ao->Gh->Prop):Prop where
 up: ∀{s B G G'},aO G G'->Inv s B G->Inv s B G'
 re: ∀{s B G} (fl:Nat->Bool),Inv s B G->Inv s (B.map (relo fl)) G
 go: ∀{s t p B G},ok s t->Inv s B G->Is G (eU t) (.pointer p)->ja prog f (.pointer p::c2) B G (fun _ B' G'=>Inv (step s t) B' G')
section
variable {P:Program} {C:au} {n:Nat} {fr:Fr} {own:List ao} {G:Gh}
end
def C5{σ:Type}(step:σ->Tr->σ)(ok:σ->Tr->Prop):σ->List Tr->Prop
 |_,[]=>True
 |s,t::ts=>ok s t/\C5 step ok (step s t) ts
structure EX (σ:Type) where
 ts:List Tr
 vs:List Value
 rest:List Value
 b:Nat
 cap:Nat
 lo:Bool
 s:σ
 B:List ao
def GX(t:Tr):Nat:=2*t.size+1
def Em(ts:List Tr):List Tr:=ts.reverse.flatMap Tr.pre
structure EI (A:Gh) {σ:Type} (step:σ->Tr->σ) (ok:σ->Tr->Prop) (Inv:σ->List ao->Gh->Prop) (N:Nat) (fin:σ) (x:EX σ) (G:Gh):Prop where
 rel:kP (fun v t=> ∃p,v= .pointer p/\Is A (eU t) (.pointer p)) x.vs x.ts
 cap:x.vs.length+x.rest.length=x.cap
 inv:Inv x.s x.B G
 mu:(x.ts.map GX).sum<=N
 okf:C5 step ok x.s (Em x.ts)
 fin:(Em x.ts).foldl step x.s=fin
def NF(nbk:Nat)(s:Nat)(B:List ao)(_:Gh):Prop:= ∃lo,B=[⟨nbk,[.int .i64 s],3,lo⟩]
def Nc(s:Nat):Tr->Nat
 | .leaf _=>s
 | .node .. =>s+1
def Ng(n:Nat)(f:Nat->Bool):Nat:=((List.range n).filter fun j=>!f j).length
def u5(ns:List RN):Nat->Int->RS->Tr×RS
 |0,_,s=>(.leaf false,s)
 |m+1,rt,s=>
  if rt= -1 then(.leaf false,s) else if rt= -2 then(.leaf true,s) else
  match ns[rt.toNat]? with
  |none=>(.leaf false,⟨s.f,s.c,true⟩)
  |some n=>if rt<0\/s.f rt.toNat=true then(.leaf false,⟨s.f,s.c,true⟩) else
   match n.g.ln with
   |none=>(.leaf false,⟨ny s.f rt.toNat,s.c+1,true⟩)
   |some l=>let a:=u5 ns m n.l ⟨ny s.f rt.toNat,s.c+1,s.b⟩;let b:=u5 ns m n.r a.2;(.node l a.1 b.1,b.2)
def Hv(ns:List RN)(rt:Int):Option Tr:=
 let r:=u5 ns (ns.length+1) rt Jo
 if r.2.b=false/\r.2.c=ns.length then some r.1 else none
def M2:Option Tr->DV
 |some t=> .tp [eU t,vB true]
 |none=> .tp [.v (.pointer none),vB false]
end Go.Sx
end
section
namespace Go.Sx
open Go Go.Proofs Go.RowKit Go.Extern.Stop Go.Stop Go.Extern
def NA:TypeId->Sem Value:=fun t=>do Go.Extern.Rtype.noPackHeld "Comparable" t;pure (.bool (<-typeInfo t).comparable)
def qB(a:Addr):DV:= .v (.iface 340 (.pointer (some a)))
end Go.Sx
end
section
namespace Go.Sx
open Go Go.Proofs Tryz
variable {GB:Gh}
structure EG (GB:Gh) (ai al ae:Addr):Prop where
 ErrInvalid:GB 0=some [.iface 340 (.pointer (some ai))]
 ErrLimit:GB 2=some [.iface 340 (.pointer (some al))]
structure Tr.gd (t:Tr):Prop where
 lb:t.all LB
 ok:t.all ab.ok
def y4(op:Int)(a b:Tr):Option Tr:=if 1024<a.depth+b.depth then none else if 65536<(a.mergeQ op b []).size then none else some (a.mergeQ op b [])
def Og(al:Addr):Option Tr->DV
 |some t=> .tp [eU t, .v .nilIface]
 |none=> .tp [.v (.pointer none),qB al]
def yn(op:Int):Tr->List Tr->Option Tr
 |t,[]=>some t
 |t,u::us=>match y4 op t u with
  |none=>none
  |some r=>yn op r us
def uA:DV:= .ag [vI 0, .sl []]
def NY:Tr ⊕ Addr->DV
 | .inl t=> .tp [eA t, .v .nilIface]
 | .inr e=> .tp [uA,qB e]
def M5(ai:Addr):Option Tr->Tr ⊕ Addr
 |some t=> .inl t.compl
 |none=> .inr ai
def CY(al:Addr):Option Tr->Tr ⊕ Addr
 |some t=> .inl t
 |none=> .inr al
def Nn(ai al:Addr)(op:Int):Option Tr->Option Tr->Tr ⊕ Addr
 |some a,some b=>if 1<=op/\op<=4 then CY al (y4 op a b) else .inr ai
 |_,_=> .inr ai
abbrev ky:=Int×List RN
def ky.d(x:ky):DV:=E1 x.1 x.2
def ky.q(x:ky):Option Tr:=Hv x.2 x.1
def Ld:Option Tr->DV
 |some t=>eU t
 |none=> .v (.pointer none)
def Mi(op:Int)(ts:List ky):Bool:=decide (1<=op/\op<=4)&&ts.all fun x=>x.q.isSome
def OZ(ai al ae:Addr)(op:Int)(ts:List ky):Tr ⊕ Addr:=
 if Mi op ts then(match ts.filterMap ky.q with
  |[]=> .inr ae
  |a::us=>if 1024<a.depth then .inr al else CY al (yn op (a.restrict []) us)) else .inr ai
def OM(ts:List ky):List DV:=ts.map fun x=>Ld x.q
structure ky.ok (x:ky):Prop where
 s: ∀n∈x.2,n.g.sm
 n:x.2.length<=65536
def RN.of(n:NQ):RN:=⟨⟨decide (n.l.a<0),dg n.l.a.natAbs,decide (n.l.b<0),dg n.l.b.natAbs,decide (n.l.c<0),dg n.l.c.natAbs⟩,n.a,n.b⟩
def uh(ns:List NQ):Tr->Int->List Nat->Prop
 | .leaf b,rt,L=>rt=sW b/\L=[]
 | .node l x y,rt,L=> ∃(k:Nat) (a b:Int) (L1 L2:List Nat),rt=(k:Int)/\ns[k]? =some ⟨l,a,b⟩/\uh ns x a L1/\uh ns y b L2/\L=k::(L1++L2)
def Ox(ns:List NQ)(t:Tr)(rt:Int):Prop:= ∃L,uh ns t rt L/\L.Nodup/\L.length=ns.length
def xl{a i:Nat}[ha:BN a i](hi:i<=400000000:=by decide):PF GB prog 94 [dN a] (dN a):=by
 have hl:=D8 (dg a);have hb:=rX ha.h;refine fn func94 J J ntmps94 J J (fun C=>?_);refine L8 J J<|ap ((dg a).map dU) J J (sG _) J<|?_;refine me 5 J ?_;exact rz J J
def Js{z:Int}{i:Nat}[hz:BI z i](hi:i<=400000000:=by decide):PF GB prog 93 [eI z] (eI z):=by
 refine fn func93 J J ntmps93 J J (fun C=>?_);refine cl J (xl (a:=z.natAbs) (i:=i) (ha:=⟨hz.h⟩) hi) J<|?_;exact rz J J
def MW(r:RL):DV:= .tp [if r.nm then eL r.l else .ag [.v (.bool false), .sl [], .v (.bool false), .sl [], .v (.bool false), .sl []],vB (decide (r.nm/\r.l.ok))]
def smB(n:Int)(ls:List (List Nat)):Bool:=ls.all fun d=>decide ((d.length:Int)<=n)
def RL.smB(n:Int)(r:RL):Bool:=Sx.smB n [r.da,r.db,r.dc]
def N1(n:Int)(ls:List RL):Bool:=ls.all fun r=>r.smB n
def Pi(cs:List RL):Option (List ab):=if cs.all (fun r=>r.ln.isSome) then some (cs.filterMap RL.ln) else none
def O7:Option (List ab)->DV
 |some ls=> .tp [.sl (ls.map jn),vB true]
 |none=> .tp [.sl [],vB false]
def M4:Option bE->DV
 |some c=> .tp [.sl (c.map bG),vB true]
 |none=> .tp [.sl [],vB false]
def Nw(ai al:Addr)(more:Nat):Option Tr->DV
 |none=> .tp [.v (.pointer none),qB ai]
 |some t=>if 1024<t.depth+more then .tp [.v (.pointer none),qB al] else .tp [eU t, .v .nilIface]
def Oh(ai:Addr)(f:Tr->Tr):Option Tr->Tr ⊕ Addr
 |some t=> .inl (f t)
 |none=> .inr ai
def OP(ai ae:Addr):Option Tr->Option (List ab)->Tr ⊕ Addr
 |some t,some ls=>(match BO ls [] with
  |some c=> .inl (t.restrict c)
  |none=> .inr ae)
 |_,_=> .inr ai
def NO(ai:Addr):Option ab->Option Tr->DV
 |some m,some t=> .tp [eA (t.restrict (ge [] m)),eA (t.restrict (ge [] m.rev)), .v .nilIface]
 |_,_=> .tp [uA,uA,qB ai]

def Tr.val:Tr->aa->Bool
 | .leaf b,_=>b
 | .node l x y,p=>if 0<l.value p then x.val p else y.val p
def Tr.lns:Tr->List ab
 | .leaf _=>[]
 | .node l x y=>l::(x.lns++y.lns)
def Hk(L:List ab)(p:aa):Prop:= ∀l∈L,l.value p≠0
def P9(op:Int)(a b:Bool):Bool:=if op=1 then a||b else if op=2 then a&&b else if op=3 then a&&!b else a !=b
def Tr.Red:Tr->bE->Prop
 | .leaf _,_=>True
 | .node l x y,c=>gw c l=true/\gw c l.rev=true/\x.Red (ge c l)/\y.Red (ge c l.rev)/\ ¬(x.isLeaf=true/\y.isLeaf=true/\x.code=y.code)
def ab.same(l m:ab):Prop:=m=l\/m=l.rev
instance (l m:ab):Decidable (l.same m):=inferInstanceAs (Decidable (_\/_))
def Tr.cnt(l:ab):Tr->Nat
 | .leaf _=>0
 | .node m x y=>(if l.same m then 1 else 0)+(x.cnt l+y.cnt l)
def Ob(l:ab)(c:bE):Prop:= ∃p,mC c p/\l.value p=0
def Om(c:bE)(p:aa):Bool:=c.all fun s=>decide (0<s.l.value p)
def Pr(P:List aa)(l:ab)(t:Tr):Prop:=t.all fun m=>l.same m\/ ∀p,l.value p=0->m.value p=0->p∈P
def Hf(K:List ab)(t:Tr):Prop:=t.all fun n=> ∃m∈K,m.same n
def O4(l m:ab):aa:=l.at (-(l.cutC m/l.cutK m))
def Kc(t:Tr):List ab->Nat
 |[]=>0
 |l::K=>t.cnt l+Kc t K
def Ks(n:ab):List ab->Nat
 |[]=>0
 |l::K=>(if l.same n then 1 else 0)+Ks n K
def Tr.chooseL(op:Int)(b:Bool)(t:Tr)(c:List ab):Tr:=
 if op=1/\b=true then .leaf true
 else if(op=2\/op=3)/\b=false then .leaf false
 else if(op=3\/op=4)/\b=true then(t.restrictL c).compl else t.restrictL c
def Tr.mergeL(op:Int):Tr->Tr->List ab->Tr
 | .leaf b,u,c=>u.chooseL op b c
 | .node l x y,u,c=>if rL c l=1 then x.mergeL op u c else if rL c l= -1 then y.mergeL op u c else joinQ l (x.mergeL op u (k9 (c++[l]))) (y.mergeL op u (k9 (c++[l.rev])))
structure Ok (L:List ab) (a b:Tr):Prop where
 oa:a.all ab.ok
 ob:b.all ab.ok
 ok: ∀l∈L,l.ok
 la: ∀l∈a.lns,l∈L
 lb: ∀l∈b.lns,l∈L
def od(x:Rat):List Rat->List Rat
 |[]=>[x]
 |u::t=>if u<x then u::od x t else if u=x then u::t else x::u::t
def vH(l:List Rat):List Rat:=l.foldl (fun out x=>od x out) []
def yz:List Rat->List Rat
 |a::b::t=>(a+b)/2::yz (b::t)
 |_=>[]
def s6:List Rat->List Rat
 |[]=>[0]
 |a::t=>(a-1)::(yz (a::t)++[(a::t).getLast (by simp)+1])
def x9:List ab->List Rat
 |[]=>[]
 |a::t=>(if a.b=0 then [a.base.x] else [])++(t.filterMap (fun b=>if crossI a b=0 then none else some (jr a b).x)++x9 t)
def yA(a:ab)(x:Rat):Rat:= -(((a.a:Rat)*x+(a.c:Rat))/(a.b:Rat))
def Dw(l:List ab)(x:Rat):List Rat:=l.filterMap fun a=>if a.b=0 then none else some (yA a x)
def EB(l:List ab):List aa:=(s6 (vH (x9 l))).flatMap fun x=>(s6 (vH (Dw l x))).map fun y=>⟨x,y⟩
def Nm(l:ab)(p:aa):ab:=if 0<l.value p then l else l.rev
def xt(out:List Rat)(s:aP):List Rat:=if s.nh then(if s.nl then out else od s.lo out) else od s.hi (if s.nl then out else od s.lo out)
def uW(l:List aP):List Rat:=l.foldl xt []
def zu:List aP->Rat->Int
 |[],_=>0
 |s::t,x=>
  let a:=if s.nl then 1 else bw x s.lo
  let b:=if s.nh then-1 else bw x s.hi
  if 0<a/\b<0 then 2 else if(a=0/\b<=0)\/(b=0/\0<=a) then 1 else zu t x
def Ej(l:List aP)(x:Rat):Bool:=decide (zu l x=2)
def vk(cuts:List Rat)(i:Nat):aP:=⟨if i=0 then 0 else cuts.getD (i-1) 0,if i<cuts.length then cuts.getD i 0 else 0,decide (i=0),decide (i=cuts.length)⟩
def Ge(v w:aP):aP:=⟨v.lo,w.hi,v.nl,w.nh⟩
def Ar(cuts:List Rat)(marks:List Bool):Nat->List aP
 |0=>[]
 |k+1=>
  let out:=Ar cuts marks k
  if marks.getD k false then
   (if 0<k/\marks.getD (k-1) false=true then(match out.getLast? with
    |some v=>out.dropLast++[Ge v (vk cuts k)]
    |none=>out++[vk cuts k]) else out++[vk cuts k])
  else out
def Hn(cuts:List Rat)(marks:List Bool):List aP:=Ar cuts marks marks.length
def GH(op:Int)(x y:Bool):Bool:=if op=2 then x&&y else if op=3 then x&&!y else if op=4 then x !=y else x||y
def KP(op:Int)(a b:List aP):List aP:=Hn (uW (a++b)) ((s6 (uW (a++b))).map fun t=>GH op (Ej a t) (Ej b t))
def DH(l m:ab)(side:Int):List aP:=
 if crossI l m=0 then(if(m.value l.base).num.sign=side then [aP.all] else [])
 else if(m.value (l.at (dq l (jr l m)+1))).num.sign=side then [⟨dq l (jr l m),0,false,true⟩] else [⟨0,dq l (jr l m),true,false⟩]
def AZ(l m:ab):Bool:=decide (crossI l m=0/\(m.value l.base).num.sign=0)
def qX(f:aI)(m:ab)(side:Int):List aI:=if AZ f.l m then [] else(KP 2 [f.v] (DH f.l m side)).map fun v=>⟨f.l,v⟩
structure PD (cuts:List Rat) (v:aP):Prop where
 z:rQ v
 lo:v.nl=true\/v.lo∈cuts
 hi:v.nh=true\/v.hi∈cuts
structure pW (f:aI):Prop where
 lb:LB f.l
 ok:f.l.ok
 z:rQ f.v
 lo:BQ f.v.lo 1200
 hi:BQ f.v.hi 1200
def tQ(acc:aa->Bool):Nat->List aI->List ab->Tr
 |_,[],c=> .leaf (acc (Ex c c))
 |0,_::_,_=> .leaf false
 |n+1,f::t,c=> .node f.l (tQ acc n ((f::t).flatMap fun g=>qX g f.l 1) (c++[f.l])) (tQ acc n ((f::t).flatMap fun g=>qX g f.l (-1)) (c++[f.l.rev]))
def Nf(n:Nat)(l:List aI):Prop:= ∃K:List ab,K.length<=n/\ ∀f∈l,∃m∈K,m.same f.l
def LU{p q r:Bool}{a b c:Nat}(h:Nat.gcd a b≠0):ab.ok ⟨zv p (a/Nat.gcd (Nat.gcd a b) c),zv q (b/Nat.gcd (Nat.gcd a b) c),zv r (c/Nat.gcd (Nat.gcd a b) c)⟩:=by
 have hg:0<Nat.gcd (Nat.gcd a b) c:=mQ _ (iQ h);have d0:Nat.gcd (Nat.gcd a b) c∣Nat.gcd a b:=iS _ _;have d1:Nat.gcd (Nat.gcd a b) c∣a:=Nat.dvd_trans d0 (iS _ _);have d2:Nat.gcd (Nat.gcd a b) c∣b:=Nat.dvd_trans d0 (kW _ _);have d3:Nat.gcd (Nat.gcd a b) c∣c:=kW _ _;refine⟨?_,?_⟩
 ·rintro ⟨h1,h2⟩
  have h1':=congrArg Int.natAbs h1;have h2':=congrArg Int.natAbs h2;simp only[ki,Int.natAbs_zero] at h1' h2';have e1:=Nat.div_mul_cancel d1;have e2:=Nat.div_mul_cancel d2;rw[h1',jX] at e1;rw[h2',jX] at e2;exact h (by rw[<-e1,<-e2];rfl)
 ·simp only[ki]
  rw[Nat.gcd_div d1 d2,Nat.gcd_div d0 d3,Nat.div_self hg]
def uX(p:Bool)(a g:Nat):(zv p (a/g)).natAbs<=a:=by rw[ki];exact iW ..
def iP(m n:Int):aa:=⟨(m:Rat),(n:Rat)⟩
theorem wP{m:Int}{k:Nat}(h:m.natAbs<=1000)(hk:10<=k):BI m k:=⟨cN (show m.natAbs<2^10 by omega) (bW (by decide) hk)⟩
instance av.int (m n:Int) (i:Nat) [h:BI m i] [k:BI n i]:av (iP m n) (i+1):=⟨inferInstanceAs (BQ (m:Rat) (i+1)),inferInstanceAs (BQ (n:Rat) (i+1))⟩
def eB(a b c:Int):ab:=
 ⟨zv (decide (a<0)) (a.natAbs/Nat.gcd (Nat.gcd a.natAbs b.natAbs) c.natAbs),zv (decide (b<0)) (b.natAbs/Nat.gcd (Nat.gcd a.natAbs b.natAbs) c.natAbs),zv (decide (c<0)) (c.natAbs/Nat.gcd (Nat.gcd a.natAbs b.natAbs) c.natAbs)⟩
def FG{a b c:Int}(h: ¬(a=0/\b=0)):(eB a b c).ok:=
 LU fun e=>h ⟨lL.1 (Nat.eq_zero_of_gcd_eq_zero_left e),lL.1 (Nat.eq_zero_of_gcd_eq_zero_right e)⟩
def BU(a b c:Int):(eB a b c).a.natAbs<=a.natAbs/\(eB a b c).b.natAbs<=b.natAbs/\(eB a b c).c.natAbs<=c.natAbs:=⟨uX ..,uX ..,uX ..⟩
def se{m n:Int}(hm:m.natAbs<=1000)(hn:n.natAbs<=1000):PF GB prog 33 [.v (.int .i64 m), .v (.int .i64 n)] (eP (iP m n)):=by
 refine fn func33 J J ntmps33 J J (fun C=>?_);refine cl J (BZ (n:=m) (by omega) (by omega)) J<|cl J (BZ (n:=n) (by omega) (by omega)) J<|?_;exact rz J J
def iG(n n':Int):Int:= -(n'-n)
def iD(m m':Int):Int:=m'-m
def mj(m n m' n':Int):Int:= -(iG n n'*m+iD m m'*n)
def jl(m n m' n':Int):ab:=eB (iG n n') (iD m m') (mj m n m' n')
def zg{a b:Int}(ha:a.natAbs<=2000)(hb:b.natAbs<=1000):(a*b).natAbs<=2000000:=by
 rw[fV];exact kU ha hb
def ba(es:List Int)(n:Int)(a:Nat):Nat×Nat:=
 if h:a<es.length then((if Int.tmod es[a] n<0 then Int.tmod es[a] n+n else Int.tmod es[a] n).toNat,a+1) else(0,a)
def pF(es:List Int)(a:Nat):(Int×Int)×Nat:=((((ba es 9 a).1:Int)-4,((ba es 9 (ba es 9 a).2).1:Int)-4),(ba es 9 (ba es 9 a).2).2)
def vF(es:List Int)(a:Nat):(Int×Int)×Nat:=if(pF es a).1.1=0/\(pF es a).1.2=0 then((1,0),(pF es a).2) else pF es a
def lF(es:List Int)(a:Nat):ab×Nat:=(jl (pF es a).1.1 (pF es a).1.2 ((pF es a).1.1+1*(vF es (pF es a).2).1.1) ((pF es a).1.2+1*(vF es (pF es a).2).1.2),(vF es (pF es a).2).2)
def gA(es:List Int):Nat->Nat->Tr×Nat
 |0,a=>(.leaf (decide (((ba es 2 a).1:Int)=1)),(ba es 2 a).2)
 |d+1,a=>if((ba es 4 a).1:Int)=0 then(.leaf (decide (((ba es 2 (ba es 4 a).2).1:Int)=1)),(ba es 2 (ba es 4 a).2).2) else
  (.node (lF es (ba es 4 a).2).1 (gA es d (lF es (ba es 4 a).2).2).1 (gA es d (gA es d (lF es (ba es 4 a).2).2).2).1,(gA es d (gA es d (lF es (ba es 4 a).2).2).2).2)
abbrev ZP:=Int×Int
def ZP.q(p:ZP):aa:=iP p.1 p.2
def ZP.le(k:Nat)(p:ZP):Prop:=p.1.natAbs<=k/\p.2.natAbs<=k
def Ac(p q:ZP):ZP:=(p.1+1*q.1,p.2+1*q.2)
def ya(u v:ZP):Int:=u.1*v.2-u.2*v.1
theorem J3{m n p q:Int}(hm:m.natAbs<=1000)(hn:n.natAbs<=1000)(hp:p.natAbs<=1000)(hq:q.natAbs<=1000)(h: ¬(p=m/\q=n)):LB (jl m n p q)/\(jl m n p q).ok:=by
 have e1:(iG n q).natAbs<=2000:=by unfold iG;omega
 have e2:(iD m p).natAbs<=2000:=by unfold iD;omega
 have e3:=zg e1 hm;have e4:=zg e2 hn;have e5:(mj m n p q).natAbs<=4000000:=by unfold mj;omega
 unfold jl;obtain⟨k1,k2,k3⟩:=BU (iG n q) (iD m p) (mj m n p q);have hb:(2:Nat)^96=79228162514264337593543950336:=by decide
 refine⟨⟨⟨?_,?_,?_⟩⟩,FG ?_⟩
 ·rw[hb];omega
 ·rw[hb];omega
 ·rw[hb];omega
 ·unfold iG iD;omega
def ju(v w:ZP):aI:=⟨jl v.1 v.2 w.1 w.2,⟨dq (jl v.1 v.2 w.1 w.2) v.q,dq (jl v.1 v.2 w.1 w.2) w.q,false,false⟩⟩
def fC(r:List ZP)(i:Nat):ZP:=r.getD ((i+1)%r.length) (0,0)
def ji(r:List ZP):Nat->List aI
 |0=>[]
 |k+1=>ji r k++[ju (r.getD k (0,0)) (fC r k)]
def gr(r:List ZP):List aI:=ji r r.length
structure jz (r:List ZP):Prop where
 n3:3<=r.length
 n6:r.length<=6
 le: ∀p∈r,ZP.le 100 p
 ne: ∀i<r.length,r.getD i (0,0)≠fC r i
def po{r:List ZP}{i:Nat}(h:i<r.length):r.getD i (0,0)∈r:=by
 rw[aV,aX h];exact mY h
def qH{r:List ZP}{i:Nat}(h:i<r.length):fC r i∈r:=po (cM _ (by omega))
theorem BQ.int1200{m:Int}(h:m.natAbs<=1000):BQ (m:Rat) 1200:=by
 haveI:BI m 11:=wP h (by decide);exact BQ.mono (inferInstance:BQ (m:Rat) 12) (by decide)
theorem D5{l:ab}(hl:LB l)(ho:l.ok){m n:Int}(hm:m.natAbs<=1000)(hn:n.natAbs<=1000):BQ (dq l (iP m n)) 1200:=by
 haveI:=wP (k:=11) hm (by decide);haveI:=wP (k:=11) hn (by decide);have hd:=xd ho.ne;have hA:BI (l.a*l.a+l.b*l.b) _:=inferInstance;have hB:BI (m*l.b-n*l.a) _:=inferInstance;have hA':=yc (j:=1200) hA (by decide);have hB':=yc (j:=1200) hB (by decide);have e1:l.dir.dot l.dir=((l.a*l.a+l.b*l.b:Int):Rat):=by
  rw[Rat.intCast_add,dK,dK];simp only[ab.dir,aa.dot];grind
 have e2:(iP m n).dot l.dir=((m*l.b-n*l.a:Int):Rat):=by
  rw[Rat.intCast_sub,dK,dK];simp only[ab.dir,aa.dot,iP];grind
 have hd':((0:Int):Rat)<((l.a*l.a+l.b*l.b:Int):Rat):=by rw[<-e1];exact hd
 unfold dq;rw[e2,e1];clear hA hB e1 e2;generalize l.a*l.a+l.b*l.b=D at*;generalize m*l.b-n*l.a=M at*;have hD:0<D:=Rat.intCast_lt_intCast.1 hd';refine BQ.of_fracI (n:=M) (D:=D) (by omega) ?_ hB' hA';have h0:(D:Rat)≠0:=fun e=>by rw[e] at hd';exact absurd hd' (by decide)
 have:((D.natAbs:Nat):Rat)=(D:Rat):=by
  have h1:((D.natAbs:Nat):Int)=D:=by omega
  rw[<-h1];rfl
 rw[this];grind
def DZ{v w:ZP}(hv:ZP.le 100 v)(hw:ZP.le 100 w)(h:v≠w):pW (ju v w):=by
 obtain⟨h1,h2⟩:=J3 (m:=v.1) (n:=v.2) (p:=w.1) (q:=w.2) (by have:=hv.1;omega) (by have:=hv.2;omega) (by have:=hw.1;omega) (by have:=hw.2;omega) (fun e=>h (Prod.ext e.1.symm e.2.symm));exact⟨h1,h2,⟨fun e=>(by cases e),fun e=>(by cases e)⟩,D5 h1 h2 (by have:=hv.1;omega) (by have:=hv.2;omega),D5 h1 h2 (by have:=hw.1;omega) (by have:=hw.2;omega)⟩
def Co{r:List ZP}(h:jz r): ∀{k:Nat},k<=r.length->(ji r k).length=k/\ ∀f∈ji r k,pW f
 |0,_=>⟨J,fun f hf=>by cases hf⟩
 |k+1,hk=>by
  obtain⟨h1,h2⟩:=Co h (k:=k) (by omega);rw[ji];refine⟨by simp[h1],fun f hf=>?_⟩;rcases dR.1 hf with hf|hf
  ·exact h2 f hf
  ·rw[aL] at hf;subst hf
   exact DZ (h.le _ (po (by omega))) (h.le _ (qH (by omega))) (h.ne k (by omega))
def tx{r:List ZP}(h:jz r):(gr r).length=r.length/\ ∀f∈gr r,pW f:=Co h (bZ _)
def dl(rs:List (List ZP)):List aI:=rs.flatMap gr
def wV: ∀{rs:List (List ZP)},(∀r∈rs,jz r)->(dl rs).length<=6*rs.length/\ ∀f∈dl rs,pW f
 |[],_=>⟨bZ _,fun f hf=>by cases hf⟩
 |r::rs,h=>by
  obtain⟨h1,h2⟩:=wV (rs:=rs) fun q hq=>h q (aK _ hq);obtain⟨k1,k2⟩:=tx (h r aQ);have:=(h r aQ).n6;unfold dl at*;rw[List.flatMap_cons];refine⟨by rw[bX,k1,bT];omega,fun f hf=>?_⟩;rcases dR.1 hf with hf|hf
  ·exact k2 f hf
  ·exact h2 f hf
def vA(a b c:aa):Int:=(aa.cross (ee b a (-1)) (ee c a (-1))).num.sign
def L0(v w p:aa):Int:=
 (if bw v.y p.y<=0/\ ¬bw w.y p.y<=0/\0<vA v w p then 1 else 0)-(if¬bw v.y p.y<=0/\bw w.y p.y<=0/\vA v w p<0 then 1 else 0)
def zt(r:List ZP)(p:aa):Nat->Int
 |0=>0
 |k+1=>zt r p k+L0 (r.getD k (0,0)).q (fC r k).q p
def Mo(r:List ZP)(p:aa):Int:=zt r p r.length
def eO(fill n:Int):Bool:=(decide (fill=1)&&decide (n.tmod 2≠0))||(decide (fill=2)&&decide (n≠0))
def EA(rs:List (List ZP))(fill:Int)(p:aa):Bool:=eO fill (rs.foldl (fun n r=>n+Mo r p) 0)
def LX(rs:List (List ZP))(fill:Int):Tr:=tQ (EA rs fill) (dl rs).length (dl rs) []
def rB(rs:List (List ZP))(fill:Int):Tr:=(LX rs fill).restrict []
structure I7 (k:Nat) (t:Tr):Prop where
 gd:t.gd
 dp:t.depth<=k
 am: ∃K:List ab,K.length<=k/\(∀l∈K,l.ok)/\Hf K t
def Az(p q:ZP):Int:=if p.1<q.1 then-1 else if q.1<p.1 then 1 else if p.2<q.2 then-1 else if q.2<p.2 then 1 else 0
def EM(x:ZP):List ZP->List ZP
 |[]=>[x]
 |u::t=>if Az u x<0 then u::EM x t else if Az u x=0 then u::t else x::u::t
def FP(l:List ZP):List ZP:=l.foldl (fun out x=>EM x out) []
def mz(a b c d:Int):List ZP:=[(a,b),(c,b),(c,d),(a,d)]
def Kw{a b c d:Int}(h1:a.natAbs<=50)(h2:b.natAbs<=50)(h3:c.natAbs<=50)(h4:d.natAbs<=50)(h5:a<c)(h6:b<d):jz (mz a b c d):=by
 refine⟨by simp[mz],by simp[mz],fun p hp=>?_,fun i hi=>?_⟩
 ·simp only[mz,bQ,jS,or_false] at hp
  rcases hp with rfl|rfl|rfl|rfl<;>exact⟨by dsimp only;omega,by dsimp only;omega⟩
 ·have:i=0\/i=1\/i=2\/i=3:=by simp[mz] at hi;omega
  rcases this with rfl|rfl|rfl|rfl<;>simp[mz,fC]<;>omega
def Ca(p u v:ZP):List ZP:=[p,Ac p u,Ac p v]
def sw(es:List Int):Nat->Nat->List ZP->List ZP×Nat
 |0,a,out=>(out,a)
 |n+1,a,out=>sw es n (pF es a).2 (if out.getLast? =some (pF es a).1 then out else out++[(pF es a).1])
structure PK (r:List ZP):Prop where
 ne: ∀i,i+1<r.length->r.getD i (0,0)≠r.getD (i+1) (0,0)
 le: ∀p∈r,ZP.le 100 p
def t6:Nat->List ZP->List ZP
 |0,l=>l
 |n+1,l=>if 1<l.length/\l.getD 0 (0,0)=l.getD (l.length-1) (0,0) then t6 n l.dropLast else l
def LT:List ZP:=[(0,0),(2,0),(0,2)]
def AC(es:List Int)(a:Nat):List ZP×Nat:=
 ((if(FP (t6 6 (sw es (3+(ba es 4 a).1) (ba es 4 a).2 []).1)).length<3 then LT else t6 6 (sw es (3+(ba es 4 a).1) (ba es 4 a).2 []).1),(sw es (3+(ba es 4 a).1) (ba es 4 a).2 []).2)
def yr(es:List Int)(n m k:Int)(a:Nat):List ZP×Nat:=
 let x:=ba es n a
 let y:=ba es n x.2
 let z:=ba es m y.2
 let w:=ba es m z.2
 (mz ((x.1:Int)-k) ((y.1:Int)-k) ((x.1:Int)-k+1+z.1) ((y.1:Int)-k+1+w.1),w.2)
def Cs(es:List Int)(a:Nat):List ZP×Nat:=
 let k:=ba es 4 a
 if(k.1:Int)=0 then yr es 5 4 4 k.2
 else if(k.1:Int)=1 then
  let p:=pF es k.2
  let u:=vF es p.2
  let v:=vF es u.2
  if ya u.1 v.1≠0 then(Ca p.1 u.1 v.1,v.2) else AC es v.2
 else AC es k.2
def LQ:List ZP:=[(0,0),(1,0),(0,1)]
def Ep(es:List Int)(a:Nat):List ZP×Nat:=
 let k:=ba es 2 a
 if(k.1:Int)=0 then yr es 3 2 1 k.2
 else
  let x:=ba es 3 k.2
  let y:=ba es 3 x.2
  let u1:=ba es 2 y.2
  let u2:=ba es 3 u1.2
  let v1:=ba es 3 u2.2
  let v2:=ba es 2 v1.2
  (if 0<ya (1+(u1.1:Int),(u2.1:Int)-1) ((v1.1:Int)-1,1+(v2.1:Int)) then Ca ((x.1:Int)-1,(y.1:Int)-1) (1+(u1.1:Int),(u2.1:Int)-1) ((v1.1:Int)-1,1+(v2.1:Int)) else LQ,v2.2)
def ly(es:List Int)(a:Nat):Tr×Nat:=
 let r:=Cs es a
 let k:=ba es 3 r.2
 if(k.1:Int)=0 then
  let s:=Cs es k.2
  let f:=ba es 2 s.2
  (rB [r.1,s.1] (1+(f.1:Int)),f.2)
 else
  let f:=ba es 2 k.2
  (rB [r.1] (1+(f.1:Int)),f.2)
def tZ(l:ab):Tr:=(Tr.node l (.leaf true) (.leaf false)).restrict []
def kF(es:List Int):Nat->Nat->Tr×Nat
 |0,a=>
  let k:=ba es 6 a
  if(k.1:Int)=1 then(tZ (lF es k.2).1,(lF es k.2).2)
  else if(k.1:Int)=2 then((gA es 3 k.2).1.restrict [],(gA es 3 k.2).2)
  else if(k.1:Int)=3 then((ly es k.2).1.compl,(ly es k.2).2)
  else ly es k.2
 |d+1,a=>
  let k:=ba es 6 a
  if(k.1:Int)=0 then
   let x:=kF es d k.2
   let o:=ba es 4 x.2
   let y:=kF es d o.2
   (x.1.mergeQ (1+(o.1:Int)) y.1 [],y.2)
  else if(k.1:Int)=1 then(tZ (lF es k.2).1,(lF es k.2).2)
  else if(k.1:Int)=2 then((gA es 3 k.2).1.restrict [],(gA es 3 k.2).2)
  else if(k.1:Int)=3 then((ly es k.2).1.compl,(ly es k.2).2)
  else ly es k.2
def OC(es:List Int)(a:Nat):Tr×Nat:=
 let k:=ba es 4 a
 if(k.1:Int)=0 then(tZ (lF es k.2).1,(lF es k.2).2)
 else if(k.1:Int)=1 then((gA es 2 k.2).1.restrict [],(gA es 2 k.2).2)
 else(rB [(Ep es k.2).1] 2,(Ep es k.2).2)
def uj(op:Int)(a b:Tr):Bool:=decide ((a.mergeQ op b []).isLeaf=true/\(a.mergeQ op b []).code=false)
def Nj(a b:Tr):Int:=if uj 4 a b then 0 else if uj 3 a b then-1 else if uj 3 b a then 1 else 2
def mr:Tr->aa->Bool
 | .leaf b,_=>b
 | .node l x y,p=>if(l.value p).num.sign=1 then mr x p else if(l.value p).num.sign= -1 then mr y p else false
def vj(t:Tr):List bE:=((t.parts []).filter (·.1)).map (·.2)
def zj(l:ab)(p:aa):bE->Rat->Rat
 |[],f=>f
 |s::c,f=>zj l p c (if Int.sign (s.l.nor.dot l.nor).num<0 then(if-(s.l.value p/s.l.nor.dot l.nor)<f then-(s.l.value p/s.l.nor.dot l.nor) else f) else f)
def O3:bE->aa
 |[]=>⟨0,0⟩
 |s::c=>ee (s.l.at s.v.sample) s.l.nor (zj s.l (s.l.at s.v.sample) c 1*mkRat 1 2)
def mI:Tr->aa->aa->Bool×Bool
 | .leaf b,_,_=>(b,true)
 | .node l x y,p,v=>match (if(l.value p).num.sign=0 then(l.dir.cross v).num.sign else(l.value p).num.sign) with
  |1=>mI x p v
  | -1=>mI y p v
  |_=>(false,false)
def MF(l:ab)(v:aa):l.dir.cross v=l.nor.dot v:=by
 unfold ab.dir ab.nor aa.cross aa.dot;grind
def Gn(L:List ab)(p v:aa):Prop:= ∀l∈L,l.value p=0->l.nor.dot v≠0
def O1(x:Bool×bE):DV:= .ag [.sl (x.2.map bG),eU (.leaf x.1)]
def Ah{q:Rat}{i:Nat}[h:BQ q i](hi:i<=900000000:=by decide):PF GB prog 122 [eF q] (eR q):=by
 refine fn func122 J J ntmps122 J J (fun C=>?_);refine cl J (nP (q:=q) (i:=i) hi) J<|cl J (jk (q:=q) (i:=i) hi) J<|?_;exact rz J J
def FQ{p:aa}{i:Nat}[h:av p i](hi:i<=900000000:=by decide):PF GB prog 71 [eZ p] (gn p):=by
 refine fn func71 J J ntmps71 J J (fun C=>?_);refine cl J (Ah (q:=p.x) (i:=i) hi) J<|cl J (Ah (q:=p.y) (i:=i) hi) J<|?_;exact rz J J
def eC(c:bE):DV:= .sl (c.map bG)
def PZ(ps:List (Bool×bE)):List bE:=(ps.filter (·.1)).map (·.2)
def i9(p:aa):(p.half=1/\(0<p.y\/(p.y=0/\0<p.x)))\/(p.half=2/\(p.y<0\/(p.y=0/\p.x<0)))\/(p.half=0/\p.y=0/\p.x=0):=by
 unfold aa.half;simp only[wR,vU,pO];split
 ·rename_i h;exact .inl ⟨rfl,h⟩
 ·rename_i h
  split
  ·rename_i h2
   exact .inr (.inl ⟨J,by grind⟩)
  ·rename_i h2
   exact .inr (.inr ⟨J,by grind,by grind⟩)
def qa{p:aa}:p.half=1↔(0<p.y\/(p.y=0/\0<p.x)):=by
 rcases i9 p with⟨h,k⟩|⟨h,k⟩|⟨h,k⟩<;>rw[h]<;>grind
def qp{p:aa}:p.half=2↔(p.y<0\/(p.y=0/\p.x<0)):=by
 rcases i9 p with⟨h,k⟩|⟨h,k⟩|⟨h,k⟩<;>rw[h]<;>grind
def cF(u v:aa):Prop:=u.half<v.half\/(u.half=v.half/\0<u.cross v)
def kt{u v:aa}:bP u v<0↔cF u v:=by
 unfold bP cF;split
 ·rename_i h;exact⟨fun _=> .inl h,fun _=>by decide⟩
 ·rename_i h
  split
  ·rename_i h2;exact⟨fun e=>absurd e (by decide),fun e=>by omega⟩
  ·rename_i h2
   have e:u.half=v.half:=by omega
   rw[<-wR];constructor
   ·intro k;exact .inr ⟨e,by omega⟩
   ·rintro (k|⟨_,k⟩)
    ·omega
    ·omega
def c8(d:aa):aa:=⟨-d.x, -d.y⟩
def Jb{d:aa}(h:d.half≠0):(c8 d).half=3-d.half:=by
 rcases i9 d with⟨e,k⟩|⟨e,k⟩|⟨e,k⟩
 ·rw[e];exact qp.2 (by unfold c8;grind)
 ·rw[e];exact qa.2 (by unfold c8;grind)
 ·exact absurd e h
def sC{d:aa}(h:d.half≠0):d.half=1\/d.half=2:=by
 rcases i9 d with⟨e,_⟩|⟨e,_⟩|⟨e,_⟩
 ·exact .inl e
 ·exact .inr e
 ·exact absurd e h
def M1(ds:List aa)(u w:aa):Prop:=(cF u w/\ ∀d∈ds,¬(cF u d/\cF d w))\/((∀d∈ds,¬cF u d)/\ ∀d∈ds,¬cF d w)
structure PC (ds:List aa):Prop where
 nz: ∀d∈ds,d.half≠0
 neg: ∀d∈ds,c8 d∈ds
def kD(u v:aa):v.cross u= -u.cross v:=by unfold aa.cross;grind
def lC(u v:aa):u.cross (c8 v)= -u.cross v:=by unfold aa.cross c8;grind
def pz(a b:Rat)(u w:aa):aa:=⟨a*u.x+b*w.x,a*u.y+b*w.y⟩
def zh{a b:Rat}{u w:aa}(ha:0<a)(hb:0<b)(h:u.half=w.half)(hz:u.half≠0):(pz a b u w).half=u.half:=by
 rcases i9 u with⟨e,k⟩|⟨e,k⟩|⟨e,k⟩
 ·rw[e] at h⊢
  have k2:=qa.1 h.symm;refine qa.2 ?_;unfold pz;simp only;have p1: ∀z:Rat,0<z->0<a*z:=fun z hz=>eE ha hz;have p2: ∀z:Rat,0<z->0<b*z:=fun z hz=>eE hb hz;rcases k with k|⟨k,k'⟩<;>rcases k2 with l|⟨l,l'⟩
  ·have:=p1 _ k;have:=p2 _ l;grind
  ·have:=p1 _ k;rw[l];grind
  ·have:=p2 _ l;rw[k];grind
  ·have:=p1 _ k';have:=p2 _ l';rw[k,l];grind
 ·rw[e] at h⊢
  have k2:=qp.1 h.symm;refine qp.2 ?_;unfold pz;simp only;have p1: ∀z:Rat,z<0->a*z<0:=fun z hz=>by have:=eE (a:=a) (b:= -z) ha (by grind);grind
  have p2: ∀z:Rat,z<0->b*z<0:=fun z hz=>by have:=eE (a:=b) (b:= -z) hb (by grind);grind
  rcases k with k|⟨k,k'⟩<;>rcases k2 with l|⟨l,l'⟩
  ·have:=p1 _ k;have:=p2 _ l;grind
  ·have:=p1 _ k;rw[l];grind
  ·have:=p2 _ l;rw[k];grind
  ·have:=p1 _ k';have:=p2 _ l';rw[k,l];grind
 ·exact absurd e hz
end Go.Sx
end
section
namespace Go.Sx
open Go
inductive OT where
 |z (π:List (Nat×Bool))
 |q (i:Nat) (t:OT)
 |a (i:Nat) (t:OT)
 |c (i:Nat) (t r:OT)
def OT.sz:OT->Nat
 | .z _=>0
 | .q _ t=>t.sz+1
 | .a _ t=>t.sz+1
 | .c _ t r=>t.sz+r.sz+1
def OT.d:OT->Nat
 | .z π=>π.length
 | .q _ t=>t.d+1
 | .a _ t=>t.d+1
 | .c _ t r=>Nat.max (t.d+1) r.d
section
variable {P:Program} {ops:Array Oper} {Q:Exit->Act->World->Prop} {S:World->Prop} {π₂:List (Nat×Bool)}
def nK(P:Program)(ops:Array Oper)(Q:Exit->Act->World->Prop)(K:(World->Prop)->Act->World->Prop):List Nat->OT->(World->Prop)->Act->World->Prop
 |ks, .z π,S,a,w=>oE P ops Q K ks π S a w
 |ks, .q i t,S,a,w=> ∃o v,ops[i]? =some o/\S w/\YieldsIf P ops S o v a/\nK P ops Q K ks t S (a.put o.dst v) w
 |ks, .a i t,S,a,w=>wpOp P ops Q i (m8 S (nK P ops Q K ks t)) a w/\
   ∀j,(h:j∈ks)->wpOp P ops Q j (m8 S (nK P ops Q K (gk ks j) (.a i t))) a w
 |ks, .c i t r,S,a,w=>wpOp P ops Q i (m8 S (nK P ops Q K ks t)) a w/\nK P ops Q K ks r S a w/\
   ∀j,(h:j∈ks)->wpOp P ops Q j (m8 S (nK P ops Q K (gk ks j) (.c i t r))) a w
termination_by ks t=>ks.length+t.sz
decreasing_by
 all_goals (first|(have:=wo h;simp only[OT.sz] at*;omega)|(simp only[OT.sz];omega))
def kG(ops:Array Oper)(fin:Nat->Bool)(π₂:List (Nat×Bool)):Nat->Bool->List Nat->OT->Array Bool->List Nat->Bool
 |0,_,_,_,_,_=>false
 |n+1,false,ks, .z π,l,_=>qE ops fin π₂ n ks π l
 |_+1,true,_, .z _,_,_=>false
 |n+1,false,ks, .q i t,l,_=>oP ops fin l i&&kG ops fin π₂ n false ks t (l.setIfInBounds i true) []
 |_+1,true,_, .q _ _,_,_=>false
 |n+1,true,ks, .a i t,l,rs=>rs.all (fun j=>Nat.beq j i)&&kG ops fin π₂ n false ks t (l.setIfInBounds i true) []
 |n+1,false,ks, .a i t,l,_=>!(Region.ready .any ops l).isEmpty&&(Region.ready .any ops l).all (fun j=>Nat.beq j i||ks.contains j)&&kG ops fin π₂ n false ks t (l.setIfInBounds i true) []&&ks.all fun j=>kG ops fin π₂ n false (gk ks j) (.a i t) (l.setIfInBounds j true) []
 |n+1,true,ks, .c i t r,l,rs=>kG ops fin π₂ n false ks t (l.setIfInBounds i true) []&&kG ops fin π₂ n true ks r l (gk rs i)
 |n+1,false,ks, .c i t r,l,_=>!(Region.ready .any ops l).isEmpty&&kG ops fin π₂ n false ks t (l.setIfInBounds i true) []&&kG ops fin π₂ n true ks r l (gk ((Region.ready .any ops l).filter fun j=>!ks.contains j) i)&&ks.all fun j=>kG ops fin π₂ n false (gk ks j) (.c i t r) (l.setIfInBounds j true) []
end
section
variable {P:Program} {GB:Gh} {C:au} {n:Nat} {fr fr':cC} {own own' own0 own1 own1':List bH} {bs bs0 bs1 bs1':List cg} {ops:Array Oper} {Q:Exit->Act->World->Prop} {fd:List FD} {π₂:List (Nat×Bool)} {t r:OT}
abbrev Nh (P:Program) (ops:Array Oper) (Q:Exit->Act->World->Prop) (K:(World->Prop)->Act->World->Prop) (t:OT):List Nat->(World->Prop)->Act->World->Prop:=fun ks S=>nK P ops (fP Q) K ks t S
end
end Go.Sx
end
section
namespace Go.Sx
open Go Go.Proofs Tryz
variable {GB:Gh}
theorem LB.rev{l:ab}(h:LB l):LB l.rev:=⟨⟨by rw[show l.rev.a= -l.a from J,fW];exact h.bl.a,by rw[show l.rev.b= -l.b from J,fW];exact h.bl.b,by rw[show l.rev.c= -l.c from J,fW];exact h.bl.c⟩⟩
structure Po (c:List ab) (k:Nat) (xs:List ab):Prop where
 le:k<=c.length
 f:vq c (c.drop k) xs=k9 c
 m: ∀m∈xs,m∈c
 n:xs.length<=k
def Cr(c:List ab):Bool:=if(((c.map eL).length:Nat):Int)=0 then true else decide ((0:Int)<((((k9 c).map eL).length:Nat):Int))
section
variable {α:Type} (c:α->α->Int)
def ek(x:α):List α->List α
 |[]=>[x]
 |u::t=>if c u x<0 then u::ek x t else if c u x=0 then u::t else x::u::t
def Pg(x:α)(xs:List α):Nat:=(xs.takeWhile fun u=>decide (c u x<0)).length
def AH(x:α): ∀(xs:List α),(ek c x xs).length<=xs.length+1
 |[]=>bZ _
 |u::t=>by
  have:=AH x t;rw[ek];split
  ·simp;omega
  ·split<;>simp
def vV{x y:α}: ∀{xs:List α},y∈ek c x xs->y=x\/y∈xs
 |[],h=>by rw[ek,aL] at h;exact .inl h
 |u::t,h=>by
  rw[ek] at h;split at h
  ·rcases bQ.1 h with rfl|h
   ·exact .inr aQ
   ·rcases vV h with h|h
    ·exact .inl h
    ·exact .inr (aK _ h)
  ·split at h
   ·exact .inr h
   ·rcases bQ.1 h with rfl|h
    ·exact .inl J
    ·exact .inr h
def ut(l:List α):List α:=l.foldl (fun out x=>ek c x out) []
def zb: ∀(l o:List α),(l.foldl (fun out x=>ek c x out) o).length<=l.length+o.length
 |[],o=>by simp
 |x::t,o=>by
  have:=zb t (ek c x o);have:=AH c x o;simp only[iN,bT];omega
def ve{y:α}: ∀{l o:List α},y∈l.foldl (fun out x=>ek c x out) o->y∈l\/y∈o
 |[],o,h=> .inr h
 |x::t,o,h=>by
  rcases ve (l:=t) h with h|h
  ·exact .inl (aK _ h)
  ·rcases vV c h with rfl|h
   ·exact .inl aQ
   ·exact .inr h
end
def Lw{α β:Type}{f:α->β}{l:List α}{k:Nat}{x:α}(h:l[k]? =some x):(l.take k).map f++[f x]=(l.take (k+1)).map f:=by
 rw[cR,h,fY];rfl
instance BQ.m1':BQ (((-1:Int):Int):Rat) 2:=⟨by decide,by decide⟩
instance BQ.m1:BQ (-1:Rat) 2:=⟨by decide,by decide⟩
def Cn{q:Rat}{i:Nat}[h:BQ q i](hi:i<=400000000:=by decide):PF GB prog 47 [eQ q] (eR q):=by
 refine fn func47 J J ntmps47 J J (fun C=>?_);refine cl J (Js (z:=q.num) hi) J<|cl J (EP (q:=q)) J<|cl J (xl (a:=q.den) hi) J<|?_;exact rz J J
def Mx{p:aa}{i:Nat}[h:av p i](hi:i<=20000:=by decide):PF GB prog 19 [eP p] (gn p):=by
 refine fn func19 J J ntmps19 J J (fun C=>?_);refine cl J (Cn (q:=p.x) (i:=i) (by omega)) J<|cl J (Cn (q:=p.y) (i:=i) (by omega)) J<|?_;exact rz J J
def BH{α:Type}(f:α->DV)(l:List α):(l.map f).length=l.length:=aZ ..
def Fg(ps:List aa):eh 6 (ps.map gn):=fun d hd=>by
 obtain⟨u,_,rfl⟩:=cX.1 hd;exact⟨rfl,rfl⟩
def Fo{ps:List aa}(hb: ∀p∈ps,av p 1200)(hn:ps.length<=1000000):PF GB prog 32 [.sl (ps.map eP)] (.sl (ps.map gn)):=by
 have hm:=BH eP ps;refine fn (fu:=⟨15⟩) func32 J J ntmps32 J J (fun C=>?_);refine aF 7 (.d (vI (ps.length:Nat))) J (by rw[hm]<;>rfl) ?_;refine gx J<|?_;refine nr 3 3 62 6 J J J ?_;refine lp (X:=Nat) (fun k=>[(8, .d (vI (k:Nat))),(3, .rw 3)]) (fun k=>[(3,some (.b 62 6 ((ps.take k).map gn) true))]) (fun k=>k<=ps.length) (fun k=>ps.length-k) 0 J (bS _) (fun _=>J) (fun k hk=>?_);have hml:=BH gn (ps.take k);rw[bR] at hml;refine br J J J (fun hc9=>?_) (fun hc9=>?_)
 .
  obtain⟨z,hz⟩: ∃s,ps[k]? =some s:=⟨_,aX (by omega)⟩;have hzm:=aN hz;refine ix _ J (d7 hz) J<|cl J (Mx (p:=z) (h:=hb z hzm)) J<|rf J J<|ap ((ps.take (k+1)).map gn) J (Lw hz) (Fg [z]) J<|?_;refine jq 16 3 J ?_;exact at_ (k+1) ⟨(by omega),(by omega)⟩
 .
  obtain rfl:k=ps.length:=by omega
  refine me 3 J ?_;exact rz J (by rw[dX];rfl)
def Ph(p q:aa):Int:=if bw p.x q.x≠0 then bw p.x q.x else bw p.y q.y
def mE(l:ab):Bool:=decide (l.a<0\/(l.a=0/\l.b<0))
def ab.canon(l:ab):ab:=if mE l then l.rev else l
instance LB.canon (l:ab) [h:LB l]:LB l.canon:=by unfold ab.canon;split;exact LB.rev h;exact h
def PU{α β:Type}(c:β->β->Int)(g:α->β)(l:List α)(k:Nat):List β:=ut c ((l.take k).map g)
section
variable {α β:Type} {c:β->β->Int} {g:α->β} {l:List α} {k:Nat}
end
def pQ(ls:List ab):List ab:=ut Ig (ls.map ab.canon)
def FS(l:ab)(p:aa):l.canon.value p=l.value p\/l.canon.value p= -l.value p:=by
 unfold ab.canon;split
 ·exact .inr (Lp l p)
 ·exact .inl J
def tC(a b:Tr):List aa:=EB (pQ (a.lns++b.lns))
def Od(a b:Tr):Bool:=(tC a b).all fun p=>mr a p==mr b p
def N6(f:Bool->Bool->Bool)(a b:Tr):Bool:=(tC a b).any fun p=>f (mr a p) (mr b p)
def N7(v:Bool)(t:Tr):Bool:=decide ((t.restrict []).isLeaf=true/\(t.restrict []).code=v)
def Ae{α:Type}{c:α->α->Int}(hT: ∀u v w,c u v<0->c v w<0->c u w<0)(hA: ∀u v,¬c u v<0->c u v≠0->c v u<0){x:α}: ∀{xs:List α},xs.Pairwise (fun a b=>c a b<0)->(ek c x xs).Pairwise (fun a b=>c a b<0)
 |[],_=>by rw[ek];exact List.pairwise_singleton _ _
 |u::t,h=>by
  obtain⟨h1,h2⟩:=bU.1 h;rw[ek];split
  ·rename_i hu
   refine bU.2 ⟨fun y hy=>?_,Ae hT hA h2⟩;rcases vV c hy with rfl|hy
   ·exact hu
   ·exact h1 y hy
  ·rename_i hu
   split
   ·exact h
   ·rename_i hz
    have hx:=hA u x hu hz;refine bU.2 ⟨fun y hy=>?_,h⟩;rcases bQ.1 hy with rfl|hy
    ·exact hx
    ·exact hT _ _ _ hx (h1 y hy)
def BR{α:Type}{c:α->α->Int}(hT: ∀u v w,c u v<0->c v w<0->c u w<0)(hA: ∀u v,¬c u v<0->c u v≠0->c v u<0): ∀{l o:List α},o.Pairwise (fun a b=>c a b<0)->(l.foldl (fun out x=>ek c x out) o).Pairwise (fun a b=>c a b<0)
 |[],o,h=>h
 |x::l,o,h=>BR (l:=l) (o:=ek c x o) hT hA (Ae hT hA h)
def Kg(L:List ab)(p:aa):List aa:=L.flatMap fun l=>if Int.sign (l.value p).num=0 then [l.dir,c8 l.dir] else []
def Gv{u v:aa}:0<bP u v↔cF v u:=by
 unfold bP cF;split
 ·rename_i h;exact⟨fun e=>absurd e (by decide),fun e=>by omega⟩
 ·rename_i h
  split
  ·rename_i h2;exact⟨fun _=> .inl h2,fun _=>by decide⟩
  ·rename_i h2
   have e:v.half=u.half:=by omega
   rw[kD u v];constructor
   ·intro k
    have:Int.sign (u.cross v).num<0:=by omega
    rw[vU] at this;exact .inr ⟨e,by grind⟩
   ·rintro (k|⟨_,k⟩)
    ·omega
    ·have:Int.sign (u.cross v).num<0:=(vU _).2 (by grind)
     omega
def cF.trans{u v w:aa}(hu:u.half≠0)(hv:v.half≠0)(hw:w.half≠0)(h:cF u v)(k:cF v w):cF u w:=by
 rcases h with h|⟨h,h'⟩<;>rcases k with k|⟨k,k'⟩
 ·exact .inl (by omega)
 ·exact .inl (by omega)
 ·exact .inl (by omega)
 ·refine .inr ⟨h.trans k,?_⟩
  have id1:u.cross w*v.y=u.cross v*w.y+v.cross w*u.y:=by unfold aa.cross;grind
  rcases i9 v with⟨x,q⟩|⟨x,q⟩|⟨x,q⟩
  ·rw[x] at h k
   have qu:=qa.1 h;have qw:=qa.1 k.symm;rcases q with q|⟨q,q'⟩
   ·rw[<-sU q,id1]
    have wy:0<=w.y:=by grind
    have uy:0<=u.y:=by grind
    have a1:=mO (Rat.le_of_lt h') wy;rcases qu with qu|⟨qu,qu'⟩
    ·have:=eE k' qu;grind
    ·rcases qw with qw|⟨qw,qw'⟩
     ·have:=eE h' qw;rw[qu];grind
     ·exfalso
      have hx:v.cross w= -(w.x*v.y):=by unfold aa.cross;rw[qw];grind
      have:=eE qw' q;grind
   ·exfalso
    have hx:u.cross v= -(v.x*u.y):=by unfold aa.cross;rw[q];grind
    have:=mO (a:=v.x) (b:=u.y) (Rat.le_of_lt q') (by grind);grind
  ·rw[x] at h k
   have qu:=qp.1 h;have qw:=qp.1 k.symm;rcases q with q|⟨q,q'⟩
   ·have e1:u.cross w* -v.y=u.cross v* -w.y+v.cross w* -u.y:=by grind
    rw[<-sU (k:= -v.y) (by grind),e1];have a1:=mO (a:=u.cross v) (b:= -w.y) (Rat.le_of_lt h') (by grind);rcases qu with qu|⟨qu,qu'⟩
    ·have:=eE (a:=v.cross w) (b:= -u.y) k' (by grind);grind
    ·rcases qw with qw|⟨qw,qw'⟩
     ·have:=eE (a:=u.cross v) (b:= -w.y) h' (by grind);rw[qu];grind
     ·exfalso
      have hx:v.cross w= -(-w.x* -v.y):=by unfold aa.cross;rw[qw];grind
      have:=eE (a:= -w.x) (b:= -v.y) (by grind) (by grind);grind
   ·exfalso
    have hx:u.cross v= -(-v.x* -u.y):=by unfold aa.cross;rw[q];grind
    have:=mO (a:= -v.x) (b:= -u.y) (by grind) (by grind);grind
  ·exact absurd x hv
def wb(S:List aa)(x:aa):Nat->Nat
 |0=>0
 |k+1=>if 0<bP (S.getD k ⟨0,0⟩) x then wb S x k else k+1
def Jd(S:List aa)(x:aa):List aa:=S.take (wb S x S.length)++x::S.drop (wb S x S.length)
def JN(ds:List aa):List aa:=ds.foldl Jd []
structure Px (L:List ab):Prop where
 ok: ∀l∈L,l.ok
 cn: ∀l∈L,mE l=false
 nd:L.Pairwise (fun a b=>a≠b)
def Dj{l:ab}(h:l.ok):mE l.canon=false:=by
 have hn:=h.ne;unfold ab.Ne at hn;unfold ab.canon;split
 ·rename_i k
  unfold mE at*;rw[decide_eq_true_eq] at k;rw[decide_eq_false_iff_not];show¬(-l.a<0\/(-l.a=0/\ -l.b<0));omega
 ·rename_i k;simpa using k
def Ap{l:ab}(h:l.ok):l.dir.half≠0:=fun e=>by
 have hn:=h.ne;unfold ab.Ne at hn;rcases i9 l.dir with⟨k,_⟩|⟨k,_⟩|⟨_,k1,k2⟩
 ·rw[k] at e;cases e
 ·rw[k] at e;cases e
 ·unfold ab.dir at k1 k2
  simp only at k1 k2;apply hn;refine⟨?_,jR.1 k2⟩;have:(l.a:Rat)=0:=by grind
  exact jR.1 this
def sp(d:aa):c8 (c8 d)=d:=by unfold c8;cases d;simp
def JM{l m:ab}(hl:l.ok)(hm:m.ok)(cl:mE l=false)(cm:mE m=false){p:aa}(h1:l.value p=0)(h2:m.value p=0)(hc:l.dir.cross m.dir=0):l=m:=by
 have key: ∀t,l.value (m.at t)=0:=fun t=>by
  obtain⟨s,rfl⟩:=LC hm.ne h2;rw[y8] at h1⊢;have hk:m.cutK l=0:=by
   unfold ab.cutK;rw[<-MF];exact hc
  rw[hk] at h1⊢;grind
 rcases JL hl hm key with e|e
 ·exact e
 ·exfalso
  have hn:=hm.ne;unfold ab.Ne at hn;rw[e] at cl;unfold mE at cl cm;rw[decide_eq_false_iff_not] at cl cm;have cl: ¬(-m.a<0\/(-m.a=0/\ -m.b<0)):=cl;omega
def Ea(v:aa):Nat:=Nat.gcd (v.x.num.natAbs*v.y.den) (v.y.num.natAbs*v.x.den)
def Dr(n:Int)(d g:Nat):Int:=if n<0 then-((n.natAbs*d/g:Nat):Int) else((n.natAbs*d/g:Nat):Int)
def B7(v:aa):aa:=if v.half=0 then⟨0,0⟩ else⟨(Dr v.x.num v.y.den (Ea v):Int),(Dr v.y.num v.x.den (Ea v):Int)⟩
def K4(ds:List aa)(i:Nat):List aa:=
 if bP (ds.getD i ⟨0,0⟩) (ds.getD ((i+1)%ds.length) ⟨0,0⟩)=0/\2<ds.length then []
 else if Int.sign ((ds.getD i ⟨0,0⟩).cross (ds.getD ((i+1)%ds.length) ⟨0,0⟩)).num=0 then [jx (ds.getD i ⟨0,0⟩)]
 else [ee (B7 (ds.getD i ⟨0,0⟩)) (B7 (ds.getD ((i+1)%ds.length) ⟨0,0⟩)) 1]
def E'(ds:List aa):List aa:=if ds.length=0 then [⟨1,0⟩] else(List.range ds.length).flatMap (K4 ds)
def Cw(L:List ab)(p:aa):List aa:=E' (JN (Kg L p))
def PT(t:Tr)(p:aa):Bool:=(Cw (pQ t.lns) p).any fun v=>(mI t p v).1
def Np(t:Tr)(p:aa):Bool:=(Cw (pQ t.lns) p).all fun v=>(mI t p v).1
def qK:Tr->aa->List ab
 | .leaf _,_=>[]
 | .node l x y,p=>(if Int.sign (l.value p).num=0 then [l] else [])++((if 0<=Int.sign (l.value p).num then qK x p else [])++(if Int.sign (l.value p).num<=0 then qK y p else []))
def PH(t:Tr)(p:aa)(b:Bool):Prop:= ∃v,Gn (qK t p) p v/\(mI t p v).1=b
def lm(ds:List aa)(i:Nat):aa:=
 if 0<Int.sign ((ds.getD i ⟨0,0⟩).cross (ds.getD ((i+1)%ds.length) ⟨0,0⟩)).num then(ds.getD i ⟨0,0⟩).add (ds.getD ((i+1)%ds.length) ⟨0,0⟩) else jx (ds.getD i ⟨0,0⟩)
def fj(ds:List aa):List aa:=if ds.length=0 then [⟨1,0⟩] else(List.range ds.length).map (lm ds)
def b8(v:aa):aa:=v.scale (rgcd v.x v.y)⁻¹
def Dm(t:Tr)(p:aa):List aa:=(qK t p).flatMap fun l=>[b8 l.dir,c8 (b8 l.dir)]
def jo(ds:List aa):List aa:=ut bP ds
def Ir{x y:Rat}(h:x≠0\/y≠0):0<rgcd x y:=by
 unfold rgcd;have hd:0<x.den*y.den:=iV x.den_pos y.den_pos;have hg:0<Nat.gcd (x.num.natAbs*y.den) (y.num.natAbs*x.den):=by
  rcases h with h|h
  ·exact mQ _ (iV (Int.natAbs_pos.2 fun e=>h (iY.1 e)) y.den_pos)
  ·exact lU _ (iV (Int.natAbs_pos.2 fun e=>h (iY.1 e)) x.den_pos)
 generalize Nat.gcd (x.num.natAbs*y.den) (y.num.natAbs*x.den)=g at*;generalize x.den*y.den=d at*;rw[<-wk];have h1:mkRat (g:Int) d=(g:Rat)/(d:Rat):=by rw[lK];rfl
 rw[wk,h1];have hg':(0:Rat)<(g:Rat):=by exact_mod_cast hg
 have hd':(0:Rat)<(d:Rat):=by exact_mod_cast hd
 have e:(g:Rat)/(d:Rat)*(d:Rat)=(g:Rat):=by grind
 exact(sU (k:=(d:Rat)) hd').1 (by rw[e];exact hg')
def Ia{v:aa}(h:v.half≠0):v.x≠0\/v.y≠0:=by
 rcases i9 v with⟨_,k⟩|⟨_,k⟩|⟨k,_⟩
 ·rcases k with k|⟨_,k⟩
  ·exact .inr (by grind)
  ·exact .inl (by grind)
 ·rcases k with k|⟨_,k⟩
  ·exact .inr (by grind)
  ·exact .inl (by grind)
 ·exact absurd k h
def vJ{v:aa}(h:v.half≠0): ∃a:Rat,0<a/\b8 v=⟨a*v.x,a*v.y⟩:=by
 have hg:=Ir (Ia h);refine⟨(rgcd v.x v.y)⁻¹,?_,?_⟩
 ·generalize rgcd v.x v.y=g at*
  have e:g⁻¹*g=1:=by grind
  exact(sU (k:=g) hg).1 (by rw[e];decide)
 ·unfold b8 aa.scale
  simp only[aa.mk.injEq];constructor<;>grind
def JO(v:aa):b8 (c8 v)=c8 (b8 v):=by
 have e:rgcd (-v.x) (-v.y)=rgcd v.x v.y:=by
  unfold rgcd;rw[jK,jK,lN,lN,fW,fW]
 unfold b8 aa.scale c8;simp only[aa.mk.injEq,e];constructor<;>grind
def DN{v:aa}(h:v.half≠0):(b8 v).half=v.half:=by
 obtain⟨a,a1,e⟩:=vJ h;have:=zh (a:=a) (b:=a) (u:=v) (w:=v) a1 a1 J h;rw[<-this];have h2:b8 v=pz (a*(1/2)) (a*(1/2)) v v:=by rw[e];unfold pz;simp only[aa.mk.injEq];constructor<;>grind
 have h3:=zh (a:=a*(1/2)) (b:=a*(1/2)) (u:=v) (w:=v) (eE a1 (by grind)) (eE a1 (by grind)) J h;rw[h2,h3,this]
def JT{u v:aa}:bP u v=0↔u.half=v.half/\u.cross v=0:=by
 unfold bP;split
 ·constructor
  ·intro h;exact absurd h (by decide)
  ·intro h;omega
 ·split
  ·constructor
   ·intro h;exact absurd h (by decide)
   ·intro h;omega
  ·constructor
   ·intro h
    exact⟨by omega,(pO _).1 (by omega)⟩
   ·intro h
    rw[(pO _).2 h.2];rfl
def r6{u v w:aa}(h:cF u v)(k:cF v w):cF u w:=by
 by_cases hu:u.half=0
 ·by_cases hw:w.half=0
  ·have z: ∀x y:aa,x.half=0->x.cross y=0:=fun x y hx=>by
    rcases i9 x with⟨e,_⟩|⟨e,_⟩|⟨_,e1,e2⟩
    ·rw[hx] at e;exact absurd e (by decide)
    ·rw[hx] at e;exact absurd e (by decide)
    ·unfold aa.cross;rw[e1,e2];grind
   rcases h with h|⟨h,h'⟩
   ·rcases k with k|⟨k,k'⟩
    ·omega
    ·have hv:v.half≠0:=by omega
     omega
   ·rw[z u v hu] at h';exact absurd h' (by decide)
  ·refine .inl ?_
   have h1:=sC hw;omega
 ·have hv:v.half≠0:=by
   intro e;rcases h with h|⟨h,_⟩
   ·have:=sC hu;omega
   ·omega
  have hw:w.half≠0:=by
   intro e;rcases k with k|⟨k,_⟩
   ·have:=sC hv;omega
   ·omega
  exact cF.trans hu hv hw h k
section
variable {α:Type} (c:α->α->Int)
def ED{x y:α}: ∀{xs:List α},y∈xs->y∈ek c x xs
 |[],h=>by cases h
 |u::t,h=>by
  rw[ek];split
  ·rcases bQ.1 h with rfl|h
   ·exact aQ
   ·exact aK _ (ED h)
  ·split
   ·exact h
   ·exact aK _ h
def B4{x:α}: ∀{xs:List α},∃e∈ek c x xs,e=x\/c e x=0
 |[]=>⟨x,aQ, .inl J⟩
 |u::t=>by
  rw[ek];split
  ·obtain⟨e,h1,h2⟩:=B4 (x:=x) (xs:=t)
   exact⟨e,aK _ h1,h2⟩
  ·split
   ·exact⟨u,aQ, .inr (by assumption)⟩
   ·exact⟨x,aQ, .inl J⟩
def B9{y:α}: ∀{l o:List α},y∈o->y∈l.foldl (fun out x=>ek c x out) o
 |[],o,h=>h
 |x::t,o,h=>B9 (l:=t) (ED c h)
def wv{d:α}: ∀{l o:List α},d∈l-> ∃e∈l.foldl (fun out x=>ek c x out) o,e=d\/c e d=0
 |[],o,h=>by cases h
 |x::t,o,h=>by
  rcases bQ.1 h with rfl|h
  ·obtain⟨e,h1,h2⟩:=B4 c (x:=d) (xs:=o)
   exact⟨e,B9 c (l:=t) h1,h2⟩
  ·exact wv (l:=t) h
end
def IS(ds:List aa):(jo ds).Pairwise cF:=by
 have:=BR (c:=bP) (fun u v w h k=>kt.2 (r6 (kt.1 h) (kt.1 k))) (fun u v h k=>kt.2 (Gv.1 (by omega))) (l:=ds) (o:=[]) List.Pairwise.nil;exact this.imp fun h=>kt.1 h
def JY{l m:ab}(hl:l.ok)(hm:m.ok){p:aa}(h1:l.value p=0)(h2:m.value p=0){d e:aa}(hd:d=b8 l.dir\/d=c8 (b8 l.dir))(he:e=b8 m.dir\/e=c8 (b8 m.dir))(h:bP d e=0):d=e:=by
 obtain⟨hh,hc⟩:=JT.1 h;have zl:=Ap hl;have zm:=Ap hm;have zpl:(b8 l.dir).half≠0:=by rw[DN zl];exact zl
 have zpm:(b8 m.dir).half≠0:=by rw[DN zm];exact zm
 have cr:l.dir.cross m.dir=0:=by
  obtain⟨a,a1,e1⟩:=vJ zl;obtain⟨b,b1,e2⟩:=vJ zm;have c0:(b8 l.dir).cross (b8 m.dir)=0:=by
   rcases hd with rfl|rfl<;>rcases he with rfl|rfl
   ·exact hc
   ·rw[lC] at hc;grind
   ·rw[kD,lC] at hc;rw[kD];grind
   ·rw[lC,kD,lC] at hc;rw[kD];grind
  have e3:(b8 l.dir).cross (b8 m.dir)=(a*b)*l.dir.cross m.dir:=by rw[e1,e2];unfold aa.cross;grind
  have hab:=eE a1 b1;rw[e3] at c0;clear e1 e2 e3;generalize a*b=k at*;generalize l.dir.cross m.dir=z at*;rcases Mf z with q|q|q
  ·exact q
  ·have:=eE hab q;grind
  ·have:=eE (a:=k) (b:= -z) hab (by grind);grind
 have dirR: ∀k:ab,k.rev.dir=c8 k.dir:=fun k=>by
  unfold ab.dir ab.rev c8;simp only[aa.mk.injEq,Rat.intCast_neg]
  try constructor<;>grind
 have cdir: ∀k:ab,k.canon.dir=k.dir\/k.canon.dir=c8 k.dir:=fun k=>by
  unfold ab.canon;split
  ·exact .inr (dirR k)
  ·exact .inl J
 have cval: ∀k:ab,k.value p=0->k.canon.value p=0:=fun k hk=>by rcases FS k p with e|e<;>rw[e,hk]<;>rfl
 have okc: ∀k:ab,k.ok->k.canon.ok:=fun k hk=>by unfold ab.canon;split;exact hk.rev;exact hk
 have ec:l.canon=m.canon:=JM (okc l hl) (okc m hm) (Dj hl) (Dj hm) (cval l h1) (cval m h2) (by
  rcases cdir l with e1|e1<;>rcases cdir m with e2|e2<;>rw[e1,e2]
  ·exact cr
  ·rw[lC,cr];rfl
  ·rw[kD,lC,kD,cr];rfl
  ·rw[lC,kD,lC,kD,cr];rfl)
 have hdir:l.dir=m.dir\/l.dir=c8 m.dir:=by
  have e1:=cdir l;have e2:=cdir m;rw[ec] at e1;rcases e1 with e1|e1<;>rcases e2 with e2|e2
  ·exact .inl (e1.symm.trans e2)
  ·exact .inr (e1.symm.trans e2)
  ·right;rw[<-e2,e1,sp]
  ·left;rw[<-sp l.dir,<-e1,e2,sp]
 have hP:b8 l.dir=b8 m.dir\/b8 l.dir=c8 (b8 m.dir):=by
  rcases hdir with e|e
  ·exact .inl (by rw[e])
  ·exact .inr (by rw[e,JO])
 have hn:=Jb zpm;have h3:=sC zpm;have key:d=b8 m.dir\/d=c8 (b8 m.dir):=by
  rcases hd with rfl|rfl<;>rcases hP with e|e
  ·exact .inl e
  ·exact .inr e
  ·exact .inr (by rw[e])
  ·exact .inl (by rw[e,sp])
 rcases key with rfl|rfl<;>rcases he with rfl|rfl
 ·rfl
 ·exfalso;omega
 ·exfalso;omega
 ·rfl
def EK(t:Tr)(p:aa):Bool:=(fj (jo (Dm t p))).any fun v=>(mI t p v).1
def I8(t:Tr)(p:aa):Bool:=(fj (jo (Dm t p))).all fun v=>(mI t p v).1
def Nv(t:Tr)(p:aa):Int:=if EK t p&&I8 t p then 2 else if EK t p then 1 else 0
def sr(u:aa): ¬cF u u:=by
 rintro (h|⟨_,h⟩)
 ·omega
 ·have:u.cross u=0:=by unfold aa.cross;grind
  rw[this] at h;exact absurd h (by decide)
def EV{u v:aa}(h:cF u v)(k:cF v u):False:=sr u (r6 h k)
def yv{x y:aa}(h: ¬cF x y)(k: ¬cF y x):bP x y=0:=by
 rw[<-kt] at h k;unfold bP at*;split at h<;>try omega
 split at h<;>try omega
 split at k<;>try omega
 rw[show y.cross x= -(x.cross y) by unfold aa.cross;grind,jK,Int.sign_neg] at k;omega
def mP(l:List aa):eh 6 (l.map eZ):=fun d hd=>by
 obtain⟨x,_,rfl⟩:=cX.1 hd;exact⟨J,J⟩
instance av.negp (p:aa) (i:Nat) [h:av p i]:av (c8 p) i:=⟨inferInstanceAs (BQ (-p.x) i),inferInstanceAs (BQ (-p.y) i)⟩
instance av.prip (l:ab) [LB l]:av (b8 l.dir) 500:=by
 have h:=(inferInstance:av (l.dir.scale (rgcd l.dir.x l.dir.y)⁻¹) _);exact⟨h.x.mono (by decide),h.y.mono (by decide)⟩
def B5{p:aa}{i:Nat}[h:av p i](hi:i<=900000000:=by decide):PF GB prog 196 [eZ p] (eZ (c8 p)):=by
 refine fn func196 J J ntmps196 J J (fun C=>?_);refine cl J (ml (q:=p.x) (i:=i) hi) J<|cl J (ml (q:=p.y) (i:=i) hi) J<|?_;exact rz J J
def Am{p:aa}{i:Nat}[h:av p i](hi:i<=900000000:=by decide):PF GB prog 194 [eZ p] (eZ (jx p)):=by
 refine fn func194 J J ntmps194 J J (fun C=>?_);refine cl J (ml (q:=p.y) (i:=i) hi) J<|?_;exact rz J J
def LL{p:aa}{i:Nat}[h:av p i](hi:i<=1000000:=by decide):PF GB prog 195 [eZ p] (eZ (b8 p)):=by
 refine fn func195 J J ntmps195 J J (fun C=>?_);refine cl J (pC (p:=p.x) (q:=p.y) (i:=i) (j:=i) (by omega) (by omega)) J<|cl J (rS (q:=rgcd p.x p.y) (i:=i+i+(i+i)) (by omega)) J<|?_;refine cl J (qf (p:=p) (c:=(rgcd p.x p.y)⁻¹) (i:=i) (j:=i+i+(i+i)) (by omega) (by omega)) J<|?_;exact rz J J
def Dc{q:Rat}{i:Nat}[h:BQ q i](hi:i<=400000000:=by decide):PF GB prog 92 [eR q] (eF q):=by
 haveI:BN q.num.natAbs i:=⟨h.hn⟩;haveI:BN q.den i:=⟨h.hd⟩;refine fn func92 J J ntmps92 J J (fun C=>?_);refine cl (fu:=⟨0⟩) J (nM (n:=decide (q.num<0)) (a:=q.num.natAbs) (d:=q.den) (i:=i) (j:=i) (by omega) (by omega)) J<|?_;refine aF 7 (.d (eF q)) J (by rw[jd,Rat.mkRat_self]) ?_;refine gx J<|?_;exact rz J J
def sM{p:aa}{i:Nat}[h:av p i](hi:i<=400000000:=by decide):PF GB prog 46 [gn p] (eZ p):=by
 refine fn func46 J J ntmps46 J J (fun C=>?_);refine cl J (Dc (q:=p.x) (i:=i) hi) J<|cl J (Dc (q:=p.y) (i:=i) hi) J<|?_;exact rz J J
def MO(G:Gh)(y:Value)(h:Is G (.sl [.ag [vI (cD 1),vI (cE 1),cB 1,vI 0,vI 0, .v (.pointer none)]]) y):Is G (.sl ((fj []).map eZ)) y:=by
 obtain⟨s,x,es,rfl,h1,h2⟩:=f8.1 h;obtain⟨v,m,rfl,k,h3⟩:=bz.1 h2
 cases b9.1 h3
 refine f8.2 ⟨s,x,_,J,h1, .cons ?_ .nil⟩;obtain⟨m4,rfl,g4⟩:=du.1 k;obtain⟨v1,m1,rfl,k1,g1⟩:=bz.1 g4;obtain⟨v2,m2,rfl,k2,g2⟩:=bz.1 g1;obtain⟨v3,m3,rfl,k3,g3⟩:=bz.1 g2;obtain⟨m5,q5,g5⟩:=du.1 (oL _ _ (du.2 ⟨m3,rfl,g3⟩))
 cases q5
 exact du.2 ⟨_,J, .cons k1 (.cons k2 (.cons k3 g5))⟩
def Es{ds:List aa}{k:Nat}{u w:aa}(h1:ds[k]? =some u)(h2:ds[(k+1)%ds.length]? =some w):lm ds k=if 0<Int.sign (u.cross w).num then u.add w else jx u:=by
 unfold lm;rw[aV,aV,h1,h2];rfl
def Af(ds:List aa)(k:Nat):(List.range (k+1)).map (lm ds)=(List.range k).map (lm ds)++[lm ds k]:=by rw[List.range_succ,fY];rfl
def Hl:PF GB prog 142 [.sl []] (.sl ((fj []).map eZ)):=by
 refine fn (fu:=⟨10⟩) func142 J J ntmps142 J J (fun C=>?_);refine lr J (by rfl) J<|cl J (qy (by omega)) J<|rf J J<|?_;exact fA J MO
def Le{ds:List aa}{i:Nat}(h0:0<ds.length)(hb: ∀d∈ds,av d i)(hn:ds.length<=10000000)(hi:i<=1000000:=by decide):PF GB prog 142 [.sl (ds.map eZ)] (.sl ((fj ds).map eZ)):=by
 have hml:(ds.map eZ).length=ds.length:=aZ ..;refine fn (fu:=⟨10⟩) func142 J J ntmps142 J J (fun C=>?_);refine aF 8 (.d (vI (ds.length:Nat))) J (by rw[hml]<;>rfl) ?_;refine gx (fu:=⟨0⟩) J<|jm (fu:=⟨15⟩) J (by show some (decide _)=some false;rw[decide_eq_false (by omega)]) J<|?_;refine aF 14 (.d (vI (ds.length:Nat))) J (by rw[hml]<;>rfl) ?_;refine gx J<|?_;refine nr 3 3 103 6 J J J ?_;refine lp (X:=List aa×Nat) (fun⟨acc,k⟩=>[(15, .d (vI (k:Nat))),(3, .rw 3)]) (fun⟨acc,k⟩=>[(3,some (.b 103 6 (acc.map eZ) true))]) (fun⟨acc,k⟩=>acc=(List.range k).map (lm ds)/\k<=ds.length) (fun⟨acc,k⟩=>ds.length-k) ⟨[],0⟩ J ⟨J,bS _⟩ (fun _=>J) (fun⟨acc,k⟩ hk=>?_)
 try dsimp only at hk⊢
 obtain⟨h1,h2⟩:=hk;have hal:acc.length=k:=by rw[h1,aZ,mK]
 have ham:(acc.map eZ).length=acc.length:=aZ ..;refine br J J J (fun hc16=>?_) (fun hc16=>?_)
 .
  obtain⟨u,hx⟩: ∃u,ds[k]? =some u:=⟨_,aX (by omega)⟩;obtain⟨w,hw⟩: ∃w,ds[(k+1)%ds.length]? =some w:=⟨_,aX (cM _ (by omega))⟩;haveI:=hb u (aN hx);haveI:=hb w (aN hw);refine ix (fu:=⟨13⟩) _ J (d7 hx) J<|?_;refine aF 24 (.d (vI (ds.length:Nat))) J (by rw[hml]<;>rfl) ?_;refine gx (fu:=⟨1⟩) J<|?_;refine aF 25 (.d (vI (((k+1)%ds.length:Nat):Int))) J J ?_;refine gx J<|ix _ J (d7 hw) J<|cl J (x8 (p:=u) (q:=w) (by omega) (by omega)) J<|cl J (ik (q:=u.cross w) (by omega)) J<|?_;refine br J J J (fun hc32=>?_) (fun hc32=>?_)
  .
   refine cl J (sJ (p:=u) (q:=w) (by omega) (by omega)) J<|rf J J<|ap ((acc++[u.add w]).map eZ) J (by rw[fY]<;>rfl) (mP [u.add w]) J<|?_;refine jq 38 3 J ?_;exact at_ ⟨acc++[u.add w],k+1⟩ (by dsimp only;exact⟨⟨by rw[Af,Es hx hw,if_pos hc32,<-h1],by omega⟩,(by omega)⟩)
  .
   refine cl J (Am (p:=u) (by omega)) J<|rf J J<|ap ((acc++[jx u]).map eZ) J (by rw[fY]<;>rfl) (mP [jx u]) J<|?_;refine jq 43 3 J ?_;exact at_ ⟨acc++[jx u],k+1⟩ (by dsimp only;exact⟨⟨by rw[Af,Es hx hw,if_neg hc32,<-h1],by omega⟩,(by omega)⟩)
 .
  obtain rfl:k=ds.length:=by omega
  have hS:fj ds=acc:=by unfold fj;rw[if_neg (by omega),h1]
  refine me 3 J ?_;exact rz J (by rw[hS];rfl)
def E6{ds:List aa}{i:Nat}(hb: ∀d∈ds,av d i)(hn:ds.length<=10000000)(hi:i<=1000000:=by decide):PF GB prog 142 [.sl (ds.map eZ)] (.sl ((fj ds).map eZ)):=by
 cases ds with
 |nil=>exact Hl
 |cons d ds=>exact Le (i:=i) (Nat.zero_lt_succ _) hb hn hi
def vt(a b p:aa):Rat:=(b.x-a.x)*(p.y-a.y)-(b.y-a.y)*(p.x-a.x)
def Ic(v w p:aa):Int:=(if v.y<=p.y/\ ¬w.y<=p.y/\0<vt v w p then 1 else 0)-(if¬v.y<=p.y/\w.y<=p.y/\vt v w p<0 then 1 else 0)
def K5(v w q p:aa):Prop:= ∀s t:Rat,0<=s->s<=1->0<=t->t<=1->sX v w s≠sX q p t
def bI(b:Prop)[Decidable b]:Int:=if b then 1 else 0
def M9(q p u:aa):Int:=if q.y<u.y/\u.y<=p.y/\vt q p u<0 then 1 else 0
def Hm(r:List ZP)(p:aa):Nat->Int
 |0=>0
 |k+1=>Hm r p k+Ic (r.getD k (0,0)).q (fC r k).q p
def Ps(r:List ZP)(q p:aa):Prop:= ∀k,k<r.length->K5 (r.getD k (0,0)).q (fC r k).q q p
def Lh(a b:Rat):bw a b<=0↔a<=b:=by
 have:=ME a b;constructor
 ·intro h
  by_cases q:b<a
  ·have:=this.2 q;omega
  ·grind
 ·intro h
  by_cases q:0<bw a b
  ·have:=this.1 q;grind
  ·omega
def I2(R:Rat)(p:aa):Prop:=p.x< -R\/R<p.x\/p.y< -R\/R<p.y
structure P0 (v:aP):Prop where
 lo:BQ v.lo 1200
 hi:BQ v.hi 1200
def NT(l:List aP)(k:Nat):List Rat:=uW (l.take k)
def Nq(o:List Rat)(v:aP)(j:Nat):List Rat:=if j=0 then o else if j=1 then(if v.nl then o else od v.lo o) else xt o v
def MX(v:aP)(j:Nat):Rat:=if j=0 then v.lo else v.hi
def OV(v:aP)(j:Nat):Bool:=if j=0 then v.nl else v.nh
def M3(l m:ab)(side:Int):DV:= .tp [.sl ((DH l m side).map eV),vB (AZ l m)]
def N3(f:aI):DV:= .ag [.v (.bool (decide (f.l.a<0))),dN f.l.a.natAbs, .v (.bool (decide (f.l.b<0))),dN f.l.b.natAbs, .v (.bool (decide (f.l.c<0))),dN f.l.c.natAbs, .v (.bool (decide (f.v.lo.num<0))),dN f.v.lo.num.natAbs,dD f.v.lo.den, .v (.bool (decide (f.v.hi.num<0))),dN f.v.hi.num.natAbs,dD f.v.hi.den, .v (.bool f.v.nl), .v (.bool f.v.nh)]
def NU(v w:aP):aP:=⟨v.lo,w.hi,v.nl,v.nh⟩

section
variable {GB:Gh} {C:au} {n:Nat} {Q0:Exit->Act->World->Prop} {fr fr':ak} {own own':aw} {cf cf':Cf} {vc:List Prop}
def KF{lk:LK}{bk:BM}{dst:Option Nat}{t ty':TypeId}{pos:String}{af:Array Edge}{gd:Option (Nat×Bool)}{x y:Operand}{e len s nm off:Nat}{k:IntKind}{i:Nat}(hu:prog.underlying t=some (.array len e))(hs:(prog.info? e).map (·.size)=some s)
  (e1:az lk x=some (.ov nm off))(e2:az lk y=some (.d (.v (.int k (i:Nat)))))(hi:i<len):bp prog GB C n lk bk ⟨dst, .indexAddr t x y,ty',pos,af,gd⟩ (.ov nm (off+i*s)) [] []:= .yd fun ρ G ov a w r=>by
 obtain⟨p,h1,h2⟩:=r.ev e1;obtain⟨q,h3,h4⟩:=r.ev e2;rw[co] at h4;subst h4;obtain⟨b,hb,rfl⟩:=h2;refine⟨_,⟨b,hb,J⟩,?_⟩;obtain⟨j,hj,hjs⟩: ∃j,prog.info? e=some j/\j.size=s:=by
  cases h:prog.info? e with
  |none=>rw[h] at hs;cases hs
  |some j=>rw[h] at hs;exact⟨j,J,by simpa using hs⟩
 intro a' w' hf hh;simp only[execOp,aG hf h1,aG hf h3];have:(Instr.indexAt t (.pointer (some ⟨b,off,none⟩)) (.int k (i:Nat))).run prog w'= .ok (.pointer (some ⟨b,off+i*s,none⟩)) w':=by
  unfold Instr.indexAt;show(underlying t>>=_).run prog w'=_;rw[aB (jC hu w')];show(underlying t>>=_).run prog w'=_;rw[aB (jC hu w')];have h0:0<=((i:Nat):Int):=Int.natCast_nonneg i;have h1:((i:Nat):Int)<((len:Nat):Int):=by omega
  simp only[h0,h1,and_self,if_true];show(sizeOf e>>=_).run prog w'=_;rw[aB (mm hj w'),kA,hjs,bJ];rfl
 exact cd this
def DX(fr:ak)(cf:Cf):Option (TypeId×Nat×Nat×Int):=match bt fr cf with
 |some ⟨_, .indexAddr t x y,_,_,_,_⟩=>match az (aH fr cf) x with
  |some (.ov nm off)=>match az (aH fr cf) y with
   |some (.d (.v (.int _ i)))=>some (t,nm,off,i)
   |_=>none
  |_=>none
 |_=>none
def qO[fu:Fu](i:Nat){t nm off e len s:Nat}(h:DX fr cf=some (t,nm,off,((i:Nat):Int)))(hu:prog.underlying t=some (.array len e))(hs:(prog.info? e).map (·.size)=some s)(hi:i<len)
  (hgo:b7 tt n fu.n fr own cf (.ov nm (off+i*s)) [] []=⟨vc,fr',own',cf'⟩)(k:aj prog GB C n Q0 fr' own' cf')
  (hv:ah vc:=by first|exact trivial|(simp only[ah];kernel_rfl)|(simp only[ah];omega)):aj prog GB C n Q0 fr own cf:=by
 unfold DX at h;split at h<;>try (cases h;done)
 rename_i hh;split at h<;>try (cases h;done)
 rename_i hx;split at h<;>cases h;rename_i hy;exact us hh (KF hu hs hx hy hi) hgo hv k
def OO(fr:ak)(cf:Cf):Option (Nat×List FX):=match bt fr cf with
 |some ⟨some d, .build t ⟨ps⟩,_,_,_,_⟩=>match b6 tt t with
  |some ⟨.st fo,_,some zx,_⟩=>match mc (aH fr cf) fo zx ps with
   |some l=>some (d,l)
   |none=>none
  |_=>none
 |_=>none
end
def M0(f:aI)(m:ab)(k:Nat):List aI:=if k=0 then [] else qX f m 1
def NV(f:aI)(m:ab)(k:Nat):List aI:=if k<=1 then [] else qX f m (-1)
def KS(p:ZP):DV:=eP p.q
def Lo(r:List ZP):DV:= .sl (r.map KS)
def HN(rs:List (List ZP)):List ab:=(dl rs).map aI.l
def OJ(rs:List (List ZP))(fill:Int):DV:= .ag [.sl (rs.map Lo), .v (.int .i64 fill), .sl ((pQ (HN rs)).map eL)]
def lH(r:List ZP):DV:= .sl ((r.map ZP.q).map gn)
def EN{rs:List (List ZP)}{k:Nat}{r:List ZP}(h:rs[k]? =some r):dl (rs.take (k+1))=dl (rs.take k)++gr r:=by
 unfold dl;rw[cR,h,List.flatMap_append];simp
def A'{rs:List (List ZP)}(h: ∀r∈rs,jz r)(k:Nat):(dl (rs.take k)).length<=6*k:=by
 have:=(wV (rs:=rs.take k) (fun r hr=>h r (gU hr))).1;have h2:(rs.take k).length<=k:=by rw[bR];omega
 omega

def p7:aa:=⟨mkRat 1 7,mkRat 1 5⟩
structure LP (l:ab):Prop where
 s:LS l
 p:0<l.value p7
def uR(es:List Int):Nat->Nat->List ab×Nat
 |0,a=>([],a)
 |i+1,a=>((lF es a).1::(uR es i (lF es a).2).1,(uR es i (lF es a).2).2)
def EL(es:List Int)(most a:Nat):List ab×Nat:=uR es (ba es ((most:Int)+1) a).1 (ba es ((most:Int)+1) a).2
def zn(l:ab):ab:=if(l.value p7).num.sign<0 then l.rev else l
def P8(xs:List ab)(i:Nat):List ab:=(xs.take i).map zn++xs.drop i
def P7(es:List Int)(a:Nat):List ab×Nat:=((EL es 3 a).1.map zn,(EL es 3 a).2)





end Go.Sx
end
