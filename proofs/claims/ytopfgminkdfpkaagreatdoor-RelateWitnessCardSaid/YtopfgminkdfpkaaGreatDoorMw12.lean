/-
  The program's lines and angles; places of cells. The program's cells: the part of a line, the place. The program's cells: insertion into a row of sides. The program's cells: clipped and divided. The program's trees: leaves, nodes, depth, restriction, complement, merge. Lines as they come: valid or not. Package bsp: Of, for any list of nodes. Package bsp: trees written for package api (over deep values).
-/
import Derived.Test.YtopfgminkdfpkaaGreatDoorMw11
set_option linter.unusedSimpArgs false
set_option maxHeartbeats 2000000
set_option maxRecDepth 100000
set_option linter.unusedVariables false
section
namespace Go.Sx
open Go Go.Proofs
variable {GB:Gh}
theorem au2{es:List Int}{i:Nat}(h:i<es.length):(es.map vI)[(i:Int).toNat]? =some (vI (es.getD i 0)):=by simp[h]
theorem aq9{es:List Int}{i:Nat}(h:i<es.length):orI (es.drop i)=if es.getD i 0≠0 then es.getD i 0 else orI (es.drop (i+1)):=by
 rw[List.drop_eq_getElem_cons h,orI,List.getD_eq_getElem?_getD,List.getElem?_eq_getElem h];rfl
theorem aGY{es:List Int}(hn:es.length≤1000000):PF GB Tryz.prog 248 [.sl (es.map vI)] (vI (orI es)):=by
 have hel:(es.map vI).length=es.length:=by simp
 refine fn (fu:=⟨15⟩) Tryz.func248 J J Tryz.ntmps248 J J (fun C=>?_)
 refine eqF 7 (.d (vI (es.length:Nat))) rfl (by rw[hel]<;>rfl) ?_
 refine gx rfl<|?_
 refine lp (X:=Nat) (fun i=>[(8, .d (vI (i:Nat)))]) (fun i=>[]) (fun i=>i≤es.length∧orI es=orI (es.drop i)) (fun i=>es.length-i) 0 rfl ⟨Nat.zero_le _,rfl⟩ (fun _=>rfl) (fun i hk=>?_)
 obtain⟨h1,h2⟩:=hk
 refine br J J J (fun hc9=>?_) (fun hc9=>?_)
 ·
  refine ix _ rfl (au2 (by omega)) rfl<|?_
  refine br J J J (fun hc14=>?_) (fun hc14=>?_)
  ·
   exact rz rfl (by rw[h2,aq9 (by omega),if_pos hc14];rfl)
  ·
   exact at_ (i+1) ⟨⟨by omega,by rw[h2,aq9 (by omega),if_neg hc14]⟩,(by omega)⟩
 ·
  exact rz rfl (by rw[h2,List.drop_of_length_le (by omega)];rfl)
def lcq(l m:LnQ):Int:=orI [aa1 l.a m.a,aa1 l.b m.b,aa1 l.c m.c]
theorem ayc(l m:LnQ):lcq l m=0↔l=m:=by
 unfold lcq orI orI orI orI
 have ha:=ae8 (l.a:Rat) m.a
 have hb:=ae8 (l.b:Rat) m.b
 have hc:=ae8 (l.c:Rat) m.c
 rw[Rat.intCast_inj] at ha hb hc
 constructor
 ·intro h
  repeat' (split at h<;>try contradiction)
  all_goals exact LnQ.ext' (by omega) (by omega) (by omega)
 ·rintro rfl
  rw[if_neg (by simp[ha.2 rfl]),if_neg (by simp[hb.2 rfl]),if_neg (by simp[hc.2 rfl])]
theorem aDK{l m:LnQ}[hl:LB l][hm:LB m]:PF GB Tryz.prog 201 [eLn l,eLn m] (vI (lcq l m)):=by
 refine fn Tryz.func201 J J Tryz.ntmps201 J J (fun C=>?_)
 refine cl rfl (aj1 (p:=(l.a:Rat)) (q:=(m.a:Rat))) rfl<|cl rfl (aj1 (p:=(l.b:Rat)) (q:=(m.b:Rat))) rfl<|cl rfl (aj1 (p:=(l.c:Rat)) (q:=(m.c:Rat))) rfl<|?_
 refine rf J J<|cl rfl (aGY (es:=[aa1 l.a m.a,aa1 l.b m.b,aa1 l.c m.c]) (nb rfl)) rfl<|?_
 exact rz J J
theorem avQ{l m:LnQ}[hl:LB l][hm:LB m]:PF GB Tryz.prog 142 [eLn l,eLn m] (vB (decide (l=m))):=by
 refine fn Tryz.func142 J J Tryz.ntmps142 J J (fun C=>?_)
 refine cl rfl (aDK (l:=l) (m:=m)) rfl<|?_
 exact rz rfl (by show DV.v (.bool (decide _))= .v (.bool _);congr 2;exact decide_eq_decide.2 (ayc l m))
theorem aDv{l:LnQ}[hl:LB l]:PF GB Tryz.prog 247 [eLn l] (eLn l.rev):=by
 refine fn Tryz.func247 J J Tryz.ntmps247 J J (fun C=>?_)
 refine cl rfl (ag6 (q:=(l.a:Rat))) rfl<|cl rfl (ag6 (q:=(l.b:Rat))) rfl<|cl rfl (ag6 (q:=(l.c:Rat))) rfl<|?_
 exact rz rfl (by unfold eLn LnQ.rev;simp only[Rat.intCast_neg];rfl)
theorem ayO{p:PtQ}{i:Nat}[hp:BPt p i](hi:i≤10000000:=by decide):PF GB Tryz.prog 256 [eZ p] (vI p.half):=by
 refine fn Tryz.func256 J J Tryz.ntmps256 J J (fun C=>?_)
 refine cl rfl (ads (q:=p.y) (by omega)) rfl<|?_
 refine cs 10 J J J (fun hg10=>?_) (fun hg10=>?_)
 ·
  exact rz rfl (by unfold PtQ.half;(repeat' split)<;>first|rfl|(exfalso;omega))
 ·
  refine cs 13 J J J (fun hg13=>?_) (fun hg13=>?_)
  ·
   refine cl rfl (ads (q:=p.x) (by omega)) rfl<|?_
   refine br J J J (fun hc7=>?_) (fun hc7=>?_)
   ·
    exact rz rfl (by unfold PtQ.half;(repeat' split)<;>first|rfl|(exfalso;omega))
   ·
    refine cs 23 J J J (fun hg23=>?_) (fun hg23=>?_)
    ·
     exact rz rfl (by unfold PtQ.half;(repeat' split)<;>first|rfl|(exfalso;omega))
    ·
     refine cl rfl (ads (q:=p.x) (by omega)) rfl<|?_
     refine br J J J (fun hc20=>?_) (fun hc20=>?_)
     ·
      exact rz rfl (by unfold PtQ.half;(repeat' split)<;>first|rfl|(exfalso;omega))
     ·
      exact rz rfl (by unfold PtQ.half;(repeat' split)<;>first|rfl|(exfalso;omega))
  ·
   refine cs 23 J J J (fun hg23=>?_) (fun hg23=>?_)
   ·
    exact rz rfl (by unfold PtQ.half;(repeat' split)<;>first|rfl|(exfalso;omega))
   ·
    refine cl rfl (ads (q:=p.x) (by omega)) rfl<|?_
    refine br J J J (fun hc20=>?_) (fun hc20=>?_)
    ·
     exact rz rfl (by unfold PtQ.half;(repeat' split)<;>first|rfl|(exfalso;omega))
    ·
     exact rz rfl (by unfold PtQ.half;(repeat' split)<;>first|rfl|(exfalso;omega))
theorem aBC{u v:PtQ}{i j:Nat}[hp:BPt u i][hq:BPt v j](hi:i≤10000000:=by decide)(hj:j≤10000000:=by decide):PF GB Tryz.prog 209 [eZ u,eZ v] (vI (abY u v)):=by
 refine fn Tryz.func209 J J Tryz.ntmps209 J J (fun C=>?_)
 refine cl rfl (ayO (p:=u) hi) rfl<|cl rfl (ayO (p:=v) hj) rfl<|?_
 refine br J J J (fun hc11=>?_) (fun hc11=>?_)
 ·
  exact rz rfl (by unfold abY;rw[if_pos hc11];rfl)
 ·
  refine br J J J (fun hc15=>?_) (fun hc15=>?_)
  ·
   exact rz rfl (by unfold abY;rw[if_neg hc11,if_pos hc15];rfl)
  ·
   refine cl rfl (awk (p:=u) (q:=v) (by omega) (by omega)) rfl<|cl (fu:=⟨0⟩) rfl (ads (q:=u.cross v) (by omega)) rfl<|?_
   have hs:=Int.sign_trichotomy (u.cross v).num
   refine gx rfl<|?_
   exact rz rfl (by unfold abY;rw[if_neg hc11,if_neg hc15];rfl)
theorem aCR{m:Int}:Nrm (dg m.natAbs)∧(decide (m<0)=true→0<(dg m.natAbs).length):=⟨(aaG _).2.2,fun h=>by
 have:0<m.natAbs:=by have:=of_decide_eq_true h;omega
 exact ahz.2 this⟩
theorem ab6{m:Int}{i:Nat}[h:BI m i](hi:i≤1000000000:=by decide):PF GB Tryz.prog 249 [eI m] (.v (.bool true)):=(anR (neg:=decide (m<0)) (ds:=dg m.natAbs) (aaG _).2.1 (by have:=agU (a:=m.natAbs) hi;omega)).to (by unfold vB;rw[decide_eq_true aCR])
theorem aGi{l:LnQ}(h:l.ok):rgcd (rgcd (l.a:Rat) (l.b:Rat)) (l.c:Rat)=((1:Int):Rat):=by
 rw[agv,agv]
 have:=h.2
 simp only[Int.natAbs_natCast];rw[this];rfl
instance BQ.rgcd (p q:Rat) (i j:Nat) [h:BQ p i] [k:BQ q j]:BQ (rgcd p q) (i+j+(i+j)):=by
 unfold Sx.rgcd
 refine agw (Nat.mul_pos (abH p) (abH q)) ?_ ?_
 ·rw[Int.natAbs_natCast]
  have h1:=abl h.hn k.hd
  have h2:=abl k.hn h.hd
  rw[Nat.add_comm j i] at h2
  exact apg h1 h2
 ·have h1:=abl h.hd k.hd
  have:2^(i+j)≤2^(i+j+(i+j)):=Nat.pow_le_pow_right (by decide) (by omega)
  omega
theorem aC1{l:LnQ}[hl:LB l](ho:l.ok):PF GB Tryz.prog 204 [eL l] (.tp [eLn l,vB true]):=by
 refine fn Tryz.func204 J J Tryz.ntmps204 J J (fun C=>?_)
 refine cl (fu:=⟨0⟩) rfl (ab6 (m:=l.a)) rfl<|knF J J J<|cl (fu:=⟨0⟩) rfl (ab6 (m:=l.b)) rfl<|knF J J J<|cl (fu:=⟨0⟩) rfl (ab6 (m:=l.c)) rfl<|?_
 refine knF J J J<|cl rfl (aeN (m:=l.a)) rfl<|cl rfl (aeN (m:=l.b)) rfl<|cl rfl (aeN (m:=l.c)) rfl<|cl (fu:=⟨0⟩) rfl (akK (q:=(l.a:Rat))) rfl<|?_
 refine csS (fu2:=⟨4⟩) J J J J (fun hg35=>?_) (fun hg35=>?_)
 ·
  have ha:l.a=0:=Rat.intCast_eq_zero_iff.1 hg35
  refine cl (fu:=⟨1⟩) rfl (akK (q:=(l.b:Rat))) rfl<|knF rfl (by first|rfl|(show some (decide _)=some false;rw[decide_eq_false (fun e=>ho.1 ⟨ha,Rat.intCast_eq_zero_iff.1 e⟩)])) rfl<|?_
  refine cl rfl (ah0 (p:=(l.a:Rat)) (q:=(l.b:Rat))) rfl<|cl rfl (ah0 (p:=rgcd l.a l.b) (q:=(l.c:Rat))) rfl<|cl rfl (akk (m:=1) (by decide)) rfl<|?_
  refine cl (fu:=⟨0⟩) rfl (ais (p:=rgcd (rgcd l.a l.b) l.c) (q:=((1:Int):Rat))) rfl<|knF rfl (by show some (!decide _)=some false;rw[aGi ho,decide_eq_true rfl];rfl) rfl<|?_
  exact rz J J
 ·
  refine knF rfl (by first|rfl|(show some (decide _)=some false;rw[decide_eq_false (fun e=>ho.1 ⟨ha,Rat.intCast_eq_zero_iff.1 e⟩)])) rfl<|cl rfl (ah0 (p:=(l.a:Rat)) (q:=(l.b:Rat))) rfl<|?_
  refine cl rfl (ah0 (p:=rgcd l.a l.b) (q:=(l.c:Rat))) rfl<|cl rfl (akk (m:=1) (by decide)) rfl<|cl (fu:=⟨0⟩) rfl (ais (p:=rgcd (rgcd l.a l.b) l.c) (q:=((1:Int):Rat))) rfl<|?_
  refine knF rfl (by show some (!decide _)=some false;rw[aGi ho,decide_eq_true rfl];rfl) rfl<|?_
  exact rz J J
def eFr(f:FrQ):DV:= .ag [vI (fn_ (f.l.a:Rat)),vI (fd_ (f.l.a:Rat)),fp_ (f.l.a:Rat),vI (fn_ (f.l.b:Rat)),vI (fd_ (f.l.b:Rat)),fp_ (f.l.b:Rat),vI (fn_ (f.l.c:Rat)),vI (fd_ (f.l.c:Rat)),fp_ (f.l.c:Rat),vI (fn_ f.v.lo),vI (fd_ f.v.lo),fp_ f.v.lo,vI (fn_ f.v.hi),vI (fd_ f.v.hi),fp_ f.v.hi, .v (.bool f.v.nl), .v (.bool f.v.nh)]
structure axb (v:IvQ):Prop where
 z:IvZ v
 lo:BQ v.lo 1200
 hi:BQ v.hi 1200
structure aEG (s:FrQ):Prop where
 lb:LB s.l
 ok:s.l.ok
 v:axb s.v
abbrev aa5 (c:aaf):Prop:= ∀s∈c,aEG s
theorem agn{α:Type}(f:α→DV)(l:List α):(l.map f).length=l.length:=by simp
theorem axb.all:axb IvQ.all:=⟨⟨fun _=>rfl,fun _=>rfl⟩,BQ.z1.mono (by decide),BQ.z1.mono (by decide)⟩
theorem axb.cut{l m:LnQ}{v:IvQ}[LB l][LB m](hn:l.Ne)(h:axb v):axb (l.cutV v m):=by
 by_cases h0:crossI l m=0
 ·rw[(agR (v:=v) h0).1];exact h
 ·obtain⟨u1,_,u3,u4,u5⟩:=aj8 (v:=v) hn h.z h.lo h.hi h0
  rw[u1];exact⟨u3,u4,u5⟩
def ivD(o:Option IvQ):IvQ:=o.getD ⟨0,0,false,false⟩
theorem aCr(G:Gh)(y:Value)(k:Is G (.tp [.ag [vI 0,vI 0, .v (.pointer none),vI 0,vI 0, .v (.pointer none), .v (.bool false), .v (.bool false)], .v (.bool false)]) y):Is G (.tp [eW (ivD none),vB false]) y:=by
 obtain⟨m,rfl,g⟩:=aeL.1 k
 exact aeL.2 ⟨m,rfl,aDR (fun y hy=>by
  obtain⟨l,rfl,g⟩:=abL.1 hy
  exact abL.2 ⟨l,rfl,awV (asy [vI 0,vI 0, .v (.pointer none)] g)⟩) g⟩
theorem aay{α:Type}{f:α→DV}{l:List α}{i:Nat}{s:α}(h:l[i]? =some s):(l.map f)[(i:Int).toNat]? =some (f s):=by simp[h]
theorem ajY{α:Type}{l:List α}{k:Nat}{s:α}(h:l[k]? =some s):l.drop k=s::l.drop (k+1):=by
 obtain⟨h1,h2⟩:=List.getElem?_eq_some_iff.1 h
 rw[List.drop_eq_getElem_cons h1,h2]
theorem apE{l:LnQ}{c:aaf}{v:IvQ}{k:Nat}{s:FrQ}(h:c[k]? =some s):ahj l (c.drop k) v=if l.cutB v s.l then ahj l (c.drop (k+1)) (l.cutV v s.l) else none:=by
 rw[ajY h];rfl
theorem aja{l:LnQ}{c:aaf}{k:Nat}{s:FrQ}(h:c[k]? =some s):aey l (c.drop k)=if aer l s≠0 then aer l s else if s.l=l then 1 else aey l (c.drop (k+1)):=by
 rw[ajY h];rfl
instance BQ.sample (v:IvQ) [h1:BQ v.lo 1200] [h2:BQ v.hi 1200]:BQ v.sample 2500:=by
 unfold IvQ.sample
 split
 ·exact BQ.z1.mono (by decide)
 ·split
  ·exact BQ.mono (inferInstance:BQ (v.hi-((1:Int):Rat)) _) (by decide)
  ·split
   ·exact BQ.mono (inferInstance:BQ (v.lo+((1:Int):Rat)) _) (by decide)
   ·exact BQ.mono (inferInstance:BQ ((v.lo+v.hi)*mkRat 1 2) _) (by decide)
theorem ay2{c:aaf}{l:LnQ}[hl:LB l](hlo:l.ok)(hc:aa5 c)(hn:c.length≤1000000):PF GB Tryz.prog 279 [.sl (c.map eFr),eLn l] (.tp [eW (ivD (af0 c l)),vB (af0 c l).isSome]):=by
 have hm:=agn eFr c
 refine fn Tryz.func279 J J Tryz.ntmps279 J J (fun C=>?_)
 refine cl (fu:=⟨10⟩) rfl aFr rfl<|?_
 refine eqF 12 (.d (vI (c.length:Nat))) rfl (by rw[agn]<;>rfl) ?_
 refine gx rfl<|?_
 refine lp (X:=IvQ×Nat) (fun⟨v,k⟩=>[(13, .d (vI (k:Nat))),(6, .ov 6 0)]) (fun⟨v,k⟩=>[(6,some (.o 185 [.d (vI (fn_ v.lo)), .d (vI (fd_ v.lo)), .d (fp_ v.lo), .d (vI (fn_ v.hi)), .d (vI (fd_ v.hi)), .d (fp_ v.hi), .d (.v (.bool v.nl)), .d (.v (.bool v.nh))] true))]) (fun⟨v,k⟩=>k≤c.length∧axb v∧ahj l (c.drop k) v=af0 c l) (fun⟨v,k⟩=>c.length-k) (IvQ.all,0) rfl ⟨Nat.zero_le _, .all,rfl⟩ (fun _=>rfl) (fun⟨v,k⟩ hk=>?_)
 dsimp only at hk⊢
 obtain⟨h1,h2,h3⟩:=hk
 haveI:=h2.lo
 haveI:=h2.hi
 refine br J J J (fun hc14=>?_) (fun hc14=>?_)
 ·
  obtain⟨s,hs0⟩: ∃s,c[k]? =some s:=⟨_,List.getElem?_eq_getElem (by omega)⟩
  have hs:=hc s (List.mem_of_getElem? hs0)
  haveI:=hs.lb
  refine ix _ rfl (aay hs0) rfl<|cl (fu:=⟨0⟩) rfl (aDi (l:=l) (m:=s.l) (v:=v)) rfl<|?_
  generalize hw:l.cutV v s.l=w
  generalize hb:l.cutB v s.l=b
  refine gx rfl<|?_
  refine bb J J J (fun hc26=>?_) (fun hc26=>?_)
  ·
   exact rzI rfl (by rw[←h3,apE hs0,hb,if_neg (by simpa using hc26)];exact aCr)
  ·
   exact at_ (w,k+1) (by dsimp only;exact⟨⟨by omega,hw▸h2.cut hlo.1,by rw[←h3,apE hs0,hb,hw,if_pos (by simpa using hc26)]⟩,(by omega)⟩)
 ·
  exact rz rfl (by rw[←h3,List.drop_of_length_le (by omega)];rfl)
theorem aBp{c:aaf}{l:LnQ}[hl:LB l](hlo:l.ok)(hc:aa5 c)(hn:c.length≤1000000):PF GB Tryz.prog 280 [.sl (c.map eFr),eLn l] (vI (akd c l)):=by
 have hm:=agn eFr c
 refine fn Tryz.func280 J J Tryz.ntmps280 J J (fun C=>?_)
 refine cl rfl (ay2 (c:=c) (l:=l) hlo hc hn) rfl<|?_
 refine bb (fu2:=⟨7⟩) J J J (fun hc16=>?_) (fun hc16=>?_)
 ·
  exact rz rfl (by unfold akd;rw[if_pos hc16];rfl)
 ·
  have hp:akd c l=aey l c:=by unfold akd;rw[if_neg (by simp[hc16])]
  refine eqF 18 (.d (vI (c.length:Nat))) rfl (by rw[agn]<;>rfl) ?_
  refine gx rfl<|?_
  refine lp (X:=Nat) (fun k=>[(19, .d (vI (k:Nat)))]) (fun k=>[]) (fun k=>k≤c.length∧aey l (c.drop k)=aey l c) (fun k=>c.length-k) 0 rfl ⟨Nat.zero_le _,rfl⟩ (fun _=>rfl) (fun k hk=>?_)
  obtain⟨h1,h2⟩:=hk
  refine br J J J (fun hc20=>?_) (fun hc20=>?_)
  ·
   obtain⟨s,hs0⟩: ∃s,c[k]? =some s:=⟨_,List.getElem?_eq_getElem (by omega)⟩
   have hs:=hc s (List.mem_of_getElem? hs0)
   haveI:=hs.lb
   haveI:=hs.v.lo
   haveI:=hs.v.hi
   haveI:=BQ.sample s.v
   refine ix _ rfl (aay hs0) rfl<|cl (fu:=⟨0⟩) rfl (aqR (v:=s.v)) rfl<|?_
   generalize ht:s.v.sample=t at*
   refine gx rfl<|cl rfl (aDC (l:=s.l) (t:=t)) rfl<|cl rfl (aAB (l:=l) (p:=s.l.at t)) rfl<|?_
   refine br J J J (fun hc32=>?_) (fun hc32=>?_)
   ·
    have hsd:aer l s=(l.value (s.l.at t)).num.sign:=by unfold aer;rw[ht]
    exact rz rfl (by rw[hp,←h2,aja hs0,hsd,if_pos hc32];rfl)
   ·
    refine cl rfl (avQ (l:=s.l) (m:=l)) rfl<|?_
    refine bd J J J (fun hc37=>?_) (fun hc37=>?_)
    ·
     have hsd:aer l s=(l.value (s.l.at t)).num.sign:=by unfold aer;rw[ht]
     exact rz rfl (by rw[hp,←h2,aja hs0,hsd,if_neg hc32,if_pos hc37];rfl)
    ·
     have hsd:aer l s=(l.value (s.l.at t)).num.sign:=by unfold aer;rw[ht]
     exact at_ (k+1) ⟨⟨by omega,by rw[←h2,aja hs0,hsd,if_neg hc32,if_neg hc37]⟩,(by omega)⟩
  ·
   exact rz rfl (by rw[hp,←h2,List.drop_of_length_le (by omega)];rfl)
theorem anr{vs rest:List Value}(h: ∀v∈vs,(aad v).length=17){i:Nat}(hi:i≤vs.length):aaZ (aak vs++rest) (i*17) ((vs.length-i)*17)=some (aak (vs.drop i)):=by
 have hl:=aav vs h
 have hd:(aak (vs.drop i)).length=(vs.length-i)*17:=by
  rw[aav (s:=17) _ (fun v hv=>h v (List.mem_of_mem_drop hv)),List.length_drop]
 rw[abJ _ _ _ (by simp only[List.length_append];omega)]
 congr 1
 rw[List.drop_append_of_le_length (by omega),afG vs i h hi,List.take_append_of_le_length (by omega),List.take_of_length_le (by omega)]
theorem arL{vs rest vcs:List Value}(h: ∀v∈vs,(aad v).length=17)(hv:vcs.length=17){i:Nat}(hi:i<vs.length)(hr:17≤rest.length):
  ovw (ovw (aak vs++rest) ((i+1)*17) (aak (vs.drop i))) (i*17) vcs=aak (vs.take i)++vcs++aak (vs.drop i)++rest.drop 17:=by
 have hl:=aav vs h
 have hd:(aak (vs.drop i)).length=(vs.length-i)*17:=by
  rw[aav (s:=17) _ (fun v hv=>h v (List.mem_of_mem_drop hv)),List.length_drop]
 have ht:(aak (vs.take i)).length=i*17:=by
  rw[aav (s:=17) _ (fun v hv=>h v (List.mem_of_mem_take hv)),List.length_take,Nat.min_eq_left (by omega)]
 rw[acK (aak (vs.drop i)) (aak vs++rest) _ (by rw[List.length_append];omega)]
 rw[acK vcs _ _ (by simp only[List.length_append,List.length_take,List.length_drop];omega)]
 have e1:(aak vs++rest).drop ((i+1)*17+(aak (vs.drop i)).length)=rest.drop 17:=by
  rw[hd,show(i+1)*17+(vs.length-i)*17=(aak vs).length+17 by omega,List.drop_append,List.drop_eq_nil_of_le (by omega),List.nil_append]
  congr 1
  omega
 have e2:((aak vs++rest).take ((i+1)*17)++aak (vs.drop i)++rest.drop 17).take (i*17)=aak (vs.take i):=by
  rw[List.append_assoc,List.take_append_of_le_length (by simp only[List.length_take,List.length_append];omega),List.take_take,Nat.min_eq_left (by omega),List.take_append_of_le_length (by omega),ahr vs i h (by omega)]
 have e3:((aak vs++rest).take ((i+1)*17)++aak (vs.drop i)++rest.drop 17).drop (i*17+vcs.length)=aak (vs.drop i)++rest.drop 17:=by
  rw[hv,List.append_assoc,show i*17+17=((aak vs++rest).take ((i+1)*17)).length by simp only[List.length_take,List.length_append];omega,List.drop_left]
 rw[e1,e2,e3]
 simp[List.append_assoc]
theorem arY{vs rest vcs:List Value}(h: ∀v∈vs,(aad v).length=17)(hv:vcs.length=17)(hr:17≤rest.length):ovw (aak vs++rest) (vs.length*17) vcs=aak vs++vcs++rest.drop 17:=by
 have hl:=aav vs h
 rw[acK _ _ _ (by simp only[List.length_append];omega),hv,←hl,List.take_left,List.drop_append]
 simp
theorem alJ{G:Gh}{b bv cap i c2:Nat}{vs rest vcs r2:List Value}{lo lo2:Bool}(hvs: ∀v∈vs,(aad v).length=17)(hfl: ∀v∈vs,∀c∈aad v,flat c=true)(hv:vcs.length=17)(hvf: ∀c∈vcs,flat c=true)
  (hcap:vs.length*17+rest.length=cap*17)(hroom:vs.length+1≤cap)(hi:i≤vs.length)(hb:vs.length≤1125899906842624):
  FnM Tryz.prog 284 [.slice (some ⟨b,0,none⟩) vs.length cap, .int .i64 i, .slice (some ⟨bv,0,none⟩) 1 c2] [⟨b,aak vs++rest,187,lo⟩,⟨bv,vcs++r2,187,lo2⟩] G
   (fun u css _=>u= .slice (some ⟨b,0,none⟩) (vs.length+1) cap∧css=[aak (vs.take i)++vcs++aak (vs.drop i)++rest.drop 17,vcs++r2]):=by
 have hL:(aak vs++rest).length=cap*17:=by rw[List.length_append,aav vs hvs];exact hcap
 have hr:17≤rest.length:=by omega
 have hD:(aak (vs.drop i)).length=(vs.length-i)*17:=by
  rw[aav (s:=17) _ (fun v hv=>hvs v (List.mem_of_mem_drop hv)),List.length_drop]
 have hDf: ∀c∈aak (vs.drop i),flat c=true:=fun c hc=>by
  obtain⟨l,hl,hcl⟩:=List.mem_flatten.1 hc
  obtain⟨v,hv,rfl⟩:=List.mem_map.1 hl
  exact hfl v (List.mem_of_mem_drop hv) c hcl
 have hvt:aaZ (vcs++r2) 0 (1*17)=some vcs:=by rw[abJ _ _ _ (by rw[List.length_append];omega),List.drop_zero,List.take_append_of_le_length (by omega),List.take_of_length_le (by omega)]
 refine FnM.intro Tryz.func284 J J Tryz.ntmps284 rfl ?_
 intro C _ _
 show St C _ _ [⟨b,aak vs++rest,187,false⟩,⟨bv,vcs++r2,187,false⟩] _ _
 refine awD (fun hne=>?_)
 simp only[] at hne
 refine sR<|sa J J<|zE<|sR<|sm J J<|sm J J<|sy (ago J J (by omega) (by omega)) rfl<|zE<|sR<|?_
 refine sm J J<|adj J J<|sa J J<|zE<|aaj<|sR<|sm J J<|sy (ab3 J J) rfl<|zE<|aeS rfl<|?_
 refine zK<|sR<|sm J J<|adj J J<|sa J J<|zE<|aaj<|sR<|sm J J<|sm J J<|sy (ab3 J J) rfl<|zE<|?_
 refine aaH rfl (fun hc=>?_) (fun hc=>?_) -- slot 22
 ·have hin:i=vs.length:=by omega
  subst hin
  refine sR<|sm J J<|sm J J<|?_
  refine sc (agd (s:=17) (m:=1) (ys:=vcs) J J (.hd ..) hL (ahE inferInstance hvt) (by omega) hvf hroom rfl ?_)
  refine sa J J<|zE<|aaL<|?_
  refine ac9 (css:=[ovw (aak vs++rest) (vs.length*17) vcs,vcs++r2]) (.tmp rfl .nil) rfl _ (List.Perm.refl _) (List.Sublist.refl _) ⟨rfl,?_⟩
  rw[arY hvs hv hr,List.take_length,List.drop_length]
  simp[aak]
 have hin:i<vs.length:=by omega
 have hn1:((vs.length:Int)+((1:Nat):Int)).toNat=vs.length+1:=by omega
 have ht1:((i:Int)+((1:Nat):Int)).toNat=i+1:=by omega
 refine zK<|aaj<|sR<|sm J J<|sm J J<|sy (aaq J J) rfl<|sm J J<|?_
 refine sy (aCM rfl) rfl<|sy (af8 J J) rfl<|zE<|?_
 refine aaH rfl (fun hc2=>?_) (fun hc2=>?_) -- slot 31
 ·exact absurd hc2 (by omega)
 refine zK<|sR<|sm J J<|sm J J<|sm J J<|sy (aaq J J) rfl<|sy (ac0 J J (by omega) (by omega)) rfl<|?_
 rw[hn1]
 refine sa J J<|zE<|aaj<|sR<|sm J J<|sm J J<|sm J J<|sm J J<|sy (aaq J J) rfl<|sy (aeg J J (by omega) (by omega) (by omega)) rfl<|?_
 refine sy (apd (tS:=105) (tR:=4) Tryz.func305 (by kernel_rfl) (by kernel_rfl) (by kernel_rfl) (by kernel_rfl) J J (Ne.symm hne) (fun h=>by rw[h] at hL;simp at hL;omega)) rfl<|?_
 refine sy (ah5 rfl) rfl<|zE<|acr rfl<|?_
 refine aaj<|dr0 (b:=b) (fun _=>false) [(0,true),(1,true),(2,true),(3,true),(4,true),(5,true),(6,true),(7,true),(8,false)] follows (.hd ..) (by kernel_rfl)<|dM J J J<|?_
 refine dM J J J<|dM J J J<|dy rfl (fun _=>aaq J J (by omega) (by omega)) J J<|dy rfl (fun _=>aeg J J (by omega) (by omega) (by omega)) J J<|?_
 refine dM J J J<|dM J J J<|dy rfl (fun _=>aeg J J (by omega) (by omega) (by omega)) J J<|?_
 rw[ht1,Int.toNat_natCast,Nat.zero_add,Nat.zero_add]
 refine dc J J (aum (s:=17) (m:=vs.length-i) (ys:=aak (vs.drop i)) J J (by show min _ _=_;omega) (ahE inferInstance (anr hvs hi)) hDf (by rw[hD,hL];omega) (.hd ..) rfl ?_)
 refine av6<|dn<|sR<|sm J J<|sm J J<|sy (aeg J J (by omega) (by omega) (by omega)) rfl<|sm J J<|?_
 rw[Int.toNat_natCast,Nat.zero_add]
 refine sc (aum (s:=17) (m:=1) (ys:=vcs) J J (by show min _ _=_;omega) (ahE inferInstance hvt) hvf (by rw[akc,hL,hv];omega) (.hd ..) rfl ?_)
 refine zE<|sR<|sm J J<|sa J J<|zE<|aaL<|?_
 refine ac9 (css:=[ovw (ovw (aak vs++rest) ((i+1)*17) (aak (vs.drop i))) (i*17) vcs,vcs++r2]) (.tmp rfl .nil) rfl _ (List.Perm.refl _) (List.Sublist.refl _) ⟨rfl,?_⟩
 rw[arL hvs hv hin hr]
theorem FnM.toO{P:Program}{f:FuncId}{vs:List Value}{M:List Own}{G:Gh}{K:Value→List (List Value)→Gh→Prop}{K':Value→List Own→Gh→Prop}(h:FnM P f vs M G K)(hk: ∀v css G',GLe G G'→css.length=M.length→K v css G'→ ∃o,o.Sublist (afh (asB M) css)∧K' v o G'):FnO P f vs M G K':=
 ⟨h.able,fun w hw=>(h.run w hw).mono fun _ _ ⟨v,css,G',he,hl,hh,hK⟩=>let⟨o,h1,h2⟩:=hk v css G' hh.gle hl hK;⟨v,o,G',he,hh.drop h1,h2⟩⟩
theorem aDo(c:aaf):adx 17 (c.map eFr):=fun d hd=>by
 obtain⟨f,_,rfl⟩:=List.mem_map.1 hd;exact⟨rfl,rfl⟩
theorem aq5{G:Gh}{s:Nat}{ds:List DV}{vs:List Value}(hk:adx s ds)(h:IsLs G ds vs): ∀v∈vs,∀c∈aad v,flat c=true:=fun v hv=>by
 obtain⟨d,hd,h3⟩:=h.all v hv
 exact(h3.cells (hk d hd).1).2
theorem avX{c:aaf}{x:FrQ}{i cap:Nat}(hi:i≤c.length)(hc:c.length+1≤cap)(hn:c.length≤1000000):PI GB Tryz.prog 284 (i:Nat) 17 187 187 (c.map eFr) (eFr x) cap ((c.take i++x::c.drop i).map eFr):=by
 intro G w w2 B B2 _ hB hcap hB2
 obtain⟨vs,q1,q2,q3,_⟩:=hB
 obtain⟨us,u1,u2,u3,_⟩:=hB2
 dsimp only at q1 q2 q3 u1 u2 u3
 have hl:=q2.len
 rw[List.length_map] at hl
 obtain⟨v,m,rfl,hv,hm⟩:=aab.1 u2
 cases aaJ.1 hm
 rcases q1 with⟨_,e,_⟩|⟨b,rest,lo,e,rfl,h5,h6,h7⟩
 ·rw[e] at hcap;simp at hcap;omega
 rcases u1 with⟨h,_⟩|⟨bv,r2,lo2,e2,rfl,h8,h9,h10⟩
 ·cases h
 have hx:(aad v).length=17:=u3 v List.mem_cons_self
 have hxf:=aq5 (s:=17) (ds:=[eFr x]) (fun d hd=>by rw[List.mem_singleton.1 hd];exact⟨rfl,rfl⟩) u2 v List.mem_cons_self
 have key:=alJ (G:=G) (b:=b) (bv:=bv) (cap:=w.c) (i:=i) (c2:=w2.c) (vs:=vs) (rest:=rest) (vcs:=aad v) (r2:=r2) (lo:=lo) (lo2:=lo2) q3 (aq5 (aDo c) q2) hx hxf (by rw[←h5];exact h6) (by omega) (by omega) (by omega)
 rw[e,e2]
 rw[ajT]
 refine key.toO fun u css G' hg hl2 ⟨k1,k2⟩=>?_
 subst k1 k2
 have hall: ∀u∈vs.take i++v::vs.drop i,(aad u).length=17:=fun u hu=>by
  rcases List.mem_append.1 hu with hu|hu
  ·exact q3 u (List.mem_of_mem_take hu)
  ·rcases List.mem_cons.1 hu with rfl|hu
   ·exact hx
   ·exact q3 u (List.mem_of_mem_drop hu)
 have hlen:(vs.take i++v::vs.drop i).length=vs.length+1:=by
  rw[List.length_append,List.length_cons,List.length_take,List.length_drop];omega
 refine⟨[⟨b,aak (vs.take i)++aad v++aak (vs.drop i)++rest.drop 17,187,false⟩], .cons_cons _ (List.nil_sublist _),⟨some ⟨b,0,none⟩,vs.length+1,w.c⟩,rfl,vs.take i++v::vs.drop i, .inr ⟨b,rest.drop 17,false,by rw[hlen],?_,aav _ hall,?_,?_⟩,?_,hall,fun h=>by cases h⟩
 ·rw[adc];simp[aak]
 ·rw[aav _ hall,hlen,List.length_drop]
  rw[h5] at h6
  have:=Nat.mul_le_mul_right 17 (show vs.length+1≤w.c by omega)
  simp only[Nat.add_mul] at this⊢;omega
 ·rw[hlen];show vs.length+1≤w.c;omega
 ·rw[List.map_append,List.map_cons,List.map_take,List.map_drop]
  exact((q2.take i).up hg).app (.cons (hv.up hg) ((q2.drop i).up hg))
theorem atw{s:FrQ}{l:LnQ}[hs:LB s.l][hl:LB l]:PF GB Tryz.prog 283 [eFr s,eLn l] (vI (abY s.l.dir l.dir)):=by
 refine fn Tryz.func283 J J Tryz.ntmps283 J J (fun C=>?_)
 refine cl rfl (aqa (l:=s.l)) rfl<|cl rfl (aqa (l:=l)) rfl<|cl rfl (aBC (u:=s.l.dir) (v:=l.dir)) rfl<|?_
 exact rz J J
def bsB(c:aaf)(l:LnQ)(i:Nat):Bool:=match c[i]? with
 |some s=>decide (abY s.l.dir l.dir=0)
 |none=>false
theorem avY(i j:Nat):((i:Int)+(j:Int)).fdiv (2^min (1:Int).toNat IntKind.u64.bits)=((i+j)/2:Nat):=by
 rw[show(2:Int)^min (1:Int).toNat IntKind.u64.bits=((2:Nat):Int) from rfl,Int.fdiv_eq_ediv_of_nonneg _ (by decide)];omega
theorem aAU{c:aaf}{l:LnQ}{k:Nat}{s:FrQ}(h:c[k]? =some s):agJ c l k=decide (abY s.l.dir l.dir<0):=by unfold agJ;rw[h]
theorem aFB{c:aaf}{l:LnQ}{k:Nat}{s:FrQ}(h:c[k]? =some s):bsB c l k=decide (abY s.l.dir l.dir=0):=by unfold bsB;rw[h]
theorem aFH{c:aaf}{l:LnQ}{k:Nat}(h: ¬k<c.length):bsB c l k=false:=by unfold bsB;rw[List.getElem?_eq_none (by omega)]
theorem aE3{p:Nat→Bool}{i j:Nat}(h:i<j)(hp:p ((i+j)/2)=true):bsq p i j=bsq p ((i+j)/2+1) j:=by rw[bsq,dif_pos h,if_pos hp]
theorem aFp{p:Nat→Bool}{i j:Nat}(h:i<j)(hp: ¬p ((i+j)/2)=true):bsq p i j=bsq p i ((i+j)/2):=by rw[bsq,dif_pos h,if_neg hp]
theorem aDj{p:Nat→Bool}{i j:Nat}(h: ¬i<j):bsq p i j=i:=by rw[bsq,dif_neg h]
theorem aFv{c:aaf}{l:LnQ}[hl:LB l](hc:aa5 c)(hn:c.length≤1000000):PF GB Tryz.prog 282 [.sl (c.map eFr),eLn l, .v (.func (.func 283) #[] #[])] (.tp [vI (bsq (agJ c l) 0 c.length:Nat),vB (bsB c l (bsq (agJ c l) 0 c.length))]):=by
 have hm:=agn eFr c
 refine fn (fu:=⟨11⟩) Tryz.func282 J J Tryz.ntmps282 J J (fun C=>?_)
 refine eqF 13 (.d (vI (c.length:Nat))) rfl (by rw[hm]<;>rfl) ?_
 refine gx rfl<|?_
 refine lp (X:=Nat×Nat) (fun⟨i,j⟩=>[(9, .d (vI (i:Nat))),(10, .d (vI (j:Nat)))]) (fun⟨i,j⟩=>[]) (fun⟨i,j⟩=>i≤j∧j≤c.length∧bsq (agJ c l) i j=bsq (agJ c l) 0 c.length) (fun⟨i,j⟩=>j-i) (0,c.length) rfl ⟨Nat.zero_le _,Nat.le_refl _,rfl⟩ (fun _=>rfl) (fun⟨i,j⟩ hk=>?_)
 dsimp only at hk⊢
 obtain⟨h1,h2,h3⟩:=hk
 refine br (fu1:=⟨10⟩) (fu2:=⟨11⟩) J J J (fun hc17=>?_) (fun hc17=>?_)
 ·
  obtain⟨s,hs0⟩: ∃s,c[(i+j)/2]? =some s:=⟨_,List.getElem?_eq_getElem (by omega)⟩
  haveI:=(hc s (List.mem_of_getElem? hs0)).lb
  have hang:=aAU (l:=l) hs0
  refine eqF 22 (.d (.v (.int .u64 ((i+j)/2:Nat)))) rfl (by rw[avY]) ?_
  refine gx rfl<|ix _ rfl (aay hs0) rfl<|cl rfl (atw (s:=s) (l:=l)) rfl<|?_
  refine br J J J (fun hc31=>?_) (fun hc31=>?_)
  ·
   exact at_ ((i+j)/2+1,j) (by dsimp only;exact⟨⟨by omega,h2,by rw[←h3,aE3 (i:=i) (j:=j) (by omega) (by rw[hang];exact decide_eq_true hc31)]⟩,(by omega)⟩)
  ·
   exact at_ (i,(i+j)/2) (by dsimp only;exact⟨⟨by omega,by omega,by rw[←h3,aFp (i:=i) (j:=j) (by omega) (by rw[hang,decide_eq_false hc31];exact Bool.false_ne_true)]⟩,(by omega)⟩)
 ·
  refine csS (v2:=fun hg39=>by simp only[aai];kernel_rfl) J J J J (fun hg39=>?_) (fun hg39=>?_)
  ·
   have he:=aDj (p:=agJ c l) (i:=i) (j:=j) (by omega)
   obtain⟨s,hs0⟩: ∃s,c[i]? =some s:=⟨_,List.getElem?_eq_getElem (by omega)⟩
   haveI:=(hc s (List.mem_of_getElem? hs0)).lb
   refine ix _ rfl (aay hs0) rfl<|cl rfl (atw (s:=s) (l:=l)) rfl<|?_
   exact rz rfl (by rw[←h3,he,aFB hs0];rfl)
  ·
   have he:=aDj (p:=agJ c l) (i:=i) (j:=j) (by omega)
   exact rz rfl (by rw[←h3,he,aFH (by omega)];rfl)
theorem at2{l:LnQ}[LB l](hlo:l.ok): ∀{c:aaf} {v w:IvQ},aa5 c→axb v→ahj l c v=some w→axb w
 |[],v,w,_,hv,h=>by cases h;exact hv
 |s::t,v,w,hc,hv,h=>by
  haveI:=(hc s List.mem_cons_self).lb
  simp only[ahj] at h
  split at h
  ·exact at2 hlo (fun x hx=>hc x (List.mem_cons_of_mem _ hx)) (hv.cut hlo.1) h
  ·cases h
theorem ams{l:LnQ}[LB l]: ∀{c:aaf},aa5 c→aa5 (acF l c)
 |[],_,s,h=>by cases h
 |a::t,hc,s,h=>by
  have ha:=hc a List.mem_cons_self
  haveI:=ha.lb
  have ht:=ams (l:=l) (fun x hx=>hc x (List.mem_cons_of_mem _ hx))
  unfold acF at h
  split at h
  ·rcases List.mem_cons.1 h with rfl|h
   ·exact⟨ha.lb,ha.ok,ha.v.cut ha.ok.1⟩
   ·exact ht s h
  ·exact ht s h
theorem aeW{l:LnQ}[hl:LB l](hlo:l.ok){c:aaf}(hc:aa5 c):aa5 (aaK c l):=by
 unfold aaK
 split
 ·rename_i v hv
  intro s hs
  unfold ar3 at hs
  rcases List.mem_append.1 hs with h|h
  ·exact ams hc s (List.mem_of_mem_take h)
  ·rcases List.mem_cons.1 h with rfl|h
   ·exact⟨hl,hlo,at2 hlo hc .all hv⟩
   ·exact ams hc s (List.mem_of_mem_drop h)
 ·exact hc
theorem aqx{l:LnQ}{c:aaf}{k:Nat}{s:FrQ}(h:c[k]? =some s):acF l (c.drop k)=if s.l.cutB s.v l then⟨s.l,s.l.cutV s.v l⟩::acF l (c.drop (k+1)) else acF l (c.drop (k+1)):=by
 rw[ajY h];rfl
theorem ayZ{c:aaf}{l:LnQ}[hl:LB l](hlo:l.ok)(hc:aa5 c)(hn:c.length≤100000):PF GB Tryz.prog 246 [.sl (c.map eFr),eLn l] (.tp [.sl ((aaK c l).map eFr),vB (abq c l)]):=by
 have hm:=agn eFr c
 refine fn Tryz.func246 J J Tryz.ntmps246 J J (fun C=>?_)
 refine cl rfl (ay2 (c:=c) (l:=l) hlo hc (by omega)) rfl<|?_
 refine bb (fu2:=⟨6⟩) J J J (fun hc22=>?_) (fun hc22=>?_)
 ·
  have hp:af0 c l=none:=by simpa using hc22
  refine cl rfl (aBp (c:=c) (l:=l) hlo hc (by omega)) rfl<|?_
  exact rz rfl (by unfold aaK abq;rw[hp];rfl)
 ·
  obtain⟨v,hv⟩: ∃v,af0 c l=some v:=Option.isSome_iff_exists.1 (by simpa using hc22)
  have hvd:ivD (af0 c l)=v:=by rw[hv];rfl
  rw[hvd]
  refine eqF 29 (.d (vI (c.length:Nat))) rfl (by rw[hm]<;>rfl) ?_
  refine gx rfl<|mkc (fu:=⟨8⟩) (c.length+1) J J J<|?_
  refine eqF 33 (.d (vI (c.length:Nat))) rfl (by rw[hm]<;>rfl) ?_
  refine gx rfl<|?_
  refine lp (X:=aaf×Nat) (fun⟨o,k⟩=>[(34, .d (vI (k:Nat))),(8, .rw 31)]) (fun⟨o,k⟩=>[(31,some (.c 187 17 (o.map eFr) (c.length+1)))]) (fun⟨o,k⟩=>k≤c.length∧o.length≤k∧o++acF l (c.drop k)=acF l c) (fun⟨o,k⟩=>c.length-k) ([],0) rfl ⟨Nat.zero_le _,Nat.le_refl _,rfl⟩ (fun _=>rfl) (fun⟨o,k⟩ hk=>?_)
  dsimp only at hk⊢
  obtain⟨h1,h2,h3⟩:=hk
  have hmo:=agn eFr o
  refine br J J J (fun hc35=>?_) (fun hc35=>?_)
  ·
   obtain⟨s,hs0⟩: ∃s,c[k]? =some s:=⟨_,List.getElem?_eq_getElem (by omega)⟩
   have hs:=hc s (List.mem_of_getElem? hs0)
   haveI:=hs.lb
   haveI:=hs.v.lo
   haveI:=hs.v.hi
   refine ix _ rfl (aay hs0) rfl<|cl (fu:=⟨0⟩) rfl (aDi (l:=s.l) (m:=l) (v:=s.v)) rfl<|?_
   generalize hw:s.l.cutV s.v l=w
   generalize hb:s.l.cutB s.v l=b
   refine gx rfl<|?_
   refine bb J J J (fun hc47=>?_) (fun hc47=>?_)
   ·
    refine rf J J<|apc ((o++[FrQ.mk s.l w]).map eFr) rfl (by rw[List.map_append];rfl) (aDo [FrQ.mk s.l w]) (by rw[hmo];simp;omega) rfl<|?_
    refine rnE 54 31 rfl ?_
    exact at_ (o++[FrQ.mk s.l w],k+1) (by dsimp only;exact⟨⟨by omega,by simp;omega,by rw[←h3,aqx hs0,hb,if_pos hc47,hw,List.append_assoc];rfl⟩,(by omega)⟩)
   ·
    exact at_ (o,k+1) (by dsimp only;exact⟨⟨by omega,by omega,by rw[←h3,aqx hs0,hb,if_neg (by simp[hc47])]⟩,(by omega)⟩)
  ·
   obtain rfl:k=c.length:=by omega
   have ho:o=acF l c:=by rw[←h3,List.drop_length];simp[acF]
   subst ho
   have hbl:=(ap3 (agJ (acF l c) l) (acF l c).length 0 (acF l c).length (by omega) (by omega)).2
   refine cL rfl (aFv (c:=acF l c) (l:=l) (ams hc) (by omega)) J J<|ro J J<|ci ((ar3 (acF l c) l v).map eFr) rfl (avX (c:=acF l c) (x:=⟨l,v⟩) (i:=bsq (agJ (acF l c) l) 0 (acF l c).length) (cap:=c.length+1) hbl (by omega) (by omega)) J J<|?_
   refine fzE 68 rfl ?_
   exact rz rfl (by unfold aaK abq;rw[hv];rfl)
theorem alL{c:aaf}{l:LnQ}[hl:LB l](hlo:l.ok)(hc:aa5 c)(hn:c.length≤100000):PF GB Tryz.prog 199 [.sl (c.map eFr),eLn l] (.tp [.sl ((aaK c l).map eFr), .sl ((aaK c l.rev).map eFr),vB (abq c l),vB (abq c l.rev)]):=by
 refine fn Tryz.func199 J J Tryz.ntmps199 J J (fun C=>?_)
 refine cl rfl (ayZ (c:=c) (l:=l) hlo hc hn) rfl<|cl rfl (aDv (l:=l)) rfl<|cl rfl (ayZ (c:=c) (l:=l.rev) hlo.rev hc hn) rfl<|?_
 exact rz J J
def cU:Tr→List DV
 | .leaf b=>[vI 0,vI 0, .v (.pointer none),vI 0,vI 0, .v (.pointer none),vI 0,vI 0, .v (.pointer none), .v (.pointer none), .v (.pointer none), .v (.bool b)]
 | .node l x y=>[vI (fn_ (l.a:Rat)),vI (fd_ (l.a:Rat)),fp_ (l.a:Rat),vI (fn_ (l.b:Rat)),vI (fd_ (l.b:Rat)),fp_ (l.b:Rat),vI (fn_ (l.c:Rat)),vI (fd_ (l.c:Rat)),fp_ (l.c:Rat), .pt (cU x), .pt (cU y), .v (.bool false)]
def eU(t:Tr):DV:= .pt (cU t)
theorem afx{b:Bool}:PF GB Tryz.prog 203 [.v (.bool b)] (eU (.leaf b)):=by
 refine fn Tryz.func203 J J Tryz.ntmps203 J J (fun C=>?_)
 refine fzE 5 rfl ?_
 exact rz J J
theorem asQ{l:LnQ}{x y:Tr}:PF GB Tryz.prog 205 [eLn l,eU x,eU y] (eU (.node l x y)):=by
 refine fn Tryz.func205 J J Tryz.ntmps205 J J (fun C=>?_)
 refine fzE 11 rfl ?_
 exact rz J J
theorem abA{b:Bool}:PF GB Tryz.prog 137 [eU (.leaf b)] (.v (.bool true)):=by
 refine fn Tryz.func137 J J Tryz.ntmps137 J J (fun C=>?_)
 exact rz J J
theorem abK{l:LnQ}{x y:Tr}:PF GB Tryz.prog 137 [eU (.node l x y)] (.v (.bool false)):=by
 refine fn Tryz.func137 J J Tryz.ntmps137 J J (fun C=>?_)
 exact rz J J
theorem aw5{l l1:LnQ}{x y u:Tr}:PF GB Tryz.prog 200 [eLn l,eU (.node l1 x y),eU u] (eU (.node l (.node l1 x y) u)):=by
 refine fn Tryz.func200 J J Tryz.ntmps200 J J (fun C=>?_)
 refine cl (fu:=⟨0⟩) rfl abK rfl<|knF J J J<|cl rfl asQ rfl<|?_
 exact rz J J
theorem as1{l l1:LnQ}{x y:Tr}{p:Bool}:PF GB Tryz.prog 200 [eLn l,eU (.leaf p),eU (.node l1 x y)] (eU (.node l (.leaf p) (.node l1 x y))):=by
 refine fn Tryz.func200 J J Tryz.ntmps200 J J (fun C=>?_)
 refine cl (fu:=⟨0⟩) rfl abA rfl<|knT J J J<|cl (fu:=⟨1⟩) rfl abK rfl<|knF J J J<|cl rfl asQ rfl<|?_
 exact rz J J
theorem auU{l:LnQ}{p q:Bool}:PF GB Tryz.prog 200 [eLn l,eU (.leaf p),eU (.leaf q)] (eU (Tr.joinQ l (.leaf p) (.leaf q))):=by
 refine fn Tryz.func200 J J Tryz.ntmps200 J J (fun C=>?_)
 refine cl (fu:=⟨0⟩) rfl abA rfl<|knT J J J<|cl (fu:=⟨1⟩) rfl abA rfl<|knT J J J<|?_
 refine bb J J J (fun hc23=>?_) (fun hc23=>?_)
 ·
  exact rz rfl (by rw[show Tr.joinQ l (.leaf p) (.leaf q)= .leaf p by simp[Tr.joinQ,Tr.isLeaf,Tr.code,hc23]];rfl)
 ·
  refine cl rfl asQ rfl<|?_
  exact rz rfl (by rw[show Tr.joinQ l (.leaf p) (.leaf q)= .node l (.leaf p) (.leaf q) by simp[Tr.joinQ,Tr.isLeaf,Tr.code,hc23]];rfl)
theorem azb{l:LnQ}: ∀{x y:Tr},PF GB Tryz.prog 200 [eLn l,eU x,eU y] (eU (Tr.joinQ l x y))
 | .leaf _, .leaf _=>auU
 | .leaf _, .node .. =>as1
 | .node ..,_=>aw5
theorem aof{b:Bool}:PF GB Tryz.prog 108 [eU (.leaf b)] (vI (Tr.depth (.leaf b):Nat)):=by
 refine fn Tryz.func108 J J Tryz.ntmps108 J J (fun C=>?_)
 refine cl (fu:=⟨0⟩) rfl abA rfl<|?_
 refine kbT 4 rfl ?_
 refine gx rfl<|?_
 exact rz J J
theorem amI{l:LnQ}{x y:Tr}(hd:(Tr.node l x y).depth≤1000000)(ihx:PF GB Tryz.prog 108 [eU x] (vI (Tr.depth x:Nat)))(ihy:PF GB Tryz.prog 108 [eU y] (vI (Tr.depth y:Nat))):PF GB Tryz.prog 108 [eU (.node l x y)] (vI (Tr.depth (.node l x y):Nat)):=by
 have hdp:(Tr.node l x y).depth=1+max x.depth y.depth:=rfl
 have hdx:=Nat.le_max_left x.depth y.depth
 have hdy:=Nat.le_max_right x.depth y.depth
 refine fn Tryz.func108 J J Tryz.ntmps108 J J (fun C=>?_)
 refine cl (fu:=⟨0⟩) rfl abK rfl<|?_
 refine kbF 4 rfl ?_
 refine gx rfl<|cl rfl ihx rfl<|cl (hv:=by simp only[aai];exact⟨by omega,by kernel_rfl⟩) rfl ihy rfl<|?_
 exact rz rfl (by show DV.v (.int _ _)= .v (.int _ _);congr 2;split<;>omega)
theorem aiS: ∀{t:Tr},t.depth≤1000000→PF GB Tryz.prog 108 [eU t] (vI (Tr.depth t:Nat))
 | .leaf _,_=>aof
 | .node l x y,h=>amI h (aiS (by have:=Nat.le_max_left x.depth y.depth;have:(Tr.node l x y).depth=1+max x.depth y.depth:=rfl;omega)) (aiS (by have:=Nat.le_max_right x.depth y.depth;have:(Tr.node l x y).depth=1+max x.depth y.depth:=rfl;omega))
theorem ajW{b:Bool}{c:aaf}:PF GB Tryz.prog 139 [eU (.leaf b), .sl (c.map eFr)] (eU (Tr.restrict (.leaf b) c)):=by
 refine fn Tryz.func139 J J Tryz.ntmps139 J J (fun C=>?_)
 refine cl (fu:=⟨0⟩) rfl abA rfl<|?_
 refine kbT 10 rfl ?_
 refine gx rfl<|?_
 exact rz J J
theorem aji{l:LnQ}{x y:Tr}{c:aaf}(hl:LB l)(hlo:l.ok)(hc:aa5 c)(hn:c.length+(Tr.node l x y).depth≤100000)(ihx: ∀{c:aaf},aa5 c→c.length+x.depth≤100000→PF GB Tryz.prog 139 [eU x, .sl (c.map eFr)] (eU (Tr.restrict x c)))(ihy: ∀{c:aaf},aa5 c→c.length+y.depth≤100000→PF GB Tryz.prog 139 [eU y, .sl (c.map eFr)] (eU (Tr.restrict y c))):PF GB Tryz.prog 139 [eU (.node l x y), .sl (c.map eFr)] (eU (Tr.restrict (.node l x y) c)):=by
 have hdp:(Tr.node l x y).depth=1+max x.depth y.depth:=rfl
 have hdx:=Nat.le_max_left x.depth y.depth
 have hdy:=Nat.le_max_right x.depth y.depth
 have hca:=adm c l
 have hcb:=adm c l.rev
 refine fn Tryz.func139 J J Tryz.ntmps139 J J (fun C=>?_)
 refine cl (fu:=⟨0⟩) rfl abK rfl<|?_
 refine kbF 10 rfl ?_
 refine gx rfl<|cl rfl (alL (c:=c) (l:=l) hlo hc (by omega)) rfl<|?_
 refine bb J J J (fun hc23=>?_) (fun hc23=>?_)
 ·
  refine cl rfl (ihx hc (by omega)) rfl<|?_
  exact rz rfl (by rw[Tr.restrict,if_pos hc23];rfl)
 ·
  refine bb J J J (fun hc32=>?_) (fun hc32=>?_)
  ·
   refine cl rfl (ihy hc (by omega)) rfl<|?_
   exact rz rfl (by rw[Tr.restrict,if_neg (by simp[hc23]),if_pos hc32];rfl)
  ·
   refine cl rfl (ihx (c:=aaK c l) (aeW hlo hc) (by omega)) rfl<|cl rfl (ihy (c:=aaK c l.rev) (aeW hlo.rev hc) (by omega)) rfl<|cl rfl azb rfl<|?_
   exact rz rfl (by rw[Tr.restrict,if_neg (by simp[hc23]),if_neg (by simp[hc32])];rfl)
theorem aba: ∀{t:Tr} {c:aaf},t.all LB→t.all LnQ.ok→aa5 c→c.length+t.depth≤100000→PF GB Tryz.prog 139 [eU t, .sl (c.map eFr)] (eU (Tr.restrict t c))
 | .leaf _,_,_,_,_,_=>ajW
 | .node l x y,c,hb,ho,hc,hn=>aji hb.1 ho.1 hc hn (fun h1 h2=>aba hb.2.1 ho.2.1 h1 h2) (fun h1 h2=>aba hb.2.2 ho.2.2 h1 h2)
theorem axo{t:Tr}(hb:t.all LB)(ho:t.all LnQ.ok)(hd:t.depth≤100000):PF GB Tryz.prog 65 [eU t] (eU (t.restrict [])):=by
 refine fn Tryz.func65 J J Tryz.ntmps65 J J (fun C=>?_)
 refine cl rfl (aba (t:=t) (c:=[]) hb ho (fun s h=>by cases h) (by simpa using hd)) rfl<|?_
 exact rz J J
def Tr.compl:Tr→Tr
 | .leaf b=> .leaf !b
 | .node l x y=> .node l x.compl y.compl
def Tr.chooseQ(op:Int)(b:Bool)(t:Tr)(c:aaf):Tr:=
 if op=1∨op=2 then(if b=decide (op=1) then .leaf b else t.restrict c)
 else if op=3∧b=false then .leaf false
 else if b then(t.restrict c).compl else t.restrict c
def Tr.mergeQ(op:Int):Tr→Tr→aaf→Tr
 | .leaf b,u,c=>u.chooseQ op b c
 | .node l x y,u,c=>if !abq c l.rev then x.mergeQ op u c else if !abq c l then y.mergeQ op u c else joinQ l (x.mergeQ op u (aaK c l)) (y.mergeQ op u (aaK c l.rev))
theorem an0{b:Bool}:PF GB Tryz.prog 167 [eU (.leaf b)] (eU (Tr.compl (.leaf b))):=by
 refine fn Tryz.func167 J J Tryz.ntmps167 J J (fun C=>?_)
 refine cl (fu:=⟨0⟩) rfl abA rfl<|?_
 refine kbT 4 rfl ?_
 refine gx rfl<|cl rfl afx rfl<|?_
 exact rz J J
theorem anH{l:LnQ}{x y:Tr}(ihx:PF GB Tryz.prog 167 [eU x] (eU (Tr.compl x)))(ihy:PF GB Tryz.prog 167 [eU y] (eU (Tr.compl y))):PF GB Tryz.prog 167 [eU (.node l x y)] (eU (Tr.compl (.node l x y))):=by
 refine fn Tryz.func167 J J Tryz.ntmps167 J J (fun C=>?_)
 refine cl (fu:=⟨0⟩) rfl abK rfl<|?_
 refine kbF 4 rfl ?_
 refine gx rfl<|cl rfl ihx rfl<|cl rfl ihy rfl<|cl rfl (asQ (l:=l) (x:=x.compl) (y:=y.compl)) rfl<|?_
 exact rz J J
theorem ahm: ∀{t:Tr},PF GB Tryz.prog 167 [eU t] (eU (Tr.compl t))
 | .leaf _=>an0
 | .node _ _ _=>anH ahm ahm
theorem awU{op:Int}{b:Bool}{t:Tr}{c:aaf}(hb:t.all LB)(ho:t.all LnQ.ok)(hc:aa5 c)(hn:c.length+t.depth≤100000):PF GB Tryz.prog 239 [vI op, .v (.bool b),eU t, .sl (c.map eFr)] (eU (t.chooseQ op b c)):=by
 refine fn Tryz.func239 J J Tryz.ntmps239 J J (fun C=>?_)
 refine br J J J (fun hc10=>?_) (fun hc10=>?_)
 ·
  refine br J J J (fun hc10=>?_) (fun hc10=>?_)
  ·
   refine bb J J J (fun hc18=>?_) (fun hc18=>?_)
   ·
    refine cl rfl afx rfl<|?_
    exact rz rfl (by unfold Tr.chooseQ;simp_all [afQ]<;>omega)
   ·
    refine cl rfl (aba (by assumption) (by assumption) (by assumption) (by omega)) rfl<|?_
    exact rz rfl (by unfold Tr.chooseQ;simp_all [afQ]<;>omega)
  ·
   refine br J J J (fun hc13=>?_) (fun hc13=>?_)
   ·
    refine bb J J J (fun hc22=>?_) (fun hc22=>?_)
    ·
     refine cl rfl afx rfl<|?_
     exact rz rfl (by unfold Tr.chooseQ;simp_all [afQ]<;>omega)
    ·
     refine bb J J J (fun hc24=>?_) (fun hc24=>?_)
     ·
      refine cl rfl (aba (by assumption) (by assumption) (by assumption) (by omega)) rfl<|cl rfl (ahm (t:=t.restrict c)) rfl<|?_
      exact rz rfl (by unfold Tr.chooseQ;simp_all [afQ]<;>omega)
     ·
      refine cl rfl (aba (by assumption) (by assumption) (by assumption) (by omega)) rfl<|?_
      exact rz rfl (by unfold Tr.chooseQ;simp_all [afQ]<;>omega)
   ·
    refine bb J J J (fun hc24=>?_) (fun hc24=>?_)
    ·
     refine cl rfl (aba (by assumption) (by assumption) (by assumption) (by omega)) rfl<|cl rfl (ahm (t:=t.restrict c)) rfl<|?_
     exact rz rfl (by unfold Tr.chooseQ;simp_all [afQ]<;>omega)
    ·
     refine cl rfl (aba (by assumption) (by assumption) (by assumption) (by omega)) rfl<|?_
     exact rz rfl (by unfold Tr.chooseQ;simp_all [afQ]<;>omega)
 ·
  refine br J J J (fun hc10=>?_) (fun hc10=>?_)
  ·
   refine bb J J J (fun hc18=>?_) (fun hc18=>?_)
   ·
    refine cl rfl afx rfl<|?_
    exact rz rfl (by unfold Tr.chooseQ;simp_all [afQ]<;>omega)
   ·
    refine cl rfl (aba (by assumption) (by assumption) (by assumption) (by omega)) rfl<|?_
    exact rz rfl (by unfold Tr.chooseQ;simp_all [afQ]<;>omega)
  ·
   refine br J J J (fun hc13=>?_) (fun hc13=>?_)
   ·
    refine bb J J J (fun hc22=>?_) (fun hc22=>?_)
    ·
     refine cl rfl afx rfl<|?_
     exact rz rfl (by unfold Tr.chooseQ;simp_all [afQ]<;>omega)
    ·
     refine bb J J J (fun hc24=>?_) (fun hc24=>?_)
     ·
      refine cl rfl (aba (by assumption) (by assumption) (by assumption) (by omega)) rfl<|cl rfl (ahm (t:=t.restrict c)) rfl<|?_
      exact rz rfl (by unfold Tr.chooseQ;simp_all [afQ]<;>omega)
     ·
      refine cl rfl (aba (by assumption) (by assumption) (by assumption) (by omega)) rfl<|?_
      exact rz rfl (by unfold Tr.chooseQ;simp_all [afQ]<;>omega)
   ·
    refine bb J J J (fun hc24=>?_) (fun hc24=>?_)
    ·
     refine cl rfl (aba (by assumption) (by assumption) (by assumption) (by omega)) rfl<|cl rfl (ahm (t:=t.restrict c)) rfl<|?_
     exact rz rfl (by unfold Tr.chooseQ;simp_all [afQ]<;>omega)
    ·
     refine cl rfl (aba (by assumption) (by assumption) (by assumption) (by omega)) rfl<|?_
     exact rz rfl (by unfold Tr.chooseQ;simp_all [afQ]<;>omega)
theorem anz{b:Bool}{op:Int}{u:Tr}{c:aaf}(hbu:u.all LB)(hou:u.all LnQ.ok)(hc:aa5 c)(hn:c.length+u.depth≤100000):PF GB Tryz.prog 191 [vI op,eU (.leaf b),eU u, .sl (c.map eFr)] (eU (Tr.mergeQ op (.leaf b) u c)):=by
 refine fn Tryz.func191 J J Tryz.ntmps191 J J (fun C=>?_)
 refine cl (fu:=⟨0⟩) rfl abA rfl<|?_
 refine kbT 14 rfl ?_
 refine gx rfl<|cl rfl (awU (t:=u) hbu hou hc hn) rfl<|?_
 exact rz J J
theorem anw{l:LnQ}{x y:Tr}{op:Int}{u:Tr}{c:aaf}(hl:LB l)(hlo:l.ok)(hc:aa5 c)(hn:c.length+(Tr.node l x y).depth+u.depth≤100000)(ihx: ∀{c:aaf},aa5 c→c.length+x.depth+u.depth≤100000→PF GB Tryz.prog 191 [vI op,eU x,eU u, .sl (c.map eFr)] (eU (Tr.mergeQ op x u c)))(ihy: ∀{c:aaf},aa5 c→c.length+y.depth+u.depth≤100000→PF GB Tryz.prog 191 [vI op,eU y,eU u, .sl (c.map eFr)] (eU (Tr.mergeQ op y u c))):PF GB Tryz.prog 191 [vI op,eU (.node l x y),eU u, .sl (c.map eFr)] (eU (Tr.mergeQ op (.node l x y) u c)):=by
 have hdp:(Tr.node l x y).depth=1+max x.depth y.depth:=rfl
 have hdx:=Nat.le_max_left x.depth y.depth
 have hdy:=Nat.le_max_right x.depth y.depth
 have hca:=adm c l
 have hcb:=adm c l.rev
 refine fn Tryz.func191 J J Tryz.ntmps191 J J (fun C=>?_)
 refine cl (fu:=⟨0⟩) rfl abK rfl<|?_
 refine kbF 14 rfl ?_
 refine gx rfl<|cl rfl (alL (c:=c) (l:=l) hlo hc (by omega)) rfl<|?_
 refine bb J J J (fun hc34=>?_) (fun hc34=>?_)
 ·
  refine cl rfl (ihx hc (by omega)) rfl<|?_
  exact rz rfl (by rw[Tr.mergeQ,if_pos hc34];rfl)
 ·
  refine bb J J J (fun hc45=>?_) (fun hc45=>?_)
  ·
   refine cl rfl (ihy hc (by omega)) rfl<|?_
   exact rz rfl (by rw[Tr.mergeQ,if_neg (by simp[hc34]),if_pos hc45];rfl)
  ·
   refine cl rfl (ihx (c:=aaK c l) (aeW hlo hc) (by omega)) rfl<|cl rfl (ihy (c:=aaK c l.rev) (aeW hlo.rev hc) (by omega)) rfl<|cl rfl azb rfl<|?_
   exact rz rfl (by rw[Tr.mergeQ,if_neg (by simp[hc34]),if_neg (by simp[hc45])];rfl)
theorem ao7{op:Int}{u:Tr}(hbu:u.all LB)(hou:u.all LnQ.ok): ∀{t:Tr} {c:aaf},t.all LB→t.all LnQ.ok→aa5 c→c.length+t.depth+u.depth≤100000→PF GB Tryz.prog 191 [vI op,eU t,eU u, .sl (c.map eFr)] (eU (Tr.mergeQ op t u c))
 | .leaf _,_,_,_,hc,hn=>anz hbu hou hc (by simp only[Tr.depth] at hn;omega)
 | .node l x y,c,hb,ho,hc,hn=>anw hb.1 ho.1 hc hn (fun h1 h2=>ao7 hbu hou hb.2.1 ho.2.1 h1 h2) (fun h1 h2=>ao7 hbu hou hb.2.2 ho.2.2 h1 h2)
def lnZ:DV:= .ag [vI 0,vI 0, .v (.pointer none),vI 0,vI 0, .v (.pointer none),vI 0,vI 0, .v (.pointer none)]
def lnR:Option LnQ→DV
 |some l=> .tp [eLn l,vB true]
 |none=> .tp [lnZ,vB false]
theorem aCu{l:LnQ}(h: ¬l.ok)(hz: ¬(l.a=0∧l.b=0)):decide (rgcd (rgcd (l.a:Rat) (l.b:Rat)) (l.c:Rat)=((1:Int):Rat))=false:=by
 rw[agv,agv]
 refine decide_eq_false fun e=>h ⟨hz,?_⟩
 simp only[Int.natAbs_natCast] at e
 have:=Rat.intCast_inj.1 e
 omega
theorem av1{l:LnQ}[hl:LB l](ha:l.a=0)(hb:l.b=0):PF GB Tryz.prog 204 [eL l] (lnR none):=by
 refine fn Tryz.func204 J J Tryz.ntmps204 J J (fun C=>?_)
 refine cl (fu:=⟨0⟩) rfl (ab6 (m:=l.a)) rfl<|knF J J J<|cl (fu:=⟨0⟩) rfl (ab6 (m:=l.b)) rfl<|knF J J J<|cl (fu:=⟨0⟩) rfl (ab6 (m:=l.c)) rfl<|?_
 refine knF J J J<|cl rfl (aeN (m:=l.a)) rfl<|cl rfl (aeN (m:=l.b)) rfl<|cl rfl (aeN (m:=l.c)) rfl<|cl (fu:=⟨0⟩) rfl (akK (q:=(l.a:Rat))) rfl<|?_
 refine knT rfl (by show some (decide _)=some true;rw[ha];rfl) rfl<|cl (fu:=⟨0⟩) rfl (akK (q:=(l.b:Rat))) rfl<|knT rfl (by show some (decide _)=some true;rw[hb];rfl) rfl<|?_
 exact rz J J
theorem awa{l:LnQ}[hl:LB l](hz: ¬(l.a=0∧l.b=0))(ho: ¬l.ok):PF GB Tryz.prog 204 [eL l] (lnR none):=by
 refine fn Tryz.func204 J J Tryz.ntmps204 J J (fun C=>?_)
 refine cl (fu:=⟨0⟩) rfl (ab6 (m:=l.a)) rfl<|knF J J J<|cl (fu:=⟨0⟩) rfl (ab6 (m:=l.b)) rfl<|knF J J J<|cl (fu:=⟨0⟩) rfl (ab6 (m:=l.c)) rfl<|?_
 refine knF J J J<|cl rfl (aeN (m:=l.a)) rfl<|cl rfl (aeN (m:=l.b)) rfl<|cl rfl (aeN (m:=l.c)) rfl<|cl (fu:=⟨0⟩) rfl (akK (q:=(l.a:Rat))) rfl<|?_
 refine csS (fu2:=⟨4⟩) J J J J (fun hg35=>?_) (fun hg35=>?_)
 ·
  have ha:l.a=0:=Rat.intCast_eq_zero_iff.1 hg35
  refine cl (fu:=⟨1⟩) rfl (akK (q:=(l.b:Rat))) rfl<|knF rfl (by first|rfl|(show some (decide _)=some false;rw[decide_eq_false (fun e=>hz ⟨ha,Rat.intCast_eq_zero_iff.1 e⟩)])) rfl<|?_
  refine cl rfl (ah0 (p:=(l.a:Rat)) (q:=(l.b:Rat))) rfl<|cl rfl (ah0 (p:=rgcd l.a l.b) (q:=(l.c:Rat))) rfl<|cl rfl (akk (m:=1) (by decide)) rfl<|?_
  refine cl (fu:=⟨0⟩) rfl (ais (p:=rgcd (rgcd l.a l.b) l.c) (q:=((1:Int):Rat))) rfl<|knT rfl (by show some (!decide _)=some true;rw[aCu ho hz];rfl) rfl<|?_
  exact rz J J
 ·
  refine knF rfl (by first|rfl|(show some (decide _)=some false;rw[decide_eq_false (fun e=>hz ⟨ha,Rat.intCast_eq_zero_iff.1 e⟩)])) rfl<|cl rfl (ah0 (p:=(l.a:Rat)) (q:=(l.b:Rat))) rfl<|?_
  refine cl rfl (ah0 (p:=rgcd l.a l.b) (q:=(l.c:Rat))) rfl<|cl rfl (akk (m:=1) (by decide)) rfl<|cl (fu:=⟨0⟩) rfl (ais (p:=rgcd (rgcd l.a l.b) l.c) (q:=((1:Int):Rat))) rfl<|?_
  refine knT rfl (by show some (!decide _)=some true;rw[aCu ho hz];rfl) rfl<|?_
  exact rz J J
theorem az5{l:LnQ}[hl:LB l][Decidable l.ok]:PF GB Tryz.prog 204 [eL l] (lnR (if l.ok then some l else none)):=by
 split
 ·rename_i h;exact aC1 h
 ·rename_i h
  by_cases hz:l.a=0∧l.b=0
  ·exact av1 hz.1 hz.2
  ·exact awa hz h
def aov(n:Bool)(ds:List Nat):Prop:=Nrm ds∧(n=true→0<ds.length)
instance (n:Bool) (ds:List Nat):Decidable (aov n ds):=inferInstanceAs (Decidable (_∧_))
theorem adJ{neg:Bool}{ds:List Nat}(h:DOk ds∧ds.length≤3):PF GB Tryz.prog 249 [.ag [.v (.bool neg),dLi ds]] (vB (decide (aov neg ds))):=anR h.1 (by have:=h.2;omega)
structure RL where
 na:Bool
 da:List Nat
 nb:Bool
 db:List Nat
 nc:Bool
 dc:List Nat
def RL.d(r:RL):DV:= .ag [.v (.bool r.na),dLi r.da, .v (.bool r.nb),dLi r.db, .v (.bool r.nc),dLi r.dc]
def ahP(n:Bool)(ds:List Nat):Int:=if n then-(dv ds:Int) else dv ds
def RL.l(r:RL):LnQ:=⟨ahP r.na r.da,ahP r.nb r.db,ahP r.nc r.dc⟩
def RL.nm(r:RL):Prop:=aov r.na r.da∧aov r.nb r.db∧aov r.nc r.dc
instance (l:LnQ):Decidable l.ok:=inferInstanceAs (Decidable (_∧_))
instance (r:RL):Decidable r.nm:=inferInstanceAs (Decidable (_∧_∧_))
def RL.ln(r:RL):Option LnQ:=if r.nm∧r.l.ok then some r.l else none
structure RL.sm (r:RL):Prop where
 a:DOk r.da∧r.da.length≤3
 b:DOk r.db∧r.db.length≤3
 c:DOk r.dc∧r.dc.length≤3
theorem anB(n:Bool)(ds:List Nat):(ahP n ds).natAbs=dv ds:=by unfold ahP;cases n<;>simp
theorem ajf{n:Bool}{ds:List Nat}(hd:DOk ds)(h:aov n ds):decide (ahP n ds<0)=n:=by
 unfold ahP
 cases n with
 |false=>simp
 |true=>
  have h0:0<dv ds:=by
   refine Nat.pos_of_ne_zero fun e=>?_
   have:=arS hd h.1
   rw[e,agj] at this
   have h2:=h.2 rfl
   rw[←this] at h2
   exact absurd h2 (by decide)
  simp only[if_true,decide_eq_true_eq]
  omega
theorem RL.eL{r:RL}(s:r.sm)(h:r.nm):r.d=Go.Sx.eL r.l:=by
 unfold RL.d Go.Sx.eL RL.l
 simp only[anB,ajf s.a.1 h.1,ajf s.b.1 h.2.1,ajf s.c.1 h.2.2,dN,arS s.a.1 h.1.1,arS s.b.1 h.2.1.1,arS s.c.1 h.2.2.1]
 rfl
theorem RL.lb{r:RL}(s:r.sm):LB r.l:=by
 have key: ∀(n:Bool) (ds:List Nat),DOk ds∧ds.length≤3→(ahP n ds).natAbs<2^96:=fun n ds h=>by
  rw[anB]
  refine Nat.lt_of_lt_of_le (aeK h.1) ?_
  rw[show(2:Nat)^96=4294967296^3 by decide]
  exact Nat.pow_le_pow_right (by decide) h.2
 exact⟨key _ _ s.a,key _ _ s.b,key _ _ s.c⟩
theorem avS{r:RL}(s:r.sm)(h: ¬aov r.na r.da):PF GB Tryz.prog 204 [r.d] (lnR none):=by
 refine fn Tryz.func204 J J Tryz.ntmps204 J J (fun C=>?_)
 refine cl (fu:=⟨0⟩) rfl (adJ (neg:=r.na) (ds:=r.da) s.a) rfl<|knT rfl (by show some (!decide _)=some true;rw[decide_eq_false h];rfl) rfl<|?_
 exact rz J J
theorem aw4{r:RL}(s:r.sm)(h1:aov r.na r.da)(h: ¬aov r.nb r.db):PF GB Tryz.prog 204 [r.d] (lnR none):=by
 refine fn Tryz.func204 J J Tryz.ntmps204 J J (fun C=>?_)
 refine cl (fu:=⟨0⟩) rfl (adJ (neg:=r.na) (ds:=r.da) s.a) rfl<|knF rfl (by show some (!decide _)=some false;rw[decide_eq_true h1];rfl) rfl<|cl (fu:=⟨0⟩) rfl (adJ (neg:=r.nb) (ds:=r.db) s.b) rfl<|?_
 refine knT rfl (by show some (!decide _)=some true;rw[decide_eq_false h];rfl) rfl<|?_
 exact rz J J
theorem avN{r:RL}(s:r.sm)(h1:aov r.na r.da)(h2:aov r.nb r.db)(h: ¬aov r.nc r.dc):PF GB Tryz.prog 204 [r.d] (lnR none):=by
 refine fn Tryz.func204 J J Tryz.ntmps204 J J (fun C=>?_)
 refine cl (fu:=⟨0⟩) rfl (adJ (neg:=r.na) (ds:=r.da) s.a) rfl<|knF rfl (by show some (!decide _)=some false;rw[decide_eq_true h1];rfl) rfl<|cl (fu:=⟨0⟩) rfl (adJ (neg:=r.nb) (ds:=r.db) s.b) rfl<|?_
 refine knF rfl (by show some (!decide _)=some false;rw[decide_eq_true h2];rfl) rfl<|cl (fu:=⟨0⟩) rfl (adJ (neg:=r.nc) (ds:=r.dc) s.c) rfl<|knT rfl (by show some (!decide _)=some true;rw[decide_eq_false h];rfl) rfl<|?_
 exact rz J J
theorem asC{r:RL}(s:r.sm):PF GB Tryz.prog 204 [r.d] (lnR r.ln):=by
 by_cases h1:aov r.na r.da
 ·by_cases h2:aov r.nb r.db
  ·by_cases h3:aov r.nc r.dc
   ·haveI:=RL.lb s
    rw[RL.eL s ⟨h1,h2,h3⟩,show r.ln=if r.l.ok then some r.l else none by unfold RL.ln;simp[show r.nm from⟨h1,h2,h3⟩]]
    exact az5
   ·rw[show r.ln=none from if_neg fun e=>h3 e.1.2.2]
    exact avN s h1 h2 h3
  ·rw[show r.ln=none from if_neg fun e=>h2 e.1.2.1]
   exact aw4 s h1 h2
 ·rw[show r.ln=none from if_neg fun e=>h1 e.1.1]
  exact avS s h1
def af2(n:Nat)(f:Nat→Bool):List Value:=(List.range n).map fun j=> .bool (f j)
def an6(f:Nat→Bool)(i:Nat):Nat→Bool:=fun j=>f j||Nat.beq j i
theorem ajb(n:Nat)(f:Nat→Bool):(af2 n f).length=n:=by simp[af2]
theorem agQ{n i:Nat}{f:Nat→Bool}{b:Bool}(h:i<n)(hf:f i=b):(af2 n f)[i]? =some (.bool b):=by simp[af2,h,hf]
theorem aj5{f:Nat→Bool}{i j:Nat}(e:j≠i):an6 f i j=f j:=by
 unfold an6
 cases hb:Nat.beq j i with
 |false=>rw[Bool.or_false]
 |true=>exact absurd (Nat.eq_of_beq_eq_true hb) e
theorem aur{f:Nat→Bool}{i:Nat}:an6 f i i=true:=by
 unfold an6;rw[Nat.beq_refl,Bool.or_true]
theorem aoi(n i:Nat)(f:Nat→Bool):(af2 n f).set i (.bool true)=af2 n (an6 f i):=by
 apply List.ext_getElem?
 intro j
 rw[List.getElem?_set]
 simp only[af2,List.length_map,List.length_range,List.getElem?_map]
 by_cases hj:j<n
 ·rw[List.getElem?_range hj]
  simp only[Option.map_some]
  by_cases e:i=j
  ·subst e;simp[hj,aur]
  ·rw[aj5 (fun h=>e h.symm)];simp[e]
 ·rw[List.getElem?_eq_none (by simpa using hj)]
  by_cases e:i=j
  ·subst e;simp[hj]
  ·simp[e]
theorem aoT(n:Nat):abk (.bool false) n=af2 n (fun _=>false):=by
 apply List.ext_getElem?
 intro j
 by_cases hj:j<n
 ·rw[agQ hj rfl]
  unfold abk
  rw[afo (aad (.bool false)) n j (by simpa[aad] using hj)]
  simp[aad,Nat.mod_one]
 ·rw[List.getElem?_eq_none (by rw[abN];simp[aad];omega),List.getElem?_eq_none (by rw[ajb];omega)]
structure RN where
 g:RL
 l:Int
 r:Int
def RN.d(n:RN):DV:= .ag [.v (.bool n.g.na),dLi n.g.da, .v (.bool n.g.nb),dLi n.g.db, .v (.bool n.g.nc),dLi n.g.dc, .v (.int .i64 n.l), .v (.int .i64 n.r)]
structure RS where
 f:Nat→Bool
 c:Nat
 b:Bool
inductive RR (ns:List RN):Int→RS→Tr→RS→Prop where
 |leaf (b:Bool) (s:RS):RR ns (ac4 b) s (.leaf b) s
 |bad (rt:Int) (s:RS) (h1:rt≠ -1) (h2:rt≠ -2) (h:rt<0∨(ns.length:Int)≤rt∨(∃k:Nat,rt=k∧k<ns.length∧s.f k=true)):RR ns rt s (.leaf false) ⟨s.f,s.c,true⟩
 |line (k:Nat) (n:RN) (s:RS) (h:ns[k]? =some n) (hf:s.f k=false) (hl:n.g.ln=none):RR ns (k:Int) s (.leaf false) ⟨an6 s.f k,s.c+1,true⟩
 |node (k:Nat) (n:RN) (l:LnQ) (s s2 s3:RS) (x y:Tr) (h:ns[k]? =some n) (hf:s.f k=false) (hl:n.g.ln=some l) (h1:RR ns n.l ⟨an6 s.f k,s.c+1,s.b⟩ x s2) (h2:RR ns n.r s2 y s3):RR ns (k:Int) s (.node l x y) s3
theorem RR.mono{ns:List RN}{rt:Int}{s s':RS}{t:Tr}(h:RR ns rt s t s'):s.c≤s'.c:=by
 induction h with
 |leaf=>exact Nat.le_refl _
 |bad=>exact Nat.le_refl _
 |line=>exact Nat.le_succ _
 |node k n l s s2 s3 x y h hf hl h1 h2 i1 i2=>simp only at i1;omega
theorem alh{G:Gh}{q:Rat}{v:Value}(h:Is G (fp_ q) v): ∃p,v= .pointer p:=by
 rcases ape.1 h with⟨_,h⟩|⟨_,h⟩
 ·exact⟨_,h⟩
 ·obtain⟨b,m,h,_⟩:=akr.1 h;exact⟨_,h⟩
theorem aDy{G:Gh}{l:LnQ}{v:Value}(h:Is G (eLn l) v): ∃n1 d1 p1 n2 d2 p2 n3 d3 p3,v= .agg ⟨[.int .i64 n1, .int .i64 d1, .pointer p1, .int .i64 n2, .int .i64 d2, .pointer p2, .int .i64 n3, .int .i64 d3, .pointer p3]⟩:=by
 obtain⟨m,rfl,g⟩:=abL.1 h
 clear h
 obtain⟨v1,m,rfl,h1,h⟩:=aab.1 g
 obtain⟨v2,m,rfl,h2,h⟩:=aab.1 h
 obtain⟨v3,m,rfl,h3,h⟩:=aab.1 h
 obtain⟨v4,m,rfl,h4,h⟩:=aab.1 h
 obtain⟨v5,m,rfl,h5,h⟩:=aab.1 h
 obtain⟨v6,m,rfl,h6,h⟩:=aab.1 h
 obtain⟨v7,m,rfl,h7,h⟩:=aab.1 h
 obtain⟨v8,m,rfl,h8,h⟩:=aab.1 h
 obtain⟨v9,m,rfl,h9,h⟩:=aab.1 h
 rw[aaJ] at h;subst h
 obtain⟨_,rfl⟩:=alh h3
 obtain⟨_,rfl⟩:=alh h6
 obtain⟨_,rfl⟩:=alh h9
 rw[aaV.1 h1,aaV.1 h2,aaV.1 h4,aaV.1 h5,aaV.1 h7,aaV.1 h8]
 exact⟨_,_,_,_,_,_,_,_,_,rfl⟩
theorem azq{G:Gh}{o:Option LnQ}{v:Value}(h:Is G (lnR o) v): ∃n1 d1 p1 n2 d2 p2 n3 d3 p3,v= .tuple #[.agg ⟨[.int .i64 n1, .int .i64 d1, .pointer p1, .int .i64 n2, .int .i64 d2, .pointer p2, .int .i64 n3, .int .i64 d3, .pointer p3]⟩, .bool o.isSome]∧
  ∀l,o=some l→Is G (eLn l) (.agg ⟨[.int .i64 n1, .int .i64 d1, .pointer p1, .int .i64 n2, .int .i64 d2, .pointer p2, .int .i64 n3, .int .i64 d3, .pointer p3]⟩):=by
 cases o with
 |some l=>
  obtain⟨m,rfl,g⟩:=aeL.1 h
  obtain⟨v1,m,rfl,h1,h⟩:=aab.1 g
  obtain⟨v2,m,rfl,h2,h⟩:=aab.1 h
  rw[aaJ] at h;subst h
  obtain⟨n1,d1,p1,n2,d2,p2,n3,d3,p3,rfl⟩:=aDy h1
  rw[aaV.1 h2]
  exact⟨n1,d1,p1,n2,d2,p2,n3,d3,p3,rfl,fun k e=>by cases e;exact h1⟩
 |none=>
  obtain⟨m,rfl,g⟩:=aeL.1 h
  obtain⟨v1,m,rfl,h1,h⟩:=aab.1 g
  obtain⟨v2,m,rfl,h2,h⟩:=aab.1 h
  rw[aaJ] at h;subst h
  clear g h
  obtain⟨m,rfl,g⟩:=abL.1 h1
  obtain⟨w1,m,rfl,k1,h⟩:=aab.1 g
  obtain⟨w2,m,rfl,k2,h⟩:=aab.1 h
  obtain⟨w3,m,rfl,k3,h⟩:=aab.1 h
  obtain⟨w4,m,rfl,k4,h⟩:=aab.1 h
  obtain⟨w5,m,rfl,k5,h⟩:=aab.1 h
  obtain⟨w6,m,rfl,k6,h⟩:=aab.1 h
  obtain⟨w7,m,rfl,k7,h⟩:=aab.1 h
  obtain⟨w8,m,rfl,k8,h⟩:=aab.1 h
  obtain⟨w9,m,rfl,k9,h⟩:=aab.1 h
  rw[aaJ] at h;subst h
  rw[aaV.1 k1,aaV.1 k2,aaV.1 k3,aaV.1 k4,aaV.1 k5,aaV.1 k6,aaV.1 k7,aaV.1 k8,aaV.1 k9]
  rw[aaV.1 h2]
  exact⟨_,_,_,_,_,_,_,_,_,rfl,fun k e=>by cases e⟩
theorem aCf{G:Gh}{n:RN}{v:Value}(h:Is G n.d v): ∃x1 x2 x3:SV,v= .agg ⟨[.bool n.g.na, .slice x1.a x1.n x1.c, .bool n.g.nb, .slice x2.a x2.n x2.c, .bool n.g.nc, .slice x3.a x3.n x3.c, .int .i64 n.l, .int .i64 n.r]⟩∧
  Is G n.g.d (.agg ⟨[.bool n.g.na, .slice x1.a x1.n x1.c, .bool n.g.nb, .slice x2.a x2.n x2.c, .bool n.g.nc, .slice x3.a x3.n x3.c]⟩):=by
 obtain⟨m,rfl,g⟩:=abL.1 h
 clear h
 obtain⟨v1,m,rfl,h1,h⟩:=aab.1 g
 obtain⟨v2,m,rfl,h2,h⟩:=aab.1 h
 obtain⟨v3,m,rfl,h3,h⟩:=aab.1 h
 obtain⟨v4,m,rfl,h4,h⟩:=aab.1 h
 obtain⟨v5,m,rfl,h5,h⟩:=aab.1 h
 obtain⟨v6,m,rfl,h6,h⟩:=aab.1 h
 obtain⟨v7,m,rfl,h7,h⟩:=aab.1 h
 obtain⟨v8,m,rfl,h8,h⟩:=aab.1 h
 rw[aaJ] at h;subst h
 obtain⟨_,x1,_,rfl,_,_⟩:=ad4.1 (id h2)
 obtain⟨_,x2,_,rfl,_,_⟩:=ad4.1 (id h4)
 obtain⟨_,x3,_,rfl,_,_⟩:=ad4.1 (id h6)
 cases aaV.1 h1;cases aaV.1 h3;cases aaV.1 h5;cases aaV.1 h7;cases aaV.1 h8
 exact⟨x1,x2,x3,rfl,abL.2 ⟨_,rfl, .cons h1 (.cons h2 (.cons h3 (.cons h4 (.cons h5 (.cons h6 .nil)))))⟩⟩
theorem age{G:Gh}{t:Tr}{v:Value}(h:Is G (eU t) v): ∃p,v= .pointer p:=by
 obtain⟨b,m,h,_⟩:=akr.1 h;exact⟨_,h⟩
theorem PF.fn0{P:Program}{f:FuncId}{ds:List DV}{r:DV}(h: ∀{GB:Gh},PF GB P f ds r){G:Gh}{vs:List Value}(hv:IsLs G ds vs):Fn P f vs G (fun v G'=>Is G' r v):=h (GB:=G) G vs (GLe.refl G) hv
abbrev aF7 (x:SV) (ns:List RN) (A:Gh):Prop:= ∃es,afq A 8 x es∧IsLs A (ns.map RN.d) es
theorem aAq{A:Gh}{ns:List RN}{x:SV}(hx:aF7 x ns A)(hs: ∀n∈ns,n.g.sm)(hn:ns.length≤1000000){rt:Int}{s s':RS}{t:Tr}(h:RR ns rt s t s'): ∀{G:Gh} {rb sb:Nat} {lo lo2:Bool},[GL A G]→s'.c≤1000000→
  FnM Tryz.prog 148 [.pointer (some ⟨rb,0,none⟩), .int .i64 rt] [⟨rb,[.slice x.a x.n x.c, .slice (some ⟨sb,0,none⟩) ns.length ns.length, .int .i64 s.c, .bool s.b],228,lo⟩,⟨sb,af2 ns.length s.f,4,lo2⟩] G
   (fun v css G'=> ∃p,v= .pointer p∧Is G' (eU t) (.pointer p)∧css=[[.slice x.a x.n x.c, .slice (some ⟨sb,0,none⟩) ns.length ns.length, .int .i64 s'.c, .bool s'.b],af2 ns.length s'.f]):=by
 obtain⟨es,hx,hes⟩:=hx
 have hel:=hes.len
 rw[List.length_map] at hel
 have hlen:=hx.len
 rw[hel] at hlen
 obtain⟨xa,xn,xc⟩:=x
 simp only[] at hlen
 subst hlen
 induction h with
 |leaf bb s=>
  intro G rb sb lo lo2 _ hc
  refine FnM.intro Tryz.func148 J J Tryz.ntmps148 rfl ?_
  intro C _ _
  show St C _ _ [⟨rb,_,_,false⟩,⟨sb,_,_,false⟩] _ _
  cases bb
  case true=>
   refine sR<|sa J J<|zE<|aaj<|aas<|sR<|sm J J<|sy (ab3 J J) rfl<|sm J J<|ss J J J J<|ss J J J J<|?_
   refine sy (ac6 J J) rfl<|sa J J<|zE<|acr rfl<|sR<|sm J J<|sy (ab3 J J) rfl<|?_
   refine sc (zC J J (PF.fn0 (afx (b:=true)) (.cons (aaV.2 rfl) .nil)) rfl ?_)
   rintro _ G1 _ hp
   obtain⟨p,rfl⟩:=age hp
   refine sa J J<|zE<|aaL<|?_
   exact ac9 (css:=[_,_]) (.tmp rfl .nil) rfl _ (List.Perm.refl _) (List.Sublist.refl _) ⟨p,rfl,hp,rfl⟩
  refine sR<|sa J J<|zE<|aaj<|aas<|sR<|sm J J<|sy (ab3 J J) rfl<|sm J J<|syg J J (aaS rfl) rfl<|syg J J (ab3 J J) rfl<|?_
  refine sy (abx J J) rfl<|sa J J<|zE<|acr rfl<|sR<|sm J J<|sy (ab3 J J) rfl<|?_
  refine sc (zC J J (PF.fn0 (afx (b:=false)) (.cons (aaV.2 rfl) .nil)) rfl ?_)
  rintro _ G1 _ hp
  obtain⟨p,rfl⟩:=age hp
  refine sa J J<|zE<|aaL<|?_
  exact ac9 (css:=[_,_]) (.tmp rfl .nil) rfl _ (List.Perm.refl _) (List.Sublist.refl _) ⟨p,rfl,hp,rfl⟩
 |bad rt s h1 h2 h=>
  intro G rb sb lo lo2 _ hc
  refine FnM.intro Tryz.func148 J J Tryz.ntmps148 rfl ?_
  intro C _ _
  show St C _ [(0, .pointer (some ⟨rb,0,none⟩)),(1, .int .i64 rt)] [⟨rb,[.slice xa ns.length xc, .slice (some ⟨sb,0,none⟩) ns.length ns.length, .int .i64 s.c, .bool s.b],_,false⟩,⟨sb,af2 ns.length s.f,_,false⟩] _ _
  refine sR<|sa J J<|zE<|aaj<|aas<|sR<|sm J J<|sy (ab3 J J) rfl<|sm J J<|?_
  refine ab7 12 rfl (fun hg=>absurd hg (by omega)) (fun hg=>?_)
  refine syg J J (aaS rfl) rfl<|syg J J (ab3 J J) rfl<|sy (abx J J) rfl<|sa J J<|zE<|?_
  refine aaH rfl (fun hc=>absurd hc (by omega)) (fun _=>?_)
  refine sR<|sm J J<|sy (acj J J) rfl<|sm J J<|?_
  refine ab7 22 rfl (fun hg=>?_) (fun hg=>?_)
  ·refine ss J J J J<|ss J J J J<|ss J J J J<|ss J J J J<|ss J J J J<|ss J J J J<|ss J J J J<|sy (ac6 J J) rfl<|sm J J<|ss J J J J<|ss J J J J<|?_
   refine ss J J J J<|ss J J J J<|ss J J J J<|ss J J J J<|ss J J J J<|sy (ac6 J J) rfl<|sa J J<|zE<|acr rfl<|aaj<|?_
   refine aam<|sm J J<|sn J J<|sf J J<|?_
   refine sc (acx J J J (.hd ..) (nb rfl) J J ?_)
   refine zE<|sR<|?_
   refine sc (zC J J (PF.fn0 (afx (b:=false)) (.cons (aaV.2 rfl) .nil)) rfl ?_)
   rintro _ G1 _ hp
   obtain⟨p,rfl⟩:=age hp
   refine sa J J<|zE<|aaL<|?_
   exact ac9 (css:=[_,_]) (.tmp rfl .nil) rfl _ (List.Perm.refl _) (List.Sublist.refl _) ⟨p,rfl,hp,rfl⟩
  refine syg J J (aaS rfl) rfl<|syg J J (aaS rfl) rfl<|syg J J (aaP rfl) rfl<|syg J J (aaT rfl) rfl<|syg J J (aaD J J) rfl<|syg J J (afd rfl) rfl<|syg J J (ahR J J) rfl<|sy (abx J J) rfl<|sm J J<|?_
  refine ab7 31 rfl (fun hg=>?_) (fun hg=>?_)
  ·refine ss J J J J<|ss J J J J<|ss J J J J<|ss J J J J<|ss J J J J<|ss J J J J<|ss J J J J<|?_
   refine sy (ac6 J J) rfl<|sa J J<|zE<|acr rfl<|sR<|sm J J<|sn J J<|sf J J<|?_
   refine sc (acx J J J (.hd ..) (nb rfl) J J ?_)
   refine zE<|sR<|?_
   refine sc (zC J J (PF.fn0 (afx (b:=false)) (.cons (aaV.2 rfl) .nil)) rfl ?_)
   rintro _ G1 _ hp
   obtain⟨p,rfl⟩:=age hp
   refine sa J J<|zE<|aaL<|?_
   exact ac9 (css:=[_,_]) (.tmp rfl .nil) rfl _ (List.Perm.refl _) (List.Sublist.refl _) ⟨p,rfl,hp,rfl⟩
  obtain⟨k,rfl,hk,hf⟩: ∃k:Nat,rt=k∧k<ns.length∧s.f k=true:=by
   rcases h with h|h|h
   ·omega
   ·exact absurd h hg
   ·exact h
  refine syg J J (aaS rfl) rfl<|syg J J (aaP rfl) rfl<|syg J J (aaT rfl) rfl<|syg J J (aaD J J) rfl<|syg J J (aaS rfl) rfl<|syg J J (abf J J (by omega) (by omega)) rfl<|?_
  refine syg J J (aaD (v:= .bool true) rfl (by rw[Int.toNat_natCast,Nat.mul_one];exact agQ hk hf)) rfl<|sy (abx J J) rfl<|sa J J<|zE<|acr rfl<|?_
  refine sR<|sm J J<|sn J J<|sf J J<|?_
  refine sc (acx J J J (.hd ..) (nb rfl) J J ?_)
  refine zE<|sR<|?_
  refine sc (zC J J (PF.fn0 (afx (b:=false)) (.cons (aaV.2 rfl) .nil)) rfl ?_)
  rintro _ G1 _ hp
  obtain⟨p,rfl⟩:=age hp
  refine sa J J<|zE<|aaL<|?_
  exact ac9 (css:=[_,_]) (.tmp rfl .nil) rfl _ (List.Perm.refl _) (List.Sublist.refl _) ⟨p,rfl,hp,rfl⟩
 |line base n s h0 hfb hl=>
  intro G rb sb lo lo2 _ hc
  have hbn:base<ns.length:=(List.getElem?_eq_some_iff.1 h0).1
  simp only at hc
  obtain⟨z,hzi,hz⟩:=hes.get (i:=base) (d:=n.d) (by rw[List.getElem?_map,h0];rfl)
  obtain⟨x1,x2,x3,rfl,hzg⟩:=aCf hz
  refine FnM.intro Tryz.func148 J J Tryz.ntmps148 rfl ?_
  intro C _ _
  show St C _ [(0, .pointer (some ⟨rb,0,none⟩)),(1, .int .i64 (base:Int))] [⟨rb,[.slice xa ns.length xc, .slice (some ⟨sb,0,none⟩) ns.length ns.length, .int .i64 s.c, .bool s.b],_,false⟩,⟨sb,af2 ns.length s.f,_,false⟩] _ _
  refine sR<|sa J J<|zE<|aaj<|aas<|sR<|sm J J<|sy (ab3 J J) rfl<|sm J J<|?_
  refine ab7 12 rfl (fun hg=>absurd hg (by omega)) (fun hg=>?_)
  refine syg J J (aaS rfl) rfl<|syg J J (ab3 J J) rfl<|sy (abx J J) rfl<|sa J J<|zE<|?_
  refine aaH rfl (fun hc=>absurd hc (by omega)) (fun _=>?_)
  refine sR<|sm J J<|sy (acj J J) rfl<|sm J J<|?_
  refine ab7 22 rfl (fun hg=>absurd hg (by omega)) (fun hg=>?_)
  refine syg J J (aaS rfl) rfl<|syg J J (aaS rfl) rfl<|syg J J (aaP rfl) rfl<|syg J J (aaT rfl) rfl<|syg J J (aaD J J) rfl<|syg J J (afd rfl) rfl<|syg J J (ahR J J) rfl<|sy (abx J J) rfl<|sm J J<|?_
  refine ab7 31 rfl (fun hg=>absurd hg (by omega)) (fun hg=>?_)
  refine syg J J (aaS rfl) rfl<|syg J J (aaP rfl) rfl<|syg J J (aaT rfl) rfl<|syg J J (aaD J J) rfl<|syg J J (aaS rfl) rfl<|syg J J (abf J J (by omega) (by omega)) rfl<|?_
  refine syg J J (aaD (v:= .bool false) rfl (by rw[Int.toNat_natCast,Nat.mul_one];exact agQ hbn hfb)) rfl<|sy (abx J J) rfl<|sa J J<|zE<|aeS rfl<|zK<|?_
  refine sR<|sm J J<|sn J J<|sf J J<|asR J J J<|sm J J<|sy (abf J J (by omega) (by omega)) rfl<|?_
  refine sc (adV J J (.tl _ _ _ _ _ _ _ _ (.hd ..)) (by rw[ajb,Int.toNat_natCast,Nat.mul_one];exact hbn) J J ?_)
  rw[Int.toNat_natCast,Nat.mul_one,aoi]
  refine zE<|sR<|sm J J<|sn J J<|sf J J<|asR J J J<|sy (aaq J J) rfl<|sn J J<|sf J J<|?_
  refine sc (acx J J J (by repeat (first|exact .hd .. |apply agH.tl)) (nb rfl) J J ?_)
  rw[show(s.c:Int)+1=((s.c+1:Nat):Int) by omega]
  refine zE<|sR<|sm J J<|sn J J<|sf J J<|asR J J J<|sm J J<|sy (aBw (z:=⟨xa,ns.length,xc⟩) hx J J (by omega) (by show(base:Int)<(ns.length:Int);omega)) rfl<|?_
  rw[Int.toNat_natCast]
  refine sy (ayg (i:=base) hx rfl (by rw[hel];exact hbn) hzi) rfl<|?_
  refine sc (afW rfl ?_)
  intro b5
  refine sc (agB J J J (by repeat (first|exact .hd .. |apply agH.tl)) rfl (nb rfl) J J ?_)
  refine zE<|sR<|sf J J<|slo J J J<|?_
  refine sc (zC J J (PF.fn0 (asC (hs n (List.mem_of_getElem? h0))) (.cons (hzg.up GL.le) .nil)) rfl ?_)
  rintro _ G6 _ hw
  rw[hl] at hw
  obtain⟨n1,d1,p1,n2,d2,p2,n3,d3,p3,rfl,hw⟩:=azq hw
  refine sm J J<|sx J J J<|sx J J J<|?_
  refine sc (afW rfl ?_)
  intro b6
  refine sc (agB J J J (by repeat (first|exact .hd .. |apply agH.tl)) rfl (nb rfl) J J ?_)
  refine sa J J<|zE<|aaj<|sR<|sm J J<|sy (ah5 rfl) rfl<|zE<|acr rfl<|?_
  refine sR<|sm J J<|sn J J<|sf J J<|?_
  refine sc (acx J J J (by repeat (first|exact .hd .. |apply agH.tl)) (nb rfl) J J ?_)
  refine zE<|sR<|?_
  refine sc (zC J J (PF.fn0 (afx (b:=false)) (.cons (aaV.2 rfl) .nil)) rfl ?_)
  rintro _ G7 _ hp
  obtain⟨p,rfl⟩:=age hp
  refine sa J J<|zE<|aaL<|?_
  exact ac9 (css:=[_,_]) (.tmp rfl .nil) rfl _ (List.perm_append_comm (l₁:=[_,_]) (l₂:=[_,_])) (.cons_cons _ (.cons_cons _ (List.nil_sublist _))) ⟨p,rfl,hp,rfl⟩
 |node base n l s s2 s3 tx ty h0 hfb hl h1 h2 ih1 ih2=>
  intro G rb sb lo lo2 _ hc
  have hbn:base<ns.length:=(List.getElem?_eq_some_iff.1 h0).1
  have hm1:=h1.mono
  have hm2:=h2.mono
  simp only at hm1
  obtain⟨z,hzi,hz⟩:=hes.get (i:=base) (d:=n.d) (by rw[List.getElem?_map,h0];rfl)
  obtain⟨x1,x2,x3,rfl,hzg⟩:=aCf hz
  refine FnM.intro Tryz.func148 J J Tryz.ntmps148 rfl ?_
  intro C _ _
  show St C _ [(0, .pointer (some ⟨rb,0,none⟩)),(1, .int .i64 (base:Int))] [⟨rb,[.slice xa ns.length xc, .slice (some ⟨sb,0,none⟩) ns.length ns.length, .int .i64 s.c, .bool s.b],_,false⟩,⟨sb,af2 ns.length s.f,_,false⟩] _ _
  refine sR<|sa J J<|zE<|aaj<|aas<|sR<|sm J J<|sy (ab3 J J) rfl<|sm J J<|?_
  refine ab7 12 rfl (fun hg=>absurd hg (by omega)) (fun hg=>?_)
  refine syg J J (aaS rfl) rfl<|syg J J (ab3 J J) rfl<|sy (abx J J) rfl<|sa J J<|zE<|?_
  refine aaH rfl (fun hc=>absurd hc (by omega)) (fun _=>?_)
  refine sR<|sm J J<|sy (acj J J) rfl<|sm J J<|?_
  refine ab7 22 rfl (fun hg=>absurd hg (by omega)) (fun hg=>?_)
  refine syg J J (aaS rfl) rfl<|syg J J (aaS rfl) rfl<|syg J J (aaP rfl) rfl<|syg J J (aaT rfl) rfl<|syg J J (aaD J J) rfl<|syg J J (afd rfl) rfl<|syg J J (ahR J J) rfl<|sy (abx J J) rfl<|sm J J<|?_
  refine ab7 31 rfl (fun hg=>absurd hg (by omega)) (fun hg=>?_)
  refine syg J J (aaS rfl) rfl<|syg J J (aaP rfl) rfl<|syg J J (aaT rfl) rfl<|syg J J (aaD J J) rfl<|syg J J (aaS rfl) rfl<|syg J J (abf J J (by omega) (by omega)) rfl<|?_
  refine syg J J (aaD (v:= .bool false) rfl (by rw[Int.toNat_natCast,Nat.mul_one];exact agQ hbn hfb)) rfl<|sy (abx J J) rfl<|sa J J<|zE<|aeS rfl<|zK<|?_
  refine sR<|sm J J<|sn J J<|sf J J<|asR J J J<|sm J J<|sy (abf J J (by omega) (by omega)) rfl<|?_
  refine sc (adV J J (.tl _ _ _ _ _ _ _ _ (.hd ..)) (by rw[ajb,Int.toNat_natCast,Nat.mul_one];exact hbn) J J ?_)
  rw[Int.toNat_natCast,Nat.mul_one,aoi]
  refine zE<|sR<|sm J J<|sn J J<|sf J J<|asR J J J<|sy (aaq J J) rfl<|sn J J<|sf J J<|?_
  refine sc (acx J J J (by repeat (first|exact .hd .. |apply agH.tl)) (nb rfl) J J ?_)
  rw[show(s.c:Int)+1=((s.c+1:Nat):Int) by omega]
  refine zE<|sR<|sm J J<|sn J J<|sf J J<|asR J J J<|sm J J<|sy (aBw (z:=⟨xa,ns.length,xc⟩) hx J J (by omega) (by show(base:Int)<(ns.length:Int);omega)) rfl<|?_
  rw[Int.toNat_natCast]
  refine sy (ayg (i:=base) hx rfl (by rw[hel];exact hbn) hzi) rfl<|?_
  refine sc (afW rfl ?_)
  intro b5
  refine sc (agB J J J (by repeat (first|exact .hd .. |apply agH.tl)) rfl (nb rfl) J J ?_)
  refine zE<|sR<|sf J J<|slo J J J<|?_
  refine sc (zC J J (PF.fn0 (asC (hs n (List.mem_of_getElem? h0))) (.cons (hzg.up GL.le) .nil)) rfl ?_)
  rintro _ G6 _ hw
  rw[hl] at hw
  obtain⟨n1,d1,p1,n2,d2,p2,n3,d3,p3,rfl,hw'⟩:=azq hw
  replace hw:=hw' l rfl
  refine sm J J<|sx J J J<|sx J J J<|?_
  refine sc (afW rfl ?_)
  intro b6
  refine sc (agB J J J (by repeat (first|exact .hd .. |apply agH.tl)) rfl (nb rfl) J J ?_)
  refine sa J J<|zE<|aaj<|sR<|sm J J<|sy (ah5 rfl) rfl<|zE<|aeS rfl<|zK<|?_
  refine sR<|sm J J<|sf J J<|asR J J J<|?_
  have hrp:=ih1 (G:=G6) (rb:=rb) (sb:=sb) (lo:=false) (lo2:=false) (by omega)
  refine sc (aiy J J (List.perm_append_comm (l₁:=[_,_]) (l₂:=[_,_])) hrp rfl ?_)
  rintro _ css G7 _ _ ⟨q1,rfl,hp1,rfl⟩
  show St C _ _ [⟨rb,[.slice xa ns.length xc, .slice (some ⟨sb,0,none⟩) ns.length ns.length, .int .i64 s2.c, .bool s2.b],228,false⟩,⟨sb,af2 ns.length s2.f,4,false⟩,⟨b6,[.int .i64 n1, .int .i64 d1, .pointer p1, .int .i64 n2, .int .i64 d2, .pointer p2, .int .i64 n3, .int .i64 d3, .pointer p3],181,true⟩,⟨b5,[.bool n.g.na, .slice x1.a x1.n x1.c, .bool n.g.nb, .slice x2.a x2.n x2.c, .bool n.g.nc, .slice x3.a x3.n x3.c, .int .i64 n.l, .int .i64 n.r],135,true⟩] _ _
  refine sa J J<|zE<|aaj<|?_
  refine drS [⟨b6,[.int .i64 n1, .int .i64 d1, .pointer p1, .int .i64 n2, .int .i64 d2, .pointer p2, .int .i64 n3, .int .i64 d3, .pointer p3],181,true⟩,⟨b5,[.bool n.g.na, .slice x1.a x1.n x1.c, .bool n.g.nb, .slice x2.a x2.n x2.c, .bool n.g.nc, .slice x3.a x3.n x3.c, .int .i64 n.l, .int .i64 n.r],135,true⟩] (fun _=>false) [(0,true),(1,true),(2,true),(3,true),(4,true),(5,false),(6,false),(7,true)] follows (by kernel_rfl)<|?_
  refine dL J J J J<|dM J J J<|dM J J J<|dF J J J<|dL1 J J J J<|?_
  have hrp:=ih2 (G:=G7) (rb:=rb) (sb:=sb) (lo:=false) (lo2:=false) hc
  refine dc J J (aiy J J (M:=[_,_]) (rest:=[_,_]) (List.Perm.refl _) hrp rfl ?_)
  rintro _ css G8 _ _ ⟨q2,rfl,hp2,rfl⟩
  show St C _ _ [⟨rb,[.slice xa ns.length xc, .slice (some ⟨sb,0,none⟩) ns.length ns.length, .int .i64 s3.c, .bool s3.b],228,false⟩,⟨sb,af2 ns.length s3.f,4,false⟩,⟨b6,[.int .i64 n1, .int .i64 d1, .pointer p1, .int .i64 n2, .int .i64 d2, .pointer p2, .int .i64 n3, .int .i64 d3, .pointer p3],181,true⟩,⟨b5,[.bool n.g.na, .slice x1.a x1.n x1.c, .bool n.g.nb, .slice x2.a x2.n x2.c, .bool n.g.nc, .slice x3.a x3.n x3.c, .int .i64 n.l, .int .i64 n.r],135,true⟩] _ _
  refine av6<|?_
  refine dc J J (zC J J (PF.fn0 (asQ (l:=l) (x:=tx) (y:=ty)) (.cons (hw.up GL.le) (.cons (hp1.up GL.le) (.cons hp2 .nil)))) rfl ?_)
  rintro _ G9 _ hp
  obtain⟨p,rfl⟩:=age hp
  refine av6<|dA J J J<|dn<|aaL<|?_
  exact ac9 (css:=[_,_]) (.tmp rfl .nil) rfl _ (List.Perm.refl _) (.cons_cons _ (.cons_cons _ (List.nil_sublist _))) ⟨p,rfl,hp,rfl⟩
def rs0:RS:=⟨fun _=>false,0,false⟩
def ofD(ns:List RN)(t:Tr)(s:RS):DV:=if s.b=false∧s.c=ns.length then .tp [eU t,vB true] else .tp [.v (.pointer none),vB false]
def eRT(rt:Int)(ns:List RN):DV:= .ag [vI rt, .sl (ns.map RN.d)]
theorem aG3{ns:List RN}{rt:Int}{t:Tr}{s:RS}(hs: ∀n∈ns,n.g.sm)(hn:ns.length≤65536)(h:RR ns rt rs0 t s)(hc:s.c≤1000000):PF GB Tryz.prog 74 [eRT rt ns] (ofD ns t s):=by
 intro G vs _ hv
 obtain⟨v0,m,rfl,h0,hm⟩:=aab.1 hv
 rw[aaJ] at hm;subst hm
 obtain⟨m,rfl,g⟩:=abL.1 h0
 obtain⟨v1,m,rfl,h1,hm⟩:=aab.1 g
 obtain⟨v2,m,rfl,h2,hm⟩:=aab.1 hm
 rw[aaJ] at hm;subst hm
 obtain⟨s0,x,es,rfl,hsl,hes⟩:=ad4.1 h2
 rw[aaV.1 h1]
 have hel:=hes.len
 rw[List.length_map] at hel
 have hlen:=hsl.len
 rw[hel] at hlen
 have hx:aF7 x ns G:=by
  refine⟨es,?_,hes⟩
  rcases afn (s:=8) hsl hes (fun d hd=>by obtain⟨n,_,rfl⟩:=List.mem_map.1 hd;exact⟨rfl,rfl⟩) with e|e
  ·exact⟨hsl.len,hsl.cap, .inl e⟩
  ·rw[e] at hsl;exact hsl
 obtain⟨xa,xn,xc⟩:=x
 simp only[] at hlen
 subst hlen
 show Fn _ _ [.agg ⟨[.int .i64 rt, .slice xa ns.length xc]⟩] _ _
 refine Fn.intro Tryz.func74 J J Tryz.ntmps74 rfl ?_
 intro C _ _
 refine sR<|?_
 refine sc (avj J J ?_)
 intro b1
 refine sa J J<|sa J J<|zE<|aaj<|sR<|sf J J<|asR J J J<|adj J J<|sy (af8 J J) rfl<|zE<|?_
 refine aaH rfl (fun hc=>absurd hc (by omega)) (fun _=>?_)
 refine zK<|aaj<|dr (fun _=>false) [(0,true),(1,true),(2,true),(3,true),(4,true),(5,false),(6,true),(7,false),(8,true)] follows (by kernel_rfl)<|dF J J J<|?_
 refine dL1 J J J J<|dF J J J<|dL1 J J J J<|dy rfl (fun _=>afd rfl) J J<|?_
 refine dc J J (aeQ J J (by omega) (by omega) (by omega) (by rfl) rfl ?_)
 intro b2
 rw[Int.toNat_natCast,aoT]
 refine av6<|dy rfl (fun _=>amx rfl) J J<|?_
 refine dc J J (avj J J ?_)
 intro b3
 refine av6<|dA J J J<|dn<|sR<|sm J J<|sf J J<|asR J J J<|?_
 have hrp:=aAq hx hs (by omega) h (G:=G) (rb:=b3) (sb:=b2) (lo:=true) (lo2:=true) hc
 refine sc (aiy J J (M:=[_,_]) (rest:=[_]) (List.Perm.refl _) hrp rfl ?_)
 rintro _ css G4 _ _ ⟨p,rfl,hp,rfl⟩
 show St C _ _ [⟨b3,[.slice xa ns.length xc, .slice (some ⟨b2,0,none⟩) ns.length ns.length, .int .i64 s.c, .bool s.b],228,true⟩,⟨b2,af2 ns.length s.f,4,true⟩,⟨b1,[.int .i64 rt, .slice xa ns.length xc],42,true⟩] _ _
 refine sa J J<|zE<|aaj<|aaj<|dr (fun _=>false) [(0,true),(1,true),(2,true),(3,true),(4,true),(5,true),(6,true),(7,true),(8,true),(9,true),(10,true),(11,true),(12,true),(13,true)] follows (by kernel_rfl)<|?_
 obtain⟨sf_,sc_,sb_⟩:=s
 cases sb_
 case true=>
  refine dM J J J<|dy rfl (fun _=>aaP rfl) J J<|dF J J J<|dL1 J J J J<|dM J J J<|?_
  refine dys J J J J J J<|dys J J J J J J<|dys J J J J J J<|dys J J J J J J<|dys J J J J J J<|dys J J J J J J<|?_
  refine dys J J J J J J<|dys J J J J J J<|dy rfl (fun _=>ac6 J J) J J<|dn<|acr rfl<|?_
  refine sR<|sa J J<|sa J J<|zE<|aaL<|?_
  refine zD (.tmp rfl (.tmp rfl .nil)) ?_
  rw[ofD,if_neg (fun e=>by cases e.1)]
  exact aeL.2 ⟨_,rfl, .cons (aaV.2 rfl) (.cons (aaV.2 rfl) .nil)⟩
 refine dM J J J<|dy rfl (fun _=>aaP rfl) J J<|dF J J J<|dL1 J J J J<|dM J J J<|?_
 refine dyg J J J J (fun _=>aaS rfl) rfl<|dyg J J J J (fun _=>aaP rfl) rfl<|dyg J J J J (fun _=>aaT rfl) rfl<|dyg J J J J (fun _=>aaD J J) rfl<|?_
 refine dyg J J J J (fun _=>aaT rfl) rfl<|dyg J J J J (fun _=>aaD J J) rfl<|dyg J J J J (fun _=>afd rfl) rfl<|dyg J J J J (fun _=>ahX J J) rfl<|?_
 refine dy rfl (fun _=>abx J J) J J<|dn<|?_
 refine aaH rfl (fun hc=>?_) (fun hc=>?_) -- slot 35
 ·refine sR<|sa J J<|sa J J<|zE<|aaL<|?_
  refine zD (.tmp rfl (.tmp rfl .nil)) ?_
  rw[ofD,if_neg (fun e=>hc (by have:=e.2;simp only at this;omega))]
  exact aeL.2 ⟨_,rfl, .cons (aaV.2 rfl) (.cons (aaV.2 rfl) .nil)⟩
 refine zK<|sR<|sm J J<|sa J J<|sa J J<|zE<|aaL<|?_
 refine zD (.tmp rfl (.tmp rfl .nil)) ?_
 rw[ofD,if_pos ⟨rfl,by have h9:=hc;simp at h9;show sc_=_;omega⟩]
 exact aeL.2 ⟨_,rfl, .cons hp (.cons (aaV.2 rfl) .nil)⟩
theorem aAN{G:Gh}{l:LnQ}{x y:Tr}{m:List Value}(h:IsLs G (cU (.node l x y)) m): ∃n1 d1 p1 n2 d2 p2 n3 d3 p3 q r,m=[.int .i64 n1, .int .i64 d1, .pointer p1, .int .i64 n2, .int .i64 d2, .pointer p2, .int .i64 n3, .int .i64 d3, .pointer p3, .pointer q, .pointer r, .bool false]∧
  Is G (eLn l) (.agg ⟨[.int .i64 n1, .int .i64 d1, .pointer p1, .int .i64 n2, .int .i64 d2, .pointer p2, .int .i64 n3, .int .i64 d3, .pointer p3]⟩)∧Is G (eU x) (.pointer q)∧Is G (eU y) (.pointer r):=by
 obtain⟨v1,m,rfl,h1,h⟩:=aab.1 h
 obtain⟨v2,m,rfl,h2,h⟩:=aab.1 h
 obtain⟨v3,m,rfl,h3,h⟩:=aab.1 h
 obtain⟨v4,m,rfl,h4,h⟩:=aab.1 h
 obtain⟨v5,m,rfl,h5,h⟩:=aab.1 h
 obtain⟨v6,m,rfl,h6,h⟩:=aab.1 h
 obtain⟨v7,m,rfl,h7,h⟩:=aab.1 h
 obtain⟨v8,m,rfl,h8,h⟩:=aab.1 h
 obtain⟨v9,m,rfl,h9,h⟩:=aab.1 h
 obtain⟨va,m,rfl,ha,h⟩:=aab.1 h
 obtain⟨vb,m,rfl,hb,h⟩:=aab.1 h
 obtain⟨vc,m,rfl,hc,h⟩:=aab.1 h
 rw[aaJ] at h;subst h
 obtain⟨_,rfl⟩:=alh h3
 obtain⟨_,rfl⟩:=alh h6
 obtain⟨_,rfl⟩:=alh h9
 obtain⟨_,rfl⟩:=age ha
 obtain⟨_,rfl⟩:=age hb
 cases aaV.1 h1;cases aaV.1 h2;cases aaV.1 h4;cases aaV.1 h5;cases aaV.1 h7;cases aaV.1 h8;cases aaV.1 hc
 exact⟨_,_,_,_,_,_,_,_,_,_,_,rfl,abL.2 ⟨_,rfl, .cons h1 (.cons h2 (.cons h3 (.cons h4 (.cons h5 (.cons h6 (.cons h7 (.cons h8 (.cons h9 .nil))))))))⟩,ha,hb⟩
end Go.Sx
end
