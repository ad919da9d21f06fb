/- Part 11 of a proof. -/
import Derived.Test.YtopfgminkdfpkaaGreatDoorMp10
set_option linter.unusedSimpArgs false
set_option maxHeartbeats 4000000
set_option maxRecDepth 100000
set_option linter.unusedVariables false
section
namespace Go.Sx
open Go Go.Proofs Tryz
variable {GB:Gh}
def Big(q:Rat):Prop:= ¬(q.num.natAbs<4611686018427387904∧q.den<4611686018427387904)
instance (q:Rat):Decidable (Big q):=inferInstanceAs (Decidable (¬_))
def fn_(q:Rat):Int:=if Big q then 0 else q.num
def fd_(q:Rat):Int:=if Big q then 0 else(q.den:Int)-1
def fp_(q:Rat):DV:= .op (decide (Big q)) [.v (.bool (decide (q.num<0))),dN q.num.natAbs,dN q.den]
def eF(q:Rat):DV:= .ag [vI (fn_ q),vI (fd_ q),fp_ q]
abbrev bgT {q:Rat} (h:decide (Big q)=true):Big q:=of_decide_eq_true h
abbrev bgF {q:Rat} (h:decide (Big q)=false): ¬Big q:=of_decide_eq_false h
abbrev aGp {q:Rat} (h: ¬decide (Big q)=false):Big q:=by simpa using h
abbrev aqX {q:Rat} (h: ¬decide (Big q)=true): ¬Big q:=by simpa using h
theorem apJ{q:Rat}(h: ¬Big q):fn_ q=q.num:=if_neg h
theorem arv{q:Rat}(h: ¬Big q):fd_ q=(q.den:Int)-1:=if_neg h
theorem adS{q:Rat}(h: ¬Big q):q.num.natAbs<4611686018427387904:=(Decidable.not_not.1 h).1
theorem adH{q:Rat}(h: ¬Big q):q.den<4611686018427387904:=(Decidable.not_not.1 h).2
theorem auG{q:Rat}(h:Big q):q≠0:=fun e=>by subst e;exact h ⟨by decide,by decide⟩
theorem awf{q:Rat}{m d:Int}{r:DV}(h: ¬Big q)(h1:q.num=m)(h2:(q.den:Int)-1=d)(e:r= .ag [vI m,vI d, .v (.pointer none)])(G:Gh)(y:Value)(k:Is G r y):Is G (eF q) y:=by
 subst e h1 h2
 obtain⟨l,rfl,g⟩:=abU.1 k
 obtain⟨y1,l1,rfl,k1,g1⟩:=aac.1 g
 obtain⟨y2,l2,rfl,k2,g2⟩:=aac.1 g1
 obtain⟨y3,l3,rfl,k3,g3⟩:=aac.1 g2
 exact abU.2 ⟨_,rfl, .cons (by rw[apJ h];exact k1) (.cons (by rw[arv h];exact k2) (.cons (an7.2 (.inl ⟨decide_eq_false h,aaZ.1 k3⟩)) g3))⟩
theorem aFG{q:Rat}{n:Bool}{a d:Nat}{r:DV}(h:Big q)(h1:decide (q.num<0)=n)(h2:q.num.natAbs=a)(h3:q.den=d)(e:r= .ag [vI 0,vI 0, .pt [.v (.bool n),dN a,dN d]])(G:Gh)(y:Value)(k:Is G r y):Is G (eF q) y:=by
 subst e h1 h2 h3
 obtain⟨l,rfl,g⟩:=abU.1 k
 obtain⟨y1,l1,rfl,k1,g1⟩:=aac.1 g
 obtain⟨y2,l2,rfl,k2,g2⟩:=aac.1 g1
 obtain⟨y3,l3,rfl,k3,g3⟩:=aac.1 g2
 exact abU.2 ⟨_,rfl, .cons (by unfold fn_;rw[if_pos h];exact k1) (.cons (by unfold fd_;rw[if_pos h];exact k2) (.cons (an7.2 (.inr ⟨decide_eq_true h,k3⟩)) g3))⟩
theorem aBJ(G:Gh)(y:Value)(k:Is G (.ag [vI 0,vI 0, .v (.pointer none)]) y):Is G (eF 0) y:=awf (fun h=>auG h rfl) J J J G y k
theorem aFL{m:Int}(h:m.natAbs<4611686018427387904)(G:Gh)(y:Value)(k:Is G (.ag [vI m,vI 0, .v (.pointer none)]) y):Is G (eF (m:Rat)) y:=
 awf (fun k=>k ⟨by simpa using h,by rw[pM];decide⟩) (pL m) (by rw[pM];rfl) rfl G y k
theorem axo{n:Bool}{a d:Nat}(hd:0<d):(mkRat (zv n a) d).num=zv n (a/Nat.gcd a d)∧(mkRat (zv n a) d).den=d/Nat.gcd a d:=by
 obtain⟨h1,h2⟩:=auM (m:=zv n a) hd
 rw[af5] at h1 h2
 exact⟨by rw[h1,aBb (rZ _ _)],h2⟩
theorem aC4{n:Bool}{a d a' d':Nat}(hd:0<d)(ha:a'=a/Nat.gcd a d)(hd':d'=d/Nat.gcd a d)(h1:a'<4611686018427387904)(h2:d'<4611686018427387904)(G:Gh)(y:Value)(k:Is G (.ag [vI (zv n a'),vI ((d':Int)-1), .v (.pointer none)]) y):Is G (eF (mkRat (zv n a) d)) y:=by
 obtain⟨e1,e2⟩:=axo (n:=n) (a:=a) hd
 rw[←ha] at e1;rw[←hd'] at e2
 exact awf (fun k=>k ⟨by rw[e1,af5];exact h1,by rw[e2];exact h2⟩) e1 (by rw[e2]) rfl G y k
theorem aw6{n:Bool}{a d a' d':Nat}(hd:0<d)(ha:a'=a/Nat.gcd a d)(hd':d'=d/Nat.gcd a d)(h: ¬(a'<4611686018427387904∧d'<4611686018427387904))(G:Gh)(y:Value)(k:Is G (.ag [vI 0,vI 0, .pt [.v (.bool (decide (zv n a'<0))),dN (zv n a').natAbs,dN d']]) y):Is G (eF (mkRat (zv n a) d)) y:=by
 obtain⟨e1,e2⟩:=axo (n:=n) (a:=a) hd
 rw[←ha] at e1;rw[←hd'] at e2
 exact aFG (fun k=>h ⟨by rw[e1,af5] at k;exact k.1,by rw[e2] at k;exact k.2⟩) (by rw[e1]) (by rw[e1]) e2 rfl G y k
theorem aGj{a d:Nat}(hd:0<d)(h: ¬(1:Int)<(bl (Nat.gcd a d):Nat)):Nat.gcd a d=1:=by
 have h1:Nat.gcd a d≠0:=fun e=>by rw[Nat.gcd_eq_zero_iff] at e;omega
 have h2:Nat.gcd a d<2^1:=ahH.1 (by omega)
 omega
theorem apg{x:Nat}:(((bl x:Nat):Int)≤62)↔x<4611686018427387904:=azs
theorem PF.ofI{P:Program}{f:FuncId}{ds ds':List DV}{r:DV}(h:PF GB P f ds r)(k: ∀G vs,IsLs G ds' vs→IsLs G ds vs):PF GB P f ds' r:=fun G vs hg hv=>h G vs hg (k G vs hv)
theorem ad5{n:Bool}{a d i j:Nat}[h:BN a i][k:BN d j](hi:i≤450000000:=by decide)(hj:j≤450000000:=by decide):PF GB prog 182 [eS n a,dN d] (eF (mkRat (zv n a) d)):=by
 refine fn func182 J J ntmps182 J J (fun C=>?_)
 refine cl rfl (ajx (a:=d) (by omega)) rfl<|?_
 refine cs 13 J J J (fun hg13=>?_) (fun hg13=>?_)
 ·
  exact rzI rfl (by obtain rfl:=auQ.1 (Int.ofNat.inj hg13);rw[Rat.mkRat_zero];exact aBJ)
 ·
  have hd0:0<d:=by have:= @auQ d;omega
  have hg0:0<Nat.gcd a d:=mN _ hd0
  refine cl rfl (arC (n:=n) (a:=a) (by omega)) rfl<|?_
  refine br J J J (fun hc17=>?_) (fun hc17=>?_)
  ·
   exact rzI rfl (by rw[fK.1 hc17,Rat.zero_mkRat];exact aBJ)
  ·
   refine cl rfl (aBw (a:=a) (b:=d) (by omega) (by omega)) rfl<|cl rfl (ajx (a:=Nat.gcd a d) (i:=i+j) (by omega)) rfl<|?_
   refine br J J J (fun hc25=>?_) (fun hc25=>?_)
   ·
    obtain⟨a',ea⟩: ∃a',a'=a/Nat.gcd a d:=⟨_,rfl⟩
    obtain⟨d',ed⟩: ∃d',d'=d/Nat.gcd a d:=⟨_,rfl⟩
    have hba:BN a' i:=ea▸inferInstance
    have hbd:BN d' j:=ed▸inferInstance
    refine cl (fu:=⟨2⟩) rfl (apS (a:=a) (b:=Nat.gcd a d) (j:=i+j) hg0 (by omega) (by omega)) rfl<|?_
    refine eqF 31 (.d (dN a')) rfl (by rw[ea]) ?_
    refine gx rfl<|cl (fu:=⟨2⟩) rfl (apS (a:=d) (b:=Nat.gcd a d) (j:=i+j) hg0 (by omega) (by omega)) rfl<|?_
    refine eqF 39 (.d (dN d')) rfl (by rw[ed]) ?_
    refine gx rfl<|cl rfl (ajx (h:=hba) (by omega)) rfl<|?_
    refine cs 46 J J J (fun hg46=>?_) (fun hg46=>?_)
    ·
     refine cl rfl (ajx (h:=hbd) (by omega)) rfl<|?_
     refine br J J J (fun hc50=>?_) (fun hc50=>?_)
     ·
      have hs2:=apg.1 hc50
      refine cl rfl (atA (apg.1 hg46)) rfl<|cl rfl (aup (by have:=apg.1 hc50;omega)) rfl<|?_
      exact rzI rfl (aC4 hd0 ea ed (apg.1 hg46) (apg.1 hc50))
     ·
      refine cl rfl (ahl (neg:=n) (h:=hba) (by omega)) rfl<|cl rfl (akL (h:=hbd) (by omega)) rfl<|fz 71 J J<|?_
      exact rzI rfl (aw6 hd0 ea ed (fun e=>hc50 (apg.2 e.2)))
    ·
     refine cl rfl (ahl (neg:=n) (h:=hba) (by omega)) rfl<|cl rfl (akL (h:=hbd) (by omega)) rfl<|fz 71 J J<|?_
     exact rzI rfl (aw6 hd0 ea ed (fun e=>hg46 (apg.2 e.1)))
   ·
    have hg1:=aGj hd0 hc25
    have ea:a=a/Nat.gcd a d:=by rw[hg1,sK]
    have ed:d=d/Nat.gcd a d:=by rw[hg1,sK]
    have hba:=h
    have hbd:=k
    refine cl rfl (ajx (h:=hba) (by omega)) rfl<|?_
    refine cs 46 J J J (fun hg46=>?_) (fun hg46=>?_)
    ·
     refine cl rfl (ajx (h:=hbd) (by omega)) rfl<|?_
     refine br J J J (fun hc50=>?_) (fun hc50=>?_)
     ·
      have hs2:=apg.1 hc50
      refine cl rfl (atA (apg.1 hg46)) rfl<|cl rfl (aup (by have:=apg.1 hc50;omega)) rfl<|?_
      exact rzI rfl (aC4 hd0 ea ed (apg.1 hg46) (apg.1 hc50))
     ·
      refine cl rfl (ahl (neg:=n) (h:=hba) (by omega)) rfl<|cl rfl (akL (h:=hbd) (by omega)) rfl<|fz 71 J J<|?_
      exact rzI rfl (aw6 hd0 ea ed (fun e=>hc50 (apg.2 e.2)))
    ·
     refine cl rfl (ahl (neg:=n) (h:=hba) (by omega)) rfl<|cl rfl (akL (h:=hbd) (by omega)) rfl<|fz 71 J J<|?_
     exact rzI rfl (aw6 hd0 ea ed (fun e=>hg46 (apg.2 e.1)))
theorem aeX{m:Int}{i:Nat}[h:BI m i](hi:i≤400000000:=by decide):PF GB prog 250 [eI m] (eF (m:Rat)):=by
 refine fn func250 J J ntmps250 J J (fun C=>?_)
 refine rf (fu:=⟨0⟩) J J<|?_
 refine eqF 4 (.d (dN 1)) rfl (by unfold dN;rw[ane];rfl) ?_
 refine gx rfl<|cl rfl (ad5 (n:=decide (m<0)) (a:=m.natAbs) (d:=1) (by omega)) rfl<|?_
 exact rz rfl (by rw[adt,show mkRat m 1=(m:Rat) from rJ ..];rfl)
theorem akq{q:Rat}:PF GB prog 251 [eF q] (vB (decide (q=0))):=by
 refine fn func251 J J ntmps251 J J (fun C=>?_)
 refine cs 6 J J J (fun hg6=>?_) (fun hg6=>?_)
 ·
  exact rz rfl (by rw[apJ (bgF hg6)];show DV.v (.bool (decide _))= .v (.bool _);congr 2;exact decide_eq_decide.2 ⟨fun e=>lX.1 e,fun e=>by rw[e];rfl⟩)
 ·
  exact rz rfl (by rw[decide_eq_false (auG (aGp hg6))];rfl)
theorem atU{m:Int}(h:m.natAbs<9223372036854775808):PF GB prog 266 [vI m] (.v (.int .u64 (m.natAbs:Nat))):=by
 refine fn func266 J J ntmps266 J J (fun C=>?_)
 refine br J J J (fun hc4=>?_) (fun hc4=>?_)
 ·
  exact rz rfl (by show DV.v (.int _ _)=_;congr 2;omega)
 ·
  exact rz rfl (by show DV.v (.int _ _)=_;congr 2;omega)
theorem aj3{q:Rat}{i:Nat}[h:BQ q i](hi:i≤900000000:=by decide):PF GB prog 190 [eF q] (dN q.den):=by
 refine fn func190 J J ntmps190 J J (fun C=>?_)
 refine br (v1:=fun hc5=>by simp only[aag];exact hc5) (fu2:=⟨6⟩) J J J (fun hc5=>?_) (fun hc5=>?_)
 ·
  refine cl rfl (akL (a:=q.den) (by omega)) rfl<|?_
  exact rz J J
 ·
  have hd:=q.den_nz
  have hs:=adH (aqX hc5)
  refine eqF 13 (.d (vI ((q.den:Int)-1))) rfl (by rw[arv (aqX hc5)]) ?_
  refine gx (fu:=⟨2⟩) rfl<|?_
  refine eqF 15 (.d (.v (.int .u64 (q.den:Nat)))) rfl (by congr 3;omega) ?_
  refine gx rfl<|cl rfl (ahC (a:=q.den) (by omega)) rfl<|?_
  exact rz J J
theorem aq8{q:Rat}{i:Nat}[h:BQ q i](hi:i≤900000000:=by decide):PF GB prog 189 [eF q] (eI q.num):=by
 refine fn func189 J J ntmps189 J J (fun C=>?_)
 refine br (v1:=fun hc5=>by simp only[aag];exact hc5) (fu2:=⟨6⟩) J J J (fun hc5=>?_) (fun hc5=>?_)
 ·
  refine cl rfl (ahl (neg:=decide (q.num<0)) (a:=q.num.natAbs) (by omega)) rfl<|?_
  exact rz rfl (by rw[adt];rfl)
 ·
  have hs:=adS (aqX hc5)
  refine eqF 13 (.d (vI q.num)) rfl (by rw[apJ (aqX hc5)]) ?_
  refine gx rfl<|cl rfl (ai1 (by omega) (by omega)) rfl<|?_
  exact rz J J
theorem afg{q:Rat}{i:Nat}[h:BQ q i](hi:i≤900000000:=by decide):PF GB prog 119 [eF q] (eF (-q)):=by
 refine fn func119 J J ntmps119 J J (fun C=>?_)
 refine br (v1:=fun hc5=>by simp only[aag];exact hc5) (fu2:=⟨6⟩) J J J (fun hc5=>?_) (fun hc5=>?_)
 ·
  refine cl (fu:=⟨6⟩) (hv:=by simp only[aag];exact hc5) rfl (aBA (m:=q.num) (by omega)) rfl<|bxf J J<|?_
  exact rzI rfl (aFG (q:= -q) (fun k=>bgT hc5 (by rw[lY,iL,oR] at k;exact k)) (by rw[lY]) (by rw[lY]) (oR q) rfl)
 ·
  have hs:=adS (aqX hc5)
  refine eqF 21 (.d (vI q.num)) rfl (by rw[apJ (aqX hc5)]) ?_
  refine gx rfl<|?_
  exact rzI rfl (awf (q:= -q) (fun k=>k (by rw[lY,iL,oR];exact⟨hs,adH (aqX hc5)⟩)) (by rw[lY]) (by rw[oR,arv (aqX hc5)]) rfl)
theorem acZ{q:Rat}{i:Nat}[h:BQ q i](hi:i≤900000000:=by decide):PF GB prog 115 [eF q] (vI q.num.sign):=by
 refine fn func115 J J ntmps115 J J (fun C=>?_)
 refine br (v1:=fun hc3=>by simp only[aag];exact hc3) J J J (fun hc3=>?_) (fun hc3=>?_)
 ·
  refine cl rfl (arC (n:=decide (q.num<0)) (a:=q.num.natAbs) (by omega)) rfl<|?_
  exact rz rfl (by rw[adt];rfl)
 ·
  have hs:=apJ (aqX hc3)
  refine br J J J (fun hc13=>?_) (fun hc13=>?_)
  ·
   exact rz rfl (by rw[dS (by omega)];rfl)
  ·
   refine br J J J (fun hc17=>?_) (fun hc17=>?_)
   ·
    exact rz rfl (by rw[eJ (by omega)];rfl)
   ·
    exact rz rfl (by rw[show q.num=0 by omega];rfl)
theorem aAD{h l y:Nat}(hh:h<y)(hl:l<4294967296)(hy:y<4294967296):PF GB prog 243 [.v (.int .u32 (h:Int)), .v (.int .u32 (l:Int)), .v (.int .u32 (y:Int))] (.tp [dU ((h*4294967296+l)/y),dU ((h*4294967296+l)%y)]):=by
 refine fn (fu:=⟨11⟩) func243 J J ntmps243 J J (fun C=>?_)
 refine kT 10 rfl (by omega) ?_
 refine gx (fu:=⟨4⟩) rfl<|?_
 refine kF 14 rfl (by omega) ?_
 refine gx (fu:=⟨11⟩) (hv:=by simp only[aag];exact⟨by omega,(by decide)⟩) rfl<|?_
 refine eqF 19 (.d (.v (.int .u64 (h*2^32:Nat)))) rfl (by show FX.d (.v (.int _ _))= .d (.v (.int _ _));rw[aee _ 32 (by decide) (by show _*4294967296<_;omega) rfl]) ?_
 refine gx (fu:=⟨3⟩) rfl<|?_
 refine eqF 22 (.d (.v (.int .u64 (l+h*2^32:Nat)))) rfl (congrArg (fun z:Nat=>FX.d (.v (.int .u64 (z:Int)))) (by rw[BitVec.or_comm];exact aqP 64 l h 32 hl (by show _+_*4294967296<18446744073709551616;omega))) ?_
 obtain⟨t,ht⟩: ∃t,t=h*4294967296+l:=⟨_,rfl⟩
 have hq:t/y<4294967296:=by rw[jT (by omega)];have:=eM 4294967296 (show h+1≤y from hh);omega
 have hr:t%y<y:=dZ _ (by omega)
 refine eqF 22 (.d (.v (.int .u64 (t:Nat)))) rfl (by show FX.d (.v (.int _ _))= .d (.v (.int _ _));congr 3;rw[ht];omega) ?_
 refine gx (hv:=by simp only[aag];exact⟨⟨⟨⟨by omega,⟨(by omega),(by omega),(by omega)⟩⟩,by omega⟩,⟨(by omega),(by omega)⟩⟩,by kernel_rfl⟩) rfl<|?_
 exact rz rfl (by show DV.tp [.v (.int _ _), .v (.int _ _)]= .tp [.v (.int _ _), .v (.int _ _)];rw[←ht,←oN,←nX];generalize t/y=q at*;generalize t%y=r at*;congr 4<;>(first|omega|(congr 3;omega)))
theorem azV{A r i b:Nat}(d:Nat)(hb:0<b):(A*4294967296+d)/b=A/b*4294967296+(A%b*4294967296+d)/b∧(A*4294967296+d)%b=(A%b*4294967296+d)%b:=by
 have h:=pT A b
 have e:A*4294967296+d=(A%b*4294967296+d)+b*(A/b*4294967296):=by
  rw[←cX,Nat.add_right_comm,←cY,jV (A%b),h]
 rw[e,lZ _ _ hb,mJ]
 exact⟨jV _ _,rfl⟩
theorem apL{ds:List Nat}{i:Nat}(h:i<ds.length):dv (ds.drop i)=dv (ds.drop (i+1))*4294967296+ds.getD i 0:=by
 rw[aS h,aK,aZ h]
 simp only[dv,kS];omega
theorem ahQ{W:List Nat}{i q:Nat}(h:i<W.length):dv ((W.set i q).drop i)=dv (W.drop (i+1))*4294967296+q:=by
 rw[apL (by rw[aN];exact h),pX (by omega),ajC h]
theorem ask{a b k:Nat}{W:List Nat}(hb:0<b)(hk:k<(dg a).length)(hl:W.length=(dg a).length)(h:dv (W.drop (k+1))=dv ((dg a).drop (k+1))/b):
  dv ((W.set k ((dv ((dg a).drop (k+1))%b*4294967296+(dg a).getD k 0)/b)).drop k)=dv ((dg a).drop k)/b∧dv ((dg a).drop k)%b=(dv ((dg a).drop (k+1))%b*4294967296+(dg a).getD k 0)%b:=by
 have:=azV (A:=dv ((dg a).drop (k+1))) (r:=0) (i:=0) ((dg a).getD k 0) hb
 rw[ahQ (by omega),h,apL hk,this.1,this.2]
 exact⟨rfl,rfl⟩
theorem afT{a b:Nat}:ahD a b<0↔a<b:=by unfold ahD;split<;>(try split)<;>omega
theorem ahg{a b:Nat}:0<ahD a b↔b<a:=by unfold ahD;split<;>(try split)<;>omega
theorem aCV{x:Nat}(hx:x<4294967296):PF GB prog 272 [dU x] (vI (32-(bl x:Int))):=by
 intro G vs hg hv
 obtain⟨v,m,rfl,h1,h2⟩:=aac.1 hv
 rw[aaJ] at h2;subst h2
 rw[aaZ.1 h1]
 exact(ajD hx).mono fun v G' _ h=>aaZ.2 h
theorem amW{a k:Nat}(h:4294967296^k≤a):k<(dg a).length:=by
 have h1:=adg a
 rcases iZ k (dg a).length with q|q
 ·exact q
 ·have:4294967296^(dg a).length≤4294967296^k:=bW (by decide) q
  omega
theorem ayr{v L:Nat}(hL:L=(dg v).length)(h1:1≤L):(dg v).getD (L-1) 0=v/4294967296^(L-1)∧0<v/4294967296^(L-1):=by
 have h:=atM (afc v) (L-1)
 rw[ad3 (by omega:(dg v).length≤L-1+1),aaX,oS,dY] at h
 have h2:=adg v
 rw[←hL] at h2
 rw[iM (show v<4294967296^(L-1+2) from cM h2 (bW (by decide) (by omega))),oS,dY] at h
 have h3:=af8 (aaH v).2.2 (by intro e;rw[e] at hL;simp at hL;omega)
 rw[aaX,←hL] at h3
 exact⟨h.symm,Nat.div_pos h3 (dR (by decide))⟩
theorem aoe{R n:Nat}(h1:1≤n)(h:R<4294967296^(n+1)):R/4294967296^(n-1)=(dg R).getD (n-1) 0+(dg R).getD n 0*4294967296:=by
 have e:=atM (afc R) (n-1)
 rw[aaX,show n-1+1=n by omega,iM (show R<4294967296^(n-1+2) by rwa [show n-1+2=n+1 by omega]),oS,dY,bN] at e
 exact e
theorem awb{R v j L:Nat}(hL:L=(dg v).length)(h1:1≤L)(hR:R<v*4294967296^(j+1)):R/(v*4294967296^j)≤min (R/4294967296^(L+j-1)/(v/4294967296^(L-1))) 4294967295:=by
 have ht:=(ayr hL h1).2
 have hp:0<4294967296^j:=dR (by decide)
 have hv0:0<v:=by
  rcases eY v with q|q
  ·subst q;simp at ht
  ·exact q
 have hvp:0<v*4294967296^j:=iT hv0 hp
 refine Nat.le_min.2 ⟨?_,?_⟩
 ·rw[qN ht,qN (dR (by decide))]
  have h3:v/4294967296^(L-1)*4294967296^(L-1)≤v:=Nat.div_mul_le_self _ _
  have h4:R/(v*4294967296^j)*(v*4294967296^j)≤R:=Nat.div_mul_le_self _ _
  rw[show L+j-1=L-1+j by omega,fV]
  calc R/(v*4294967296^j)*(v/4294967296^(L-1))*(4294967296^(L-1)*4294967296^j)
    =R/(v*4294967296^j)*((v/4294967296^(L-1)*4294967296^(L-1))*4294967296^j):=by simp only[cX]
   _≤R/(v*4294967296^j)*(v*4294967296^j):=eM _ (bT _ h3)
   _≤R:=h4
 ·have:R/(v*4294967296^j)<4294967296:=by
   rw[jT hvp]
   rw[eX] at hR
   rwa [bN,cX]
  omega
theorem afE{R V g:Nat}(hV:0<V)(h:R<V*g):R/V<g:=by
 rw[jT hV,bN];exact h
theorem au6{R V g:Nat}(hV:0<V)(h1:R/V≤g)(h2:V*g≤R):g=R/V:=by
 have:g≤R/V:=by rw[qN hV,bN];exact h2
 omega
theorem apG{R0 R v j g:Nat}{W:List Nat}(hj:j<W.length)(h:R0=R+dv (W.drop (j+1))*4294967296^(j+1)*v)(hv:0<v*4294967296^j)(hg:g=R/(v*4294967296^j)):
  R0=(R-v*4294967296^j*g)+dv ((W.set j g).drop j)*4294967296^j*v∧R-v*4294967296^j*g<v*4294967296^j:=by
 have h1:=pT R (v*4294967296^j)
 have h2:=dZ R hv
 rw[←hg] at h1
 refine⟨?_,by omega⟩
 rw[ahQ hj,cY,cY,h,eX]
 have e:g*4294967296^j*v=v*4294967296^j*g:=by simp only[cX,kW,bN]
 have e2:dv (W.drop (j+1))*(4294967296^j*4294967296)*v=dv (W.drop (j+1))*4294967296*4294967296^j*v:=by simp only[cX,kW,bN]
 rw[e,e2]
 omega
theorem aw2{a b s R:Nat}{D:Nat}(hR:R<b*2^s)(h:a*2^s=R+D*(b*2^s)):D=a/b∧R/2^s=a%b:=by
 have hp:0<2^s:=dR (by decide)
 have hb:0<b:=by
  rcases eY b with q|q
  ·subst q;simp at hR
  ·exact q
 have h1:a=R/2^s+D*b:=by
  have:=congrArg (· /2^s) h
  rw[Nat.mul_div_cancel _ hp,←cX,Nat.add_mul_div_right _ _ hp] at this
  exact this
 have h2:R/2^s<b:=by rw[jT hp];exact hR
 have h3:R/2^s+b*D=a:=by rw[bN b];exact h1.symm
 have:=(Nat.div_mod_unique hb).2 ⟨h3,h2⟩
 exact⟨this.1.symm,this.2.symm⟩
theorem aqL{a b s:Nat}(hl:(dg b).length≤(dg a).length)(h2:1≤(dg b).length):a*2^s<b*2^s*4294967296^((dg a).length-(dg b).length+1):=by
 have h1:=adg a
 have h3:=af8 (aaH b).2.2 (by intro e;rw[e] at h2;simp at h2)
 rw[aaX] at h3
 have h4:4294967296^(dg a).length≤b*4294967296^((dg a).length-(dg b).length+1):=by
  rw[show(dg a).length=((dg b).length-1)+((dg a).length-(dg b).length+1) by omega,fV]
  rw[show(dg b).length-1+((dg a).length-(dg b).length+1)-(dg b).length+1=(dg a).length-(dg b).length+1 by omega]
  exact bT _ h3
 rw[qQ]
 exact kJ (cM h1 h4) (dR (by decide))
theorem ayd(x j:Nat):x*2^(32*j)=x*4294967296^j:=by rw[oU]
theorem ayF{R L j:Nat}(h:R<4294967296^(L+j+1))(h1:1≤L):R/4294967296^(L+j-1)<18446744073709551616:=by
 rw[jT (dR (by decide)),show(18446744073709551616:Nat)=4294967296^2 from rfl,←fV]
 rwa [show 2+(L+j-1)=L+j+1 by omega]
theorem awa{R v j L:Nat}(hL:L=(dg v).length)(hR:R<v*4294967296^(j+1)):R<4294967296^(L+j+1):=by
 have h:=adg v
 rw[←hL] at h
 rw[jJ,fV]
 exact cM hR (bT _ (nL h))
theorem aC3{a b ia ib:Nat}[ha:BN a ia][hb:BN b ib](hi:ia≤500000000)(hj:ib≤500000000)(h2:1≤(dg b).length)(hl:(dg b).length≤(dg a).length):PF GB prog 244 [dN a,dN b] (.tp [dN (a/b),dN (a%b)]):=by
 have hla:=aaE (dg a)
 have hlb:=aaE (dg b)
 have hba:=aa8 ha.h
 have hba':(dg a).length≤20000000:=by omega
 refine fn func244 J J ntmps244 J J (fun C=>?_)
 refine ix _ rfl (aaC (k:=(dg b).length-1) (by omega) (by omega)) rfl<|cl (fu:=⟨0⟩) rfl (aCV (adp b ((dg b).length-1))) rfl<|?_
 obtain⟨s,hs⟩: ∃s:Nat,s=32-bl ((dg b).getD ((dg b).length-1) 0):=⟨_,rfl⟩
 have hs32:s≤32:=by omega
 refine eqF 22 (.d (vI (s:Nat))) rfl (by show FX.d (.v (.int _ _))= .d (.v (.int _ _));congr 3;have:=ahH.2 (show(dg b).getD ((dg b).length-1) 0<2^32 from adp b _);omega) ?_
 refine gx rfl<|cl rfl (apb (a:=b) (k:=s) (ia:=ib) (by omega) (by omega)) rfl<|cl (fu:=⟨0⟩) rfl (apb (a:=a) (k:=s) (ia:=ia) (by omega) (by omega)) rfl<|?_
 obtain⟨v,hv⟩: ∃v,v=b*2^s:=⟨_,rfl⟩
 obtain⟨R0,hR0⟩: ∃R0,R0=a*2^s:=⟨_,rfl⟩
 refine eqF 25 (.d (dN v)) rfl (by rw[hv]) ?_
 refine eqF 28 (.d (dN R0)) rfl (by rw[hR0]) ?_
 obtain⟨L,hL⟩: ∃L,L=(dg v).length:=⟨_,rfl⟩
 have hlv:((dg v).map dU).length=L:=by rw[aaE,hL]
 have hps:2^s≤2^32:=bW (by decide) hs32
 have hpp:0<2^s:=dR (by decide)
 have hst:=aqL (a:=a) (b:=b) (s:=s) hl h2
 rw[←hv,←hR0] at hst
 have hvb:v<2^(ib+32):=by rw[hv,fV];exact mQ hb.h hps (by decide)
 have hRb:R0<2^(ia+32):=by rw[hR0,fV];exact mQ ha.h hps (by decide)
 have hbp:0<b:=jQ (fun q=>by subst q;rw[ahA] at h2;simp at h2)
 have hvp:0<v:=hv▸iT hbp hpp
 have hLp:1≤L:=by rw[hL];exact amW (k:=0) (by rw[qY];exact hvp)
 have htop:=ayr hL hLp
 haveI hvB:BN v (ib+32):=⟨hvb⟩
 have hLb:=aa8 hvb
 have hLb':L≤20000000:=by omega
 have htl:=adp v (L-1)
 refine gx (fu:=⟨9⟩) rfl<|?_
 refine eqF 31 (.d (vI (L:Nat))) rfl (by rw[hlv];rfl) ?_
 refine gx rfl<|ix (fu:=⟨2⟩) _ rfl (aaC (k:=L-1) (by omega) (by omega)) rfl<|?_
 refine eqF 35 (.d (.v (.int .u64 (v/4294967296^(L-1):Nat)))) rfl (by rw[htop.1]) ?_
 rw[htop.1] at htl
 refine gx (fu:=⟨11⟩) rfl<|?_
 obtain⟨m,hm⟩: ∃m,m=(dg a).length-(dg b).length+1:=⟨_,rfl⟩
 rw[←hm] at hst
 have hrl:(List.replicate ((m:Nat):Int).toNat (DV.v (.int .u32 0))).length=m:=by rw[aY,bX]
 refine eqF 41 (.d (vI (m:Nat))) rfl (by show FX.d (.v (.int _ _))= .d (.v (.int _ _));congr 3;omega) ?_
 refine gx rfl<|mk ((List.replicate m 0).map dU) J J (by rw[←aeP];rfl) rfl<|?_
 refine lp (X:=List Nat×Nat×Nat) (fun⟨W,R,k⟩=>[(6, .d (vI (s:Nat))),(7, .d (dN v)),(8, .d (dN R)),(9, .d (.v (.int .u64 (v/4294967296^(L-1):Nat)))),(10, .rw 42),(11, .d (vI ((k:Nat)-1)))]) (fun⟨W,R,k⟩=>[(42,some (.b 262 1 (W.map dU) true))]) (fun⟨W,R,k⟩=>W.length=m∧DOk W∧k≤m∧R0=R+dv (W.drop k)*4294967296^k*v∧R<v*4294967296^k∧R≤R0) (fun⟨W,R,k⟩=>k) ⟨List.replicate m 0,R0,m⟩ rfl ⟨by simp, .replicate _,bQ _,by simp[dv],hst,bQ _⟩ (fun _=>rfl) (fun⟨W,R,k⟩ hk=>?_)
 dsimp only at hk⊢
 obtain⟨h1,h2',h3,h4,h5,h6⟩:=hk
 have hlw:=aaE W
 refine br (fu1:=⟨10⟩) J J J (fun hc47=>?_) (fun hc47=>?_)
 ·
  obtain⟨j,rfl⟩: ∃j,k=j+1:=⟨k-1,by omega⟩
  have hvj:0<v*4294967296^j:=iT hvp (dR (by decide))
  have hge:=awb hL hLp h5
  have hlen:=awa hL h5
  have hlr:((dg R).map dU).length=(dg R).length:=aaE _
  haveI hRB:BN R (ia+32):=⟨by omega⟩
  have hq32:R/(v*4294967296^j)<4294967296:=by omega
  have hz1:=Int.natCast_nonneg (R/4294967296^(L+j-1))
  have hz2:=Int.natCast_nonneg (R/4294967296^(L+j-1)/(v/4294967296^(L-1)))
  refine eqF 11 (.d (vI (j:Nat))) rfl (by show FX.d (.v (.int _ _))= .d (.v (.int _ _));congr 3;omega) ?_
  refine mg (fu:=⟨6⟩) (hv:=fun _ _=>by simp only[aag];exact⟨(by omega),(by have:=ayF hlen hLp;omega),(by omega)⟩) (X:=Unit) (fun _=>[(6, .d (vI (s:Nat))),(7, .d (dN v)),(8, .d (dN R)),(9, .d (.v (.int .u64 (v/4294967296^(L-1):Nat)))),(10, .rw 42),(11, .d (vI (j:Nat))),(12, .d (.v (.int .u64 (R/4294967296^(L+j-1):Nat))))]) (fun _=>[(42,some (.b 262 1 (W.map dU) true))]) (fun _=>True) [6,7,8,9,10,11,12] [42] rfl ?_ (fun _=>rfl) (fun _ hm=>?_)
  ·
   refine gx (fu:=⟨4⟩) rfl<|?_
   refine eqF 51 (.d (vI (L:Nat))) rfl (by rw[hlv];rfl) ?_
   refine gx (fu:=⟨2⟩) rfl<|?_
   refine eqF 53 (.d (vI (L+j:Nat))) rfl (by show FX.d (.v (.int _ _))= .d (.v (.int _ _));congr 3) ?_
   refine gx (fu:=⟨8⟩) rfl<|?_
   refine eqF 56 (.d (vI ((dg R).length:Nat))) rfl (by rw[hlr];rfl) ?_
   refine gx rfl<|?_
   refine br (fu2:=⟨6⟩) J J J (fun hc57=>?_) (fun hc57=>?_)
   ·
    have hd0:=adp R (L+j-1)
    have hd1:=adp R (L+j)
    refine ix (hv:=by simp only[aag];exact⟨⟨by omega,(by decide)⟩,by omega⟩) _ rfl (aaC (k:=L+j) (by omega) (by omega)) rfl<|ix (fu:=⟨3⟩) _ rfl (aaC (k:=L+j-1) (by omega) (by omega)) rfl<|?_
    refine eqF 70 (.d (.v (.int .u64 ((dg R).getD (L+j-1) 0+(dg R).getD (L+j) 0*4294967296:Nat)))) rfl (congrArg (fun z:Nat=>FX.d (.v (.int .u64 (z:Int)))) (by rw[aee _ 32 (by decide) (by show _*4294967296<_;omega) rfl,BitVec.or_comm];exact aqP 64 ((dg R).getD (L+j-1) 0) ((dg R).getD (L+j) 0) 32 hd0 (by show _+_*4294967296<18446744073709551616;omega))) ?_
    refine gx rfl<|?_
    refine eqF 12 (.d (.v (.int .u64 (R/4294967296^(L+j-1):Nat)))) rfl (by rw[aoe (by omega) hlen]) ?_
    exact at_ () trivial
   ·
    refine eqF 74 (.d (vI ((dg R).length:Nat))) rfl (by rw[hlr];rfl) ?_
    refine gx rfl<|?_
    refine br J J J (fun hc75=>?_) (fun hc75=>?_)
    ·
     have hd0:=adp R (L+j-1)
     refine ix _ rfl (aaC (k:=L+j-1) (by omega) (by omega)) rfl<|?_
     refine eqF 12 (.d (.v (.int .u64 (R/4294967296^(L+j-1):Nat)))) rfl (by rw[aoe (by omega) hlen,ad3 (by omega:(dg R).length≤L+j),kV,dY]) ?_
     exact at_ () trivial
    ·
     refine eqF 12 (.d (.v (.int .u64 (R/4294967296^(L+j-1):Nat)))) rfl (by rw[aoe (by omega) hlen,ad3 (by omega:(dg R).length≤L+j),ad3 (by omega:(dg R).length≤L+j-1)];rfl) ?_
     exact at_ () trivial
  ·
   obtain⟨g0,hg0'⟩: ∃g0,g0=min (R/4294967296^(L+j-1)/(v/4294967296^(L-1))) 4294967295:=⟨_,rfl⟩
   rw[←hg0'] at hge
   have hg0:=hge
   have hg1:g0≤4294967295:=by omega
   refine eqF 85 (.d (.v (.int .u64 (g0:Nat)))) rfl (by show FX.d (.v (.int _ _))= .d (.v (.int _ _));congr 3;rw[←oN];split<;>omega) ?_
   refine gx rfl<|cl rfl (ahM (u:=g0) (by omega)) rfl<|cl (fu:=⟨2⟩) rfl (acn (ia:=ib+32) (ib:=32) (hb:=⟨by show _<4294967296;omega⟩) (by omega) (by decide)) rfl<|?_
   refine eqF 91 (.d (vI (32*j:Nat))) rfl (by show FX.d (.v (.int _ _))= .d (.v (.int _ _));congr 3) ?_
   refine gx rfl<|cl (fu:=⟨0⟩) rfl (apb (k:=32*j) (ia:=ib+64) (ha:=⟨by rw[show ib+64=ib+32+32 by omega,fV];exact nJ hvb (by show _<4294967296;omega)⟩) (by omega) (by omega)) rfl<|?_
   refine eqF 92 (.d (dN (v*4294967296^j*g0))) rfl (by rw[ayd,qQ]) ?_
   refine gx rfl<|?_
   refine lp (X:=Nat) (fun g=>[(6, .d (vI (s:Nat))),(7, .d (dN v)),(8, .d (dN R)),(9, .d (.v (.int .u64 (v/4294967296^(L-1):Nat)))),(10, .rw 42),(11, .d (vI (j:Nat))),(14, .d (.v (.int .u64 (g:Nat)))),(15, .d (dN (v*4294967296^j*g)))]) (fun g=>[(42,some (.b 262 1 (W.map dU) true))]) (fun g=>R/(v*4294967296^j)≤g∧g≤4294967295) (fun g=>g) g0 rfl ⟨hg0,by omega⟩ (fun _=>rfl) (fun g hk=>?_)
   obtain⟨g1,g2⟩:=hk
   have hlw:=aaE W
   refine cl rfl (arY (a:=v*4294967296^j*g) (b:=R) (by have:=agD (a:=v*4294967296^j*g) (k:=L+j+1) (by have h1:=adg v;rw[←hL] at h1;rw[eX,fV];exact nJ (kJ h1 (dR (by decide))) (by omega));omega) (by have:=agD hlen;omega)) rfl<|?_
   refine br (fu1:=⟨7⟩) (v1:=fun hc96=>by simp only[aag];exact(by have h:=afE hvj (ahg.1 hc96);have h1:1≤g:=fY (bZ _) h;omega)) (fu2:=⟨11⟩) J J J (fun hc96=>?_) (fun hc96=>?_)
   ·
    have hgd:=afE hvj (ahg.1 hc96)
    have hg1p:1≤g:=fY (bZ _) hgd
    refine eqF 98 (.d (.v (.int .u64 ((g-1:Nat):Int)))) rfl (by show FX.d (.v (.int _ _))= .d (.v (.int _ _));congr 3;omega) ?_
    refine gx rfl<|cl rfl (ahM (u:=g-1) (by omega)) rfl<|cl (fu:=⟨2⟩) rfl (acn (ia:=ib+32) (ib:=32) (hb:=⟨by show _<4294967296;omega⟩) (by omega) (by decide)) rfl<|?_
    refine eqF 104 (.d (vI (32*j:Nat))) rfl (by show FX.d (.v (.int _ _))= .d (.v (.int _ _));congr 3) ?_
    refine gx rfl<|cl (fu:=⟨0⟩) rfl (apb (k:=32*j) (ia:=ib+64) (ha:=⟨by rw[show ib+64=ib+32+32 by omega,fV];exact nJ hvb (by show _<4294967296;omega)⟩) (by omega) (by omega)) rfl<|?_
    refine eqF 105 (.d (dN (v*4294967296^j*(g-1)))) rfl (by rw[ayd,qQ]) ?_
    refine gx rfl<|?_
    exact at_ (g-1) ⟨⟨by have h:=afE hvj (ahg.1 hc96);omega,by omega⟩,(by have:=afE hvj (ahg.1 hc96);omega)⟩
   ·
    have hgq:=au6 hvj g1 (rX fun q=>hc96 (ahg.2 q))
    refine eqF 109 (.d (dU g)) rfl (by show FX.d (.v (.int _ _))= .d (.v (.int _ _));congr 3;omega) ?_
    refine gx rfl<|sb _ ((W.set j (R/(v*4294967296^j))).map dU) rfl (aaC (k:=j) (by omega) (by omega)) rfl (by(rw[←hgq,bX,←aea])<;>rfl) rfl<|?_
    refine cl (fu:=⟨0⟩) rfl (asz (a:=R) (b:=v*4294967296^j*g) (ia:=ia+32) (by rw[hgq];exact Nat.mul_div_le _ _) (by omega)) rfl<|?_
    refine eqF 113 (.d (dN (R-v*4294967296^j*(R/(v*4294967296^j))))) rfl (by rw[hgq]) ?_
    refine gx rfl<|?_
    exact at_ ⟨W.set j (R/(v*4294967296^j)),R-v*4294967296^j*(R/(v*4294967296^j)),j⟩ (by dsimp only;exact⟨⟨by simpa using h1,h2'.set _ (by omega),by omega,(apG (by omega) h4 hvj rfl).1,(apG (by omega) h4 hvj rfl).2,by omega⟩,(by omega)⟩)
 ·
  obtain rfl:k=0:=by omega
  rw[qY,gT] at h5
  rw[qY,gT,iX,hR0,hv] at h4
  rw[hv] at h5
  have hend:=aw2 h5 h4
  haveI hRB:BN R (ia+32):=⟨by omega⟩
  refine fz 42 J J<|cl rfl (af3 (ds:=W) (by omega)) rfl<|cl rfl (aze (a:=R) (k:=s) (ia:=ia+32) (by omega) (by omega)) rfl<|?_
  exact rz rfl (by show DV.tp [dLi _,dN _]= .tp [dN _,dN _];rw[ae0 h2' hend.1,hend.2])
theorem an1{a b:Nat}(h:b≤a):(dg b).length≤(dg a).length:=agD (fY h (adg a))
theorem afL{a b ia ib:Nat}[ha:BN a ia][hb:BN b ib](hb0:0<b)(hi:ia≤500000000:=by decide)(hj:ib≤500000000:=by decide):PF GB prog 195 [dN a,dN b] (.tp [dN (a/b),dN (a%b)]):=by
 have hla:=aaE (dg a)
 have hlb:=aaE (dg b)
 have hba:=aa8 ha.h
 have hbb:=aa8 hb.h
 have hba':(dg a).length≤20000000:=by omega
 have hbb':(dg b).length≤20000000:=by omega
 have hlb1:1≤(dg b).length:=amW (k:=0) (by rw[qY];exact hb0)
 refine fn (fu:=⟨7⟩) func195 J J ntmps195 J J (fun C=>?_)
 refine mg (X:=Unit) (fun _=>[(0, .d (dN a)),(1, .d (dN b))]) (fun _=>[]) (fun _=>True) [0,1] [] rfl ?_ (fun _=>rfl) (fun _ hm=>?_)
 ·
  refine gx rfl<|cl rfl (ao1 (a:=a) (ia:=ia) (by omega)) rfl<|?_
  refine bd (fu1:=⟨0⟩) J J J (fun hc18=>?_) (fun hc18=>?_)
  ·
   refine eqF 6 (.d (.v (.int .u64 (a:Nat)))) rfl (by rw[if_pos hc18]) ?_
   refine gx rfl<|cl rfl (ao1 (a:=b) (ia:=ib) (by omega)) rfl<|?_
   refine bd (fu1:=⟨0⟩) J J J (fun hc24=>?_) (fun hc24=>?_)
   ·
    refine eqF 8 (.d (.v (.int .u64 (b:Nat)))) rfl (by rw[if_pos hc24]) ?_
    have hdl:=jM a b
    have hml:=Nat.mod_le a b
    refine gx (hv:=by simp only[aag];exact⟨(by omega),(by omega),(by omega)⟩) rfl<|cl (hv:=by simp only[aag];exact⟨(by omega),(by omega)⟩) rfl (ahM (u:=a/b) (by omega)) rfl<|cl rfl (ahM (u:=a%b) (by omega)) rfl<|?_
    exact rz J J
   ·
    exact at_ () trivial
  ·
   exact at_ () trivial
 ·
  refine cl rfl (arY (by omega) (by omega)) rfl<|?_
  refine br J J J (fun hc36=>?_) (fun hc36=>?_)
  ·
   have hab:=afT.1 hc36
   refine ro0 J J<|ap _ J J (anv _) rfl<|?_
   refine fzE 39 rfl ?_
   exact rz rfl (by show DV.tp [_, .sl ([]++_)]= .tp [_,_];rw[iM hab,fZ hab,adq];rfl)
  ·
   have hab:b≤a:=rX fun q=>hc36 (afT.2 q)
   have hlab:(dg b).length≤(dg a).length:=an1 hab
   refine br (fu1:=⟨4⟩) J J J (fun hc42=>?_) (fun hc42=>?_)
   ·
    have hb1:b<4294967296:=by have:=adg b;rw[show(dg b).length=1 by omega] at this;omega
    have hbd:(dg b).getD 0 0=b:=acD (by omega)
    refine eqF 44 (.d (vI ((dg a).length:Nat))) rfl (by rw[hla];rfl) ?_
    refine gx rfl<|mk (fu:=⟨13⟩) ((List.replicate (dg a).length 0).map dU) J J (by rw[←aeP];rfl) rfl<|?_
    refine eqF 47 (.d (vI ((dg a).length:Nat))) rfl (by rw[hla];rfl) ?_
    refine gx rfl<|?_
    refine lp (X:=List Nat×Nat) (fun⟨W,k⟩=>[(0, .d (dN a)),(1, .d (dN b)),(10, .rw 45),(11, .d (dU (dv ((dg a).drop k)%b))),(12, .d (vI ((k:Nat)-1)))]) (fun⟨W,k⟩=>[(45,some (.b 262 1 (W.map dU) true))]) (fun⟨W,k⟩=>W.length=(dg a).length∧DOk W∧k≤(dg a).length∧dv (W.drop k)=dv ((dg a).drop k)/b) (fun⟨W,k⟩=>k) ⟨List.replicate (dg a).length 0,(dg a).length⟩ rfl ⟨by simp, .replicate _,bQ _,by simp[dv]⟩ (fun _=>rfl) (fun⟨W,k⟩ hk=>?_) (hF:=(by refine⟨rfl,rfl,rfl,leI rfl (by simp[dv,dU]),leI rfl (by simp[vI]),?_⟩;repeat (first|exact trivial|refine And.intro rfl ?_)))
    try dsimp only at hk⊢
    obtain⟨h1,h2,h3,h4⟩:=hk
    have hlw:=aaE W
    refine br (fu1:=⟨0⟩) J J J (fun hc50=>?_) (fun hc50=>?_)
    ·
     obtain⟨k,rfl⟩: ∃j,k=j+1:=⟨k-1,by omega⟩
     have hsi:=ask hb0 (by omega) h1 h4
     have hrm:=dZ (dv ((dg a).drop (k+1))) hb0
     have hdk:=adp a k
     have hqd:(dv ((dg a).drop (k+1))%b*4294967296+(dg a).getD k 0)/b<4294967296:=by rw[jT hb0];have:=eM 4294967296 (show dv ((dg a).drop (k+1))%b+1≤b from hrm);omega
     refine eqF 12 (.d (vI (k:Nat))) rfl (by show FX.d (.v (.int _ _))= .d (.v (.int _ _));congr 3;omega) ?_
     refine gx rfl<|ix _ rfl (aaC (k:=k) (by omega) (by omega)) rfl<|ix _ rfl (aaC (k:=0) rfl (by omega)) rfl<|cl rfl (aAD (h:=dv ((dg a).drop (k+1))%b) (l:=(dg a).getD k 0) (y:=(dg b).getD 0 0) (by omega) hdk (by omega)) rfl<|?_
     refine sb (hv:=by simp only[aag];exact⟨by kernel_rfl,by omega⟩) _ ((W.set k ((dv ((dg a).drop (k+1))%b*4294967296+(dg a).getD k 0)/b)).map dU) rfl (aaC (k:=k) (by omega) (by omega)) rfl (by(rw[hbd,bX,←aea])<;>rfl) rfl<|?_
     exact at_ ⟨W.set k ((dv ((dg a).drop (k+1))%b*4294967296+(dg a).getD k 0)/b),k⟩ (by dsimp only;exact⟨⟨by simpa using h1,h2.set _ hqd,by omega,hsi.1⟩,(by omega)⟩) (by refine⟨rfl,rfl,rfl,leI rfl (by rw[hsi.2,hbd]),leI rfl (by first|(simp[vI];done)|(simp[vI];omega)),?_⟩;repeat (first|exact trivial|refine And.intro rfl ?_))
    ·
     refine fz 45 J J<|cl rfl (af3 (ds:=W) (by omega)) rfl<|rf J J<|cl rfl (af3 (ds:=[dv ((dg a).drop k)%b]) (by simp)) rfl<|?_
     exact rz rfl (by show DV.tp [dLi _,dLi _]= .tp [_,_];obtain rfl:k=0:=(by omega);rw[iX,iX,aaX] at h4;rw[iX,aaX];rw[ae0 h2 h4,ae0 (.cons (by have:=dZ a hb0;omega) .nil) (n:=a%b) (by simp[dv])])
   ·
    refine cl rfl (aC3 (by omega) (by omega) hlb1 hlab) rfl<|?_
    exact rz J J
theorem aqb(x y:Nat):Nat.gcd y (x%y)=Nat.gcd x y:=by rw[iK x y,sJ y x,iK]
theorem alE{a b ia ib:Nat}[ha:BN a ia][hb:BN b ib](hi:ia≤240000000:=by decide)(hj:ib≤240000000:=by decide):PF GB prog 194 [dN a,dN b] (dN (Nat.gcd a b)):=by
 refine fn (fu:=⟨6⟩) func194 J J ntmps194 J J (fun C=>?_)
 refine mg (X:=Unit) (fun _=>[(0, .d (dN a)),(1, .d (dN b))]) (fun _=>[]) (fun _=>True) [0,1] [] rfl ?_ (fun _=>rfl) (fun _ hm=>?_)
 ·
  refine gx rfl<|cl rfl (ao1 (a:=a) (ia:=ia) (by omega)) rfl<|?_
  refine bd (fu1:=⟨0⟩) J J J (fun hc16=>?_) (fun hc16=>?_)
  ·
   refine eqF 5 (.d (.v (.int .u64 (a:Nat)))) rfl (by rw[if_pos hc16]) ?_
   refine gx rfl<|cl rfl (ao1 (a:=b) (ia:=ib) (by omega)) rfl<|?_
   refine bd (fu1:=⟨0⟩) J J J (fun hc22=>?_) (fun hc22=>?_)
   ·
    refine eqF 7 (.d (.v (.int .u64 (b:Nat)))) rfl (by rw[if_pos hc22]) ?_
    refine gx rfl<|?_
    refine lp (X:=Nat×Nat) (fun⟨x,y⟩=>[(5, .d (.v (.int .u64 (x:Nat)))),(7, .d (.v (.int .u64 (y:Nat))))]) (fun⟨x,y⟩=>[]) (fun⟨x,y⟩=>x<18446744073709551616∧y<18446744073709551616∧Nat.gcd x y=Nat.gcd a b) (fun⟨x,y⟩=>y) ⟨a,b⟩ rfl ⟨hc16,hc22,rfl⟩ (fun _=>rfl) (fun⟨x,y⟩ hk=>?_)
    try dsimp only at hk⊢
    obtain⟨h1,h2,h3⟩:=hk
    refine br (v1:=fun hc24=>by simp only[aag];exact⟨⟨(by omega),(by omega)⟩,by kernel_rfl⟩) J J J (fun hc24=>?_) (fun hc24=>?_)
    ·
     exact at_ ⟨y,x%y⟩ (by dsimp only;exact⟨⟨h2,by have:=dZ x (show 0<y by omega);omega,by rw[aqb,h3]⟩,(by exact dZ _ (by omega))⟩)
    ·
     refine cl rfl (ahM (u:=x) h1) rfl<|?_
     exact rz rfl (by show dN x=_;rw[←h3,show y=0 by omega,lN])
   ·
    exact at_ () trivial
  ·
   exact at_ () trivial
 ·
  refine lp (fu:=⟨5⟩) (X:=Nat×Nat) (fun⟨x,y⟩=>[(0, .d (dN x)),(1, .d (dN y))]) (fun⟨x,y⟩=>[]) (fun⟨x,y⟩=>x<2^(ia+ib)∧y<2^(ia+ib)∧Nat.gcd x y=Nat.gcd a b) (fun⟨x,y⟩=>y) ⟨a,b⟩ rfl ⟨(ha.mono (by omega)).h,(hb.mono (by omega)).h,rfl⟩ (fun _=>rfl) (fun⟨x,y⟩ hk=>?_)
  try dsimp only at hk⊢
  obtain⟨h1,h2,h3⟩:=hk
  have hly:=aaE (dg y)
  haveI hx':BN x (ia+ib):=⟨h1⟩
  haveI hy':BN y (ia+ib):=⟨h2⟩
  refine eqF 32 (.d (vI ((dg y).length:Nat))) rfl (by rw[hly];rfl) ?_
  refine gx rfl<|?_
  refine br J J J (fun hc33=>?_) (fun hc33=>?_)
  ·
   have hy0:0<y:=jQ fun q=>by subst q;rw[ahA] at hc33;simp at hc33
   refine cl rfl (afL (a:=x) (b:=y) (ia:=ia+ib) (ib:=ia+ib) hy0 (by omega) (by omega)) rfl<|?_
   exact at_ ⟨y,x%y⟩ (by dsimp only;exact⟨⟨h2,by have:=dZ x hy0;omega,by rw[aqb,h3]⟩,(by exact dZ _ hy0)⟩)
  ·
   have hy0:y=0:=acB.1 (by omega)
   have hlx:=aa8 h1
   have hmx:=aaE (dg x)
   refine ro0 J J<|ap _ J J (anv _) rfl<|?_
   refine fzE 44 rfl ?_
   exact rz rfl (by show DV.sl ([]++_)=_;rw[←h3,hy0,lN];rfl)
theorem aBk(neg:Bool)(m:Nat):eI (zv neg m)= .ag [.v (.bool (neg&&decide (0<m))),dN m]:=by unfold eI;rw[af5,am5]
theorem aDe(z:Int):zv (!decide (z<0)) z.natAbs= -z:=by
 unfold zv
 by_cases h:z<0<;>simp[h]<;>omega
theorem aAg(a b:Int):zv (!(decide (a<0)==decide (b<0))) (a.natAbs*b.natAbs)=a*b:=by
 have h:=ax1 (decide (a<0)) (decide (b<0)) a.natAbs b.natAbs
 rw[adt,adt] at h
 exact h
theorem acT{neg:Bool}{m:Nat}:PF GB prog 157 [.v (.bool neg),dN m] (eI (zv neg m)):=by
 have hl:=aaE (dg m)
 have hz:= @acB m
 refine fn func157 J J ntmps157 J J (fun C=>?_)
 refine csb 6 J J J (fun hg6=>?_) (fun hg6=>?_)
 ·
  exact rz rfl (by rw[aBk,hg6];show DV.ag [.v (.bool _),_]= .ag [.v (.bool _),_];congr 4;rw[Bool.true_and];exact decide_eq_decide.2 (by omega))
 ·
  exact rz rfl (by rw[aBk,hg6];rfl)
structure IvV where
 lo:RV
 hi:RV
 nl:Bool
 nh:Bool
def IvV.v(z:IvV):Value:= .agg ⟨[.int .i64 z.lo.n, .int .i64 z.lo.d, .pointer z.lo.p, .int .i64 z.hi.n, .int .i64 z.hi.d, .pointer z.hi.p, .bool z.nl, .bool z.nh]⟩
section
variable {P:Program} {C:Ctx} {n:Nat} {fr:Fr} {own own' own1:List Own} {G:Gh} {Φ:Act→World→Prop}
variable {dst:Option Nat} {t t' ty':TypeId} {pos:String} {af:Array Edge} {gd:Option (Nat×Bool)} {x y:Operand} {e s by_:Nat}
end
structure aGu (k:Nat) (G:Gh) (z:IvV) (v:IvQ):Prop where
 lo:IsR k G z.lo v.lo
 hi:IsR k G z.hi v.hi
 nl:z.nl=v.nl
 nh:z.nh=v.nh
def orQ:List Int→Int
 |[]=>0
 |x::t=>if x≠0 then x else orQ t
def aGH(l m:LnQ):Int:=orQ [aa2 l.a m.a,aa2 l.b m.b,aa2 l.c m.c]
structure FrV where
 l:LV
 v:IvV
def FrV.val(z:FrV):Value:= .agg ⟨[.int .i64 z.l.a.n, .int .i64 z.l.a.d, .pointer z.l.a.p, .int .i64 z.l.b.n, .int .i64 z.l.b.d, .pointer z.l.b.p, .int .i64 z.l.c.n, .int .i64 z.l.c.d, .pointer z.l.c.p, .int .i64 z.v.lo.n, .int .i64 z.v.lo.d, .pointer z.v.lo.p, .int .i64 z.v.hi.n, .int .i64 z.v.hi.d, .pointer z.v.hi.p, .bool z.v.nl, .bool z.v.nh]⟩
structure aFT (k:Nat) (G:Gh) (z:FrV) (f:FrQ):Prop where
 l:IsL k G z.l f.l
 v:aGu (25*k+6) G z.v f.v
inductive anV {α β:Type} (R:α→β→Prop):List α→List β→Prop
 |nil:anV R [] []
 |cons {a b us bs} (h:R a b) (t:anV R us bs):anV R (a::us) (b::bs)
theorem anV.len{α β:Type}{R:α→β→Prop}{us:List α}{bs:List β}(h:anV R us bs):us.length=bs.length:=by
 induction h with
 |nil=>rfl
 |cons _ _ ih=>simp[ih]
theorem anV.app{α β:Type}{R:α→β→Prop}{us us':List α}{bs bs':List β}(h:anV R us bs)(k:anV R us' bs'):anV R (us++us') (bs++bs'):=by
 induction h with
 |nil=>exact k
 |cons h _ ih=>exact .cons h ih
structure IsC (k:Nat) (G:Gh) (x:SV) (c:aan):Prop where
 ex: ∃fs:List FrV,afw G 17 x (fs.map FrV.val)∧anV (aFT k G) fs c

section
variable {P:Program} {C:Ctx} {n:Nat} {fr:Fr} {own own':List Own} {G:Gh} {Φ:Act→World→Prop}
variable {dst:Option Nat} {t t' ty':TypeId} {pos:String} {af:Array Edge} {gd:Option (Nat×Bool)} {x y:Operand} {e s by_:Nat}
theorem awM{o1 o2:Own}{rest:List Own}(h:o1.b≠o2.b→St C n fr (o1::o2::rest) G Φ):St C n fr (o1::o2::rest) G Φ:=
 fun a w rl=>h ((bR.1 rl.h.nd).1 _ aQ) a w rl
theorem ad9[hT:acH P t e s by_]{k:IntKind}{b off len cap:Nat}{l:Int}(hx:opv fr x=some (.slice (some ⟨b,off,none⟩) len cap))(hy:opv fr y=some (.int k l))(h0:0≤l)(h1:l≤len)(h2:l<cap):
  Yd P C fr own G ⟨dst, .slice t x (some y) none none,ty',pos,af,gd⟩ (.slice (some ⟨b,off+l.toNat*s,none⟩) (len-l.toNat) (cap-l.toNat)):=by
 have h:=aeJ (P:=P) (C:=C) (own:=own) (G:=G) (t:=t) (dst:=dst) (ty':=ty') (pos:=pos) (af:=af) (gd:=gd) (by_:=by_) hx hy h0 h1
 unfold aoB at h
 rw[if_neg (by omega)] at h
 simpa[acu] using h
end

section
variable {P:Program} {C:Ctx} {n:Nat} {fr:Fr} {own own':List Own} {G:Gh} {Φ:Act→World→Prop}
variable {dst:Option Nat} {t t' ty':TypeId} {pos:String} {af:Array Edge} {gd:Option (Nat×Bool)} {x y:Operand} {e s by_:Nat}
end

def IsT(k:Nat)(G:Gh):Tr→Option Addr→Prop
 | .leaf b,p=> ∃n,p=some ⟨n,0,none⟩∧G n=some [.int .i64 0, .int .i64 0, .pointer none, .int .i64 0, .int .i64 0, .pointer none, .int .i64 0, .int .i64 0, .pointer none, .pointer none, .pointer none, .bool b]
 | .node l x y,p=> ∃(n:Nat) (z:LV) (q r:Option Addr),p=some ⟨n,0,none⟩∧G n=some [.int .i64 z.a.n, .int .i64 z.a.d, .pointer z.a.p, .int .i64 z.b.n, .int .i64 z.b.d, .pointer z.b.p, .int .i64 z.c.n, .int .i64 z.c.d, .pointer z.c.p, .pointer q, .pointer r, .bool false]∧IsL k G z l∧IsT k G x q∧IsT k G y r
structure ND where
 a:IV
 b:IV
 c:IV
 l:Int
 r:Int
def ND.val(z:ND):Value:= .agg ⟨[.bool z.a.neg, .slice z.a.a.a z.a.a.n z.a.a.c, .bool z.b.neg, .slice z.b.a.a z.b.a.n z.b.a.c, .bool z.c.neg, .slice z.c.a.a z.c.a.n z.c.a.c, .int .i64 z.l, .int .i64 z.r]⟩
structure aF0 (k:Nat) (G:Gh) (z:ND) (n:NQ):Prop where
 a:IsI k G z.a n.l.a
 b:IsI k G z.b n.l.b
 c:IsI k G z.c n.l.c
 l:z.l=n.a
 r:z.r=n.b
structure aGY (k:Nat) (G:Gh) (x:SV) (ns:List NQ):Prop where
 ex: ∃zs:List ND,afw G 8 x (zs.map ND.val)∧anV (aF0 k G) zs ns
def aF4(n i:Nat):List Value:=(List.range n).map fun j=> .bool (decide (j<i))

def aFJ(ob wb:Nat):Value:= .func (.func 140) #[] #[.pointer (some ⟨ob,0,none⟩), .pointer (some ⟨wb,0,none⟩)]
structure PtV where
 x:SV
 p:Option Addr
def PtV.val(z:PtV):Value:= .agg ⟨[.slice z.x.a z.x.n z.x.c, .pointer z.p]⟩
structure aGw (k:Nat) (G:Gh) (z:PtV) (b:Bool×aan):Prop where
 c:IsC k G z.x b.2
 t:IsT k G (.leaf b.1) z.p
structure aGO (k:Nat) (G:Gh) (w:SV) (ps:List (Bool×aan)):Prop where
 ex: ∃zs:List PtV,afw G 2 w (zs.map PtV.val)∧anV (aGw k G) zs ps
structure LI where
 a:IV
 b:IV
 c:IV
def LI.val(z:LI):Value:= .agg ⟨[.bool z.a.neg, .slice z.a.a.a z.a.a.n z.a.a.c, .bool z.b.neg, .slice z.b.a.a z.b.a.n z.b.a.c, .bool z.c.neg, .slice z.c.a.a z.c.a.n z.c.a.c]⟩
structure aF2 (k:Nat) (G:Gh) (z:LI) (l:LnQ):Prop where
 a:IsI k G z.a l.a
 b:IsI k G z.b l.b
 c:IsI k G z.c l.c
structure aGo (k:Nat) (G:Gh) (x:SV) (ls:List LnQ):Prop where
 ex: ∃zs:List LI,afw G 6 x (zs.map LI.val)∧anV (aF2 k G) zs ls
structure aGe (k:Nat) (G:Gh) (x:SV) (ls:List LnQ):Prop where
 ex: ∃zs:List LV,afw G 9 x (zs.map LV.v)∧anV (IsL k G) zs ls
theorem aoV{a b:Int}(h:a=b):eI a=eI b:=by rw[h]
theorem apm(z:Int):eQ (z:Rat)= .ag [.v (.bool (decide (z<0))),dN z.natAbs, .sl []]:=by unfold eQ;rw[pL,pM];rfl
theorem afK{a:Rat}(h:a.den=1):((a.num:Int):Rat)=a:=Rat.ext (pL _) (by rw[pM,h])
theorem aw5{a b:Rat}(ha:a.den=1)(hb:b.den=1):a+b=((a.num+b.num:Int):Rat):=by
 rw[pS,afK ha,afK hb]
theorem atF{a b:Rat}(ha:a.den=1)(hb:b.den=1):a*b=((a.num*b.num:Int):Rat):=by
 rw[eK,afK ha,afK hb]
theorem akp(n:Nat)(h:0<n):(if n=1 then [] else(dg n).map dU).length=0↔n=1:=by
 by_cases q:n=1
 ·simp[q]
 ·rw[if_neg q,aJ,acB];omega
theorem aCz{n:Nat}(h:n≠1):dD n=dN n:=by unfold dD;rw[if_neg h];rfl
theorem alG{g:Nat}:(ahD g 1=0)↔g=1:=by
 unfold ahD
 constructor
 ·intro h;split at h
  ·exact absurd h (by decide)
  ·split at h
   ·assumption
   ·exact absurd h (by decide)
 ·rintro rfl;rfl
theorem axX{x:Int}{d:Nat}(hd:0<d):zv (decide (x<0)) (x.natAbs/Nat.gcd x.natAbs d)=(mkRat x d).num:=by
 rw[Rat.num_mkRat,if_neg (by omega),iK]
 have hg:0<Nat.gcd d x.natAbs:=nW _ hd
 obtain⟨c,hc⟩:Nat.gcd d x.natAbs∣x.natAbs:=qT _ _
 generalize Nat.gcd d x.natAbs=g at*
 rw[hc,Nat.mul_div_cancel_left _ hg]
 unfold zv
 by_cases q:x<0
 ·rw[if_pos (by simpa using q),show x=(g:Int)*(-(c:Int)) by rw[Int.mul_neg,←iW];omega,Int.mul_ediv_cancel_left _ (by omega)]
 ·rw[if_neg (by simpa using q),show x=(g:Int)*(c:Int) by rw[←iW];omega,Int.mul_ediv_cancel_left _ (by omega)]
theorem ayo{x:Int}{d:Nat}(hd:0<d):d/Nat.gcd x.natAbs d=(mkRat x d).den:=by
 rw[Rat.den_mkRat,if_neg (by omega),iK]
theorem aC1{x:Int}{d:Nat}(hd:0<d)(h:Nat.gcd x.natAbs d=1):(mkRat x d).num=x∧(mkRat x d).den=d:=by
 rw[←axX hd,←ayo hd,h,sK,sK]
 exact⟨adt x,rfl⟩
instance BI.zv (neg:Bool) (m i:Nat) [h:BN m i]:BI (zv neg m) i:=⟨by rw[af5];exact h.h⟩
section
variable {GB:Gh} {C:Ctx} {n:Nat} {Q0:Exit→Act→World→Prop} {fr fr':FrX} {own own':OwX} {cf cf':Cf} {vc:List Prop}
def aFf(fr:FrX)(cf:Cf):Option Int:=match opC fr cf with
 |some ⟨_, .convert t t' x,_,_,_,_⟩=>match abk tt t,abk tt t' with
  |some ⟨.int .i64,_,_,_⟩,some ⟨.int .u64,_,_,_⟩=>match evX (lkC fr cf) x with
   |some (.d (.v (.int .i64 p)))=>some p
   |_=>none
  |_,_=>none
 |_=>none
theorem cvw[fu:Fu]{p:Int}(q:Int)(h:aFf fr cf=some p)(e:p%18446744073709551616=q)(hgo:goA tt n fu.n fr own cf (.d (.v (.int .u64 q))) [] []=⟨vc,fr',own',cf'⟩)(k:CfS prog GB C n Q0 fr' own' cf')
  (hv:aag vc:=by first|exact trivial|(simp only[aag];omega)):CfS prog GB C n Q0 fr own cf:=by
 unfold aFf at h
 split at h<;>try (cases h;done)
 rename_i hh
 split at h<;>try (cases h;done)
 rename_i hT hT'
 split at h<;>cases h
 rename_i hx
 have:=aki (abK _ _ hT) rfl
 have:=aki (abK _ _ hT') rfl
 refine us hh (.x1 hx fun ρ G ov a w y _ r h1 h2=>?_) hgo hv k
 rw[aax] at h2;subst h2
 refine⟨_,aax.2 rfl,?_⟩
 rw[←e,←ab1]
 exact ald h1
def aFz(fr:FrX)(cf:Cf):Option Int:=match opC fr cf with
 |some ⟨_, .unOp .neg _ x,_,_,_,_⟩=>match evX (lkC fr cf) x with
  |some (.d (.v (.int .u64 p)))=>some p
  |_=>none
 |_=>none
theorem ngw[fu:Fu]{p:Int}(q:Int)(h:aFz fr cf=some p)(e:(0-p)%18446744073709551616=q)(hgo:goA tt n fu.n fr own cf (.d (.v (.int .u64 q))) [] []=⟨vc,fr',own',cf'⟩)(k:CfS prog GB C n Q0 fr' own' cf')
  (hv:aag vc:=by first|exact trivial|(simp only[aag];omega)):CfS prog GB C n Q0 fr own cf:=by
 unfold aFz at h
 split at h<;>try (cases h;done)
 rename_i hh
 split at h<;>cases h
 rename_i hx
 refine us hh (.x1 hx fun ρ G ov a w y _ r h1 h2=>?_) hgo hv k
 rw[aax] at h2;subst h2
 refine⟨_,aax.2 rfl,?_⟩
 rw[←e,←ab1]
 exact as4 h1
end
theorem aEF{n:Int}(h0: -4611686018427387904≤n)(h1:n≤4611686018427387904):PF GB prog 174 [.v (.int .i64 n)] (eI n):=by
 refine fn func174 J J ntmps174 J J (fun C=>?_)
 refine br (fu1:=⟨3⟩) (fu2:=⟨6⟩) J J J (fun hc4=>?_) (fun hc4=>?_)
 ·
  refine cvw (fu:=⟨0⟩) (18446744073709551616+n) rfl (by omega) rfl<|ngw (n.natAbs:Nat) rfl (by omega) rfl<|cl rfl (ahM (u:=n.natAbs) (by omega)) rfl<|?_
  refine cl rfl acT rfl<|?_
  exact rz rfl (aoV (by unfold zv;rw[if_pos rfl];omega))
 ·
  refine eqF 11 (.d (.v (.int .u64 (n.natAbs:Nat)))) rfl (by show FX.d (.v (.int _ _))= .d (.v (.int _ _));congr 3;omega) ?_
  refine gx rfl<|cl rfl (ahM (u:=n.natAbs) (by omega)) rfl<|cl rfl acT rfl<|?_
  exact rz rfl (aoV (by unfold zv;rw[if_neg (by decide)];omega))
theorem akE{z:Int}:PF GB prog 80 [eI z] (vI z.sign):=by
 have hl:=aaE (dg z.natAbs)
 have hz:= @acB z.natAbs
 refine fn func80 J J ntmps80 J J (fun C=>?_)
 refine br J J J (fun hc6=>?_) (fun hc6=>?_)
 ·
  exact rz rfl (by show DV.v (.int _ 0)=DV.v (.int _ _);rw[show z=0 by omega];rfl)
 ·
  refine bd J J J (fun hc8=>?_) (fun hc8=>?_)
  ·
   exact rz rfl (by show DV.v (.int _ (-1))=DV.v (.int _ _);rw[dS (by omega)])
  ·
   exact rz rfl (by show DV.v (.int _ 1)=DV.v (.int _ _);rw[eJ (by omega)])
theorem ajg{z:Int}:PF GB prog 162 [eI z] (eI (-z)):=by
 refine fn func162 J J ntmps162 J J (fun C=>?_)
 refine cl rfl acT rfl<|?_
 exact rz rfl (aoV (aDe z))
theorem avz{a b:Int}(h:decide (a<0)=decide (b<0)):zv (decide (a<0)) (a.natAbs+b.natAbs)=a+b:=by
 unfold zv
 have h':a<0↔b<0:=by simpa using h
 by_cases q:a<0
 ·have:=h'.1 q
  simp[q];omega
 ·have: ¬b<0:=fun w=>q (h'.2 w)
  simp[q];omega
theorem aAv{a b:Int}(h: ¬decide (a<0)=decide (b<0))(k:a.natAbs<b.natAbs):zv (decide (b<0)) (b.natAbs-a.natAbs)=a+b:=by
 unfold zv
 have h': ¬(a<0↔b<0):=by simpa using h
 by_cases q:b<0
 ·have: ¬a<0:=fun w=>h' ⟨fun _=>q,fun _=>w⟩
  simp[q];omega
 ·have:a<0:=Int.not_le.1 fun w=>h' ⟨fun e=>by omega,fun e=>absurd e q⟩
  simp[q];omega
theorem az9{a b:Int}(h: ¬decide (a<0)=decide (b<0))(k:b.natAbs≤a.natAbs):zv (decide (a<0)) (a.natAbs-b.natAbs)=a+b:=by
 unfold zv
 have h': ¬(a<0↔b<0):=by simpa using h
 by_cases q:a<0
 ·have: ¬b<0:=fun w=>h' ⟨fun _=>w,fun _=>q⟩
  simp[q];omega
 ·have:b<0:=Int.not_le.1 fun w=>h' ⟨fun e=>absurd e q,fun e=>by omega⟩
  simp[q];omega
theorem avw{a b:Int}{i j:Nat}[ha:BI a i][hb:BI b j](hi:i≤400000000:=by decide)(hj:j≤400000000:=by decide):PF GB prog 164 [eI a,eI b] (eI (a+b)):=by
 have hba:=aa8 ha.h
 have hbb:=aa8 hb.h
 refine fn (fu:=⟨15⟩) func164 J J ntmps164 J J (fun C=>?_)
 refine eqF 9 (.d (.v (.bool (decide (decide (a<0)=decide (b<0)))))) rfl (by congr 2) ?_
 refine gx rfl<|?_
 refine bd J J J (fun hc9=>?_) (fun hc9=>?_)
 ·
  refine cl rfl (aEj (by omega) (by omega)) rfl<|cl rfl acT rfl<|?_
  exact rz rfl (aoV (avz hc9))
 ·
  refine cl rfl (arY (by omega) (by omega)) rfl<|?_
  refine br J J J (fun hc23=>?_) (fun hc23=>?_)
  ·
   refine cl rfl (asz (by have:=afT.1 hc23;omega) (by omega)) rfl<|cl rfl acT rfl<|?_
   exact rz rfl (aoV (aAv hc9 (afT.1 hc23)))
  ·
   refine cl rfl (asz (rX fun q=>hc23 (afT.2 q)) (by omega)) rfl<|cl rfl acT rfl<|?_
   exact rz rfl (aoV (az9 hc9 (rX fun q=>hc23 (afT.2 q))))
theorem amg{a b:Int}{i j:Nat}[ha:BI a i][hb:BI b j](hi:i≤400000000:=by decide)(hj:j≤400000000:=by decide):PF GB prog 163 [eI a,eI b] (eI (a*b)):=by
 refine fn func163 J J ntmps163 J J (fun C=>?_)
 refine cl rfl (acn (by omega) (by omega)) rfl<|cl rfl acT rfl<|?_
 exact rz rfl (aoV (aAg a b))
theorem ahB{a b:Int}{i j:Nat}[ha:BI a i][hb:BI b j](hi:i≤400000000:=by decide)(hj:j≤400000000:=by decide):PF GB prog 165 [eI a,eI b] (vI (a-b).sign):=by
 refine fn func165 J J ntmps165 J J (fun C=>?_)
 refine cl rfl ajg rfl<|cl rfl (avw (by omega) (by omega)) rfl<|cl rfl akE rfl<|?_
 exact rz rfl (by rw[Int.sub_eq_add_neg];rfl)
theorem afa{q:Rat}:PF GB prog 145 [eQ q] (dN q.den):=by
 refine fn func145 J J ntmps145 J J (fun C=>?_)
 refine br J J J (fun hc6=>?_) (fun hc6=>?_)
 ·
  refine cl rfl aAp rfl<|?_
  exact rz rfl (by rw[(akp q.den (abO q)).1 (by omega)];rfl)
 ·
  exact rz rfl (by exact aCz (fun e=>hc6 (by exact congrArg Int.ofNat ((akp q.den (abO q)).2 e))))
theorem ah4{n k:Nat}[h:BN n k](hk:k≤500000000):(dg n).length≤100000000:=by have:=aa8 h.h;omega
theorem akQ{x:Int}{d i j:Nat}[hx:BI x i][hd:BN d j](hd0:0<d)(hi:i≤200000000:=by decide)(hj:j≤200000000:=by decide):PF GB prog 135 [eI x,dN d] (eQ (mkRat x d)):=by
 obtain⟨q,hq⟩: ∃q,q=mkRat x d:=⟨_,rfl⟩
 obtain⟨g,hg⟩: ∃g,g=Nat.gcd x.natAbs d:=⟨_,rfl⟩
 have hg0:0<g:=hg▸mN _ hd0
 haveI hgB:BN g (i+j):=hg▸inferInstance
 have hg1:(dg g).length≤100000000:=ah4 (k:=i+j) (by omega)
 have ho1:(dg 1).length≤100000000:=by rw[ane];decide
 haveI hqB:BQ q (i+j):=hq▸ahc hd0 (cM hx.h (bW (by decide) (by omega))) (cM hd.h (bW (by decide) (by omega)))
 refine fn func135 J J ntmps135 J J (fun C=>?_)
 refine cl (fu:=⟨0⟩) rfl (alE (by omega) (by omega)) rfl<|?_
 refine eqF 11 (.d (dN g)) rfl (by rw[hg]) ?_
 refine gx (fu:=⟨4⟩) rfl<|?_
 refine mg (fu:=⟨1⟩) (X:=Unit) (fun _=>[(1, .d (dN q.den)),(2, .ov 2 0),(4, .ov 4 0)]) (fun _=>[(4,some (.o 56 [.ff, .nl, .nl] true)),(2,some (.o 54 [.d (.v (.bool (decide (q.num<0)))), .d (dN q.num.natAbs)] true))]) (fun _=>True) [1,2,4] [4,2] rfl ?_ (fun _=>rfl) (fun _ hm=>?_)
 ·
  refine gx rfl<|cl rfl aAp rfl<|cl rfl (arY hg1 ho1) rfl<|?_
  refine br J J J (fun hc15=>?_) (fun hc15=>?_)
  ·
   refine cl rfl (afL hg0 (by omega) (by omega)) rfl<|cl (fu:=⟨0⟩) rfl acT rfl<|?_
   refine eqF 26 (.d (eI q.num)) rfl (by show FX.d (eI (zv _ _))=_;rw[hg,axX hd0,hq]) ?_
   refine gx rfl<|cl (fu:=⟨2⟩) rfl (afL hg0 (by omega) (by omega)) rfl<|?_
   refine eqF 31 (.d (dN q.den)) rfl (by rw[hg,ayo hd0,hq]) ?_
   refine gx rfl<|?_
   exact at_ () trivial
  ·
   have hm:=aC1 (x:=x) hd0 (by rw[←hg];exact alG.1 (Decidable.not_not.1 hc15))
   rw[←hq] at hm
   refine eqF 1 (.d (dN q.den)) rfl (by rw[hm.2]) ?_
   exact at_ () trivial (hO:=⟨rfl,by rw[hm.1];rfl,trivial⟩)
 ·
  refine mg (X:=Unit) (fun _=>[(1, .d (dD q.den)),(2, .ov 2 0),(4, .ov 4 0)]) (fun _=>[(4,some (.o 56 [.ff, .nl, .nl] true)),(2,some (.o 54 [.d (.v (.bool (decide (q.num<0)))), .d (dN q.num.natAbs)] true))]) (fun _=>True) [1,2,4] [4,2] rfl ?_ (fun _=>rfl) (fun _ hm=>?_)
  ·
   refine gx rfl<|cl rfl aAp rfl<|cl rfl (arY (ah4 (k:=i+j) (by omega)) ho1) rfl<|?_
   refine br J J J (fun hc36=>?_) (fun hc36=>?_)
   ·
    refine nlD 1 rfl ?_
    refine eqF 1 (.d (dD q.den)) rfl (by rw[alG.1 hc36];rfl) ?_
    exact at_ () trivial
   ·
    refine eqF 1 (.d (dD q.den)) rfl (by rw[aCz (fun e=>hc36 (alG.2 e))]) ?_
    exact at_ () trivial
  ·
   exact rz rfl (by rw[←hq];rfl)
theorem ajk(a:Rat):mkRat a.num a.den=a:=by simp[sZ]
theorem atv{a b:Rat}(h:b≠0):a/b=mkRat (a.num*zv (decide (b.num<0)) b.den) (a.den*b.num.natAbs):=by
 rw[nV]
 have ha:(a.num:Rat)/(a.den:Rat)=a:=by rw[←nV,ajk]
 have hb:(b.num:Rat)/(b.den:Rat)=b:=by rw[←nV,ajk]
 have h1:(a.den:Rat)≠0:=by have:=a.den_nz;exact_mod_cast this
 have h2:(b.den:Rat)≠0:=by have:=b.den_nz;exact_mod_cast this
 have h3:(b.num:Rat)≠0:=by
  intro e
  rw[e] at hb
  apply h;rw[←hb];grind
 rw[eK,Rat.natCast_mul]
 by_cases q:b.num<0
 ·have e1:((zv (decide (b.num<0)) b.den:Int):Rat)= -(b.den:Rat):=by
   unfold zv;rw[if_pos (by simpa using q),oQ];rfl
  have e2:((b.num.natAbs:Nat):Rat)= -(b.num:Rat):=by
   have:((b.num.natAbs:Nat):Int)= -b.num:=by omega
   rw[←oQ,←this];rfl
  rw[e1,e2]
  generalize (a.num:Rat)=an at*
  generalize (a.den:Rat)=ad at*
  generalize (b.num:Rat)=bn at*
  generalize (b.den:Rat)=bd at*
  subst ha hb
  grind
 ·have e1:((zv (decide (b.num<0)) b.den:Int):Rat)=(b.den:Rat):=by
   unfold zv;rw[if_neg (by simpa using q)];rfl
  have e2:((b.num.natAbs:Nat):Rat)=(b.num:Rat):=by
   have:((b.num.natAbs:Nat):Int)=b.num:=by omega
   rw[←this];rfl
  rw[e1,e2]
  generalize (a.num:Rat)=an at*
  generalize (a.den:Rat)=ad at*
  generalize (b.num:Rat)=bn at*
  generalize (b.den:Rat)=bd at*
  subst ha hb
  grind
theorem arh{q:Rat}{n:Int}{d:Nat}(hd:0<d)(h:q*(d:Rat)=(n:Rat)):q.num.natAbs≤n.natAbs∧q.den≤d:=by
 have e:q=mkRat n d:=by
  rw[nV]
  have:(d:Rat)≠0:=by exact_mod_cast (by omega:d≠0)
  rw[←h];grind
 rw[e,Rat.num_mkRat,Rat.den_mkRat,if_neg (by omega),if_neg (by omega)]
 exact⟨mK n (d.gcd n.natAbs:Nat),jM ..⟩
theorem BQ.of_frac{q:Rat}{n:Int}{d i:Nat}(hd:0<d)(h:q*(d:Rat)=(n:Rat))(hn:n.natAbs<2^i)(hdi:d<2^i):BQ q i:=by
 have:=arh hd h
 exact⟨by omega,by omega⟩
theorem akn{b:Rat}(h:b≠0):0<b.num.natAbs:=by
 have:b.num≠0:=fun e=>h (lX.1 e)
 omega
instance BQ.over (a b:Rat) (i j:Nat) [ha:BQ a i] [hb:BQ b j]:BQ (a/b) (i+j):=by
 by_cases h:b=0
 ·subst h
  rw[Rat.div_def,Rat.inv_zero,Rat.mul_zero]
  have h2:=ha.hd
  have h3:0<a.den:=abO a
  have h4:2^i*1≤2^i*2^j:=eM _ (dR (by decide))
  rw[←fV] at h4
  exact⟨by show 0<_;omega,by show 1<_;omega⟩
 ·rw[atv h]
  have hb0:=akn h
  refine ahc (iT (abO a) hb0) ?_ (abn ha.hd hb.hn)
  rw[iY,af5]
  exact abn ha.hn hb.hd
theorem alz{n:Int}(h0: -4611686018427387904≤n)(h1:n≤4611686018427387904):PF GB prog 101 [.v (.int .i64 n)] (eQ (n:Rat)):=by
 refine fn func101 J J ntmps101 J J (fun C=>?_)
 refine cl rfl (aEF (by omega) (by omega)) rfl<|?_
 exact rz rfl (by rw[apm];rfl)
theorem q_S{q:Rat}:PF GB prog 131 [eQ q] (vI q.num.sign):=by
 refine fn func131 J J ntmps131 J J (fun C=>?_)
 refine cl rfl akE rfl<|?_
 exact rz J J
theorem anf{q:Rat}:PF GB prog 84 [eQ q] (eQ (-q)):=by
 refine fn func84 J J ntmps84 J J (fun C=>?_)
 refine cl rfl ajg rfl<|?_
 exact rz rfl (by unfold eQ;rw[lY,oR];rfl)
theorem abl{a b:Rat}{i j:Nat}[ha:BQ a i][hb:BQ b j](hi:i≤20000000:=by decide)(hj:j≤20000000:=by decide):PF GB prog 87 [eQ a,eQ b] (eQ (a*b)):=by
 have had:=abO a
 have hbd:=abO b
 have hdp:=iT had hbd
 have e1:=akp a.den had
 have e2:=akp b.den hbd
 refine fn func87 J J ntmps87 J J (fun C=>?_)
 refine cs 9 J J J (fun hg9=>?_) (fun hg9=>?_)
 ·
  refine br J J J (fun hc14=>?_) (fun hc14=>?_)
  ·
   refine cl rfl (amg (a:=a.num) (b:=b.num) (by omega) (by omega)) rfl<|?_
   exact rz rfl (by rw[atF (e1.1 (by omega)) (e2.1 (by omega)),apm];rfl)
  ·
   refine cl rfl (amg (a:=a.num) (b:=b.num) (by omega) (by omega)) rfl<|cl rfl afa rfl<|cl rfl afa rfl<|cl rfl (acn (by omega) (by omega)) rfl<|?_
   refine cl rfl (akQ hdp (by omega) (by omega)) rfl<|?_
   exact rz rfl (by rw[aer];rfl)
 ·
  refine cl rfl (amg (a:=a.num) (b:=b.num) (by omega) (by omega)) rfl<|cl rfl afa rfl<|cl rfl afa rfl<|cl rfl (acn (by omega) (by omega)) rfl<|?_
  refine cl rfl (akQ hdp (by omega) (by omega)) rfl<|?_
  exact rz rfl (by rw[aer];rfl)
theorem ad6{a b:Rat}{i j:Nat}[ha:BQ a i][hb:BQ b j](hi:i≤20000000:=by decide)(hj:j≤20000000:=by decide):PF GB prog 86 [eQ a,eQ b] (eQ (a+b)):=by
 have had:=abO a
 have hbd:=abO b
 have hdp:=iT had hbd
 have e1:=akp a.den had
 have e2:=akp b.den hbd
 refine fn func86 J J ntmps86 J J (fun C=>?_)
 refine cs 9 J J J (fun hg9=>?_) (fun hg9=>?_)
 ·
  refine br J J J (fun hc14=>?_) (fun hc14=>?_)
  ·
   refine cl rfl (avw (by omega) (by omega)) rfl<|?_
   exact rz rfl (by rw[aw5 (e1.1 (by omega)) (e2.1 (by omega)),apm];rfl)
  ·
   refine cl rfl afa rfl<|cl rfl acT rfl<|cl rfl (amg (a:=a.num) (b:=zv false b.den) (by omega) (by omega)) rfl<|cl rfl afa rfl<|cl rfl acT rfl<|?_
   refine cl rfl (amg (a:=b.num) (b:=zv false a.den) (by omega) (by omega)) rfl<|cl rfl (avw (by omega) (by omega)) rfl<|cl rfl afa rfl<|?_
   refine cl rfl afa rfl<|cl rfl (acn (by omega) (by omega)) rfl<|cl rfl (akQ hdp (by omega) (by omega)) rfl<|?_
   exact rz rfl (by rw[aes];rfl)
 ·
  refine cl rfl afa rfl<|cl rfl acT rfl<|cl rfl (amg (a:=a.num) (b:=zv false b.den) (by omega) (by omega)) rfl<|cl rfl afa rfl<|?_
  refine cl rfl acT rfl<|cl rfl (amg (a:=b.num) (b:=zv false a.den) (by omega) (by omega)) rfl<|cl rfl (avw (by omega) (by omega)) rfl<|?_
  refine cl rfl afa rfl<|cl rfl afa rfl<|cl rfl (acn (by omega) (by omega)) rfl<|cl rfl (akQ hdp (by omega) (by omega)) rfl<|?_
  exact rz rfl (by rw[aes];rfl)
theorem aj8{a b:Rat}{i j:Nat}[ha:BQ a i][hb:BQ b j](hi:i≤20000000:=by decide)(hj:j≤20000000:=by decide):PF GB prog 146 [eQ a,eQ b] (eQ (a-b)):=by
 refine fn func146 J J ntmps146 J J (fun C=>?_)
 refine cl rfl (anf (q:=b)) rfl<|cl rfl (ad6 (a:=a) (b:= -b) hi hj) rfl<|?_
 exact rz rfl (by rw[Rat.sub_eq_add_neg];rfl)
theorem ajN{a b:Rat}{i j:Nat}[ha:BQ a i][hb:BQ b j](hb0:b≠0)(hi:i≤20000000:=by decide)(hj:j≤20000000:=by decide):PF GB prog 85 [eQ a,eQ b] (eQ (a/b)):=by
 have hbp:=akn hb0
 have hdp:=iT (abO a) hbp
 refine fn func85 J J ntmps85 J J (fun C=>?_)
 refine cl rfl afa rfl<|cl rfl acT rfl<|cl rfl (amg (a:=a.num) (b:=zv (decide (b.num<0)) b.den) (by omega) (by omega)) rfl<|cl rfl afa rfl<|?_
 refine cl rfl (acn (a:=a.den) (b:=b.num.natAbs) (by omega) (by omega)) rfl<|cl rfl (akQ (x:=a.num*zv (decide (b.num<0)) b.den) (d:=a.den*b.num.natAbs) hdp (by omega) (by omega)) rfl<|?_
 exact rz rfl (by rw[atv hb0];rfl)
theorem q_C{a b:Rat}{i j:Nat}[ha:BQ a i][hb:BQ b j](hi:i≤20000000:=by decide)(hj:j≤20000000:=by decide):PF GB prog 161 [eQ a,eQ b] (vI (aa2 a b)):=by
 refine fn func161 J J ntmps161 J J (fun C=>?_)
 refine cl rfl (aj8 hi hj) rfl<|cl rfl q_S rfl<|?_
 exact rz rfl (by show vI _=vI _;rw[aie])
theorem aCQ:((2:Int):Rat)≠0:=by decide
instance BI.two:BI 2 2:=⟨by decide⟩
theorem arB{a:Rat}{i:Nat}[ha:BQ a i](hi:i≤20000000:=by decide):PF GB prog 215 [eQ a] (eQ (a/2)):=by
 refine fn func215 J J ntmps215 J J (fun C=>?_)
 refine cl rfl (alz (n:=2) (by decide) (by decide)) rfl<|cl rfl (ajN (a:=a) (b:=((2:Int):Rat)) aCQ hi (by decide)) rfl<|?_
 exact rz J J
theorem awn{a b:Rat}{i j:Nat}[ha:BQ a i][hb:BQ b j](hi:i≤2000000:=by decide)(hj:j≤2000000:=by decide):PF GB prog 160 [eQ a,eQ b] (eQ ((a+b)/2)):=by
 refine fn func160 J J ntmps160 J J (fun C=>?_)
 refine cl rfl (ad6 (by omega) (by omega)) rfl<|cl rfl (arB (a:=a+b) (by omega)) rfl<|?_
 exact rz J J
end Go.Sx
end
