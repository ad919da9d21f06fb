/- Part 13 of a proof. -/
import Derived.Test.YtopfgminkdfpkaaGreatDoorMp12
set_option linter.unusedSimpArgs false
set_option maxHeartbeats 2000000
set_option maxRecDepth 100000
set_option linter.unusedVariables false
section
namespace Go.Sx
open Go Go.Proofs Tryz
variable {GB:Gh}
def eFr(f:FrQ):DV:= .ag [vI (fn_ (f.l.a:Rat)),vI (fd_ (f.l.a:Rat)),fp_ (f.l.a:Rat),vI (fn_ (f.l.b:Rat)),vI (fd_ (f.l.b:Rat)),fp_ (f.l.b:Rat),vI (fn_ (f.l.c:Rat)),vI (fd_ (f.l.c:Rat)),fp_ (f.l.c:Rat),vI (fn_ f.v.lo),vI (fd_ f.v.lo),fp_ f.v.lo,vI (fn_ f.v.hi),vI (fd_ f.v.hi),fp_ f.v.hi, .v (.bool f.v.nl), .v (.bool f.v.nh)]
structure avF (v:IvQ):Prop where
 z:IvZ v
 lo:BQ v.lo 1200
 hi:BQ v.hi 1200
structure aF5 (s:FrQ):Prop where
 lb:LB s.l
 ok:s.l.ok
 v:avF s.v
abbrev acI (c:aan):Prop:= ∀s∈c,aF5 s
theorem agh{α:Type}(f:α→DV)(l:List α):(l.map f).length=l.length:=by simp
theorem avF.all:avF IvQ.all:=⟨⟨fun _=>rfl,fun _=>rfl⟩,BQ.z1.mono (by decide),BQ.z1.mono (by decide)⟩
theorem avF.cut{l m:LnQ}{v:IvQ}[LB l][LB m](hn:l.Ne)(h:avF v):avF (l.cutV v m):=by
 by_cases h0:crossI l m=0
 ·rw[(agT (v:=v) h0).1];exact h
 ·obtain⟨u1,_,u3,u4,u5⟩:=aiA (v:=v) hn h.z h.lo h.hi h0
  rw[u1];exact⟨u3,u4,u5⟩
def ivD(o:Option IvQ):IvQ:=o.getD ⟨0,0,false,false⟩
theorem aCT(G:Gh)(y:Value)(k:Is G (.tp [.ag [vI 0,vI 0, .v (.pointer none),vI 0,vI 0, .v (.pointer none), .v (.bool false), .v (.bool false)], .v (.bool false)]) y):Is G (.tp [eW (ivD none),vB false]) y:=by
 obtain⟨m,rfl,g⟩:=adM.1 k
 exact adM.2 ⟨m,rfl,aBf (fun y hy=>by
  obtain⟨l,rfl,g⟩:=abU.1 hy
  exact abU.2 ⟨l,rfl,avm (at0 [vI 0,vI 0, .v (.pointer none)] g)⟩) g⟩
theorem aas{α:Type}{f:α→DV}{l:List α}{i:Nat}{s:α}(h:l[i]? =some s):(l.map f)[(i:Int).toNat]? =some (f s):=by simp[h]
theorem ai0{α:Type}{l:List α}{k:Nat}{s:α}(h:l[k]? =some s):l.drop k=s::l.drop (k+1):=by
 obtain⟨h1,h2⟩:=aL.1 h
 rw[aS h1,h2]
theorem apC{l:LnQ}{c:aan}{v:IvQ}{k:Nat}{s:FrQ}(h:c[k]? =some s):agR l (c.drop k) v=if l.cutB v s.l then agR l (c.drop (k+1)) (l.cutV v s.l) else none:=by
 rw[ai0 h];rfl
theorem ajY{l:LnQ}{c:aan}{k:Nat}{s:FrQ}(h:c[k]? =some s):aeA l (c.drop k)=if aez l s≠0 then aez l s else if s.l=l then 1 else aeA l (c.drop (k+1)):=by
 rw[ai0 h];rfl
instance BQ.sample (v:IvQ) [h1:BQ v.lo 1200] [h2:BQ v.hi 1200]:BQ v.sample 2500:=by
 unfold IvQ.sample
 split
 ·exact BQ.z1.mono (by decide)
 ·split
  ·exact BQ.mono (inferInstance:BQ (v.hi-((1:Int):Rat)) _) (by decide)
  ·split
   ·exact BQ.mono (inferInstance:BQ (v.lo+((1:Int):Rat)) _) (by decide)
   ·exact BQ.mono (inferInstance:BQ ((v.lo+v.hi)*mkRat 1 2) _) (by decide)
theorem ayi{c:aan}{l:LnQ}[hl:LB l](hlo:l.ok)(hc:acI c)(hn:c.length≤1000000):PF GB prog 279 [.sl (c.map eFr),eLn l] (.tp [eW (ivD (af0 c l)),vB (af0 c l).isSome]):=by
 have hm:=agh eFr c
 refine fn func279 J J ntmps279 J J (fun C=>?_)
 refine cl (fu:=⟨10⟩) rfl aE7 rfl<|?_
 refine eqF 12 (.d (vI (c.length:Nat))) rfl (by rw[agh]<;>rfl) ?_
 refine gx rfl<|?_
 refine lp (X:=IvQ×Nat) (fun⟨v,k⟩=>[(13, .d (vI (k:Nat))),(6, .ov 6 0)]) (fun⟨v,k⟩=>[(6,some (.o 185 [.d (vI (fn_ v.lo)), .d (vI (fd_ v.lo)), .d (fp_ v.lo), .d (vI (fn_ v.hi)), .d (vI (fd_ v.hi)), .d (fp_ v.hi), .d (.v (.bool v.nl)), .d (.v (.bool v.nh))] true))]) (fun⟨v,k⟩=>k≤c.length∧avF v∧agR l (c.drop k) v=af0 c l) (fun⟨v,k⟩=>c.length-k) (IvQ.all,0) rfl ⟨bZ _, .all,rfl⟩ (fun _=>rfl) (fun⟨v,k⟩ hk=>?_)
 dsimp only at hk⊢
 obtain⟨h1,h2,h3⟩:=hk
 haveI:=h2.lo
 haveI:=h2.hi
 refine br J J J (fun hc14=>?_) (fun hc14=>?_)
 ·
  obtain⟨s,hs0⟩: ∃s,c[k]? =some s:=⟨_,aZ (by omega)⟩
  have hs:=hc s (aM hs0)
  haveI:=hs.lb
  refine ix _ rfl (aas hs0) rfl<|cl (fu:=⟨0⟩) rfl (aBi (l:=l) (m:=s.l) (v:=v)) rfl<|?_
  generalize hw:l.cutV v s.l=w
  generalize hb:l.cutB v s.l=b
  refine gx rfl<|?_
  refine bb J J J (fun hc26=>?_) (fun hc26=>?_)
  ·
   exact rzI rfl (by rw[←h3,apC hs0,hb,if_neg (by simpa using hc26)];exact aCT)
  ·
   exact at_ (w,k+1) (by dsimp only;exact⟨⟨by omega,hw▸h2.cut hlo.1,by rw[←h3,apC hs0,hb,hw,if_pos (by simpa using hc26)]⟩,(by omega)⟩)
 ·
  exact rz rfl (by rw[←h3,fL (by omega)];rfl)
theorem aAA{c:aan}{l:LnQ}[hl:LB l](hlo:l.ok)(hc:acI c)(hn:c.length≤1000000):PF GB prog 280 [.sl (c.map eFr),eLn l] (vI (aiC c l)):=by
 have hm:=agh eFr c
 refine fn func280 J J ntmps280 J J (fun C=>?_)
 refine cl rfl (ayi (c:=c) (l:=l) hlo hc hn) rfl<|?_
 refine bb (fu2:=⟨7⟩) J J J (fun hc16=>?_) (fun hc16=>?_)
 ·
  exact rz rfl (by unfold aiC;rw[if_pos hc16];rfl)
 ·
  have hp:aiC c l=aeA l c:=by unfold aiC;rw[if_neg (by simp[hc16])]
  refine eqF 18 (.d (vI (c.length:Nat))) rfl (by rw[agh]<;>rfl) ?_
  refine gx rfl<|?_
  refine lp (X:=Nat) (fun k=>[(19, .d (vI (k:Nat)))]) (fun k=>[]) (fun k=>k≤c.length∧aeA l (c.drop k)=aeA l c) (fun k=>c.length-k) 0 rfl ⟨bZ _,rfl⟩ (fun _=>rfl) (fun k hk=>?_)
  obtain⟨h1,h2⟩:=hk
  refine br J J J (fun hc20=>?_) (fun hc20=>?_)
  ·
   obtain⟨s,hs0⟩: ∃s,c[k]? =some s:=⟨_,aZ (by omega)⟩
   have hs:=hc s (aM hs0)
   haveI:=hs.lb
   haveI:=hs.v.lo
   haveI:=hs.v.hi
   haveI:=BQ.sample s.v
   refine ix _ rfl (aas hs0) rfl<|cl (fu:=⟨0⟩) rfl (avk (v:=s.v)) rfl<|?_
   generalize ht:s.v.sample=t at*
   refine gx rfl<|cl rfl (aE4 (l:=s.l) (t:=t)) rfl<|cl rfl (ajq (l:=l) (p:=s.l.at t)) rfl<|?_
   refine br J J J (fun hc32=>?_) (fun hc32=>?_)
   ·
    have hsd:aez l s=(l.value (s.l.at t)).num.sign:=by unfold aez;rw[ht]
    exact rz rfl (by rw[hp,←h2,ajY hs0,hsd,if_pos hc32];rfl)
   ·
    refine cl rfl (awT (l:=s.l) (m:=l)) rfl<|?_
    refine bd J J J (fun hc37=>?_) (fun hc37=>?_)
    ·
     have hsd:aez l s=(l.value (s.l.at t)).num.sign:=by unfold aez;rw[ht]
     exact rz rfl (by rw[hp,←h2,ajY hs0,hsd,if_neg hc32,if_pos hc37];rfl)
    ·
     have hsd:aez l s=(l.value (s.l.at t)).num.sign:=by unfold aez;rw[ht]
     exact at_ (k+1) ⟨⟨by omega,by rw[←h2,ajY hs0,hsd,if_neg hc32,if_neg hc37]⟩,(by omega)⟩
  ·
   exact rz rfl (by rw[hp,←h2,fL (by omega)];rfl)
theorem anj{vs rest:List Value}(h: ∀v∈vs,(aae v).length=17){i:Nat}(hi:i≤vs.length):aa1 (aah vs++rest) (i*17) ((vs.length-i)*17)=some (aah (vs.drop i)):=by
 have hl:=aap vs h
 have hd:(aah (vs.drop i)).length=(vs.length-i)*17:=by
  rw[aap (s:=17) _ (fun v hv=>h v (fN hv)),gJ]
 rw[abM _ _ _ (by simp only[aV];omega)]
 congr 1
 rw[iS (by omega),afF vs i h hi,dW (by omega),aT (by omega)]
theorem aq6{vs rest vcs:List Value}(h: ∀v∈vs,(aae v).length=17)(hv:vcs.length=17){i:Nat}(hi:i<vs.length)(hr:17≤rest.length):
  ovw (ovw (aah vs++rest) ((i+1)*17) (aah (vs.drop i))) (i*17) vcs=aah (vs.take i)++vcs++aah (vs.drop i)++rest.drop 17:=by
 have hl:=aap vs h
 have hd:(aah (vs.drop i)).length=(vs.length-i)*17:=by
  rw[aap (s:=17) _ (fun v hv=>h v (fN hv)),gJ]
 have ht:(aah (vs.take i)).length=i*17:=by
  rw[aap (s:=17) _ (fun v hv=>h v (cS hv)),cV,fT (by omega)]
 rw[act (aah (vs.drop i)) (aah vs++rest) _ (by rw[aV];omega)]
 rw[act vcs _ _ (by simp only[aV,cV,gJ];omega)]
 have e1:(aah vs++rest).drop ((i+1)*17+(aah (vs.drop i)).length)=rest.drop 17:=by
  rw[hd,show(i+1)*17+(vs.length-i)*17=(aah vs).length+17 by omega,lU,jK (by omega),jS]
  congr 1
  omega
 have e2:((aah vs++rest).take ((i+1)*17)++aah (vs.drop i)++rest.drop 17).take (i*17)=aah (vs.take i):=by
  rw[fQ,dW (by simp only[cV,aV];omega),List.take_take,fT (by omega),dW (by omega),afV vs i h (by omega)]
 have e3:((aah vs++rest).take ((i+1)*17)++aah (vs.drop i)++rest.drop 17).drop (i*17+vcs.length)=aah (vs.drop i)++rest.drop 17:=by
  rw[hv,fQ,show i*17+17=((aah vs++rest).take ((i+1)*17)).length by simp only[cV,aV];omega,List.drop_left]
 rw[e1,e2,e3]
 simp[fQ]
theorem aqM{vs rest vcs:List Value}(h: ∀v∈vs,(aae v).length=17)(hv:vcs.length=17)(hr:17≤rest.length):ovw (aah vs++rest) (vs.length*17) vcs=aah vs++vcs++rest.drop 17:=by
 have hl:=aap vs h
 rw[act _ _ _ (by simp only[aV];omega),hv,←hl,List.take_left,lU]
 simp
theorem alB{G:Gh}{b bv cap i c2:Nat}{vs rest vcs r2:List Value}{lo lo2:Bool}(hvs: ∀v∈vs,(aae v).length=17)(hfl: ∀v∈vs,∀c∈aae v,flat c=true)(hv:vcs.length=17)(hvf: ∀c∈vcs,flat c=true)
  (hcap:vs.length*17+rest.length=cap*17)(hroom:vs.length+1≤cap)(hi:i≤vs.length)(hb:vs.length≤1125899906842624):
  FnM prog 284 [.slice (some ⟨b,0,none⟩) vs.length cap, .int .i64 i, .slice (some ⟨bv,0,none⟩) 1 c2] [⟨b,aah vs++rest,187,lo⟩,⟨bv,vcs++r2,187,lo2⟩] G
   (fun u css _=>u= .slice (some ⟨b,0,none⟩) (vs.length+1) cap∧css=[aah (vs.take i)++vcs++aah (vs.drop i)++rest.drop 17,vcs++r2]):=by
 have hL:(aah vs++rest).length=cap*17:=by rw[aV,aap vs hvs];exact hcap
 have hr:17≤rest.length:=by omega
 have hD:(aah (vs.drop i)).length=(vs.length-i)*17:=by
  rw[aap (s:=17) _ (fun v hv=>hvs v (fN hv)),gJ]
 have hDf: ∀c∈aah (vs.drop i),flat c=true:=fun c hc=>by
  obtain⟨l,hl,hcl⟩:=List.mem_flatten.1 hc
  obtain⟨v,hv,rfl⟩:=bU.1 hl
  exact hfl v (fN hv) c hcl
 have hvt:aa1 (vcs++r2) 0 (1*17)=some vcs:=by rw[abM _ _ _ (by rw[aV];omega),iX,dW (by omega),aT (by omega)]
 refine FnM.intro func284 J J ntmps284 rfl ?_
 intro C _ _
 show St C _ _ [⟨b,aah vs++rest,187,false⟩,⟨bv,vcs++r2,187,false⟩] _ _
 refine awM (fun hne=>?_)
 simp only[] at hne
 refine sR<|sa J J<|zE<|sR<|sm J J<|sm J J<|sy (aeJ J J (by omega) (by omega)) rfl<|zE<|sR<|?_
 refine sm J J<|adk J J<|sa J J<|zE<|aak<|sR<|sm J J<|sy (ab6 J J) rfl<|zE<|ae3 rfl<|?_
 refine zK<|sR<|sm J J<|adk J J<|sa J J<|zE<|aak<|sR<|sm J J<|sm J J<|sy (ab6 J J) rfl<|zE<|?_
 refine aaI rfl (fun hc=>?_) (fun hc=>?_) -- slot 22
 ·have hin:i=vs.length:=by omega
  subst hin
  refine sR<|sm J J<|sm J J<|?_
  refine sc (af9 (s:=17) (m:=1) (ys:=vcs) J J (.hd ..) hL (ahy inferInstance hvt) (by omega) hvf hroom rfl ?_)
  refine sa J J<|zE<|aaL<|?_
  refine ac7 (css:=[ovw (aah vs++rest) (vs.length*17) vcs,vcs++r2]) (.tmp rfl .nil) rfl _ (List.Perm.refl _) (List.Sublist.refl _) ⟨rfl,?_⟩
  rw[aqM hvs hv hr,fX,dJ]
  simp[aah]
 have hin:i<vs.length:=by omega
 have hn1:((vs.length:Int)+((1:Nat):Int)).toNat=vs.length+1:=by omega
 have ht1:((i:Int)+((1:Nat):Int)).toNat=i+1:=by omega
 refine zK<|aak<|sR<|sm J J<|sm J J<|sy (aar J J) rfl<|sm J J<|?_
 refine sy (aA4 rfl) rfl<|sy (af2 J J) rfl<|zE<|?_
 refine aaI rfl (fun hc2=>?_) (fun hc2=>?_) -- slot 31
 ·exact absurd hc2 (by omega)
 refine zK<|sR<|sm J J<|sm J J<|sm J J<|sy (aar J J) rfl<|sy (acA J J (by omega) (by omega)) rfl<|?_
 rw[hn1]
 refine sa J J<|zE<|aak<|sR<|sm J J<|sm J J<|sm J J<|sm J J<|sy (aar J J) rfl<|sy (ad9 J J (by omega) (by omega) (by omega)) rfl<|?_
 refine sy (aof (tS:=105) (tR:=4) func305 (by kernel_rfl) (by kernel_rfl) (by kernel_rfl) (by kernel_rfl) J J (Ne.symm hne) (fun h=>by rw[h] at hL;simp at hL;omega)) rfl<|?_
 refine sy (ahT rfl) rfl<|zE<|acw rfl<|?_
 refine aak<|dr0 (b:=b) (fun _=>false) [(0,true),(1,true),(2,true),(3,true),(4,true),(5,true),(6,true),(7,true),(8,false)] follows (.hd ..) (by kernel_rfl)<|dM J J J<|?_
 refine dM J J J<|dM J J J<|dy rfl (fun _=>aar J J (by omega) (by omega)) J J<|dy rfl (fun _=>ad9 J J (by omega) (by omega) (by omega)) J J<|?_
 refine dM J J J<|dM J J J<|dy rfl (fun _=>ad9 J J (by omega) (by omega) (by omega)) J J<|?_
 rw[ht1,bX,dT,dT]
 refine dc J J (ast (s:=17) (m:=vs.length-i) (ys:=aah (vs.drop i)) J J (by show min _ _=_;omega) (ahy inferInstance (anj hvs hi)) hDf (by rw[hD,hL];omega) (.hd ..) rfl ?_)
 refine avP<|dn<|sR<|sm J J<|sm J J<|sy (ad9 J J (by omega) (by omega) (by omega)) rfl<|sm J J<|?_
 rw[bX,dT]
 refine sc (ast (s:=17) (m:=1) (ys:=vcs) J J (by show min _ _=_;omega) (ahy inferInstance hvt) hvf (by rw[ai4,hL,hv];omega) (.hd ..) rfl ?_)
 refine zE<|sR<|sm J J<|sa J J<|zE<|aaL<|?_
 refine ac7 (css:=[ovw (ovw (aah vs++rest) ((i+1)*17) (aah (vs.drop i))) (i*17) vcs,vcs++r2]) (.tmp rfl .nil) rfl _ (List.Perm.refl _) (List.Sublist.refl _) ⟨rfl,?_⟩
 rw[aq6 hvs hv hin hr]
theorem FnM.toO{P:Program}{f:FuncId}{vs:List Value}{M:List Own}{G:Gh}{K:Value→List (List Value)→Gh→Prop}{K':Value→List Own→Gh→Prop}(h:FnM P f vs M G K)(hk: ∀v css G',GLe G G'→css.length=M.length→K v css G'→ ∃o,o.Sublist (ae9 (asB M) css)∧K' v o G'):FnO P f vs M G K':=
 ⟨h.able,fun w hw=>(h.run w hw).mono fun _ _ ⟨v,css,G',he,hl,hh,hK⟩=>let⟨o,h1,h2⟩:=hk v css G' hh.gle hl hK;⟨v,o,G',he,hh.drop h1,h2⟩⟩
theorem aCK(c:aan):ads 17 (c.map eFr):=fun d hd=>by
 obtain⟨f,_,rfl⟩:=bU.1 hd;exact⟨rfl,rfl⟩
theorem aqz{G:Gh}{s:Nat}{ds:List DV}{vs:List Value}(hk:ads s ds)(h:IsLs G ds vs): ∀v∈vs,∀c∈aae v,flat c=true:=fun v hv=>by
 obtain⟨d,hd,h3⟩:=h.all v hv
 exact(h3.cells (hk d hd).1).2
theorem aww{c:aan}{x:FrQ}{i cap:Nat}(hi:i≤c.length)(hc:c.length+1≤cap)(hn:c.length≤1000000):PI GB prog 284 (i:Nat) 17 187 187 (c.map eFr) (eFr x) cap ((c.take i++x::c.drop i).map eFr):=by
 intro G w w2 B B2 _ hB hcap hB2
 obtain⟨vs,q1,q2,q3,_⟩:=hB
 obtain⟨us,u1,u2,u3,_⟩:=hB2
 dsimp only at q1 q2 q3 u1 u2 u3
 have hl:=q2.len
 rw[aJ] at hl
 obtain⟨v,m,rfl,hv,hm⟩:=aac.1 u2
 cases aaJ.1 hm
 rcases q1 with⟨_,e,_⟩|⟨b,rest,lo,e,rfl,h5,h6,h7⟩
 ·rw[e] at hcap;simp at hcap;omega
 rcases u1 with⟨h,_⟩|⟨bv,r2,lo2,e2,rfl,h8,h9,h10⟩
 ·cases h
 have hx:(aae v).length=17:=u3 v aQ
 have hxf:=aqz (s:=17) (ds:=[eFr x]) (fun d hd=>by rw[aU.1 hd];exact⟨rfl,rfl⟩) u2 v aQ
 have key:=alB (G:=G) (b:=b) (bv:=bv) (cap:=w.c) (i:=i) (c2:=w2.c) (vs:=vs) (rest:=rest) (vcs:=aae v) (r2:=r2) (lo:=lo) (lo2:=lo2) q3 (aqz (aCK c) q2) hx hxf (by rw[←h5];exact h6) (by omega) (by omega) (by omega)
 rw[e,e2]
 rw[aiV]
 refine key.toO fun u css G' hg hl2 ⟨k1,k2⟩=>?_
 subst k1 k2
 have hall: ∀u∈vs.take i++v::vs.drop i,(aae u).length=17:=fun u hu=>by
  rcases bK.1 hu with hu|hu
  ·exact q3 u (cS hu)
  ·rcases aW.1 hu with rfl|hu
   ·exact hx
   ·exact q3 u (fN hu)
 have hlen:(vs.take i++v::vs.drop i).length=vs.length+1:=by
  rw[aV,bV,cV,gJ];omega
 refine⟨[⟨b,aah (vs.take i)++aae v++aah (vs.drop i)++rest.drop 17,187,false⟩], .cons_cons _ (kL _),⟨some ⟨b,0,none⟩,vs.length+1,w.c⟩,rfl,vs.take i++v::vs.drop i, .inr ⟨b,rest.drop 17,false,by rw[hlen],?_,aap _ hall,?_,?_⟩,?_,hall,fun h=>by cases h⟩
 ·rw[ab7];simp[aah]
 ·rw[aap _ hall,hlen,gJ]
  rw[h5] at h6
  have:=bT 17 (show vs.length+1≤w.c by omega)
  simp only[cY] at this⊢;omega
 ·rw[hlen];show vs.length+1≤w.c;omega
 ·rw[bJ,bM,fS,gL]
  exact((q2.take i).up hg).app (.cons (hv.up hg) ((q2.drop i).up hg))
theorem aut{s:FrQ}{l:LnQ}[hs:LB s.l][hl:LB l]:PF GB prog 283 [eFr s,eLn l] (vI (aaD s.l.dir l.dir)):=by
 refine fn func283 J J ntmps283 J J (fun C=>?_)
 refine cl rfl (amO (l:=s.l)) rfl<|cl rfl (amO (l:=l)) rfl<|cl rfl (aoc (u:=s.l.dir) (v:=l.dir)) rfl<|?_
 exact rz J J
def bsB(c:aan)(l:LnQ)(i:Nat):Bool:=match c[i]? with
 |some s=>decide (aaD s.l.dir l.dir=0)
 |none=>false
theorem awq(i j:Nat):((i:Int)+(j:Int)).fdiv (2^min (1:Int).toNat IntKind.u64.bits)=((i+j)/2:Nat):=by
 rw[show(2:Int)^min (1:Int).toNat IntKind.u64.bits=((2:Nat):Int) from rfl,gQ _ (by decide)];omega
theorem azj{c:aan}{l:LnQ}{k:Nat}{s:FrQ}(h:c[k]? =some s):ag3 c l k=decide (aaD s.l.dir l.dir<0):=by unfold ag3;rw[h]
theorem aEH{c:aan}{l:LnQ}{k:Nat}{s:FrQ}(h:c[k]? =some s):bsB c l k=decide (aaD s.l.dir l.dir=0):=by unfold bsB;rw[h]
theorem aE5{c:aan}{l:LnQ}{k:Nat}(h: ¬k<c.length):bsB c l k=false:=by unfold bsB;rw[cR (by omega)]
theorem aE1{p:Nat→Bool}{i j:Nat}(h:i<j)(hp:p ((i+j)/2)=true):bsq p i j=bsq p ((i+j)/2+1) j:=by rw[bsq,dif_pos h,if_pos hp]
theorem aEd{p:Nat→Bool}{i j:Nat}(h:i<j)(hp: ¬p ((i+j)/2)=true):bsq p i j=bsq p i ((i+j)/2):=by rw[bsq,dif_pos h,if_neg hp]
theorem aCl{p:Nat→Bool}{i j:Nat}(h: ¬i<j):bsq p i j=i:=by rw[bsq,dif_neg h]
theorem aEZ{c:aan}{l:LnQ}[hl:LB l](hc:acI c)(hn:c.length≤1000000):PF GB prog 282 [.sl (c.map eFr),eLn l, .v (.func (.func 283) #[] #[])] (.tp [vI (bsq (ag3 c l) 0 c.length:Nat),vB (bsB c l (bsq (ag3 c l) 0 c.length))]):=by
 have hm:=agh eFr c
 refine fn (fu:=⟨11⟩) func282 J J ntmps282 J J (fun C=>?_)
 refine eqF 13 (.d (vI (c.length:Nat))) rfl (by rw[hm]<;>rfl) ?_
 refine gx rfl<|?_
 refine lp (X:=Nat×Nat) (fun⟨i,j⟩=>[(9, .d (vI (i:Nat))),(10, .d (vI (j:Nat)))]) (fun⟨i,j⟩=>[]) (fun⟨i,j⟩=>i≤j∧j≤c.length∧bsq (ag3 c l) i j=bsq (ag3 c l) 0 c.length) (fun⟨i,j⟩=>j-i) (0,c.length) rfl ⟨bZ _,bQ _,rfl⟩ (fun _=>rfl) (fun⟨i,j⟩ hk=>?_)
 dsimp only at hk⊢
 obtain⟨h1,h2,h3⟩:=hk
 refine br (fu1:=⟨10⟩) (fu2:=⟨11⟩) J J J (fun hc17=>?_) (fun hc17=>?_)
 ·
  obtain⟨s,hs0⟩: ∃s,c[(i+j)/2]? =some s:=⟨_,aZ (by omega)⟩
  haveI:=(hc s (aM hs0)).lb
  have hang:=azj (l:=l) hs0
  refine eqF 22 (.d (.v (.int .u64 ((i+j)/2:Nat)))) rfl (by rw[awq]) ?_
  refine gx rfl<|ix _ rfl (aas hs0) rfl<|cl rfl (aut (s:=s) (l:=l)) rfl<|?_
  refine br J J J (fun hc31=>?_) (fun hc31=>?_)
  ·
   exact at_ ((i+j)/2+1,j) (by dsimp only;exact⟨⟨by omega,h2,by rw[←h3,aE1 (i:=i) (j:=j) (by omega) (by rw[hang];exact decide_eq_true hc31)]⟩,(by omega)⟩)
  ·
   exact at_ (i,(i+j)/2) (by dsimp only;exact⟨⟨by omega,by omega,by rw[←h3,aEd (i:=i) (j:=j) (by omega) (by rw[hang,decide_eq_false hc31];exact Bool.false_ne_true)]⟩,(by omega)⟩)
 ·
  refine csS (v2:=fun hg39=>by simp only[aag];kernel_rfl) J J J J (fun hg39=>?_) (fun hg39=>?_)
  ·
   have he:=aCl (p:=ag3 c l) (i:=i) (j:=j) (by omega)
   obtain⟨s,hs0⟩: ∃s,c[i]? =some s:=⟨_,aZ (by omega)⟩
   haveI:=(hc s (aM hs0)).lb
   refine ix _ rfl (aas hs0) rfl<|cl rfl (aut (s:=s) (l:=l)) rfl<|?_
   exact rz rfl (by rw[←h3,he,aEH hs0];rfl)
  ·
   have he:=aCl (p:=ag3 c l) (i:=i) (j:=j) (by omega)
   exact rz rfl (by rw[←h3,he,aE5 (by omega)];rfl)
theorem atL{l:LnQ}[LB l](hlo:l.ok): ∀{c:aan} {v w:IvQ},acI c→avF v→agR l c v=some w→avF w
 |[],v,w,_,hv,h=>by cases h;exact hv
 |s::t,v,w,hc,hv,h=>by
  haveI:=(hc s aQ).lb
  simp only[agR] at h
  split at h
  ·exact atL hlo (fun x hx=>hc x (aX _ hx)) (hv.cut hlo.1) h
  ·cases h
theorem alN{l:LnQ}[LB l]: ∀{c:aan},acI c→acI (acJ l c)
 |[],_,s,h=>by cases h
 |a::t,hc,s,h=>by
  have ha:=hc a aQ
  haveI:=ha.lb
  have ht:=alN (l:=l) (fun x hx=>hc x (aX _ hx))
  unfold acJ at h
  split at h
  ·rcases aW.1 h with rfl|h
   ·exact⟨ha.lb,ha.ok,ha.v.cut ha.ok.1⟩
   ·exact ht s h
  ·exact ht s h
theorem al2{l:LnQ}[hl:LB l](hlo:l.ok){c:aan}(hc:acI c):acI (aaS c l):=by
 unfold aaS
 split
 ·rename_i v hv
  intro s hs
  unfold aru at hs
  rcases bK.1 hs with h|h
  ·exact alN hc s (cS h)
  ·rcases aW.1 h with rfl|h
   ·exact⟨hl,hlo,atL hlo hc .all hv⟩
   ·exact alN hc s (fN h)
 ·exact hc
theorem apT{l:LnQ}{c:aan}{k:Nat}{s:FrQ}(h:c[k]? =some s):acJ l (c.drop k)=if s.l.cutB s.v l then⟨s.l,s.l.cutV s.v l⟩::acJ l (c.drop (k+1)) else acJ l (c.drop (k+1)):=by
 rw[ai0 h];rfl
theorem ayc{c:aan}{l:LnQ}[hl:LB l](hlo:l.ok)(hc:acI c)(hn:c.length≤100000):PF GB prog 246 [.sl (c.map eFr),eLn l] (.tp [.sl ((aaS c l).map eFr),vB (abq c l)]):=by
 have hm:=agh eFr c
 refine fn func246 J J ntmps246 J J (fun C=>?_)
 refine cl rfl (ayi (c:=c) (l:=l) hlo hc (by omega)) rfl<|?_
 refine bb (fu2:=⟨6⟩) J J J (fun hc22=>?_) (fun hc22=>?_)
 ·
  have hp:af0 c l=none:=by simpa using hc22
  refine cl rfl (aAA (c:=c) (l:=l) hlo hc (by omega)) rfl<|?_
  exact rz rfl (by unfold aaS abq;rw[hp];rfl)
 ·
  obtain⟨v,hv⟩: ∃v,af0 c l=some v:=Option.isSome_iff_exists.1 (by simpa using hc22)
  have hvd:ivD (af0 c l)=v:=by rw[hv];rfl
  rw[hvd]
  refine eqF 29 (.d (vI (c.length:Nat))) rfl (by rw[hm]<;>rfl) ?_
  refine gx rfl<|mkc (fu:=⟨8⟩) (c.length+1) J J J<|?_
  refine eqF 33 (.d (vI (c.length:Nat))) rfl (by rw[hm]<;>rfl) ?_
  refine gx rfl<|?_
  refine lp (X:=aan×Nat) (fun⟨o,k⟩=>[(34, .d (vI (k:Nat))),(8, .rw 31)]) (fun⟨o,k⟩=>[(31,some (.c 187 17 (o.map eFr) (c.length+1)))]) (fun⟨o,k⟩=>k≤c.length∧o.length≤k∧o++acJ l (c.drop k)=acJ l c) (fun⟨o,k⟩=>c.length-k) ([],0) rfl ⟨bZ _,bQ _,rfl⟩ (fun _=>rfl) (fun⟨o,k⟩ hk=>?_)
  dsimp only at hk⊢
  obtain⟨h1,h2,h3⟩:=hk
  have hmo:=agh eFr o
  refine br J J J (fun hc35=>?_) (fun hc35=>?_)
  ·
   obtain⟨s,hs0⟩: ∃s,c[k]? =some s:=⟨_,aZ (by omega)⟩
   have hs:=hc s (aM hs0)
   haveI:=hs.lb
   haveI:=hs.v.lo
   haveI:=hs.v.hi
   refine ix _ rfl (aas hs0) rfl<|cl (fu:=⟨0⟩) rfl (aBi (l:=s.l) (m:=l) (v:=s.v)) rfl<|?_
   generalize hw:s.l.cutV s.v l=w
   generalize hb:s.l.cutB s.v l=b
   refine gx rfl<|?_
   refine bb J J J (fun hc47=>?_) (fun hc47=>?_)
   ·
    refine rf J J<|apc ((o++[FrQ.mk s.l w]).map eFr) rfl (by rw[bJ];rfl) (aCK [FrQ.mk s.l w]) (by rw[hmo];simp;omega) rfl<|?_
    refine rnE 54 31 rfl ?_
    exact at_ (o++[FrQ.mk s.l w],k+1) (by dsimp only;exact⟨⟨by omega,by simp;omega,by rw[←h3,apT hs0,hb,if_pos hc47,hw,fQ];rfl⟩,(by omega)⟩)
   ·
    exact at_ (o,k+1) (by dsimp only;exact⟨⟨by omega,by omega,by rw[←h3,apT hs0,hb,if_neg (by simp[hc47])]⟩,(by omega)⟩)
  ·
   obtain rfl:k=c.length:=by omega
   have ho:o=acJ l c:=by rw[←h3,dJ];simp[acJ]
   subst ho
   have hbl:=(apt (ag3 (acJ l c) l) (acJ l c).length 0 (acJ l c).length (by omega) (by omega)).2
   refine cL rfl (aEZ (c:=acJ l c) (l:=l) (alN hc) (by omega)) J J<|ro J J<|ci ((aru (acJ l c) l v).map eFr) rfl (aww (c:=acJ l c) (x:=⟨l,v⟩) (i:=bsq (ag3 (acJ l c) l) 0 (acJ l c).length) (cap:=c.length+1) hbl (by omega) (by omega)) J J<|?_
   refine fzE 68 rfl ?_
   exact rz rfl (by unfold aaS abq;rw[hv];rfl)
theorem ap7{c:aan}{l:LnQ}[hl:LB l](hlo:l.ok)(hc:acI c)(hn:c.length≤100000):PF GB prog 199 [.sl (c.map eFr),eLn l] (.tp [.sl ((aaS c l).map eFr), .sl ((aaS c l.rev).map eFr),vB (abq c l),vB (abq c l.rev)]):=by
 refine fn func199 J J ntmps199 J J (fun C=>?_)
 refine cl rfl (ayc (c:=c) (l:=l) hlo hc hn) rfl<|cl rfl (aA9 (l:=l)) rfl<|cl rfl (ayc (c:=c) (l:=l.rev) hlo.rev hc hn) rfl<|?_
 exact rz J J
def cU:Tr→List DV
 | .leaf b=>[vI 0,vI 0, .v (.pointer none),vI 0,vI 0, .v (.pointer none),vI 0,vI 0, .v (.pointer none), .v (.pointer none), .v (.pointer none), .v (.bool b)]
 | .node l x y=>[vI (fn_ (l.a:Rat)),vI (fd_ (l.a:Rat)),fp_ (l.a:Rat),vI (fn_ (l.b:Rat)),vI (fd_ (l.b:Rat)),fp_ (l.b:Rat),vI (fn_ (l.c:Rat)),vI (fd_ (l.c:Rat)),fp_ (l.c:Rat), .pt (cU x), .pt (cU y), .v (.bool false)]
def eU(t:Tr):DV:= .pt (cU t)
theorem afj{b:Bool}:PF GB prog 203 [.v (.bool b)] (eU (.leaf b)):=by
 refine fn func203 J J ntmps203 J J (fun C=>?_)
 refine fzE 5 rfl ?_
 exact rz J J
theorem auL{l:LnQ}{x y:Tr}:PF GB prog 205 [eLn l,eU x,eU y] (eU (.node l x y)):=by
 refine fn func205 J J ntmps205 J J (fun C=>?_)
 refine fzE 11 rfl ?_
 exact rz J J
theorem abr{b:Bool}:PF GB prog 137 [eU (.leaf b)] (.v (.bool true)):=by
 refine fn func137 J J ntmps137 J J (fun C=>?_)
 exact rz J J
theorem abf{l:LnQ}{x y:Tr}:PF GB prog 137 [eU (.node l x y)] (.v (.bool false)):=by
 refine fn func137 J J ntmps137 J J (fun C=>?_)
 exact rz J J
theorem awd{l l1:LnQ}{x y u:Tr}:PF GB prog 200 [eLn l,eU (.node l1 x y),eU u] (eU (.node l (.node l1 x y) u)):=by
 refine fn func200 J J ntmps200 J J (fun C=>?_)
 refine cl (fu:=⟨0⟩) rfl abf rfl<|knF J J J<|cl rfl auL rfl<|?_
 exact rz J J
theorem atJ{l l1:LnQ}{x y:Tr}{p:Bool}:PF GB prog 200 [eLn l,eU (.leaf p),eU (.node l1 x y)] (eU (.node l (.leaf p) (.node l1 x y))):=by
 refine fn func200 J J ntmps200 J J (fun C=>?_)
 refine cl (fu:=⟨0⟩) rfl abr rfl<|knT J J J<|cl (fu:=⟨1⟩) rfl abf rfl<|knF J J J<|cl rfl auL rfl<|?_
 exact rz J J
theorem atg{l:LnQ}{p q:Bool}:PF GB prog 200 [eLn l,eU (.leaf p),eU (.leaf q)] (eU (Tr.joinQ l (.leaf p) (.leaf q))):=by
 refine fn func200 J J ntmps200 J J (fun C=>?_)
 refine cl (fu:=⟨0⟩) rfl abr rfl<|knT J J J<|cl (fu:=⟨1⟩) rfl abr rfl<|knT J J J<|?_
 refine bb J J J (fun hc23=>?_) (fun hc23=>?_)
 ·
  exact rz rfl (by rw[show Tr.joinQ l (.leaf p) (.leaf q)= .leaf p by simp[Tr.joinQ,Tr.isLeaf,Tr.code,hc23]];rfl)
 ·
  refine cl rfl auL rfl<|?_
  exact rz rfl (by rw[show Tr.joinQ l (.leaf p) (.leaf q)= .node l (.leaf p) (.leaf q) by simp[Tr.joinQ,Tr.isLeaf,Tr.code,hc23]];rfl)
theorem aya{l:LnQ}: ∀{x y:Tr},PF GB prog 200 [eLn l,eU x,eU y] (eU (Tr.joinQ l x y))
 | .leaf _, .leaf _=>atg
 | .leaf _, .node .. =>atJ
 | .node ..,_=>awd
theorem anD{b:Bool}:PF GB prog 108 [eU (.leaf b)] (vI (Tr.depth (.leaf b):Nat)):=by
 refine fn func108 J J ntmps108 J J (fun C=>?_)
 refine cl (fu:=⟨0⟩) rfl abr rfl<|?_
 refine kbT 4 rfl ?_
 refine gx rfl<|?_
 exact rz J J
theorem am1{l:LnQ}{x y:Tr}(hd:(Tr.node l x y).depth≤1000000)(ihx:PF GB prog 108 [eU x] (vI (Tr.depth x:Nat)))(ihy:PF GB prog 108 [eU y] (vI (Tr.depth y:Nat))):PF GB prog 108 [eU (.node l x y)] (vI (Tr.depth (.node l x y):Nat)):=by
 have hdp:(Tr.node l x y).depth=1+max x.depth y.depth:=rfl
 have hdx:=mV x.depth y.depth
 have hdy:=lR x.depth y.depth
 refine fn func108 J J ntmps108 J J (fun C=>?_)
 refine cl (fu:=⟨0⟩) rfl abf rfl<|?_
 refine kbF 4 rfl ?_
 refine gx rfl<|cl rfl ihx rfl<|cl (hv:=by simp only[aag];exact⟨by omega,by kernel_rfl⟩) rfl ihy rfl<|?_
 exact rz rfl (by show DV.v (.int _ _)= .v (.int _ _);congr 2;split<;>omega)
theorem ajS: ∀{t:Tr},t.depth≤1000000→PF GB prog 108 [eU t] (vI (Tr.depth t:Nat))
 | .leaf _,_=>anD
 | .node l x y,h=>am1 h (ajS (by have:=mV x.depth y.depth;have:(Tr.node l x y).depth=1+max x.depth y.depth:=rfl;omega)) (ajS (by have:=lR x.depth y.depth;have:(Tr.node l x y).depth=1+max x.depth y.depth:=rfl;omega))
theorem ajj{b:Bool}{c:aan}:PF GB prog 139 [eU (.leaf b), .sl (c.map eFr)] (eU (Tr.restrict (.leaf b) c)):=by
 refine fn func139 J J ntmps139 J J (fun C=>?_)
 refine cl (fu:=⟨0⟩) rfl abr rfl<|?_
 refine kbT 10 rfl ?_
 refine gx rfl<|?_
 exact rz J J
theorem ajy{l:LnQ}{x y:Tr}{c:aan}(hl:LB l)(hlo:l.ok)(hc:acI c)(hn:c.length+(Tr.node l x y).depth≤100000)(ihx: ∀{c:aan},acI c→c.length+x.depth≤100000→PF GB prog 139 [eU x, .sl (c.map eFr)] (eU (Tr.restrict x c)))(ihy: ∀{c:aan},acI c→c.length+y.depth≤100000→PF GB prog 139 [eU y, .sl (c.map eFr)] (eU (Tr.restrict y c))):PF GB prog 139 [eU (.node l x y), .sl (c.map eFr)] (eU (Tr.restrict (.node l x y) c)):=by
 have hdp:(Tr.node l x y).depth=1+max x.depth y.depth:=rfl
 have hdx:=mV x.depth y.depth
 have hdy:=lR x.depth y.depth
 have hca:=agt c l
 have hcb:=agt c l.rev
 refine fn func139 J J ntmps139 J J (fun C=>?_)
 refine cl (fu:=⟨0⟩) rfl abf rfl<|?_
 refine kbF 10 rfl ?_
 refine gx rfl<|cl rfl (ap7 (c:=c) (l:=l) hlo hc (by omega)) rfl<|?_
 refine bb J J J (fun hc23=>?_) (fun hc23=>?_)
 ·
  refine cl rfl (ihx hc (by omega)) rfl<|?_
  exact rz rfl (by rw[Tr.restrict,if_pos hc23];rfl)
 ·
  refine bb J J J (fun hc32=>?_) (fun hc32=>?_)
  ·
   refine cl rfl (ihy hc (by omega)) rfl<|?_
   exact rz rfl (by rw[Tr.restrict,if_neg (by simp[hc23]),if_pos hc32];rfl)
  ·
   refine cl rfl (ihx (c:=aaS c l) (al2 hlo hc) (by omega)) rfl<|cl rfl (ihy (c:=aaS c l.rev) (al2 hlo.rev hc) (by omega)) rfl<|cl rfl aya rfl<|?_
   exact rz rfl (by rw[Tr.restrict,if_neg (by simp[hc23]),if_neg (by simp[hc32])];rfl)
theorem abe: ∀{t:Tr} {c:aan},t.all LB→t.all LnQ.ok→acI c→c.length+t.depth≤100000→PF GB prog 139 [eU t, .sl (c.map eFr)] (eU (Tr.restrict t c))
 | .leaf _,_,_,_,_,_=>ajj
 | .node l x y,c,hb,ho,hc,hn=>ajy hb.1 ho.1 hc hn (fun h1 h2=>abe hb.2.1 ho.2.1 h1 h2) (fun h1 h2=>abe hb.2.2 ho.2.2 h1 h2)
theorem avq{t:Tr}(hb:t.all LB)(ho:t.all LnQ.ok)(hd:t.depth≤100000):PF GB prog 65 [eU t] (eU (t.restrict [])):=by
 refine fn func65 J J ntmps65 J J (fun C=>?_)
 refine cl rfl (abe (t:=t) (c:=[]) hb ho (fun s h=>by cases h) (by simpa using hd)) rfl<|?_
 exact rz J J
def Tr.compl:Tr→Tr
 | .leaf b=> .leaf !b
 | .node l x y=> .node l x.compl y.compl
def Tr.chooseQ(op:Int)(b:Bool)(t:Tr)(c:aan):Tr:=
 if op=1∨op=2 then(if b=decide (op=1) then .leaf b else t.restrict c)
 else if op=3∧b=false then .leaf false
 else if b then(t.restrict c).compl else t.restrict c
def Tr.mergeQ(op:Int):Tr→Tr→aan→Tr
 | .leaf b,u,c=>u.chooseQ op b c
 | .node l x y,u,c=>if !abq c l.rev then x.mergeQ op u c else if !abq c l then y.mergeQ op u c else joinQ l (x.mergeQ op u (aaS c l)) (y.mergeQ op u (aaS c l.rev))
theorem amH{b:Bool}:PF GB prog 167 [eU (.leaf b)] (eU (Tr.compl (.leaf b))):=by
 refine fn func167 J J ntmps167 J J (fun C=>?_)
 refine cl (fu:=⟨0⟩) rfl abr rfl<|?_
 refine kbT 4 rfl ?_
 refine gx rfl<|cl rfl afj rfl<|?_
 exact rz J J
theorem amA{l:LnQ}{x y:Tr}(ihx:PF GB prog 167 [eU x] (eU (Tr.compl x)))(ihy:PF GB prog 167 [eU y] (eU (Tr.compl y))):PF GB prog 167 [eU (.node l x y)] (eU (Tr.compl (.node l x y))):=by
 refine fn func167 J J ntmps167 J J (fun C=>?_)
 refine cl (fu:=⟨0⟩) rfl abf rfl<|?_
 refine kbF 4 rfl ?_
 refine gx rfl<|cl rfl ihx rfl<|cl rfl ihy rfl<|cl rfl (auL (l:=l) (x:=x.compl) (y:=y.compl)) rfl<|?_
 exact rz J J
theorem ahE: ∀{t:Tr},PF GB prog 167 [eU t] (eU (Tr.compl t))
 | .leaf _=>amH
 | .node _ _ _=>amA ahE ahE
theorem axd{op:Int}{b:Bool}{t:Tr}{c:aan}(hb:t.all LB)(ho:t.all LnQ.ok)(hc:acI c)(hn:c.length+t.depth≤100000):PF GB prog 239 [vI op, .v (.bool b),eU t, .sl (c.map eFr)] (eU (t.chooseQ op b c)):=by
 refine fn func239 J J ntmps239 J J (fun C=>?_)
 refine br J J J (fun hc10=>?_) (fun hc10=>?_)
 ·
  refine br J J J (fun hc10=>?_) (fun hc10=>?_)
  ·
   refine bb J J J (fun hc18=>?_) (fun hc18=>?_)
   ·
    refine cl rfl afj rfl<|?_
    exact rz rfl (by unfold Tr.chooseQ;simp_all [afU]<;>omega)
   ·
    refine cl rfl (abe (by assumption) (by assumption) (by assumption) (by omega)) rfl<|?_
    exact rz rfl (by unfold Tr.chooseQ;simp_all [afU]<;>omega)
  ·
   refine br J J J (fun hc13=>?_) (fun hc13=>?_)
   ·
    refine bb J J J (fun hc22=>?_) (fun hc22=>?_)
    ·
     refine cl rfl afj rfl<|?_
     exact rz rfl (by unfold Tr.chooseQ;simp_all [afU]<;>omega)
    ·
     refine bb J J J (fun hc24=>?_) (fun hc24=>?_)
     ·
      refine cl rfl (abe (by assumption) (by assumption) (by assumption) (by omega)) rfl<|cl rfl (ahE (t:=t.restrict c)) rfl<|?_
      exact rz rfl (by unfold Tr.chooseQ;simp_all [afU]<;>omega)
     ·
      refine cl rfl (abe (by assumption) (by assumption) (by assumption) (by omega)) rfl<|?_
      exact rz rfl (by unfold Tr.chooseQ;simp_all [afU]<;>omega)
   ·
    refine bb J J J (fun hc24=>?_) (fun hc24=>?_)
    ·
     refine cl rfl (abe (by assumption) (by assumption) (by assumption) (by omega)) rfl<|cl rfl (ahE (t:=t.restrict c)) rfl<|?_
     exact rz rfl (by unfold Tr.chooseQ;simp_all [afU]<;>omega)
    ·
     refine cl rfl (abe (by assumption) (by assumption) (by assumption) (by omega)) rfl<|?_
     exact rz rfl (by unfold Tr.chooseQ;simp_all [afU]<;>omega)
 ·
  refine br J J J (fun hc10=>?_) (fun hc10=>?_)
  ·
   refine bb J J J (fun hc18=>?_) (fun hc18=>?_)
   ·
    refine cl rfl afj rfl<|?_
    exact rz rfl (by unfold Tr.chooseQ;simp_all [afU]<;>omega)
   ·
    refine cl rfl (abe (by assumption) (by assumption) (by assumption) (by omega)) rfl<|?_
    exact rz rfl (by unfold Tr.chooseQ;simp_all [afU]<;>omega)
  ·
   refine br J J J (fun hc13=>?_) (fun hc13=>?_)
   ·
    refine bb J J J (fun hc22=>?_) (fun hc22=>?_)
    ·
     refine cl rfl afj rfl<|?_
     exact rz rfl (by unfold Tr.chooseQ;simp_all [afU]<;>omega)
    ·
     refine bb J J J (fun hc24=>?_) (fun hc24=>?_)
     ·
      refine cl rfl (abe (by assumption) (by assumption) (by assumption) (by omega)) rfl<|cl rfl (ahE (t:=t.restrict c)) rfl<|?_
      exact rz rfl (by unfold Tr.chooseQ;simp_all [afU]<;>omega)
     ·
      refine cl rfl (abe (by assumption) (by assumption) (by assumption) (by omega)) rfl<|?_
      exact rz rfl (by unfold Tr.chooseQ;simp_all [afU]<;>omega)
   ·
    refine bb J J J (fun hc24=>?_) (fun hc24=>?_)
    ·
     refine cl rfl (abe (by assumption) (by assumption) (by assumption) (by omega)) rfl<|cl rfl (ahE (t:=t.restrict c)) rfl<|?_
     exact rz rfl (by unfold Tr.chooseQ;simp_all [afU]<;>omega)
    ·
     refine cl rfl (abe (by assumption) (by assumption) (by assumption) (by omega)) rfl<|?_
     exact rz rfl (by unfold Tr.chooseQ;simp_all [afU]<;>omega)
theorem anX{b:Bool}{op:Int}{u:Tr}{c:aan}(hbu:u.all LB)(hou:u.all LnQ.ok)(hc:acI c)(hn:c.length+u.depth≤100000):PF GB prog 191 [vI op,eU (.leaf b),eU u, .sl (c.map eFr)] (eU (Tr.mergeQ op (.leaf b) u c)):=by
 refine fn func191 J J ntmps191 J J (fun C=>?_)
 refine cl (fu:=⟨0⟩) rfl abr rfl<|?_
 refine kbT 14 rfl ?_
 refine gx rfl<|cl rfl (axd (t:=u) hbu hou hc hn) rfl<|?_
 exact rz J J
theorem anI{l:LnQ}{x y:Tr}{op:Int}{u:Tr}{c:aan}(hl:LB l)(hlo:l.ok)(hc:acI c)(hn:c.length+(Tr.node l x y).depth+u.depth≤100000)(ihx: ∀{c:aan},acI c→c.length+x.depth+u.depth≤100000→PF GB prog 191 [vI op,eU x,eU u, .sl (c.map eFr)] (eU (Tr.mergeQ op x u c)))(ihy: ∀{c:aan},acI c→c.length+y.depth+u.depth≤100000→PF GB prog 191 [vI op,eU y,eU u, .sl (c.map eFr)] (eU (Tr.mergeQ op y u c))):PF GB prog 191 [vI op,eU (.node l x y),eU u, .sl (c.map eFr)] (eU (Tr.mergeQ op (.node l x y) u c)):=by
 have hdp:(Tr.node l x y).depth=1+max x.depth y.depth:=rfl
 have hdx:=mV x.depth y.depth
 have hdy:=lR x.depth y.depth
 have hca:=agt c l
 have hcb:=agt c l.rev
 refine fn func191 J J ntmps191 J J (fun C=>?_)
 refine cl (fu:=⟨0⟩) rfl abf rfl<|?_
 refine kbF 14 rfl ?_
 refine gx rfl<|cl rfl (ap7 (c:=c) (l:=l) hlo hc (by omega)) rfl<|?_
 refine bb J J J (fun hc34=>?_) (fun hc34=>?_)
 ·
  refine cl rfl (ihx hc (by omega)) rfl<|?_
  exact rz rfl (by rw[Tr.mergeQ,if_pos hc34];rfl)
 ·
  refine bb J J J (fun hc45=>?_) (fun hc45=>?_)
  ·
   refine cl rfl (ihy hc (by omega)) rfl<|?_
   exact rz rfl (by rw[Tr.mergeQ,if_neg (by simp[hc34]),if_pos hc45];rfl)
  ·
   refine cl rfl (ihx (c:=aaS c l) (al2 hlo hc) (by omega)) rfl<|cl rfl (ihy (c:=aaS c l.rev) (al2 hlo.rev hc) (by omega)) rfl<|cl rfl aya rfl<|?_
   exact rz rfl (by rw[Tr.mergeQ,if_neg (by simp[hc34]),if_neg (by simp[hc45])];rfl)
theorem aoo{op:Int}{u:Tr}(hbu:u.all LB)(hou:u.all LnQ.ok): ∀{t:Tr} {c:aan},t.all LB→t.all LnQ.ok→acI c→c.length+t.depth+u.depth≤100000→PF GB prog 191 [vI op,eU t,eU u, .sl (c.map eFr)] (eU (Tr.mergeQ op t u c))
 | .leaf _,_,_,_,hc,hn=>anX hbu hou hc (by simp only[Tr.depth] at hn;omega)
 | .node l x y,c,hb,ho,hc,hn=>anI hb.1 ho.1 hc hn (fun h1 h2=>aoo hbu hou hb.2.1 ho.2.1 h1 h2) (fun h1 h2=>aoo hbu hou hb.2.2 ho.2.2 h1 h2)
def lnZ:DV:= .ag [vI 0,vI 0, .v (.pointer none),vI 0,vI 0, .v (.pointer none),vI 0,vI 0, .v (.pointer none)]
def lnR:Option LnQ→DV
 |some l=> .tp [eLn l,vB true]
 |none=> .tp [lnZ,vB false]
theorem aCP{l:LnQ}(h: ¬l.ok)(hz: ¬(l.a=0∧l.b=0)):decide (rgcd (rgcd (l.a:Rat) (l.b:Rat)) (l.c:Rat)=((1:Int):Rat))=false:=by
 rw[agV,agV]
 refine decide_eq_false fun e=>h ⟨hz,?_⟩
 simp only[jZ] at e
 have:=mW.1 e
 omega
theorem avC{l:LnQ}[hl:LB l](ha:l.a=0)(hb:l.b=0):PF GB prog 204 [eL l] (lnR none):=by
 refine fn func204 J J ntmps204 J J (fun C=>?_)
 refine cl (fu:=⟨0⟩) rfl (acd (m:=l.a)) rfl<|knF J J J<|cl (fu:=⟨0⟩) rfl (acd (m:=l.b)) rfl<|knF J J J<|cl (fu:=⟨0⟩) rfl (acd (m:=l.c)) rfl<|?_
 refine knF J J J<|cl rfl (aeX (m:=l.a)) rfl<|cl rfl (aeX (m:=l.b)) rfl<|cl rfl (aeX (m:=l.c)) rfl<|cl (fu:=⟨0⟩) rfl (akq (q:=(l.a:Rat))) rfl<|?_
 refine knT rfl (by show some (decide _)=some true;rw[ha];rfl) rfl<|cl (fu:=⟨0⟩) rfl (akq (q:=(l.b:Rat))) rfl<|knT rfl (by show some (decide _)=some true;rw[hb];rfl) rfl<|?_
 exact rz J J
theorem awh{l:LnQ}[hl:LB l](hz: ¬(l.a=0∧l.b=0))(ho: ¬l.ok):PF GB prog 204 [eL l] (lnR none):=by
 refine fn func204 J J ntmps204 J J (fun C=>?_)
 refine cl (fu:=⟨0⟩) rfl (acd (m:=l.a)) rfl<|knF J J J<|cl (fu:=⟨0⟩) rfl (acd (m:=l.b)) rfl<|knF J J J<|cl (fu:=⟨0⟩) rfl (acd (m:=l.c)) rfl<|?_
 refine knF J J J<|cl rfl (aeX (m:=l.a)) rfl<|cl rfl (aeX (m:=l.b)) rfl<|cl rfl (aeX (m:=l.c)) rfl<|cl (fu:=⟨0⟩) rfl (akq (q:=(l.a:Rat))) rfl<|?_
 refine csS (fu2:=⟨4⟩) J J J J (fun hg35=>?_) (fun hg35=>?_)
 ·
  have ha:l.a=0:=cZ.1 hg35
  refine cl (fu:=⟨1⟩) rfl (akq (q:=(l.b:Rat))) rfl<|knF rfl (by first|rfl|(show some (decide _)=some false;rw[decide_eq_false (fun e=>hz ⟨ha,cZ.1 e⟩)])) rfl<|?_
  refine cl rfl (agH (p:=(l.a:Rat)) (q:=(l.b:Rat))) rfl<|cl rfl (agH (p:=rgcd l.a l.b) (q:=(l.c:Rat))) rfl<|cl rfl (aj7 (m:=1) (by decide)) rfl<|?_
  refine cl (fu:=⟨0⟩) rfl (aiw (p:=rgcd (rgcd l.a l.b) l.c) (q:=((1:Int):Rat))) rfl<|knT rfl (by show some (!decide _)=some true;rw[aCP ho hz];rfl) rfl<|?_
  exact rz J J
 ·
  refine knF rfl (by first|rfl|(show some (decide _)=some false;rw[decide_eq_false (fun e=>hz ⟨ha,cZ.1 e⟩)])) rfl<|cl rfl (agH (p:=(l.a:Rat)) (q:=(l.b:Rat))) rfl<|?_
  refine cl rfl (agH (p:=rgcd l.a l.b) (q:=(l.c:Rat))) rfl<|cl rfl (aj7 (m:=1) (by decide)) rfl<|cl (fu:=⟨0⟩) rfl (aiw (p:=rgcd (rgcd l.a l.b) l.c) (q:=((1:Int):Rat))) rfl<|?_
  refine knT rfl (by show some (!decide _)=some true;rw[aCP ho hz];rfl) rfl<|?_
  exact rz J J
theorem ayY{l:LnQ}[hl:LB l][Decidable l.ok]:PF GB prog 204 [eL l] (lnR (if l.ok then some l else none)):=by
 split
 ·rename_i h;exact aB1 h
 ·rename_i h
  by_cases hz:l.a=0∧l.b=0
  ·exact avC hz.1 hz.2
  ·exact awh hz h
def anZ(n:Bool)(ds:List Nat):Prop:=Nrm ds∧(n=true→0<ds.length)
instance (n:Bool) (ds:List Nat):Decidable (anZ n ds):=inferInstanceAs (Decidable (_∧_))
theorem adD{neg:Bool}{ds:List Nat}(h:DOk ds∧ds.length≤3):PF GB prog 249 [.ag [.v (.bool neg),dLi ds]] (vB (decide (anZ neg ds))):=amJ h.1 (by have:=h.2;omega)
structure RL where
 na:Bool
 da:List Nat
 nb:Bool
 db:List Nat
 nc:Bool
 dc:List Nat
def RL.d(r:RL):DV:= .ag [.v (.bool r.na),dLi r.da, .v (.bool r.nb),dLi r.db, .v (.bool r.nc),dLi r.dc]
def ahI(n:Bool)(ds:List Nat):Int:=if n then-(dv ds:Int) else dv ds
def RL.l(r:RL):LnQ:=⟨ahI r.na r.da,ahI r.nb r.db,ahI r.nc r.dc⟩
def RL.nm(r:RL):Prop:=anZ r.na r.da∧anZ r.nb r.db∧anZ r.nc r.dc
instance (l:LnQ):Decidable l.ok:=inferInstanceAs (Decidable (_∧_))
instance (r:RL):Decidable r.nm:=inferInstanceAs (Decidable (_∧_∧_))
def RL.ln(r:RL):Option LnQ:=if r.nm∧r.l.ok then some r.l else none
structure RL.sm (r:RL):Prop where
 a:DOk r.da∧r.da.length≤3
 b:DOk r.db∧r.db.length≤3
 c:DOk r.dc∧r.dc.length≤3
theorem amT(n:Bool)(ds:List Nat):(ahI n ds).natAbs=dv ds:=by unfold ahI;cases n<;>simp
theorem aju{n:Bool}{ds:List Nat}(hd:DOk ds)(h:anZ n ds):decide (ahI n ds<0)=n:=by
 unfold ahI
 cases n with
 |false=>simp
 |true=>
  have h0:0<dv ds:=by
   refine jQ fun e=>?_
   have:=arb hd h.1
   rw[e,ahA] at this
   have h2:=h.2 rfl
   rw[←this] at h2
   exact absurd h2 (by decide)
  simp only[if_true,decide_eq_true_eq]
  omega
theorem RL.eL{r:RL}(s:r.sm)(h:r.nm):r.d=Go.Sx.eL r.l:=by
 unfold RL.d Go.Sx.eL RL.l
 simp only[amT,aju s.a.1 h.1,aju s.b.1 h.2.1,aju s.c.1 h.2.2,dN,arb s.a.1 h.1.1,arb s.b.1 h.2.1.1,arb s.c.1 h.2.2.1]
 rfl
theorem RL.lb{r:RL}(s:r.sm):LB r.l:=by
 have key: ∀(n:Bool) (ds:List Nat),DOk ds∧ds.length≤3→(ahI n ds).natAbs<2^96:=fun n ds h=>by
  rw[amT]
  refine cM (aet h.1) ?_
  rw[show(2:Nat)^96=4294967296^3 by decide]
  exact bW (by decide) h.2
 exact⟨key _ _ s.a,key _ _ s.b,key _ _ s.c⟩
theorem avN{r:RL}(s:r.sm)(h: ¬anZ r.na r.da):PF GB prog 204 [r.d] (lnR none):=by
 refine fn func204 J J ntmps204 J J (fun C=>?_)
 refine cl (fu:=⟨0⟩) rfl (adD (neg:=r.na) (ds:=r.da) s.a) rfl<|knT rfl (by show some (!decide _)=some true;rw[decide_eq_false h];rfl) rfl<|?_
 exact rz J J
theorem awj{r:RL}(s:r.sm)(h1:anZ r.na r.da)(h: ¬anZ r.nb r.db):PF GB prog 204 [r.d] (lnR none):=by
 refine fn func204 J J ntmps204 J J (fun C=>?_)
 refine cl (fu:=⟨0⟩) rfl (adD (neg:=r.na) (ds:=r.da) s.a) rfl<|knF rfl (by show some (!decide _)=some false;rw[decide_eq_true h1];rfl) rfl<|cl (fu:=⟨0⟩) rfl (adD (neg:=r.nb) (ds:=r.db) s.b) rfl<|?_
 refine knT rfl (by show some (!decide _)=some true;rw[decide_eq_false h];rfl) rfl<|?_
 exact rz J J
theorem awP{r:RL}(s:r.sm)(h1:anZ r.na r.da)(h2:anZ r.nb r.db)(h: ¬anZ r.nc r.dc):PF GB prog 204 [r.d] (lnR none):=by
 refine fn func204 J J ntmps204 J J (fun C=>?_)
 refine cl (fu:=⟨0⟩) rfl (adD (neg:=r.na) (ds:=r.da) s.a) rfl<|knF rfl (by show some (!decide _)=some false;rw[decide_eq_true h1];rfl) rfl<|cl (fu:=⟨0⟩) rfl (adD (neg:=r.nb) (ds:=r.db) s.b) rfl<|?_
 refine knF rfl (by show some (!decide _)=some false;rw[decide_eq_true h2];rfl) rfl<|cl (fu:=⟨0⟩) rfl (adD (neg:=r.nc) (ds:=r.dc) s.c) rfl<|knT rfl (by show some (!decide _)=some true;rw[decide_eq_false h];rfl) rfl<|?_
 exact rz J J
theorem arR{r:RL}(s:r.sm):PF GB prog 204 [r.d] (lnR r.ln):=by
 by_cases h1:anZ r.na r.da
 ·by_cases h2:anZ r.nb r.db
  ·by_cases h3:anZ r.nc r.dc
   ·haveI:=RL.lb s
    rw[RL.eL s ⟨h1,h2,h3⟩,show r.ln=if r.l.ok then some r.l else none by unfold RL.ln;simp[show r.nm from⟨h1,h2,h3⟩]]
    exact ayY
   ·rw[show r.ln=none from if_neg fun e=>h3 e.1.2.2]
    exact awP s h1 h2 h3
  ·rw[show r.ln=none from if_neg fun e=>h2 e.1.2.1]
   exact awj s h1 h2
 ·rw[show r.ln=none from if_neg fun e=>h1 e.1.1]
  exact avN s h1
def afX(n:Nat)(f:Nat→Bool):List Value:=(List.range n).map fun j=> .bool (f j)
def anW(f:Nat→Bool)(i:Nat):Nat→Bool:=fun j=>f j||Nat.beq j i
theorem aiW(n:Nat)(f:Nat→Bool):(afX n f).length=n:=by simp[afX]
theorem agv{n i:Nat}{f:Nat→Bool}{b:Bool}(h:i<n)(hf:f i=b):(afX n f)[i]? =some (.bool b):=by simp[afX,h,hf]
theorem aiT{f:Nat→Bool}{i j:Nat}(e:j≠i):anW f i j=f j:=by
 unfold anW
 cases hb:Nat.beq j i with
 |false=>rw[Bool.or_false]
 |true=>exact absurd (aR hb) e
theorem arL{f:Nat→Bool}{i:Nat}:anW f i i=true:=by
 unfold anW;rw[mS,Bool.or_true]
theorem amR(n i:Nat)(f:Nat→Bool):(afX n f).set i (.bool true)=afX n (anW f i):=by
 apply jY
 intro j
 rw[oJ]
 simp only[afX,aJ,qR,dQ]
 by_cases hj:j<n
 ·rw[rL hj]
  simp only[jX]
  by_cases e:i=j
  ·subst e;simp[hj,arL]
  ·rw[aiT (fun h=>e h.symm)];simp[e]
 ·rw[cR (by simpa using hj)]
  by_cases e:i=j
  ·subst e;simp[hj]
  ·simp[e]
theorem an9(n:Nat):aa7 (.bool false) n=afX n (fun _=>false):=by
 apply jY
 intro j
 by_cases hj:j<n
 ·rw[agv hj rfl]
  unfold aa7
  rw[afi (aae (.bool false)) n j (by simpa[aae] using hj)]
  simp[aae,Nat.mod_one]
 ·rw[cR (by rw[abG];simp[aae];omega),cR (by rw[aiW];omega)]
structure RN where
 g:RL
 l:Int
 r:Int
def RN.d(n:RN):DV:= .ag [.v (.bool n.g.na),dLi n.g.da, .v (.bool n.g.nb),dLi n.g.db, .v (.bool n.g.nc),dLi n.g.dc, .v (.int .i64 n.l), .v (.int .i64 n.r)]
structure RS where
 f:Nat→Bool
 c:Nat
 b:Bool
inductive RR (ns:List RN):Int→RS→Tr→RS→Prop where
 |leaf (b:Bool) (s:RS):RR ns (ac9 b) s (.leaf b) s
 |bad (rt:Int) (s:RS) (h1:rt≠ -1) (h2:rt≠ -2) (h:rt<0∨(ns.length:Int)≤rt∨(∃k:Nat,rt=k∧k<ns.length∧s.f k=true)):RR ns rt s (.leaf false) ⟨s.f,s.c,true⟩
 |line (k:Nat) (n:RN) (s:RS) (h:ns[k]? =some n) (hf:s.f k=false) (hl:n.g.ln=none):RR ns (k:Int) s (.leaf false) ⟨anW s.f k,s.c+1,true⟩
 |node (k:Nat) (n:RN) (l:LnQ) (s s2 s3:RS) (x y:Tr) (h:ns[k]? =some n) (hf:s.f k=false) (hl:n.g.ln=some l) (h1:RR ns n.l ⟨anW s.f k,s.c+1,s.b⟩ x s2) (h2:RR ns n.r s2 y s3):RR ns (k:Int) s (.node l x y) s3
theorem RR.mono{ns:List RN}{rt:Int}{s s':RS}{t:Tr}(h:RR ns rt s t s'):s.c≤s'.c:=by
 induction h with
 |leaf=>exact bQ _
 |bad=>exact bQ _
 |line=>exact Nat.le_succ _
 |node k n l s s2 s3 x y h hf hl h1 h2 i1 i2=>simp only at i1;omega
theorem akX{G:Gh}{q:Rat}{v:Value}(h:Is G (fp_ q) v): ∃p,v= .pointer p:=by
 rcases an7.1 h with⟨_,h⟩|⟨_,h⟩
 ·exact⟨_,h⟩
 ·obtain⟨b,m,h,_⟩:=akb.1 h;exact⟨_,h⟩
theorem aCn{G:Gh}{l:LnQ}{v:Value}(h:Is G (eLn l) v): ∃n1 d1 p1 n2 d2 p2 n3 d3 p3,v= .agg ⟨[.int .i64 n1, .int .i64 d1, .pointer p1, .int .i64 n2, .int .i64 d2, .pointer p2, .int .i64 n3, .int .i64 d3, .pointer p3]⟩:=by
 obtain⟨m,rfl,g⟩:=abU.1 h
 clear h
 obtain⟨v1,m,rfl,h1,h⟩:=aac.1 g
 obtain⟨v2,m,rfl,h2,h⟩:=aac.1 h
 obtain⟨v3,m,rfl,h3,h⟩:=aac.1 h
 obtain⟨v4,m,rfl,h4,h⟩:=aac.1 h
 obtain⟨v5,m,rfl,h5,h⟩:=aac.1 h
 obtain⟨v6,m,rfl,h6,h⟩:=aac.1 h
 obtain⟨v7,m,rfl,h7,h⟩:=aac.1 h
 obtain⟨v8,m,rfl,h8,h⟩:=aac.1 h
 obtain⟨v9,m,rfl,h9,h⟩:=aac.1 h
 rw[aaJ] at h;subst h
 obtain⟨_,rfl⟩:=akX h3
 obtain⟨_,rfl⟩:=akX h6
 obtain⟨_,rfl⟩:=akX h9
 rw[aaZ.1 h1,aaZ.1 h2,aaZ.1 h4,aaZ.1 h5,aaZ.1 h7,aaZ.1 h8]
 exact⟨_,_,_,_,_,_,_,_,_,rfl⟩
theorem ayy{G:Gh}{o:Option LnQ}{v:Value}(h:Is G (lnR o) v): ∃n1 d1 p1 n2 d2 p2 n3 d3 p3,v= .tuple #[.agg ⟨[.int .i64 n1, .int .i64 d1, .pointer p1, .int .i64 n2, .int .i64 d2, .pointer p2, .int .i64 n3, .int .i64 d3, .pointer p3]⟩, .bool o.isSome]∧
  ∀l,o=some l→Is G (eLn l) (.agg ⟨[.int .i64 n1, .int .i64 d1, .pointer p1, .int .i64 n2, .int .i64 d2, .pointer p2, .int .i64 n3, .int .i64 d3, .pointer p3]⟩):=by
 cases o with
 |some l=>
  obtain⟨m,rfl,g⟩:=adM.1 h
  obtain⟨v1,m,rfl,h1,h⟩:=aac.1 g
  obtain⟨v2,m,rfl,h2,h⟩:=aac.1 h
  rw[aaJ] at h;subst h
  obtain⟨n1,d1,p1,n2,d2,p2,n3,d3,p3,rfl⟩:=aCn h1
  rw[aaZ.1 h2]
  exact⟨n1,d1,p1,n2,d2,p2,n3,d3,p3,rfl,fun k e=>by cases e;exact h1⟩
 |none=>
  obtain⟨m,rfl,g⟩:=adM.1 h
  obtain⟨v1,m,rfl,h1,h⟩:=aac.1 g
  obtain⟨v2,m,rfl,h2,h⟩:=aac.1 h
  rw[aaJ] at h;subst h
  clear g h
  obtain⟨m,rfl,g⟩:=abU.1 h1
  obtain⟨w1,m,rfl,k1,h⟩:=aac.1 g
  obtain⟨w2,m,rfl,k2,h⟩:=aac.1 h
  obtain⟨w3,m,rfl,k3,h⟩:=aac.1 h
  obtain⟨w4,m,rfl,k4,h⟩:=aac.1 h
  obtain⟨w5,m,rfl,k5,h⟩:=aac.1 h
  obtain⟨w6,m,rfl,k6,h⟩:=aac.1 h
  obtain⟨w7,m,rfl,k7,h⟩:=aac.1 h
  obtain⟨w8,m,rfl,k8,h⟩:=aac.1 h
  obtain⟨w9,m,rfl,k9,h⟩:=aac.1 h
  rw[aaJ] at h;subst h
  rw[aaZ.1 k1,aaZ.1 k2,aaZ.1 k3,aaZ.1 k4,aaZ.1 k5,aaZ.1 k6,aaZ.1 k7,aaZ.1 k8,aaZ.1 k9]
  rw[aaZ.1 h2]
  exact⟨_,_,_,_,_,_,_,_,_,rfl,fun k e=>by cases e⟩
theorem aDr{G:Gh}{n:RN}{v:Value}(h:Is G n.d v): ∃x1 x2 x3:SV,v= .agg ⟨[.bool n.g.na, .slice x1.a x1.n x1.c, .bool n.g.nb, .slice x2.a x2.n x2.c, .bool n.g.nc, .slice x3.a x3.n x3.c, .int .i64 n.l, .int .i64 n.r]⟩∧
  Is G n.g.d (.agg ⟨[.bool n.g.na, .slice x1.a x1.n x1.c, .bool n.g.nb, .slice x2.a x2.n x2.c, .bool n.g.nc, .slice x3.a x3.n x3.c]⟩):=by
 obtain⟨m,rfl,g⟩:=abU.1 h
 clear h
 obtain⟨v1,m,rfl,h1,h⟩:=aac.1 g
 obtain⟨v2,m,rfl,h2,h⟩:=aac.1 h
 obtain⟨v3,m,rfl,h3,h⟩:=aac.1 h
 obtain⟨v4,m,rfl,h4,h⟩:=aac.1 h
 obtain⟨v5,m,rfl,h5,h⟩:=aac.1 h
 obtain⟨v6,m,rfl,h6,h⟩:=aac.1 h
 obtain⟨v7,m,rfl,h7,h⟩:=aac.1 h
 obtain⟨v8,m,rfl,h8,h⟩:=aac.1 h
 rw[aaJ] at h;subst h
 obtain⟨_,x1,_,rfl,_,_⟩:=adu.1 (id h2)
 obtain⟨_,x2,_,rfl,_,_⟩:=adu.1 (id h4)
 obtain⟨_,x3,_,rfl,_,_⟩:=adu.1 (id h6)
 cases aaZ.1 h1;cases aaZ.1 h3;cases aaZ.1 h5;cases aaZ.1 h7;cases aaZ.1 h8
 exact⟨x1,x2,x3,rfl,abU.2 ⟨_,rfl, .cons h1 (.cons h2 (.cons h3 (.cons h4 (.cons h5 (.cons h6 .nil)))))⟩⟩
theorem af4{G:Gh}{t:Tr}{v:Value}(h:Is G (eU t) v): ∃p,v= .pointer p:=by
 obtain⟨b,m,h,_⟩:=akb.1 h;exact⟨_,h⟩
theorem PF.fn0{P:Program}{f:FuncId}{ds:List DV}{r:DV}(h: ∀{GB:Gh},PF GB P f ds r){G:Gh}{vs:List Value}(hv:IsLs G ds vs):Fn P f vs G (fun v G'=>Is G' r v):=h (GB:=G) G vs (GLe.refl G) hv
abbrev aFH (x:SV) (ns:List RN) (A:Gh):Prop:= ∃es,afw A 8 x es∧IsLs A (ns.map RN.d) es
theorem az8{A:Gh}{ns:List RN}{x:SV}(hx:aFH x ns A)(hs: ∀n∈ns,n.g.sm)(hn:ns.length≤1000000){rt:Int}{s s':RS}{t:Tr}(h:RR ns rt s t s'): ∀{G:Gh} {rb sb:Nat} {lo lo2:Bool},[GL A G]→s'.c≤1000000→
  FnM prog 148 [.pointer (some ⟨rb,0,none⟩), .int .i64 rt] [⟨rb,[.slice x.a x.n x.c, .slice (some ⟨sb,0,none⟩) ns.length ns.length, .int .i64 s.c, .bool s.b],228,lo⟩,⟨sb,afX ns.length s.f,4,lo2⟩] G
   (fun v css G'=> ∃p,v= .pointer p∧Is G' (eU t) (.pointer p)∧css=[[.slice x.a x.n x.c, .slice (some ⟨sb,0,none⟩) ns.length ns.length, .int .i64 s'.c, .bool s'.b],afX ns.length s'.f]):=by
 obtain⟨es,hx,hes⟩:=hx
 have hel:=hes.len
 rw[aJ] at hel
 have hlen:=hx.len
 rw[hel] at hlen
 obtain⟨xa,xn,xc⟩:=x
 simp only[] at hlen
 subst hlen
 induction h with
 |leaf bb s=>
  intro G rb sb lo lo2 _ hc
  refine FnM.intro func148 J J ntmps148 rfl ?_
  intro C _ _
  show St C _ _ [⟨rb,_,_,false⟩,⟨sb,_,_,false⟩] _ _
  cases bb
  case true=>
   refine sR<|sa J J<|zE<|aak<|aat<|sR<|sm J J<|sy (ab6 J J) rfl<|sm J J<|ss J J J J<|ss J J J J<|?_
   refine sy (ac5 J J) rfl<|sa J J<|zE<|acw rfl<|sR<|sm J J<|sy (ab6 J J) rfl<|?_
   refine sc (zC J J (PF.fn0 (afj (b:=true)) (.cons (aaZ.2 rfl) .nil)) rfl ?_)
   rintro _ G1 _ hp
   obtain⟨p,rfl⟩:=af4 hp
   refine sa J J<|zE<|aaL<|?_
   exact ac7 (css:=[_,_]) (.tmp rfl .nil) rfl _ (List.Perm.refl _) (List.Sublist.refl _) ⟨p,rfl,hp,rfl⟩
  refine sR<|sa J J<|zE<|aak<|aat<|sR<|sm J J<|sy (ab6 J J) rfl<|sm J J<|syg J J (aaT rfl) rfl<|syg J J (ab6 J J) rfl<|?_
  refine sy (abD J J) rfl<|sa J J<|zE<|acw rfl<|sR<|sm J J<|sy (ab6 J J) rfl<|?_
  refine sc (zC J J (PF.fn0 (afj (b:=false)) (.cons (aaZ.2 rfl) .nil)) rfl ?_)
  rintro _ G1 _ hp
  obtain⟨p,rfl⟩:=af4 hp
  refine sa J J<|zE<|aaL<|?_
  exact ac7 (css:=[_,_]) (.tmp rfl .nil) rfl _ (List.Perm.refl _) (List.Sublist.refl _) ⟨p,rfl,hp,rfl⟩
 |bad rt s h1 h2 h=>
  intro G rb sb lo lo2 _ hc
  refine FnM.intro func148 J J ntmps148 rfl ?_
  intro C _ _
  show St C _ [(0, .pointer (some ⟨rb,0,none⟩)),(1, .int .i64 rt)] [⟨rb,[.slice xa ns.length xc, .slice (some ⟨sb,0,none⟩) ns.length ns.length, .int .i64 s.c, .bool s.b],_,false⟩,⟨sb,afX ns.length s.f,_,false⟩] _ _
  refine sR<|sa J J<|zE<|aak<|aat<|sR<|sm J J<|sy (ab6 J J) rfl<|sm J J<|?_
  refine aca 12 rfl (fun hg=>absurd hg (by omega)) (fun hg=>?_)
  refine syg J J (aaT rfl) rfl<|syg J J (ab6 J J) rfl<|sy (abD J J) rfl<|sa J J<|zE<|?_
  refine aaI rfl (fun hc=>absurd hc (by omega)) (fun _=>?_)
  refine sR<|sm J J<|sy (acl J J) rfl<|sm J J<|?_
  refine aca 22 rfl (fun hg=>?_) (fun hg=>?_)
  ·refine ss J J J J<|ss J J J J<|ss J J J J<|ss J J J J<|ss J J J J<|ss J J J J<|ss J J J J<|sy (ac5 J J) rfl<|sm J J<|ss J J J J<|ss J J J J<|?_
   refine ss J J J J<|ss J J J J<|ss J J J J<|ss J J J J<|ss J J J J<|sy (ac5 J J) rfl<|sa J J<|zE<|acw rfl<|aak<|?_
   refine aal<|sm J J<|sn J J<|sf J J<|?_
   refine sc (acE J J J (.hd ..) (nb rfl) J J ?_)
   refine zE<|sR<|?_
   refine sc (zC J J (PF.fn0 (afj (b:=false)) (.cons (aaZ.2 rfl) .nil)) rfl ?_)
   rintro _ G1 _ hp
   obtain⟨p,rfl⟩:=af4 hp
   refine sa J J<|zE<|aaL<|?_
   exact ac7 (css:=[_,_]) (.tmp rfl .nil) rfl _ (List.Perm.refl _) (List.Sublist.refl _) ⟨p,rfl,hp,rfl⟩
  refine syg J J (aaT rfl) rfl<|syg J J (aaT rfl) rfl<|syg J J (aaO rfl) rfl<|syg J J (aaV rfl) rfl<|syg J J (aaF J J) rfl<|syg J J (aeD rfl) rfl<|syg J J (ahP J J) rfl<|sy (abD J J) rfl<|sm J J<|?_
  refine aca 31 rfl (fun hg=>?_) (fun hg=>?_)
  ·refine ss J J J J<|ss J J J J<|ss J J J J<|ss J J J J<|ss J J J J<|ss J J J J<|ss J J J J<|?_
   refine sy (ac5 J J) rfl<|sa J J<|zE<|acw rfl<|sR<|sm J J<|sn J J<|sf J J<|?_
   refine sc (acE J J J (.hd ..) (nb rfl) J J ?_)
   refine zE<|sR<|?_
   refine sc (zC J J (PF.fn0 (afj (b:=false)) (.cons (aaZ.2 rfl) .nil)) rfl ?_)
   rintro _ G1 _ hp
   obtain⟨p,rfl⟩:=af4 hp
   refine sa J J<|zE<|aaL<|?_
   exact ac7 (css:=[_,_]) (.tmp rfl .nil) rfl _ (List.Perm.refl _) (List.Sublist.refl _) ⟨p,rfl,hp,rfl⟩
  obtain⟨k,rfl,hk,hf⟩: ∃k:Nat,rt=k∧k<ns.length∧s.f k=true:=by
   rcases h with h|h|h
   ·omega
   ·exact absurd h hg
   ·exact h
  refine syg J J (aaT rfl) rfl<|syg J J (aaO rfl) rfl<|syg J J (aaV rfl) rfl<|syg J J (aaF J J) rfl<|syg J J (aaT rfl) rfl<|syg J J (abg J J (by omega) (by omega)) rfl<|?_
  refine syg J J (aaF (v:= .bool true) rfl (by rw[bX,gT];exact agv hk hf)) rfl<|sy (abD J J) rfl<|sa J J<|zE<|acw rfl<|?_
  refine sR<|sm J J<|sn J J<|sf J J<|?_
  refine sc (acE J J J (.hd ..) (nb rfl) J J ?_)
  refine zE<|sR<|?_
  refine sc (zC J J (PF.fn0 (afj (b:=false)) (.cons (aaZ.2 rfl) .nil)) rfl ?_)
  rintro _ G1 _ hp
  obtain⟨p,rfl⟩:=af4 hp
  refine sa J J<|zE<|aaL<|?_
  exact ac7 (css:=[_,_]) (.tmp rfl .nil) rfl _ (List.Perm.refl _) (List.Sublist.refl _) ⟨p,rfl,hp,rfl⟩
 |line base n s h0 hfb hl=>
  intro G rb sb lo lo2 _ hc
  have hbn:base<ns.length:=(aL.1 h0).1
  simp only at hc
  obtain⟨z,hzi,hz⟩:=hes.get (i:=base) (d:=n.d) (by rw[dQ,h0];rfl)
  obtain⟨x1,x2,x3,rfl,hzg⟩:=aDr hz
  refine FnM.intro func148 J J ntmps148 rfl ?_
  intro C _ _
  show St C _ [(0, .pointer (some ⟨rb,0,none⟩)),(1, .int .i64 (base:Int))] [⟨rb,[.slice xa ns.length xc, .slice (some ⟨sb,0,none⟩) ns.length ns.length, .int .i64 s.c, .bool s.b],_,false⟩,⟨sb,afX ns.length s.f,_,false⟩] _ _
  refine sR<|sa J J<|zE<|aak<|aat<|sR<|sm J J<|sy (ab6 J J) rfl<|sm J J<|?_
  refine aca 12 rfl (fun hg=>absurd hg (by omega)) (fun hg=>?_)
  refine syg J J (aaT rfl) rfl<|syg J J (ab6 J J) rfl<|sy (abD J J) rfl<|sa J J<|zE<|?_
  refine aaI rfl (fun hc=>absurd hc (by omega)) (fun _=>?_)
  refine sR<|sm J J<|sy (acl J J) rfl<|sm J J<|?_
  refine aca 22 rfl (fun hg=>absurd hg (by omega)) (fun hg=>?_)
  refine syg J J (aaT rfl) rfl<|syg J J (aaT rfl) rfl<|syg J J (aaO rfl) rfl<|syg J J (aaV rfl) rfl<|syg J J (aaF J J) rfl<|syg J J (aeD rfl) rfl<|syg J J (ahP J J) rfl<|sy (abD J J) rfl<|sm J J<|?_
  refine aca 31 rfl (fun hg=>absurd hg (by omega)) (fun hg=>?_)
  refine syg J J (aaT rfl) rfl<|syg J J (aaO rfl) rfl<|syg J J (aaV rfl) rfl<|syg J J (aaF J J) rfl<|syg J J (aaT rfl) rfl<|syg J J (abg J J (by omega) (by omega)) rfl<|?_
  refine syg J J (aaF (v:= .bool false) rfl (by rw[bX,gT];exact agv hbn hfb)) rfl<|sy (abD J J) rfl<|sa J J<|zE<|ae3 rfl<|zK<|?_
  refine sR<|sm J J<|sn J J<|sf J J<|ath J J J<|sm J J<|sy (abg J J (by omega) (by omega)) rfl<|?_
  refine sc (adR J J (.tl _ _ _ _ _ _ _ _ (.hd ..)) (by rw[aiW,bX,gT];exact hbn) J J ?_)
  rw[bX,gT,amR]
  refine zE<|sR<|sm J J<|sn J J<|sf J J<|ath J J J<|sy (aar J J) rfl<|sn J J<|sf J J<|?_
  refine sc (acE J J J (by repeat (first|exact .hd .. |apply agm.tl)) (nb rfl) J J ?_)
  rw[show(s.c:Int)+1=((s.c+1:Nat):Int) by omega]
  refine zE<|sR<|sm J J<|sn J J<|sf J J<|ath J J J<|sm J J<|sy (ay9 (z:=⟨xa,ns.length,xc⟩) hx J J (by omega) (by show(base:Int)<(ns.length:Int);omega)) rfl<|?_
  rw[bX]
  refine sy (ayj (i:=base) hx rfl (by rw[hel];exact hbn) hzi) rfl<|?_
  refine sc (afD rfl ?_)
  intro b5
  refine sc (agM J J J (by repeat (first|exact .hd .. |apply agm.tl)) rfl (nb rfl) J J ?_)
  refine zE<|sR<|sf J J<|slo J J J<|?_
  refine sc (zC J J (PF.fn0 (arR (hs n (aM h0))) (.cons (hzg.up GL.le) .nil)) rfl ?_)
  rintro _ G6 _ hw
  rw[hl] at hw
  obtain⟨n1,d1,p1,n2,d2,p2,n3,d3,p3,rfl,hw⟩:=ayy hw
  refine sm J J<|sx J J J<|sx J J J<|?_
  refine sc (afD rfl ?_)
  intro b6
  refine sc (agM J J J (by repeat (first|exact .hd .. |apply agm.tl)) rfl (nb rfl) J J ?_)
  refine sa J J<|zE<|aak<|sR<|sm J J<|sy (ahT rfl) rfl<|zE<|acw rfl<|?_
  refine sR<|sm J J<|sn J J<|sf J J<|?_
  refine sc (acE J J J (by repeat (first|exact .hd .. |apply agm.tl)) (nb rfl) J J ?_)
  refine zE<|sR<|?_
  refine sc (zC J J (PF.fn0 (afj (b:=false)) (.cons (aaZ.2 rfl) .nil)) rfl ?_)
  rintro _ G7 _ hp
  obtain⟨p,rfl⟩:=af4 hp
  refine sa J J<|zE<|aaL<|?_
  exact ac7 (css:=[_,_]) (.tmp rfl .nil) rfl _ (oX (l₁:=[_,_]) (l₂:=[_,_])) (.cons_cons _ (.cons_cons _ (kL _))) ⟨p,rfl,hp,rfl⟩
 |node base n l s s2 s3 tx ty h0 hfb hl h1 h2 ih1 ih2=>
  intro G rb sb lo lo2 _ hc
  have hbn:base<ns.length:=(aL.1 h0).1
  have hm1:=h1.mono
  have hm2:=h2.mono
  simp only at hm1
  obtain⟨z,hzi,hz⟩:=hes.get (i:=base) (d:=n.d) (by rw[dQ,h0];rfl)
  obtain⟨x1,x2,x3,rfl,hzg⟩:=aDr hz
  refine FnM.intro func148 J J ntmps148 rfl ?_
  intro C _ _
  show St C _ [(0, .pointer (some ⟨rb,0,none⟩)),(1, .int .i64 (base:Int))] [⟨rb,[.slice xa ns.length xc, .slice (some ⟨sb,0,none⟩) ns.length ns.length, .int .i64 s.c, .bool s.b],_,false⟩,⟨sb,afX ns.length s.f,_,false⟩] _ _
  refine sR<|sa J J<|zE<|aak<|aat<|sR<|sm J J<|sy (ab6 J J) rfl<|sm J J<|?_
  refine aca 12 rfl (fun hg=>absurd hg (by omega)) (fun hg=>?_)
  refine syg J J (aaT rfl) rfl<|syg J J (ab6 J J) rfl<|sy (abD J J) rfl<|sa J J<|zE<|?_
  refine aaI rfl (fun hc=>absurd hc (by omega)) (fun _=>?_)
  refine sR<|sm J J<|sy (acl J J) rfl<|sm J J<|?_
  refine aca 22 rfl (fun hg=>absurd hg (by omega)) (fun hg=>?_)
  refine syg J J (aaT rfl) rfl<|syg J J (aaT rfl) rfl<|syg J J (aaO rfl) rfl<|syg J J (aaV rfl) rfl<|syg J J (aaF J J) rfl<|syg J J (aeD rfl) rfl<|syg J J (ahP J J) rfl<|sy (abD J J) rfl<|sm J J<|?_
  refine aca 31 rfl (fun hg=>absurd hg (by omega)) (fun hg=>?_)
  refine syg J J (aaT rfl) rfl<|syg J J (aaO rfl) rfl<|syg J J (aaV rfl) rfl<|syg J J (aaF J J) rfl<|syg J J (aaT rfl) rfl<|syg J J (abg J J (by omega) (by omega)) rfl<|?_
  refine syg J J (aaF (v:= .bool false) rfl (by rw[bX,gT];exact agv hbn hfb)) rfl<|sy (abD J J) rfl<|sa J J<|zE<|ae3 rfl<|zK<|?_
  refine sR<|sm J J<|sn J J<|sf J J<|ath J J J<|sm J J<|sy (abg J J (by omega) (by omega)) rfl<|?_
  refine sc (adR J J (.tl _ _ _ _ _ _ _ _ (.hd ..)) (by rw[aiW,bX,gT];exact hbn) J J ?_)
  rw[bX,gT,amR]
  refine zE<|sR<|sm J J<|sn J J<|sf J J<|ath J J J<|sy (aar J J) rfl<|sn J J<|sf J J<|?_
  refine sc (acE J J J (by repeat (first|exact .hd .. |apply agm.tl)) (nb rfl) J J ?_)
  rw[show(s.c:Int)+1=((s.c+1:Nat):Int) by omega]
  refine zE<|sR<|sm J J<|sn J J<|sf J J<|ath J J J<|sm J J<|sy (ay9 (z:=⟨xa,ns.length,xc⟩) hx J J (by omega) (by show(base:Int)<(ns.length:Int);omega)) rfl<|?_
  rw[bX]
  refine sy (ayj (i:=base) hx rfl (by rw[hel];exact hbn) hzi) rfl<|?_
  refine sc (afD rfl ?_)
  intro b5
  refine sc (agM J J J (by repeat (first|exact .hd .. |apply agm.tl)) rfl (nb rfl) J J ?_)
  refine zE<|sR<|sf J J<|slo J J J<|?_
  refine sc (zC J J (PF.fn0 (arR (hs n (aM h0))) (.cons (hzg.up GL.le) .nil)) rfl ?_)
  rintro _ G6 _ hw
  rw[hl] at hw
  obtain⟨n1,d1,p1,n2,d2,p2,n3,d3,p3,rfl,hw'⟩:=ayy hw
  replace hw:=hw' l rfl
  refine sm J J<|sx J J J<|sx J J J<|?_
  refine sc (afD rfl ?_)
  intro b6
  refine sc (agM J J J (by repeat (first|exact .hd .. |apply agm.tl)) rfl (nb rfl) J J ?_)
  refine sa J J<|zE<|aak<|sR<|sm J J<|sy (ahT rfl) rfl<|zE<|ae3 rfl<|zK<|?_
  refine sR<|sm J J<|sf J J<|ath J J J<|?_
  have hrp:=ih1 (G:=G6) (rb:=rb) (sb:=sb) (lo:=false) (lo2:=false) (by omega)
  refine sc (aiu J J (oX (l₁:=[_,_]) (l₂:=[_,_])) hrp rfl ?_)
  rintro _ css G7 _ _ ⟨q1,rfl,hp1,rfl⟩
  show St C _ _ [⟨rb,[.slice xa ns.length xc, .slice (some ⟨sb,0,none⟩) ns.length ns.length, .int .i64 s2.c, .bool s2.b],228,false⟩,⟨sb,afX ns.length s2.f,4,false⟩,⟨b6,[.int .i64 n1, .int .i64 d1, .pointer p1, .int .i64 n2, .int .i64 d2, .pointer p2, .int .i64 n3, .int .i64 d3, .pointer p3],181,true⟩,⟨b5,[.bool n.g.na, .slice x1.a x1.n x1.c, .bool n.g.nb, .slice x2.a x2.n x2.c, .bool n.g.nc, .slice x3.a x3.n x3.c, .int .i64 n.l, .int .i64 n.r],135,true⟩] _ _
  refine sa J J<|zE<|aak<|?_
  refine drS [⟨b6,[.int .i64 n1, .int .i64 d1, .pointer p1, .int .i64 n2, .int .i64 d2, .pointer p2, .int .i64 n3, .int .i64 d3, .pointer p3],181,true⟩,⟨b5,[.bool n.g.na, .slice x1.a x1.n x1.c, .bool n.g.nb, .slice x2.a x2.n x2.c, .bool n.g.nc, .slice x3.a x3.n x3.c, .int .i64 n.l, .int .i64 n.r],135,true⟩] (fun _=>false) [(0,true),(1,true),(2,true),(3,true),(4,true),(5,false),(6,false),(7,true)] follows (by kernel_rfl)<|?_
  refine dL J J J J<|dM J J J<|dM J J J<|dF J J J<|dL1 J J J J<|?_
  have hrp:=ih2 (G:=G7) (rb:=rb) (sb:=sb) (lo:=false) (lo2:=false) hc
  refine dc J J (aiu J J (M:=[_,_]) (rest:=[_,_]) (List.Perm.refl _) hrp rfl ?_)
  rintro _ css G8 _ _ ⟨q2,rfl,hp2,rfl⟩
  show St C _ _ [⟨rb,[.slice xa ns.length xc, .slice (some ⟨sb,0,none⟩) ns.length ns.length, .int .i64 s3.c, .bool s3.b],228,false⟩,⟨sb,afX ns.length s3.f,4,false⟩,⟨b6,[.int .i64 n1, .int .i64 d1, .pointer p1, .int .i64 n2, .int .i64 d2, .pointer p2, .int .i64 n3, .int .i64 d3, .pointer p3],181,true⟩,⟨b5,[.bool n.g.na, .slice x1.a x1.n x1.c, .bool n.g.nb, .slice x2.a x2.n x2.c, .bool n.g.nc, .slice x3.a x3.n x3.c, .int .i64 n.l, .int .i64 n.r],135,true⟩] _ _
  refine avP<|?_
  refine dc J J (zC J J (PF.fn0 (auL (l:=l) (x:=tx) (y:=ty)) (.cons (hw.up GL.le) (.cons (hp1.up GL.le) (.cons hp2 .nil)))) rfl ?_)
  rintro _ G9 _ hp
  obtain⟨p,rfl⟩:=af4 hp
  refine avP<|dA J J J<|dn<|aaL<|?_
  exact ac7 (css:=[_,_]) (.tmp rfl .nil) rfl _ (List.Perm.refl _) (.cons_cons _ (.cons_cons _ (kL _))) ⟨p,rfl,hp,rfl⟩
def rs0:RS:=⟨fun _=>false,0,false⟩
def ofD(ns:List RN)(t:Tr)(s:RS):DV:=if s.b=false∧s.c=ns.length then .tp [eU t,vB true] else .tp [.v (.pointer none),vB false]
def eRT(rt:Int)(ns:List RN):DV:= .ag [vI rt, .sl (ns.map RN.d)]
theorem aFU{ns:List RN}{rt:Int}{t:Tr}{s:RS}(hs: ∀n∈ns,n.g.sm)(hn:ns.length≤65536)(h:RR ns rt rs0 t s)(hc:s.c≤1000000):PF GB prog 74 [eRT rt ns] (ofD ns t s):=by
 intro G vs _ hv
 obtain⟨v0,m,rfl,h0,hm⟩:=aac.1 hv
 rw[aaJ] at hm;subst hm
 obtain⟨m,rfl,g⟩:=abU.1 h0
 obtain⟨v1,m,rfl,h1,hm⟩:=aac.1 g
 obtain⟨v2,m,rfl,h2,hm⟩:=aac.1 hm
 rw[aaJ] at hm;subst hm
 obtain⟨s0,x,es,rfl,hsl,hes⟩:=adu.1 h2
 rw[aaZ.1 h1]
 have hel:=hes.len
 rw[aJ] at hel
 have hlen:=hsl.len
 rw[hel] at hlen
 have hx:aFH x ns G:=by
  refine⟨es,?_,hes⟩
  rcases afr (s:=8) hsl hes (fun d hd=>by obtain⟨n,_,rfl⟩:=bU.1 hd;exact⟨rfl,rfl⟩) with e|e
  ·exact⟨hsl.len,hsl.cap, .inl e⟩
  ·rw[e] at hsl;exact hsl
 obtain⟨xa,xn,xc⟩:=x
 simp only[] at hlen
 subst hlen
 show Fn _ _ [.agg ⟨[.int .i64 rt, .slice xa ns.length xc]⟩] _ _
 refine Fn.intro func74 J J ntmps74 rfl ?_
 intro C _ _
 refine sR<|?_
 refine sc (auf J J ?_)
 intro b1
 refine sa J J<|sa J J<|zE<|aak<|sR<|sf J J<|ath J J J<|adk J J<|sy (af2 J J) rfl<|zE<|?_
 refine aaI rfl (fun hc=>absurd hc (by omega)) (fun _=>?_)
 refine zK<|aak<|dr (fun _=>false) [(0,true),(1,true),(2,true),(3,true),(4,true),(5,false),(6,true),(7,false),(8,true)] follows (by kernel_rfl)<|dF J J J<|?_
 refine dL1 J J J J<|dF J J J<|dL1 J J J J<|dy rfl (fun _=>aeD rfl) J J<|?_
 refine dc J J (aeQ J J (by omega) (by omega) (by omega) (by rfl) rfl ?_)
 intro b2
 rw[bX,an9]
 refine avP<|dy rfl (fun _=>ale rfl) J J<|?_
 refine dc J J (auf J J ?_)
 intro b3
 refine avP<|dA J J J<|dn<|sR<|sm J J<|sf J J<|ath J J J<|?_
 have hrp:=az8 hx hs (by omega) h (G:=G) (rb:=b3) (sb:=b2) (lo:=true) (lo2:=true) hc
 refine sc (aiu J J (M:=[_,_]) (rest:=[_]) (List.Perm.refl _) hrp rfl ?_)
 rintro _ css G4 _ _ ⟨p,rfl,hp,rfl⟩
 show St C _ _ [⟨b3,[.slice xa ns.length xc, .slice (some ⟨b2,0,none⟩) ns.length ns.length, .int .i64 s.c, .bool s.b],228,true⟩,⟨b2,afX ns.length s.f,4,true⟩,⟨b1,[.int .i64 rt, .slice xa ns.length xc],42,true⟩] _ _
 refine sa J J<|zE<|aak<|aak<|dr (fun _=>false) [(0,true),(1,true),(2,true),(3,true),(4,true),(5,true),(6,true),(7,true),(8,true),(9,true),(10,true),(11,true),(12,true),(13,true)] follows (by kernel_rfl)<|?_
 obtain⟨sf_,sc_,sb_⟩:=s
 cases sb_
 case true=>
  refine dM J J J<|dy rfl (fun _=>aaO rfl) J J<|dF J J J<|dL1 J J J J<|dM J J J<|?_
  refine dys J J J J J J<|dys J J J J J J<|dys J J J J J J<|dys J J J J J J<|dys J J J J J J<|dys J J J J J J<|?_
  refine dys J J J J J J<|dys J J J J J J<|dy rfl (fun _=>ac5 J J) J J<|dn<|acw rfl<|?_
  refine sR<|sa J J<|sa J J<|zE<|aaL<|?_
  refine zD (.tmp rfl (.tmp rfl .nil)) ?_
  rw[ofD,if_neg (fun e=>by cases e.1)]
  exact adM.2 ⟨_,rfl, .cons (aaZ.2 rfl) (.cons (aaZ.2 rfl) .nil)⟩
 refine dM J J J<|dy rfl (fun _=>aaO rfl) J J<|dF J J J<|dL1 J J J J<|dM J J J<|?_
 refine dyg J J J J (fun _=>aaT rfl) rfl<|dyg J J J J (fun _=>aaO rfl) rfl<|dyg J J J J (fun _=>aaV rfl) rfl<|dyg J J J J (fun _=>aaF J J) rfl<|?_
 refine dyg J J J J (fun _=>aaV rfl) rfl<|dyg J J J J (fun _=>aaF J J) rfl<|dyg J J J J (fun _=>aeD rfl) rfl<|dyg J J J J (fun _=>ahR J J) rfl<|?_
 refine dy rfl (fun _=>abD J J) J J<|dn<|?_
 refine aaI rfl (fun hc=>?_) (fun hc=>?_) -- slot 35
 ·refine sR<|sa J J<|sa J J<|zE<|aaL<|?_
  refine zD (.tmp rfl (.tmp rfl .nil)) ?_
  rw[ofD,if_neg (fun e=>hc (by have:=e.2;simp only at this;omega))]
  exact adM.2 ⟨_,rfl, .cons (aaZ.2 rfl) (.cons (aaZ.2 rfl) .nil)⟩
 refine zK<|sR<|sm J J<|sa J J<|sa J J<|zE<|aaL<|?_
 refine zD (.tmp rfl (.tmp rfl .nil)) ?_
 rw[ofD,if_pos ⟨rfl,by have h9:=hc;simp at h9;show sc_=_;omega⟩]
 exact adM.2 ⟨_,rfl, .cons hp (.cons (aaZ.2 rfl) .nil)⟩
theorem ayH{G:Gh}{l:LnQ}{x y:Tr}{m:List Value}(h:IsLs G (cU (.node l x y)) m): ∃n1 d1 p1 n2 d2 p2 n3 d3 p3 q r,m=[.int .i64 n1, .int .i64 d1, .pointer p1, .int .i64 n2, .int .i64 d2, .pointer p2, .int .i64 n3, .int .i64 d3, .pointer p3, .pointer q, .pointer r, .bool false]∧
  Is G (eLn l) (.agg ⟨[.int .i64 n1, .int .i64 d1, .pointer p1, .int .i64 n2, .int .i64 d2, .pointer p2, .int .i64 n3, .int .i64 d3, .pointer p3]⟩)∧Is G (eU x) (.pointer q)∧Is G (eU y) (.pointer r):=by
 obtain⟨v1,m,rfl,h1,h⟩:=aac.1 h
 obtain⟨v2,m,rfl,h2,h⟩:=aac.1 h
 obtain⟨v3,m,rfl,h3,h⟩:=aac.1 h
 obtain⟨v4,m,rfl,h4,h⟩:=aac.1 h
 obtain⟨v5,m,rfl,h5,h⟩:=aac.1 h
 obtain⟨v6,m,rfl,h6,h⟩:=aac.1 h
 obtain⟨v7,m,rfl,h7,h⟩:=aac.1 h
 obtain⟨v8,m,rfl,h8,h⟩:=aac.1 h
 obtain⟨v9,m,rfl,h9,h⟩:=aac.1 h
 obtain⟨va,m,rfl,ha,h⟩:=aac.1 h
 obtain⟨vb,m,rfl,hb,h⟩:=aac.1 h
 obtain⟨vc,m,rfl,hc,h⟩:=aac.1 h
 rw[aaJ] at h;subst h
 obtain⟨_,rfl⟩:=akX h3
 obtain⟨_,rfl⟩:=akX h6
 obtain⟨_,rfl⟩:=akX h9
 obtain⟨_,rfl⟩:=af4 ha
 obtain⟨_,rfl⟩:=af4 hb
 cases aaZ.1 h1;cases aaZ.1 h2;cases aaZ.1 h4;cases aaZ.1 h5;cases aaZ.1 h7;cases aaZ.1 h8;cases aaZ.1 hc
 exact⟨_,_,_,_,_,_,_,_,_,_,_,rfl,abU.2 ⟨_,rfl, .cons h1 (.cons h2 (.cons h3 (.cons h4 (.cons h5 (.cons h6 (.cons h7 (.cons h8 (.cons h9 .nil))))))))⟩,ha,hb⟩
def Tr.pre:Tr→List Tr
 | .leaf b=>[.leaf b]
 | .node l x y=> .node l x y::(x.pre++y.pre)
structure Vis (f:FuncId) (c2:List Value) (σ:Type) (step:σ→Tr→σ) (ok:σ→Tr→Prop) (Inv:σ→List Own→Gh→Prop):Prop where
 up: ∀{s B G G'},GLe G G'→Inv s B G→Inv s B G'
 re: ∀{s B G} (fl:Nat→Bool),Inv s B G→Inv s (B.map (relo fl)) G
 go: ∀{s t p B G},ok s t→Inv s B G→Is G (eU t) (.pointer p)→FnO prog f (.pointer p::c2) B G (fun _ B' G'=>Inv (step s t) B' G')
section
variable {P:Program} {C:Ctx} {n:Nat} {fr:Fr} {own:List Own} {G:Gh}
theorem ajz{fn:Func}{K:Value→List Own→Gh→Prop}{vs:List Value}(hr:RVs P fr own fn.results.toList vs)(own2 own3:List Own)(hp:own.Perm own2)(hs:own3.Sublist own2)(hk:K (abT vs) own3 G):St C n fr own G (bodyPost P fn (agc C K) .normal):=
 fun a w rl=>⟨rl.df,_,acX hr rl.fr rl.h,_,own3,G,rfl,(rl.h.perm hp).drop hs,hk⟩
end
def aiG{σ:Type}(step:σ→Tr→σ)(ok:σ→Tr→Prop):σ→List Tr→Prop
 |_,[]=>True
 |s,t::ts=>ok s t∧aiG step ok (step s t) ts
structure EX (σ:Type) where
 ts:List Tr
 vs:List Value
 rest:List Value
 b:Nat
 cap:Nat
 lo:Bool
 s:σ
 B:List Own
def tsz(t:Tr):Nat:=2*t.size+1
theorem aAG(ts:List Tr):ts.length≤(ts.map tsz).sum:=by
 induction ts with
 |nil=>exact bQ _
 |cons t ts ih=>simp only[bV,bM,rK,tsz];omega
def stk(ts:List Tr):List Tr:=ts.reverse.flatMap Tr.pre
structure EI (A:Gh) {σ:Type} (step:σ→Tr→σ) (ok:σ→Tr→Prop) (Inv:σ→List Own→Gh→Prop) (N:Nat) (fin:σ) (x:EX σ) (G:Gh):Prop where
 rel:anV (fun v t=> ∃p,v= .pointer p∧Is A (eU t) (.pointer p)) x.vs x.ts
 cap:x.vs.length+x.rest.length=x.cap
 inv:Inv x.s x.B G
 mu:(x.ts.map tsz).sum≤N
 okf:aiG step ok x.s (stk x.ts)
 fin:(stk x.ts).foldl step x.s=fin
theorem agk{α β:Type}{R:α→β→Prop}{v:α}{t:β}: ∀{vs:List α} {ts:List β},anV R (vs++[v]) (ts++[t])→anV R vs ts∧R v t
 |[],[], .cons h .nil=>⟨.nil,h⟩
 |[],_::b, .cons _ h=>by cases b<;>cases h
 |_::a,[], .cons _ h=>by cases a<;>cases h
 |_::_,_::_, .cons h k=>⟨.cons h (agk k).1,(agk k).2⟩
theorem aCS{f:FuncId}{c2:List Value}{σ:Type}{step:σ→Tr→σ}{ok:σ→Tr→Prop}{Inv:σ→List Own→Gh→Prop}(V:Vis f c2 σ step ok Inv){t:Tr}{p:Option Addr}{s:σ}{B:List Own}{G:Gh}
  (h:Is G (eU t) (.pointer p))(hI:Inv s B G)(hok:aiG step ok s t.pre)(hs:t.size≤1000000000000):
  FnO prog 240 [.pointer p, .func (.func f) #[] ⟨c2⟩] B G (fun _ B' G'=>Inv (t.pre.foldl step s) B' G'):=by
 refine FnO.intro func240 J J ntmps240 rfl ?_
 intro C _ _
 refine sR<|sm J J<|?_
 refine sc (ar2 rfl (by rfl) (by rfl) (by decide) (by decide) rfl ?_)
 intro b1
 refine sa J J<|zE<|aat<|?_
 refine ab9 (X:=EX σ) (fun x=>[(4, .slice (some ⟨x.b,0,none⟩) x.vs.length x.cap),(1, .func (.func f) #[] ⟨c2⟩)]) (fun x=>⟨x.b,x.vs++x.rest,95,x.lo⟩::x.B) (EI G step ok Inv (tsz t) (t.pre.foldl step s)) (fun x=>(x.ts.map tsz).sum)
  ⟨[t],[.pointer p],[],b1,1,true,s,asB B⟩ ⟨.cons ⟨p,rfl,h⟩ .nil,rfl,V.re (fun _=>false) hI,by simp,by simpa[stk] using hok,by simp[stk]⟩ (.cons rfl (.cons rfl .nil)) rfl ?_
 rintro ⟨ts,vs,rest,b,cap,lo,s1,B1⟩ Gx _ ⟨hrel,hcap,hinv,hmu,hokf,hfin⟩
 simp only at hrel hcap hinv hmu hokf hfin
 have hln:=hrel.len
 have hlt:=aAG ts
 unfold tsz at hmu hlt
 refine aak<|sR<|sm J J<|adk J J<|sy (af2 J J) rfl<|zE<|?_
 refine abo rfl (fun hc=>?_) (fun hc=>?_)
 ·refine abx<|abL<|abL<|aau<|?_
  refine ajz .nil _ _ (List.Perm.refl _) (nS _ _) ?_
  obtain rfl:ts=[]:=by
   cases ts with
   |nil=>rfl
   |cons a l=>simp only[bV] at hln;exfalso;apply hc;show(0:Int)<(vs.length:Int);omega
  have:s1=t.pre.foldl step s:=hfin
  rw[←this]
  exact hinv
 refine zK<|?_
 obtain⟨vs,v,rfl⟩: ∃vs' v',vs=vs'++[v']:=by
  rcases mZ vs with e|⟨a,b,e⟩
  ·subst e;simp at hc
  ·exact⟨a,b,by rw[e,mX]⟩
 obtain⟨ts,u,rfl⟩: ∃vs' v',ts=vs'++[v']:=by
  rcases mZ ts with e|⟨a,b,e⟩
  ·subst e;simp at hln
  ·exact⟨a,b,by rw[e,mX]⟩
 obtain⟨hrel1,q,rfl,hq⟩:=agk hrel
 have hl1:(vs++[Value.pointer q]).length=vs.length+1:=by simp
 have hst:stk (ts++[u])=u.pre++stk ts:=by simp[stk]
 rw[hst] at hokf hfin
 simp only[bJ,rR,bM,gW,rK,List.sum_nil,dY,aV,dK] at hmu hlt hln hcap
 refine av4 [(4,Value.slice (some ⟨b,0,none⟩) (vs.length+1:Nat) cap),(1, .func (.func f) #[] ⟨c2⟩)] (.cons (by show some (Value.slice _ (vs++[Value.pointer q]).length _)=_;rw[hl1]) (.cons rfl .nil)) ?_
 refine aat<|sR<|sm J J<|adk J J<|sy (aa6 J J) rfl<|sa J J<|zE<|sR<|sm J J<|?_
 rw[show((vs.length+1:Nat):Int)-1=(vs.length:Nat) by omega]
 refine sm J J<|sy (abg J J (by omega) (by omega)) rfl<|?_
 refine sy (aaF (v:=Value.pointer q) rfl (by rw[bX,gT,fQ,fM (bQ _),rN];rfl)) rfl<|sa J J<|zE<|sR<|sm J J<|sm J J<|sy (acA J J (by omega) (by omega)) rfl<|?_
 rw[bX]
 refine sa J J<|zE<|sR<|sm J J<|sm J J<|?_
 have hokq:ok s1 u∧aiG step ok (step s1 u) (u.pre.tail++stk ts):=by cases u<;>exact hokf
 refine sc (ak0 (c1:=[]) (M:=B1) (rest:=[⟨b,vs++[Value.pointer q]++rest,95,lo⟩]) J J (oX (l₁:=[_])) (V.go hokq.1 hinv (hq.up GL.le)) rfl ?_)
 rintro _ B2 G2 fl _ _ _ hinv2
 replace hinv2:=V.re fl hinv2
 refine azJ (⟨b,vs++Value.pointer q::rest,95,lo⟩::B2.map (relo fl)) (by rw[fQ];exact(oX (l₂:=[_]))) ?_
 generalize B2.map (relo fl)=B2 at*
 refine zE<|sR<|sm J J<|?_
 cases u with
 |leaf bb=>
  refine sc (zC J J (PF.fn0 abr (.cons (hq.up GL.le) .nil)) rfl ?_)
  rintro _ G3 _ hv
  cases aaZ.1 hv
  refine sy (ahT rfl) rfl<|zE<|ae3 rfl<|zK<|?_
  exact aa0 ⟨ts,vs,Value.pointer q::rest,b,cap,lo,step s1 (.leaf bb),B2⟩ ⟨hrel1,by simp only[bV];omega,V.up GL.le hinv2,by simp only;unfold tsz;omega,hokq.2,hfin⟩ (by simp only[bJ,rR,bM,gW,rK,List.sum_nil];unfold tsz;omega) (.cons rfl (.cons rfl .nil)) rfl
 |node l x y=>
  obtain⟨nbk,m,e,hg,hm⟩:=akb.1 (id hq)
  cases e
  obtain⟨n1,d1,p1,n2,d2,p2,n3,d3,p3,q1,q2,rfl,_,hx,hy⟩:=ayH hm
  have hgg:aAV G nbk _:=⟨hg⟩
  refine sc (zC J J (PF.fn0 abf (.cons (hq.up GL.le) .nil)) rfl ?_)
  rintro _ G3 _ hv
  cases aaZ.1 hv
  refine sy (ahT rfl) rfl<|zE<|acw rfl<|?_
  refine drS [] (fun _=>false) [(0,true),(1,true),(2,true),(3,true),(4,true),(5,true),(6,true),(7,true),(8,true),(9,false),(10,false),(11,true)] follows (by kernel_rfl)<|dM J J J<|?_
  refine dM J J J<|dy rfl (fun _=>aaO rfl) J J<|dF J J J<|dy rfl (fun _=>adT rfl ghi rfl) J J<|?_
  refine dM J J J<|dy rfl (fun _=>aaO rfl) J J<|dF J J J<|dy rfl (fun _=>adT rfl ghi rfl) J J<|?_
  refine dc J J (aiv (by rfl) (by rfl) (by rfl) (by rfl) rfl ?_)
  intro b3
  refine avP<|?_
  refine dc J J (agr (m:=2) (xs:=vs) (ys:=[Value.pointer q2,Value.pointer q1]) (rest:=Value.pointer (some ⟨nbk,0,none⟩)::rest) J J (.tl _ _ _ _ (.hd ..)) (by omega) (by simp only[bV];omega) (by omega) (ahy inferInstance rfl) rfl (by simp[Sx.flat]) (by decide) (by omega) (by rfl) rfl ?_)
  intro b4 lo4 cap4 rest4 h1 h2
  refine avP<|dA J J J<|dn<|?_
  have hsz:(Tr.node l x y).size=1+x.size+y.size:=rfl
  refine ar9 (⟨b4,vs++[Value.pointer q2,Value.pointer q1]++rest4,95,lo4⟩::B2) (.cons_cons _ (nS _ _)) ?_
  have hs2:stk (ts++[y,x])=x.pre++y.pre++stk ts:=by simp[stk]
  refine aa0 ⟨ts++[y,x],vs++[Value.pointer q2,Value.pointer q1],rest4,b4,cap4,lo4,step s1 (.node l x y),B2⟩ ⟨hrel1.app (.cons ⟨_,rfl,hy⟩ (.cons ⟨_,rfl,hx⟩ .nil)),by simp only[aV,bV,dV];omega,V.up GL.le hinv2,?_,?_,?_⟩ ?_ (.cons (by show some (Value.slice _ (vs.length+2) _)=some (Value.slice _ (vs++[_,_]).length _);rw[aV];rfl) (.cons rfl .nil)) rfl
  ·simp only[bJ,rR,bM,gW,rK,List.sum_nil];unfold tsz;omega
  ·simp only;rw[hs2];exact hokq.2
  ·simp only;rw[hs2];exact hfin
  ·simp only[bJ,rR,bM,gW,rK,List.sum_nil];unfold tsz;omega
/-! ### Size -/
theorem auh{P:Program}{C:Ctx}{n:Nat}{fr:Fr}{own:List Own}{G:Gh}{Φ:Act→World→Prop}{dst:Option Nat}{ty':TypeId}{pos:String}{af:Array Edge}{gd:Option (Nat×Bool)}{f:FuncId}{fo:Operand}{args:Array Operand}{tys:Array TypeId}{vs:List Value}{M rest:List Own}{K:Value→List Own→Gh→Prop}(ho:opv fr fo=some (.func (.func f) #[] #[]))(hv:af6 fr args.toList=some vs)
  (hp:own.Perm (M++rest))(hF:FnO P f vs M G K)(hd:aaQ n dst=true)
  (h: ∀v own1 (G':Gh) (fl:Nat→Bool),[GE G G']→(∀m∈M,m.lo=false→fl m.b=false)→((∀m∈M,m.lo=true)→ ∀b,fl b=true)→K v own1 G'→St C n (put fr dst v) (own1.map (relo fl)++rest) G' Φ):
  Ch P C n fr own G ⟨dst, .call ⟨.value fo,args,tys⟩,ty',pos,af,gd⟩ Φ:=
 ak0 (c1:=[]) (c2:=[]) ho hv hp (by simpa using hF) hd h
def szI(nbk:Nat)(s:Nat)(B:List Own)(_:Gh):Prop:= ∃lo,B=[⟨nbk,[.int .i64 s],3,lo⟩]
def szS(s:Nat):Tr→Nat
 | .leaf _=>s
 | .node .. =>s+1
theorem avD(nbk:Nat):Vis 241 [.pointer (some ⟨nbk,0,none⟩)] Nat szS (fun s _=>s<1000000000000) (szI nbk) where
 up:=fun _ h=>h
 re:=fun{s B G} fl h=>by obtain⟨lo,rfl⟩:=h;exact⟨_,rfl⟩
 go:=by
  intro s t p B G hs hI ht
  obtain⟨lo,rfl⟩:=hI
  refine FnO.intro func241 J J ntmps241 rfl ?_
  intro C _ _
  show St C _ _ [⟨nbk,_,_,false⟩] _ _
  cases t with
  |node l x y=>
   refine sR<|sm J J<|?_
   refine sc (zC J J (PF.fn0 abf (.cons ht .nil)) rfl ?_)
   rintro _ G1 _ hv
   cases aaZ.1 hv
   refine sy (ahT rfl) rfl<|zE<|acw rfl<|aal<|ath J J J<|sy (aar J J) rfl<|?_
   refine sc (acE J J J (.hd ..) (nb rfl) J J ?_)
   refine zE<|?_
   exact ajz .nil _ _ (List.Perm.refl _) (List.Sublist.refl _) ⟨false,by show [_]=[_];rfl⟩
  |leaf b=>
   refine sR<|sm J J<|?_
   refine sc (zC J J (PF.fn0 abr (.cons ht .nil)) rfl ?_)
   rintro _ G1 _ hv
   cases aaZ.1 hv
   refine sy (ahT rfl) rfl<|zE<|ae3 rfl<|zK<|?_
   exact ajz .nil _ _ (List.Perm.refl _) (List.Sublist.refl _) ⟨false,rfl⟩
theorem alS: ∀(t:Tr) (s:Nat),t.pre.foldl szS s=s+t.size
 | .leaf _,s=>rfl
 | .node l x y,s=>by
  simp only[Tr.pre,jR,oK,szS,alS x,alS y,Tr.size]
  omega
theorem atP: ∀(t:Tr) (s:Nat) (L:List Tr),s+t.size<1000000000000→(∀s',s'=s+t.size→aiG szS (fun s _=>s<1000000000000) s' L)→aiG szS (fun s _=>s<1000000000000) s (t.pre++L)
 | .leaf _,s,L,h,k=>⟨by simp only[Tr.size] at h;omega,k _ rfl⟩
 | .node l x y,s,L,h,k=>by
  simp only[Tr.size] at h k
  simp only[Tr.pre,hJ,fQ]
  exact⟨by omega,atP x _ _ (by simp only[szS];omega) fun s1 e1=>atP y _ _ (by subst e1;simp only[szS];omega) fun s2 e2=>k _ (by subst e1 e2;simp only[szS];omega)⟩
theorem aB7{t:Tr}(hs:t.size<1000000000000):PF GB prog 192 [eU t] (vI (t.size:Nat)):=by
 intro G vs _ hv
 obtain⟨v0,m,rfl,h,hm⟩:=aac.1 hv
 rw[aaJ] at hm;subst hm
 obtain⟨p,rfl⟩:=af4 h
 refine Fn.intro func192 J J ntmps192 rfl ?_
 intro C _ _
 refine sR<|sa J J<|zE<|sR<|?_
 refine sc (afD rfl ?_)
 intro b1
 refine sc (acE J J J (.hd ..) (nb rfl) J J ?_)
 refine zE<|sR<|sm J J<|sy (aoN J J) rfl<|?_
 have hok:aiG szS (fun s _=>s<1000000000000) 0 t.pre:=by
  have:=atP t 0 [] (by omega) (fun _ _=>trivial)
  rwa [lJ] at this
 refine sc (auh (M:=[⟨b1,[.int .i64 0],3,true⟩]) (rest:=[]) J J (List.Perm.refl _) (aCS (avD b1) h ⟨true,rfl⟩ hok (by omega)) rfl ?_)
 rintro _ B G2 fl _ _ _ ⟨lo,rfl⟩
 rw[alS,dT]
 show St C _ _ [⟨b1,[.int .i64 t.size],3,_⟩] _ _
 refine zE<|sR<|ath J J J<|sa J J<|zE<|aaL<|?_
 exact zD (.tmp rfl .nil) (aaZ.2 rfl)
end Go.Sx
end
