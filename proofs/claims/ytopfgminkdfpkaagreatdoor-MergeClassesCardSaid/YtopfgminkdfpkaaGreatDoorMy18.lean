/- Part 18 of a proof. -/
import Derived.Test.YtopfgminkdfpkaaGreatDoorMy17
import Derived.Shelf.SlSortCmp.NoneTotal
import Derived.Test.YtopfgminkdfpkaaGreatDoorProg
set_option linter.unusedSimpArgs false
set_option maxHeartbeats 2000000
set_option maxRecDepth 100000
set_option linter.unusedVariables false
section
namespace Go.Sx
open Go Go.Proofs Tryz
variable {GB:Gh}
theorem atj(l:List PtQ):adx 6 (l.map eZ):=fun d hd=>by
 obtain⟨x,_,rfl⟩:=bL.1 hd
 exact⟨rfl,rfl⟩
instance BPt.negp (p:PtQ) (i:Nat) [h:BPt p i]:BPt (ach p) i:=⟨inferInstanceAs (BQ (-p.x) i),inferInstanceAs (BQ (-p.y) i)⟩
instance BPt.prip (l:LnQ) [LB l]:BPt (aeg l.dir) 500:=by
 have h:=(inferInstance:BPt (l.dir.scale (rgcd l.dir.x l.dir.y)⁻¹) _)
 exact⟨h.x.mono (by decide),h.y.mono (by decide)⟩
theorem aBY{p:PtQ}{i:Nat}[h:BPt p i](hi:i≤900000000:=by decide):PF GB prog 214 [eZ p] (eZ (ach p)):=by
 refine fn func214 J J ntmps214 J J (fun C=>?_)
 refine cl rfl (afb (q:=p.x) (i:=i) hi) rfl<|cl rfl (afb (q:=p.y) (i:=i) hi) rfl<|?_
 exact rz J J
theorem azB{p:PtQ}{i:Nat}[h:BPt p i](hi:i≤900000000:=by decide):PF GB prog 207 [eZ p] (eZ (ae8 p)):=by
 refine fn func207 J J ntmps207 J J (fun C=>?_)
 refine cl rfl (afb (q:=p.y) (i:=i) hi) rfl<|?_
 exact rz J J
theorem aAC{p:PtQ}{i:Nat}[h:BPt p i](hi:i≤1000000:=by decide):PF GB prog 213 [eZ p] (eZ (aeg p)):=by
 refine fn func213 J J ntmps213 J J (fun C=>?_)
 refine cl rfl (agR (p:=p.x) (q:=p.y) (i:=i) (j:=i) (by omega) (by omega)) rfl<|cl rfl (ays (q:=rgcd p.x p.y) (i:=i+i+(i+i)) (by omega)) rfl<|?_
 refine cl rfl (alN (p:=p) (c:=(rgcd p.x p.y)⁻¹) (i:=i) (j:=i+i+(i+i)) (by omega) (by omega)) rfl<|?_
 exact rz J J
theorem afI(l:LnQ)(x y:Tr)(p:PtQ):abu (.node l x y) p=(if Int.sign (l.value p).num=0 then [aeg l.dir,ach (aeg l.dir)] else [])++((if 0≤Int.sign (l.value p).num then abu x p else [])++(if Int.sign (l.value p).num≤0 then abu y p else [])):=by
 unfold abu
 rw[al6,pY,pY]
 congr 1
 ·split<;>simp
 ·congr 1<;>split<;>simp
theorem agq: ∀(t:Tr) (p:PtQ),(abu t p).length≤2*t.size
 | .leaf _,_=>bK _
 | .node l x y,p=>by
  have h1:=agq x p
  have h2:=agq y p
  rw[afI,aV,aV,Tr.size]
  split<;>split<;>split<;>simp only[bZ,dK]<;>omega
theorem anS{b:Bool}{p:PtQ}{o:List PtQ}:PB GB prog 151 (mkB [some (eU (.leaf b)),some (eZ p),none]) 6 104 (o.map eZ) (fun w=> .v (.slice w.a w.n w.c)) ((o++abu (.leaf b) p).map eZ):=by
 refine fnQ func151 J J ntmps151 J J (fun C=>?_)
 refine cl (fu:=⟨0⟩) rfl abR rfl<|?_
 refine kbT 10 rfl ?_
 refine gx rfl<|?_
 exact rzQ J J J (by show _=(o++[]).map eZ;rw[gR])
theorem awE{l:LnQ}{x y:Tr}{p:PtQ}{i:Nat}[hp:BPt p i](hl:LB l)(hi:i≤10000000){o:List PtQ}(hs:o.length+2*(Tr.node l x y).size≤1000000)(hz:Int.sign (l.value p).num=0)(ihx: ∀{o:List PtQ},o.length+2*x.size≤1000000→PB GB prog 151 (mkB [some (eU x),some (eZ p),none]) 6 104 (o.map eZ) (fun w=> .v (.slice w.a w.n w.c)) ((o++abu x p).map eZ))(ihy: ∀{o:List PtQ},o.length+2*y.size≤1000000→PB GB prog 151 (mkB [some (eU y),some (eZ p),none]) 6 104 (o.map eZ) (fun w=> .v (.slice w.a w.n w.c)) ((o++abu y p).map eZ)):PB GB prog 151 (mkB [some (eU (.node l x y)),some (eZ p),none]) 6 104 (o.map eZ) (fun w=> .v (.slice w.a w.n w.c)) ((o++abu (.node l x y) p).map eZ):=by
 haveI:=hl
 have hz2:(Tr.node l x y).size=1+x.size+y.size:=rfl
 have hp1:=agq x p
 refine fnQ func151 J J ntmps151 J J (fun C=>?_)
 refine cl (fu:=⟨0⟩) rfl abE rfl<|?_
 refine kbF 10 rfl ?_
 refine gx rfl<|cl (fu:=⟨7⟩) rfl (aiJ (l:=l) (p:=p) (i:=i) hi) rfl<|knT rfl (by show some (decide _)=some true;rw[decide_eq_true (by omega)]) rfl<|?_
 refine cl rfl (anL (l:=l)) rfl<|cl rfl (aAC (p:=l.dir) (i:=97)) rfl<|cl rfl (aBY (p:=aeg l.dir) (i:=500)) rfl<|rf J J<|?_
 refine apB (fu:=⟨7⟩) ((o++[aeg l.dir,ach (aeg l.dir)]).map eZ) rfl (by rw[bU]<;>rfl) (atj [aeg l.dir,ach (aeg l.dir)]) rfl<|knT rfl (by show some (decide _)=some true;rw[decide_eq_true (by omega)]) rfl<|?_
 refine cq (fu:=⟨7⟩) (((o++[aeg l.dir,ach (aeg l.dir)])++abu x p).map eZ) rfl (ihx (by rw[aV,bZ,bZ,dK];omega)) J J<|?_
 refine knT rfl (by show some (decide _)=some true;rw[decide_eq_true (by omega)]) rfl<|cq _ rfl (ihy (by rw[aV,aV,bZ,bZ,dK];omega)) J J<|?_
 exact rzQ J J J (by rw[afI,hz];simp)
theorem avT{l:LnQ}{x y:Tr}{p:PtQ}{i:Nat}[hp:BPt p i](hl:LB l)(hi:i≤10000000){o:List PtQ}(hs:o.length+2*(Tr.node l x y).size≤1000000)(hz:Int.sign (l.value p).num=1)(ihx: ∀{o:List PtQ},o.length+2*x.size≤1000000→PB GB prog 151 (mkB [some (eU x),some (eZ p),none]) 6 104 (o.map eZ) (fun w=> .v (.slice w.a w.n w.c)) ((o++abu x p).map eZ)):PB GB prog 151 (mkB [some (eU (.node l x y)),some (eZ p),none]) 6 104 (o.map eZ) (fun w=> .v (.slice w.a w.n w.c)) ((o++abu (.node l x y) p).map eZ):=by
 haveI:=hl
 have hz2:(Tr.node l x y).size=1+x.size+y.size:=rfl
 refine fnQ func151 J J ntmps151 J J (fun C=>?_)
 refine cl (fu:=⟨0⟩) rfl abE rfl<|?_
 refine kbF 10 rfl ?_
 refine gx rfl<|cl (fu:=⟨7⟩) rfl (aiJ (l:=l) (p:=p) (i:=i) hi) rfl<|knF (fu:=⟨9⟩) rfl (by show some (decide _)=some false;rw[decide_eq_false (by omega)]) rfl<|?_
 refine knT rfl (by show some (decide _)=some true;rw[decide_eq_true (by omega)]) rfl<|cq (fu:=⟨7⟩) _ rfl (ihx (by omega)) J J<|knF rfl (by show some (decide _)=some false;rw[decide_eq_false (by omega)]) rfl<|?_
 exact rzQ J J J (by rw[afI,hz];simp)
theorem awH{l:LnQ}{x y:Tr}{p:PtQ}{i:Nat}[hp:BPt p i](hl:LB l)(hi:i≤10000000){o:List PtQ}(hs:o.length+2*(Tr.node l x y).size≤1000000)(hz:Int.sign (l.value p).num= -1)(ihy: ∀{o:List PtQ},o.length+2*y.size≤1000000→PB GB prog 151 (mkB [some (eU y),some (eZ p),none]) 6 104 (o.map eZ) (fun w=> .v (.slice w.a w.n w.c)) ((o++abu y p).map eZ)):PB GB prog 151 (mkB [some (eU (.node l x y)),some (eZ p),none]) 6 104 (o.map eZ) (fun w=> .v (.slice w.a w.n w.c)) ((o++abu (.node l x y) p).map eZ):=by
 haveI:=hl
 have hz2:(Tr.node l x y).size=1+x.size+y.size:=rfl
 refine fnQ func151 J J ntmps151 J J (fun C=>?_)
 refine cl (fu:=⟨0⟩) rfl abE rfl<|?_
 refine kbF 10 rfl ?_
 refine gx rfl<|cl (fu:=⟨7⟩) rfl (aiJ (l:=l) (p:=p) (i:=i) hi) rfl<|knF (fu:=⟨9⟩) rfl (by show some (decide _)=some false;rw[decide_eq_false (by omega)]) rfl<|?_
 refine knF (fu:=⟨9⟩) rfl (by show some (decide _)=some false;rw[decide_eq_false (by omega)]) rfl<|knT rfl (by show some (decide _)=some true;rw[decide_eq_true (by omega)]) rfl<|?_
 refine cq _ rfl (ihy (by omega)) J J<|?_
 exact rzQ J J J (by rw[afI,hz];simp)
theorem amI{p:PtQ}{i:Nat}[hp:BPt p i](hi:i≤10000000:=by decide): ∀{t:Tr} {o:List PtQ},t.all LB→o.length+2*t.size≤1000000→PB GB prog 151 (mkB [some (eU t),some (eZ p),none]) 6 104 (o.map eZ) (fun w=> .v (.slice w.a w.n w.c)) ((o++abu t p).map eZ)
 | .leaf _,_,_,_=>anS
 | .node l x y,_,hb,hs=>by
  have hz2:(Tr.node l x y).size=1+x.size+y.size:=rfl
  rcases kY (l.value p).num 0 with h|h|h
  ·exact awH hb.1 hi hs (dT h) fun k=>amI hi hb.2.2 k
  ·exact awE hb.1 hi hs (by rw[h];rfl) (fun k=>amI hi hb.2.1 k) fun k=>amI hi hb.2.2 k
  ·exact avT hb.1 hi hs (eJ h) fun k=>amI hi hb.2.1 k
theorem auo{t:Tr}{p v:PtQ}{i j:Nat}[hp:BPt p i][hv:BPt v j](hb:t.all LB)(hi:i≤10000000:=by decide)(hj:j≤10000000:=by decide):PF GB prog 152 [eU t,eZ p,eZ v] (.tp [vB (afV t p v).1,vB (afV t p v).2]):=by
 refine fn func152 J J ntmps152 J J (fun C=>?_)
 refine lp (X:=Tr) (fun s=>[(0, .d (eU s))]) (fun s=>[]) (fun s=>afV s p v=afV t p v∧s.all LB) (fun s=>s.size) t rfl ⟨rfl,hb⟩ (fun _=>rfl) (fun s hk=>?_)
 obtain⟨h1,hb2⟩:=hk
 rcases s with b|⟨l,x,y⟩
 ·
  have hA:afV t p v=(b,true):=h1.symm
  refine cl (fu:=⟨0⟩) rfl abR rfl<|?_
  refine kbT 10 rfl ?_
  refine gx rfl<|?_
  exact rz rfl (by rw[hA];rfl)
 ·
  have hAn:=h1.symm
  rw[afV,adO] at hAn
  haveI:=hb2.1
  refine cl (fu:=⟨0⟩) rfl abE rfl<|?_
  refine kbF 10 rfl ?_
  refine gx rfl<|cl (fu:=⟨4⟩) rfl (aiJ (l:=l) (p:=p) (i:=i) hi) rfl<|?_
  refine mg (X:=Int) (fun s8=>[(8, .d (vI s8))]) (fun s8=>[]) (fun s8=>s8=(if(l.value p).num.sign=0 then(l.nor.dot v).num.sign else(l.value p).num.sign)) [8] [] rfl ?_ (fun _=>rfl) (fun s8 hs8=>?_)
  ·
   refine gx rfl<|?_
   refine br J J J (fun hc19=>?_) (fun hc19=>?_)
   ·
    refine cl rfl (apA (l:=l)) rfl<|cl rfl (aqf (p:=l.nor) (q:=v) (i:=97) (j:=j) (by decide) (by omega)) rfl<|cl rfl (acW (q:=l.nor.dot v) (by omega)) rfl<|?_
    exact at_ (l.nor.dot v).num.sign (if_pos hc19).symm
   ·
    exact at_ (l.value p).num.sign (if_neg hc19).symm
  ·
   rw[←hs8] at hAn
   refine br J J J (fun hc29=>?_) (fun hc29=>?_)
   ·
    exact at_ x ⟨⟨by rw[hAn,hc29];rfl,hb2.2.1⟩,(by simp only[Tr.size];omega)⟩
   ·
    refine br J J J (fun hc35=>?_) (fun hc35=>?_)
    ·
     exact at_ y ⟨⟨by rw[hAn,hc35];rfl,hb2.2.2⟩,(by simp only[Tr.size];omega)⟩
    ·
     exact rz rfl (by rw[hAn];split<;>first|rfl|contradiction)
theorem aC6{q:Rat}{i:Nat}[h:BQ q i](hi:i≤400000000:=by decide):PF GB prog 154 [eR q] (eF q):=by
 haveI:BN q.num.natAbs i:=⟨h.hn⟩
 haveI:BN q.den i:=⟨h.hd⟩
 refine fn func154 J J ntmps154 J J (fun C=>?_)
 refine cl (fu:=⟨0⟩) rfl (ad3 (n:=decide (q.num<0)) (a:=q.num.natAbs) (d:=q.den) (i:=i) (j:=i) (by omega) (by omega)) rfl<|?_
 refine eqF 7 (.d (eF q)) rfl (by rw[adn,sQ]) ?_
 refine gx rfl<|?_
 exact rz J J
theorem aCF{p:PtQ}{i:Nat}[h:BPt p i](hi:i≤400000000:=by decide):PF GB prog 76 [ePt p] (eZ p):=by
 refine fn func76 J J ntmps76 J J (fun C=>?_)
 refine cl rfl (aC6 (q:=p.x) (i:=i) hi) rfl<|cl rfl (aC6 (q:=p.y) (i:=i) hi) rfl<|?_
 exact rz J J
theorem aEn(G:Gh)(y:Value)(h:Is G (.sl [.ag [vI (fn_ 1),vI (fd_ 1),fp_ 1,vI 0,vI 0, .v (.pointer none)]]) y):Is G (.sl ((ae4 []).map eZ)) y:=by
 obtain⟨s,x,es,rfl,h1,h2⟩:=adm.1 h
 obtain⟨v,m,rfl,k,h3⟩:=aab.1 h2
 cases aaG.1 h3
 refine adm.2 ⟨s,x,_,rfl,h1, .cons ?_ .nil⟩
 obtain⟨m4,rfl,g4⟩:=abF.1 k
 obtain⟨v1,m1,rfl,k1,g1⟩:=aab.1 g4
 obtain⟨v2,m2,rfl,k2,g2⟩:=aab.1 g1
 obtain⟨v3,m3,rfl,k3,g3⟩:=aab.1 g2
 obtain⟨m5,q5,g5⟩:=abF.1 (aBM _ _ (abF.2 ⟨m3,rfl,g3⟩))
 cases q5
 exact abF.2 ⟨_,rfl, .cons k1 (.cons k2 (.cons k3 g5))⟩
theorem arU{ds:List PtQ}{k:Nat}{u w:PtQ}(h1:ds[k]? =some u)(h2:ds[(k+1)%ds.length]? =some w):aqT ds k=if 0<Int.sign (u.cross w).num then u.add w else ae8 u:=by
 unfold aqT
 rw[aK,aK,h1,h2];rfl
theorem anv(ds:List PtQ)(k:Nat):(List.range (k+1)).map (aqT ds)=(List.range k).map (aqT ds)++[aqT ds k]:=by rw[List.range_succ,bU];rfl
theorem aAt:PF GB prog 149 [.sl []] (.sl ((ae4 []).map eZ)):=by
 refine fn (fu:=⟨10⟩) func149 J J ntmps149 J J (fun C=>?_)
 refine knT rfl (by rfl) rfl<|cl rfl (ajS (by omega)) rfl<|rf J J<|?_
 exact rzI rfl aEn
theorem azI{ds:List PtQ}{i:Nat}(h0:0<ds.length)(hb: ∀d∈ds,BPt d i)(hn:ds.length≤10000000)(hi:i≤1000000:=by decide):PF GB prog 149 [.sl (ds.map eZ)] (.sl ((ae4 ds).map eZ)):=by
 have hml:(ds.map eZ).length=ds.length:=aJ ..
 refine fn (fu:=⟨10⟩) func149 J J ntmps149 J J (fun C=>?_)
 refine eqF 8 (.d (vI (ds.length:Nat))) rfl (by rw[hml]<;>rfl) ?_
 refine gx (fu:=⟨0⟩) rfl<|knF (fu:=⟨15⟩) rfl (by show some (decide _)=some false;rw[decide_eq_false (by omega)]) rfl<|?_
 refine eqF 14 (.d (vI (ds.length:Nat))) rfl (by rw[hml]<;>rfl) ?_
 refine gx rfl<|?_
 refine nr 3 3 104 6 J J J ?_
 refine lp (X:=List PtQ×Nat) (fun⟨acc,k⟩=>[(15, .d (vI (k:Nat))),(3, .rw 3)]) (fun⟨acc,k⟩=>[(3,some (.b 104 6 (acc.map eZ) true))]) (fun⟨acc,k⟩=>acc=(List.range k).map (aqT ds)∧k≤ds.length) (fun⟨acc,k⟩=>ds.length-k) ⟨[],0⟩ rfl ⟨rfl,bK _⟩ (fun _=>rfl) (fun⟨acc,k⟩ hk=>?_)
 try dsimp only at hk⊢
 obtain⟨h1,h2⟩:=hk
 have hal:acc.length=k:=by rw[h1,aJ,qR]
 have ham:(acc.map eZ).length=acc.length:=aJ ..
 refine br J J J (fun hc16=>?_) (fun hc16=>?_)
 ·
  obtain⟨u,hx⟩: ∃u,ds[k]? =some u:=⟨_,aZ (by omega)⟩
  obtain⟨w,hw⟩: ∃w,ds[(k+1)%ds.length]? =some w:=⟨_,aZ (dQ _ (by omega))⟩
  haveI:=hb u (bX hx)
  haveI:=hb w (bX hw)
  refine ix (fu:=⟨13⟩) _ rfl (aaB hx) rfl<|?_
  refine eqF 24 (.d (vI (ds.length:Nat))) rfl (by rw[hml]<;>rfl) ?_
  refine gx (fu:=⟨1⟩) rfl<|?_
  refine eqF 25 (.d (vI (((k+1)%ds.length:Nat):Int))) J J ?_
  refine gx rfl<|ix _ rfl (aaB hw) rfl<|cl rfl (apt (p:=u) (q:=w) (by omega) (by omega)) rfl<|cl rfl (acW (q:=u.cross w) (by omega)) rfl<|?_
  refine br J J J (fun hc32=>?_) (fun hc32=>?_)
  ·
   refine cl rfl (ax2 (p:=u) (q:=w) (by omega) (by omega)) rfl<|rf J J<|ap ((acc++[u.add w]).map eZ) rfl (by rw[bU]<;>rfl) (atj [u.add w]) rfl<|?_
   refine rnE 38 3 rfl ?_
   exact at_ ⟨acc++[u.add w],k+1⟩ (by dsimp only;exact⟨⟨by rw[anv,arU hx hw,if_pos hc32,←h1],by omega⟩,(by omega)⟩)
  ·
   refine cl rfl (azB (p:=u) (by omega)) rfl<|rf J J<|ap ((acc++[ae8 u]).map eZ) rfl (by rw[bU]<;>rfl) (atj [ae8 u]) rfl<|?_
   refine rnE 43 3 rfl ?_
   exact at_ ⟨acc++[ae8 u],k+1⟩ (by dsimp only;exact⟨⟨by rw[anv,arU hx hw,if_neg hc32,←h1],by omega⟩,(by omega)⟩)
 ·
  obtain rfl:k=ds.length:=by omega
  have hS:ae4 ds=acc:=by unfold ae4;rw[if_neg (by omega),h1]
  refine fzE 3 rfl ?_
  exact rz rfl (by rw[hS];rfl)
theorem arZ{ds:List PtQ}{i:Nat}(hb: ∀d∈ds,BPt d i)(hn:ds.length≤10000000)(hi:i≤1000000:=by decide):PF GB prog 149 [.sl (ds.map eZ)] (.sl ((ae4 ds).map eZ)):=by
 cases ds with
 |nil=>exact aAt
 |cons d ds=>exact azI (i:=i) (Nat.zero_lt_succ _) hb hn hi
def PW(GB:Gh)(P:Program)(f:FuncId)(l:List (Option DV))(s:Nat)(ty:TypeId)(dsi:List DV)(rv:DV)(dso:List DV):Prop:=
 ∀G w vs B,GLe GB G→aba G ⟨w,s,ty,dsi,false⟩ B→IsLs G (mkB l w) vs→FnO P f vs B G (fun v own' G'=>Is G' rv v∧aba G' ⟨w,s,ty,dso,false⟩ own')
theorem awL{B:List Own}{G:Gh}{w:SV}{s:Nat}{ty:TypeId}{ds:List DV}{lo:Bool}{ov:List Own}(h:aba G ⟨w,s,ty,ds,lo⟩ B)(g: ∀o∈B,o∈ov): ∃rest,ov.Perm (B++rest)∧ ∀o∈ov,(∀o'∈B,o.b≠o'.b)→o∈rest:=by
 rcases h with⟨vs',⟨_,_,e⟩|⟨b0,r0,lo0,_,e,_⟩,_⟩
 ·rw[e];exact⟨ov,List.Perm.refl _,fun o ho _=>ho⟩
 ·rw[e] at g⊢
  obtain⟨l1,l2,e2⟩:=kX (g _ aQ)
  rw[e2]
  refine⟨l1++l2,mQ,fun o ho hno=>?_⟩
  rcases bV.1 ho with ho|ho
  ·exact bS _ ho
  ·rcases aU.1 ho with rfl|ho
   ·exact absurd rfl (hno _ aQ)
   ·exact bN _ ho
section
variable {GB:Gh} {C:Ctx} {n:Nat} {Q0:Exit→Act→World→Prop} {fr fr':FrX} {own own':OwX} {cf cf':Cf} {vc:List Prop} {lk:LK} {bk:BM}
variable {dst:Option Nat} {t t' ty':TypeId} {pos:String} {af:Array Edge} {gd:Option (Nat×Bool)} {x y:Operand}
theorem awe{fo:Operand}{args:Array Operand}{tys:Array TypeId}{f:FuncId}{nm:Nat}{l:List (Option DV)}{s:Nat}{ty0:TypeId}{dsi dso:List DV}{lo:Bool}{rv:DV}
  (ha:amh lk fo args=some (f,nm,l))(hb:bk nm=some (.b ty0 s dsi lo))(hF:PW GB prog f l s ty0 dsi rv dso):OpR prog GB C n lk bk ⟨dst, .call ⟨.value fo,args,tys⟩,ty',pos,af,gd⟩ (.d rv) [(nm,some (.b ty0 s dso lo))] []:=by
 intro hd tl tb K' s1 s2 hf hk
 refine⟨fun ρ G ov a w r Q=>?_⟩
 have r1:=r.mono s1 s2
 unfold amh at ha
 split at ha<;>try (cases ha;done)
 rename_i h1
 split at ha<;>cases ha
 rename_i h2
 obtain⟨y,hy,hy'⟩:=r1.ev h1
 rw[(aaP (G:=G)).1 hy'] at hy
 obtain⟨B,g1,g2⟩:=r1.bx _ _ hb
 have hB:aba G ⟨ρ nm,s,ty0,dsi,lo⟩ B:=g1
 obtain⟨vs,h7,h8⟩:=ai1 r1 (z:=ρ nm) h2 (fun nm e=>by cases e;rfl)
 obtain⟨rest,h5,h6⟩:=awL hB g2
 refine ad0 (M:=B) (rest:=rest) hy h7 h5 (hF G (ρ nm) vs B r.gb hB.weak h8) hd (fun v own1 G' hG hK a' w' rl=>?_) a w Q ⟨r.h,r.sz,aaQ a,r.df⟩
 obtain⟨hr,vs',k1,k2,k3,k4⟩:=hK
 have k1':=k1.relo (flM B)
 have e2:lo=true→ ∀o∈own1.map (relo (flM B)),o.lo=true:=fun hl o ho=>by
  obtain⟨o',_,rfl⟩:=bL.1 ho
  obtain⟨_,_,_,_,hlo⟩:=hB
  exact agZ _ (hlo hl)
 generalize own1.map (relo (flM B))=B' at rl e2 k1'
 have r2:=r.upB (G':=G') (ov':=B'++rest) (w':=w') (B':= .b ty0 s dso lo) (os:=B') hG.le rl.h ⟨vs',by simpa using k1',k2,k3,e2⟩ (fun o ho=>bS _ ho)
  (fun o ho hne=>bN _ (h6 o ho fun o' ho' he=>hne (by rw[g1.blk ho',he]))) ⟨_,s2 _ _ hb⟩
 exact hk.run _ G' _ a' w' (r2.put hr (abg rl))
def aFp(fr:FrX)(own:OwX)(cf:Cf):Option (FuncId×Nat×List (Option DV)×TypeId×Nat×List DV×Bool):=match opC fr cf with
 |some ⟨_, .call ⟨.value fo,args,_⟩,_,_,_,_⟩=>match amh (lkC fr cf) fo args with
  |some (f,nm,l)=>match bkC fr own cf nm with
   |some (.b ty s ds lo)=>some (f,nm,l,ty,s,ds,lo)
   |_=>none
  |none=>none
 |_=>none
theorem cw[fu:Fu]{f:FuncId}{nm:Nat}{l:List (Option DV)}{ty:TypeId}{s:Nat}{dsi dso:List DV}{lo:Bool}{rv:DV}(dso':List DV)(ha:aFp fr own cf=some (f,nm,l,ty,s,dsi,lo))(hF:PW GB prog f l s ty dsi rv dso)(he:dso=dso')
  (hgo:goA tt n fu.n fr own cf (.d rv) [(nm,some (.b ty s dso' lo))] []=⟨vc,fr',own',cf'⟩)(k:CfS prog GB C n Q0 fr' own' cf')
  (hv:aai vc:=by first|exact trivial|(simp only[aai];kernel_rfl)|(simp only[aai];omega)|(simp only[aai,aJ,aR,aW];omega)):CfS prog GB C n Q0 fr own cf:=by
 subst he
 unfold aFp at ha
 split at ha<;>try (cases ha;done)
 rename_i hh
 split at ha<;>try (cases ha;done)
 rename_i h1
 split at ha<;>cases ha
 rename_i h2
 exact us hh (awe h1 h2 hF) hgo hv k
/-! slices of a row -/
theorem ayv{G:Gh}{w:SV}{s:Nat}{ty:TypeId}{ds:List DV}{lo:Bool}{B:List Own}(h:aba G ⟨w,s,ty,ds,lo⟩ B)(hn:0<ds.length): ∃b,w=⟨some ⟨b,0,none⟩,ds.length,w.c⟩∧ds.length≤w.c:=by
 obtain⟨vs,h1,h2,_⟩:=h
 rcases h1 with⟨e1,_,_⟩|⟨b,rest,lo',e1,_,_,_,h5⟩
 ·subst e1;have:=h2.len;simp at this;omega
 ·exact⟨b,by rw[←h2.len];exact e1,by rw[←h2.len];exact h5⟩
theorem aA2{P:Program}{e s by_:Nat}[hT:acv P t e s by_]{nm:Nat}{k:IntKind}{j m:Nat}{ty:TypeId}{ds:List DV}{lo:Bool}(hx:evX lk x=some (.rw nm))(hb:bk nm=some (.b ty s ds lo))(hy:evX lk y=some (.d (.v (.int k j))))(hm:j+m=ds.length)(h1:0<m):
  OpR P GB C n lk bk ⟨dst, .slice t x (some y) none none,ty',pos,af,gd⟩ (.rs nm s j m) [] []:= .yd fun ρ G ov a w r=>by
 obtain⟨u,hu,hu2⟩:=r.ev hx
 cases (show u=_ from hu2)
 obtain⟨v,hv,hv2⟩:=r.ev hy
 rw[aav] at hv2;subst hv2
 obtain⟨B,hB,_⟩:=r.row (y:= .nilFunc) hb
 obtain⟨b,hw,hc⟩:=ayv hB (by omega)
 rw[hw] at hu
 have hs:=aeT (P:=P) (C:=C) (own:=ov) (G:=G) (dst:=dst) (ty':=ty') (pos:=pos) (af:=af) (gd:=gd) (t:=t) hu hv (by omega) (by show(j:Int)≤(ds.length:Nat);omega)
 have hne:(ρ nm).c≠j:=by omega
 refine⟨_,⟨b,(ρ nm).c-j,by rw[hw],?_,?_⟩,hs⟩
 ·unfold aoh
  rw[aL,if_neg hne,jK,aco,dJ,show ds.length-j=m by omega]
 ·omega
theorem aCm{P:Program}{e s by_:Nat}[hT:acv P t e s by_]{nm sz off m:Nat}(hx:evX lk x=some (.rs nm sz off m)):OpR P GB C n lk bk ⟨dst, .call ⟨.builtin .len, #[x], #[t]⟩,ty',pos,af,gd⟩ (.d (.v (.int .i64 (m:Nat)))) [] []:= .x1 hx fun ρ G ov a w y _ r h1 h2=>by
 obtain⟨b,c,_,rfl,_⟩:=h2
 exact⟨_,aav.2 rfl,aeh h1⟩
theorem aDf{P:Program}{e s by_:Nat}[hT:acv P t e s by_]{nm off m j:Nat}{k:IntKind}{i:Int}(hx:evX lk x=some (.rs nm s off m))(hy:evX lk y=some (.d (.v (.int k i))))(h0:0≤i)(h1:i<(m:Nat))(hj:(off:Int)+i=(j:Nat)):
  OpR P GB C n lk bk ⟨dst, .indexAddr t x y,ty',pos,af,gd⟩ (.be nm s j 0) [] []:= .yd fun ρ G ov a w r=>by
 obtain⟨u,hu,hu2⟩:=r.ev hx
 obtain⟨b,c,hb,rfl,hc⟩:=hu2
 obtain⟨v,hv,hv2⟩:=r.ev hy
 rw[aav] at hv2;subst hv2
 have:=agQ (P:=P) (C:=C) (own:=ov) (G:=G) (dst:=dst) (ty':=ty') (pos:=pos) (af:=af) (gd:=gd) (t:=t) hu hv h0 h1
 obtain rfl:off+i.toNat=j:=by omega
 exact⟨_,⟨b,hb,rfl⟩,by rw[dW,cW];exact this⟩
def aFM(fr:FrX)(own:OwX)(cf:Cf):Option (Nat×Nat×List DV×Int):=match opC fr cf with
 |some ⟨_, .slice t x (some y) none none,_,_,_,_⟩=>match abi tt t with
  |some ⟨.sl _ s' _,_,_,_⟩=>match evX (lkC fr cf) x with
   |some (.rw nm)=>match bkC fr own cf nm with
    |some (.b _ s ds _)=>match evX (lkC fr cf) y with
     |some (.d (.v (.int _ i)))=>bif Nat.beq s s' then some (nm,s,ds,i) else none
     |_=>none
    |_=>none
   |_=>none
  |_=>none
 |_=>none
theorem rsl[fu:Fu]{nm s:Nat}{ds:List DV}{i:Int}(k m:Nat)(h:aFM fr own cf=some (nm,s,ds,i))(hi:i=(k:Nat))(hm:k+m=ds.length)(hp:0<m)(hgo:goA tt n fu.n fr own cf (.rs nm s k m) [] []=⟨vc,fr',own',cf'⟩)(kk:CfS prog GB C n Q0 fr' own' cf')
  (hv:aai vc:=by first|exact trivial|(simp only[aai];kernel_rfl)|(simp only[aai];omega)|(simp only[aai,aJ,aR,aW];omega)):CfS prog GB C n Q0 fr own cf:=by
 subst hi
 unfold aFM at h
 split at h<;>try (cases h;done)
 rename_i hh
 split at h<;>try (cases h;done)
 rename_i hT
 split at h<;>try (cases h;done)
 rename_i hx
 split at h<;>try (cases h;done)
 rename_i hb
 split at h<;>try (cases h;done)
 rename_i hy
 rw[cond_eq_ite] at h
 split at h<;>cases h
 rename_i hq
 cases aY hq
 have:=ad6 (abJ _ _ hT) rfl
 exact us hh (aA2 hx hb hy hm hp) hgo hv kk
def aFs(fr:FrX)(cf:Cf):Option Nat:=match opC fr cf with
 |some ⟨_, .call ⟨.builtin .len,⟨[x]⟩,⟨[t]⟩⟩,_,_,_,_⟩=>match abi tt t with
  |some ⟨.sl _ _ _,_,_,_⟩=>match evX (lkC fr cf) x with
   |some (.rs _ _ _ m)=>some m
   |_=>none
  |_=>none
 |_=>none
theorem rsn[fu:Fu]{m:Nat}(h:aFs fr cf=some m)(hgo:goA tt n fu.n fr own cf (.d (.v (.int .i64 (m:Nat)))) [] []=⟨vc,fr',own',cf'⟩)(kk:CfS prog GB C n Q0 fr' own' cf')
  (hv:aai vc:=by first|exact trivial|(simp only[aai];kernel_rfl)|(simp only[aai];omega)|(simp only[aai,aJ,aR,aW];omega)):CfS prog GB C n Q0 fr own cf:=by
 unfold aFs at h
 split at h<;>try (cases h;done)
 rename_i hh
 split at h<;>try (cases h;done)
 rename_i hT
 split at h<;>cases h
 rename_i hx
 have:=ad6 (abJ _ _ hT) rfl
 exact us hh (aCm hx) hgo hv kk
def aFg(fr:FrX)(cf:Cf):Option (Nat×Nat×Nat×Nat×Int):=match opC fr cf with
 |some ⟨_, .indexAddr t x y,_,_,_,_⟩=>match abi tt t with
  |some ⟨.sl _ s' _,_,_,_⟩=>match evX (lkC fr cf) x with
   |some (.rs nm s off m)=>match evX (lkC fr cf) y with
    |some (.d (.v (.int _ i)))=>bif Nat.beq s s' then some (nm,s,off,m,i) else none
    |_=>none
   |_=>none
  |_=>none
 |_=>none
theorem rsi[fu:Fu]{nm s off m:Nat}{i:Int}(k:Nat)(h:aFg fr cf=some (nm,s,off,m,i))(hk:(off:Int)+i=(k:Nat))(h0:0≤i)(h1:i<(m:Nat))(hgo:goA tt n fu.n fr own cf (.be nm s k 0) [] []=⟨vc,fr',own',cf'⟩)(kk:CfS prog GB C n Q0 fr' own' cf')
  (hv:aai vc:=by first|exact trivial|(simp only[aai];kernel_rfl)|(simp only[aai];omega)|(simp only[aai,aJ,aR,aW];omega)):CfS prog GB C n Q0 fr own cf:=by
 unfold aFg at h
 split at h<;>try (cases h;done)
 rename_i hh
 split at h<;>try (cases h;done)
 rename_i hT
 split at h<;>try (cases h;done)
 rename_i hx
 split at h<;>try (cases h;done)
 rename_i hy
 rw[cond_eq_ite] at h
 split at h<;>cases h
 rename_i hq
 cases aY hq
 have:=ad6 (abJ _ _ hT) rfl
 exact us hh (aDf hx hy h0 h1 hk) hgo hv kk
/-! a row cut short, under a new name -/
theorem Buf.cut{s:Nat}{ty:TypeId}{z:SV}{vs:List Value}{B:List Own}(h:Buf s ty z vs B)(hs: ∀v∈vs,(aaf v).length=s){k:Nat}(hk:k≤vs.length)(hne:0<vs.length):Buf s ty ⟨z.a,k,z.c⟩ (vs.take k) B:=by
 rcases h with⟨h1,_,_⟩|⟨b,rest,lo,h1,h2,h3,h4,h5⟩
 ·subst h1;simp at hne
 ·have e:aag vs=aag (vs.take k)++aag (vs.drop k):=by rw[←abd,jR]
  have hl:=aao (vs.take k) fun v hv=>hs v (cM hv)
  have hm:(vs.take k).length=k:=by rw[cK];omega
  refine .inr ⟨b,aag (vs.drop k)++rest,lo,by rw[hm,h1],by rw[h2,e,cR],hl,?_,by rw[hm];show k≤z.c;omega⟩
  show _=z.c*s
  rw[←h4,e,aV,aV];omega
theorem aC9{P:Program}{e s by_:Nat}[hT:acv P t e s by_]{nm d:Nat}{k:IntKind}{j:Nat}{ty:TypeId}{ds:List DV}{lo:Bool}(hne:Nat.beq nm d=false)(hx:evX lk x=some (.rw nm))(hb:bk nm=some (.b ty s ds lo))(hy:evX lk y=some (.d (.v (.int k j))))(h1:j<ds.length):
  OpR P GB C n lk bk ⟨some d, .slice t x none (some y) none,ty',pos,af,gd⟩ (.rw d) [(nm,none),(d,some (.b ty s (ds.take j) lo))] [d]:=by
 intro hd tl tb K s1 s2 hf hk
 refine⟨fun ρ G ov a w r Q=>?_⟩
 have r1:=r.mono s1 s2
 obtain⟨u,hu,hu2⟩:=r1.ev hx
 cases (show u=_ from hu2)
 obtain⟨v,hv,hv2⟩:=r1.ev hy
 rw[aav] at hv2;subst hv2
 obtain⟨B,hB0,hBo⟩:=r1.bx _ _ hb
 have hB:aba G ⟨ρ nm,s,ty,ds,lo⟩ B:=hB0
 obtain⟨b,hw,hc⟩:=ayv hB (by omega)
 obtain⟨vs,g1,g2,g3,g4⟩:=hB
 have hvl:=g2.len
 have hcut:aba G ⟨⟨(ρ nm).a,j,(ρ nm).c⟩,s,ty,ds.take j,lo⟩ B:=⟨vs.take j,Buf.cut g1 g3 (by simp only at hvl⊢;omega) (by simp only at hvl⊢;omega),g2.take _,fun v hv=>g3 v (cM hv),g4⟩
 have hs:=acz (P:=P) (C:=C) (own:=ov) (G:=G) (dst:=some d) (ty':=ty') (pos:=pos) (af:=af) (gd:=gd) (t:=t) hu hv (by omega) (by omega)
 have hnn:nm≠d:=fun e=>by subst e;rw[nQ] at hne;cases hne
 have r2:=r.dropB nm
 have hf2:acQ [d] (some d) tl (Sx.upB tb [(nm,none)]):=fun q hq=>by
  obtain⟨f1,f2⟩:=hf q hq
  refine⟨f1,fun k B e1 e=>?_⟩
  simp only[Sx.upB] at e
  split at e
  ·cases e
  ·exact f2 k B e1 e
 have r3:=r2.new' (x:=⟨(ρ nm).a,j,(ρ nm).c⟩) (B':= .b ty s (ds.take j) lo) (os:=B) (ov':=ov) (f:= .rw d) (y:= .slice (ρ nm).a j (ρ nm).c) hf2 (GLe.refl _) r.h (hcut.toBk (by simp)) hBo
  (fun m B' hm e o ho hmo=>⟨ho,fun hc=>by
   simp only[Sx.upB] at e
   split at e
   ·cases e
   ·rename_i hmn
    exact r.dj m nm B' _ e (s2 _ _ hb) hmn _ hmo hc⟩) (by simp[IsX]) (r.putA (.slice (ρ nm).a j (ρ nm).c) hd)
 exact abb (hs a w (aaQ a) r.h) (hk.run _ G _ _ w r3)
def aFq(fr:FrX)(own:OwX)(cf:Cf):Option (Nat×Nat×TypeId×Nat×List DV×Bool×Int):=match opC fr cf with
 |some ⟨some d, .slice t x none (some y) none,_,_,_,_⟩=>match abi tt t with
  |some ⟨.sl _ s' _,_,_,_⟩=>match evX (lkC fr cf) x with
   |some (.rw nm)=>match bkC fr own cf nm with
    |some (.b ty s ds lo)=>match evX (lkC fr cf) y with
     |some (.d (.v (.int _ i)))=>bif Nat.beq s s'&&!Nat.beq nm d then some (d,nm,ty,s,ds,lo,i) else none
     |_=>none
    |_=>none
   |_=>none
  |_=>none
 |_=>none
theorem rct[fu:Fu]{d nm s:Nat}{ty:TypeId}{ds:List DV}{lo:Bool}{i:Int}(ds':List DV)(k:Nat)(h:aFq fr own cf=some (d,nm,ty,s,ds,lo,i))(hi:i=(k:Nat))(hl:k<ds.length)(hd:ds.take k=ds')(hgo:goA tt n fu.n fr own cf (.rw d) [(nm,none),(d,some (.b ty s ds' lo))] [d]=⟨vc,fr',own',cf'⟩)(kk:CfS prog GB C n Q0 fr' own' cf')
  (hv:aai vc:=by first|exact trivial|(simp only[aai];kernel_rfl)|(simp only[aai];omega)|(simp only[aai,aJ,aR,aW];omega)):CfS prog GB C n Q0 fr own cf:=by
 subst hi hd
 unfold aFq at h
 split at h<;>try (cases h;done)
 rename_i hh
 split at h<;>try (cases h;done)
 rename_i hT
 split at h<;>try (cases h;done)
 rename_i hx
 split at h<;>try (cases h;done)
 rename_i hb
 split at h<;>try (cases h;done)
 rename_i hy
 rw[cond_eq_ite] at h
 split at h<;>cases h
 rename_i hq
 simp only[cX,fL] at hq
 cases aY hq.1
 have:=ad6 (abJ _ _ hT) rfl
 exact us hh (aC9 hq.2 hx hb hy hl) hgo hv kk
/-! the rest of a row cleared -/
theorem amz(v:Value)(m:Nat):aag (List.replicate m v)=aa2 v m:=by
 unfold aa2
 induction m with
 |zero=>rfl
 |succ m ih=>rw[iQ,iQ,kK,←ih];rfl
theorem aph{G:Gh}{z:DV}{v:Value}(h:Is G z v): ∀m:Nat,IsLs G (List.replicate m z) (List.replicate m v)
 |0=> .nil
 |m+1=>by rw[iQ,iQ];exact .cons h (aph h m)
theorem aBx{P:Program}{e s by_:Nat}[hT:acv P t e s by_]{i:TI}{z:DV}(hi:afh P e=some i)(hz:zeE i=some z)(hzs:z.cells.length=s){nm off m:Nat}{ty:TypeId}{ds:List DV}{lo:Bool}(hx:evX lk x=some (.rs nm s off (m+1)))(hb:bk nm=some (.b ty s ds lo))(hm:off+(m+1)=ds.length):
  OpR P GB C n lk bk ⟨dst, .call ⟨.builtin .clear, #[x], #[t]⟩,ty',pos,af,gd⟩ (.d (.tp [])) [(nm,some (.b ty s (ds.take off++List.replicate (m+1) z) lo))] []:=by
 intro hd tl tb K s1 s2 hf hk
 refine⟨fun ρ G ov a w r Q=>?_⟩
 have r1:=r.mono s1 s2
 obtain⟨v,hz1,hz2,hz3⟩:=air hi hz
 have cz:=((hz2 G).cells hz3).1.len
 have cf:=((hz2 G).cells hz3).2
 rw[hzs] at cz
 obtain⟨u,hu,b,c,hbq,rfl,hc⟩:=r1.ev hx
 obtain⟨B,hB0,hBo⟩:=r1.bx _ _ hb
 have hB:aba G ⟨ρ nm,s,ty,ds,lo⟩ B:=hB0
 obtain⟨vs,g1,g2,g3,g4⟩:=hB
 simp only at g1 g2 g3 g4
 have hvl:=g2.len
 rcases g1 with⟨e1,e2,_⟩|⟨b',rest,lo',k1,k2,k3,k4,k5⟩
 ·subst e1;simp at hvl;omega
 ·have hbe:b'=b:=by rw[k1] at hbq;cases hbq;rfl
  subst hbe
  subst k2
  have hmem:=hBo _ aQ
  have hblk:=(r.h.hown _ hmem).1
  simp only at hblk
  have hzl:(aa2 v (m+1)).length=(m+1)*s:=by rw[abn,cz]
  have hls:vs.length*s=off*s+(m+1)*s:=by rw[←cW];congr 1;omega
  have hst:=abS (P:=P) (aa2 v (m+1)) w (off*s) 0 (aag vs++rest) (fun q hq=>by
   unfold aa2 at hq
   obtain⟨l,hl,hql⟩:=List.mem_flatten.1 hq
   rw[lQ hl] at hql
   exact cf q hql) hblk (by rw[hzl,aV];omega)
  rw[dW] at hst
  have htk:=aao (vs.take off) fun q hq=>g3 q (cM hq)
  have hov:ovw (aag vs++rest) (off*s) (aa2 v (m+1))=aag (vs.take off++List.replicate (m+1) v)++rest:=by
   rw[acr _ _ _ (by rw[hzl,aV];omega),abd,amz]
   have e1:(aag vs++rest).take (off*s)=aag (vs.take off):=by
    rw[dV (by omega),afw vs off g3 (by omega)]
   rw[e1,hzl,←hls,iU (by omega),fR (by omega),iR]
  have hrun:(Builtin.clear_ #[t] ty' #[.slice (some ⟨b',off*s,none⟩) (m+1) c]).run P w= .ok (.tuple #[]) (abw w b' (.cells ⟨aag (vs.take off++List.replicate (m+1) v)++rest⟩ ty (0,0))):=by
   unfold Builtin.clear_
   show(underlying t>>=_).run P w=_
   rw[aaa (hT.u w)]
   show(zeroValue e>>=fun q=>storeCells ⟨b',off*s,none⟩ (Builtin.zeroCells q.cells (m+1)).toList>>=fun _=>pure (Value.tuple #[])).run P w=_
   rw[aaa (hz1.zero w)]
   show(storeCells ⟨b',off*s,none⟩ (Builtin.zeroCells v.cells (m+1)).toList>>=fun _=>pure (Value.tuple #[])).run P w=_
   rw[acp,aha,aaa (hov▸hst)];rfl
  obtain⟨own',u1,u2,u3⟩:=agk.of_mem (cs':=aag (vs.take off++List.replicate (m+1) v)++rest) hmem
  have r2:=r.upB (G':=G) (ov':=own') (w':=abw w b' (.cells ⟨aag (vs.take off++List.replicate (m+1) v)++rest⟩ ty (0,0))) (B':= .b ty s (ds.take off++List.replicate (m+1) z) lo) (os:=[⟨b',aag (vs.take off++List.replicate (m+1) v)++rest,ty,lo'⟩]) (GLe.refl _) (r.h.store u1)
   ⟨vs.take off++List.replicate (m+1) v, .inr ⟨b',rest,lo',?_,rfl,?_,?_,?_⟩,(g2.take _).app (aph (hz2 G) _),?_,?_⟩ (fun o ho=>by rw[aS.1 ho];exact u2) (fun o ho hne=>u3 o ho fun e=>hne (by rw[hbq,e])) ⟨_,s2 _ _ hb⟩
  ·have h3:=hk.run _ G _ _ _ (r2.put (f:= .d (.tp [])) (y:= .tuple #[]) (adL.2 ⟨[],rfl, .nil⟩) (r2.putA (.tuple #[]) hd))
   refine abb (v:= .tuple #[]) ?_ h3
   simp only[execOp,resolve,fT,bW,gX,aac (aaQ a) hu]
   exact aam hrun
  ·rw[k1,aV,cK,aW,fU (by omega)]
   simp only[SV.mk.injEq,true_and,and_true];omega
  ·refine aao _ fun q hq=>?_
   rcases bV.1 hq with hq|hq
   ·exact g3 q (cM hq)
   ·rw[lQ hq,cz]
  ·rw[abd,amz,aV,htk,hzl,cK,fU (by omega)]
   omega
  ·rw[aV,cK,aW,fU (by omega)];omega
  ·intro q hq
   rcases bV.1 hq with hq|hq
   ·exact g3 q (cM hq)
   ·rw[lQ hq,cz]
  ·intro hl o ho
   have:=g4 hl _ aQ
   rw[aS.1 ho];exact this
def aFh(fr:FrX)(own:OwX)(cf:Cf):Option (Nat×TypeId×Nat×List DV×Bool×Nat×Nat×DV):=match opC fr cf with
 |some ⟨_, .call ⟨.builtin .clear,⟨[x]⟩,⟨[t]⟩⟩,_,_,_,_⟩=>match abi tt t with
  |some ⟨.sl e s' _,_,_,_⟩=>match evX (lkC fr cf) x with
   |some (.rs nm s off m)=>match bkC fr own cf nm with
    |some (.b ty s2 ds lo)=>match abi tt e with
     |some i=>match zeE i with
      |some z=>bif Nat.beq s s'&&(Nat.beq s s2&&Nat.beq z.cells.length s) then some (nm,ty,s,ds,lo,off,m,z) else none
      |none=>none
     |none=>none
    |_=>none
   |_=>none
  |_=>none
 |_=>none
theorem rcl[fu:Fu]{nm s off m:Nat}{ty:TypeId}{ds:List DV}{lo:Bool}{z:DV}(ds':List DV)(h:aFh fr own cf=some (nm,ty,s,ds,lo,off,m,z))(hm:off+m=ds.length)(hp:0<m)(hd:ds.take off++List.replicate m z=ds')(hgo:goA tt n fu.n fr own cf (.d (.tp [])) [(nm,some (.b ty s ds' lo))] []=⟨vc,fr',own',cf'⟩)(kk:CfS prog GB C n Q0 fr' own' cf')
  (hv:aai vc:=by first|exact trivial|(simp only[aai];kernel_rfl)|(simp only[aai];omega)|(simp only[aai,aJ,aR,aW];omega)):CfS prog GB C n Q0 fr own cf:=by
 subst hd
 obtain⟨m,rfl⟩: ∃q,m=q+1:=⟨m-1,by omega⟩
 unfold aFh at h
 split at h<;>try (cases h;done)
 rename_i hh
 split at h<;>try (cases h;done)
 rename_i hT
 split at h<;>try (cases h;done)
 rename_i hx
 split at h<;>try (cases h;done)
 rename_i hb
 split at h<;>try (cases h;done)
 rename_i hi
 split at h<;>try (cases h;done)
 rename_i hz
 rw[cond_eq_ite] at h
 split at h<;>cases h
 rename_i hq
 simp only[cX] at hq
 cases aY hq.1
 cases aY hq.2.1
 have:=ad6 (abJ _ _ hT) rfl
 exact us hh (aBx (abJ _ _ hi) hz (aY hq.2.2) hx hb hm) hgo hv kk
end
theorem as2{u v:PtQ}{i j:Nat}[hp:BPt u i][hq:BPt v j](hi:i≤10000000:=by decide)(hj:j≤10000000:=by decide):PF GB prog 211 [eZ u,eZ v] (vB (decide (aaC u v=0))):=by
 refine fn func211 J J ntmps211 J J (fun C=>?_)
 refine cl rfl (an2 (u:=u) (v:=v) hi hj) rfl<|?_
 exact rz J J
def alY(x:PtQ):List PtQ→List PtQ
 |[]=>[]
 |y::l=>if aaC y x=0 then alY y l else y::alY y l
def ajQ:List PtQ→List PtQ
 |[]=>[]
 |x::l=>x::alY x l
theorem alD{l:List PtQ}{k:Nat}{x y:PtQ}(h:l[k]? =some y):alY x (l.drop k)=if aaC y x=0 then alY y (l.drop (k+1)) else y::alY y (l.drop (k+1)):=by
 obtain⟨h1,h2⟩:=bQ.1 h
 rw[aN h1,h2,alY]
theorem arq{l:List PtQ}{k:Nat}{y:PtQ}(h:l[k]? =some y):l.take (k+1)=l.take k++[y]:=by
 rw[iW,h];rfl
def vZ:DV:= .ag [vI 0,vI 0, .v (.pointer none),vI 0,vI 0, .v (.pointer none)]
theorem ava(l:List PtQ)(k:Nat)(y:PtQ):(l.map eZ).set k (eZ y)=(l.set k y).map eZ:=(jY ..).symm
theorem aoL{l:List PtQ}(h:l.length<2):ajQ l=l:=by
 cases l with
 |nil=>rfl
 |cons x l=>cases l with
  |nil=>rfl
  |cons y l=>simp at h;omega
theorem azD{l:List PtQ}{x:PtQ}(h:l[0]? =some x):ajQ l=l.take 1++alY x (l.drop 1):=by
 cases l with
 |nil=>cases h
 |cons y l=>cases h;rfl
theorem ass{r l:List PtQ}{a b:Nat}(h:a≤b)(e:r.drop a=l.drop a):r[b]? =l[b]? :=by
 have:=congrArg (·[b-a]?) e
 simpa[nM,show a+(b-a)=b by omega] using this
theorem auE{r l:List PtQ}{a b:Nat}(h:a≤b)(e:r.drop a=l.drop a):r.drop b=l.drop b:=by
 have:=congrArg (List.drop (b-a)) e
 simpa[sZ,show a+(b-a)=b by omega] using this
theorem alF{r:List PtQ}{i:Nat}{u:PtQ}(h:i<r.length):(r.set i u).take (i+1)=r.take i++[u]:=by
 rw[iW,lU h,List.take_set_of_le (aM _)];rfl
theorem aui{r:List PtQ}{i:Nat}(h:i<r.length):(r.map eZ)[(i:Int).toNat]? =some (eZ r[i]):=by simp[h]
theorem atr{l:List PtQ}{i0:Nat}(hb: ∀d∈l,BPt d i0)(hn:l.length≤10000000)(hi:i0≤10000000):PB GB prog 210 (mkB [none,some (.v (.func (.func 211) #[] #[]))]) 6 104 (l.map eZ) (fun w=> .v (.slice w.a w.n w.c)) ((ajQ l).map eZ):=by
 have hml:(l.map eZ).length=l.length:=aJ ..
 refine fnQ (fu:=⟨10⟩) func210 J J ntmps210 J J (fun C=>?_)
 refine eqF 9 (.d (vI (l.length:Nat))) rfl (by rw[hml]<;>rfl) ?_
 refine gx rfl<|?_
 refine br J J J (fun hc10=>?_) (fun hc10=>?_)
 ·
  exact rzQ J J J (by rw[aoL (by omega)])
 ·
  obtain⟨x0,hx0⟩: ∃x,l[0]? =some x:=⟨_,aZ (by omega)⟩
  refine lp (fu:=⟨6⟩) (X:=Nat×PtQ) (fun⟨k,x⟩=>[(5, .d (vI (k:Nat)))]) (fun⟨k,x⟩=>[]) (fun⟨k,x⟩=>1≤k∧k≤l.length∧l[k-1]? =some x∧ajQ l=l.take k++alY x (l.drop k)) (fun⟨k,x⟩=>l.length-k) ⟨1,x0⟩ rfl ⟨aM _,by omega,hx0,by rw[azD hx0]⟩ (fun _=>rfl) (fun⟨k,x⟩ hk=>?_)
  try dsimp only at hk⊢
  obtain⟨h1,h2,h3,h4⟩:=hk
  refine eqF 14 (.d (vI (l.length:Nat))) rfl (by rw[hml]<;>rfl) ?_
  refine gx rfl<|?_
  refine br J J J (fun hc15=>?_) (fun hc15=>?_)
  ·
   obtain⟨y,hy⟩: ∃y,l[k]? =some y:=⟨_,aZ (by omega)⟩
   haveI:=hb y (bX hy)
   haveI:=hb x (bX h3)
   refine lb (fu:=⟨3⟩) _ rfl (aaB hy) rfl<|?_
   refine eqF 25 (.d (vI ((k-1:Nat):Int))) rfl (by rw[Int.ofNat_sub h1]<;>rfl) ?_
   refine gx rfl<|lb (fu:=⟨0⟩) _ rfl (aaB h3) rfl<|cl rfl (as2 (u:=y) (v:=x) hi hi) rfl<|?_
   refine bd (fu1:=⟨4⟩) J J J (fun hc28=>?_) (fun hc28=>?_)
   ·
    have hc28':=hc28
    refine rsl k (l.length-k) J J (by omega) (by omega) rfl<|?_
    refine lp (fu:=⟨5⟩) (X:=Nat×Nat×PtQ×List PtQ) (fun⟨i,m,z,r⟩=>[(5, .d (vI (i:Nat))),(7, .d (vI (m:Nat)))]) (fun⟨i,m,z,r⟩=>[(1000000,some (.b 104 6 (r.map eZ) false))]) (fun⟨i,m,z,r⟩=>1≤m∧k+m≤l.length∧i+1≤k+m∧r.length=l.length∧r.drop (k+m-1)=l.drop (k+m-1)∧l[k+m-1]? =some z∧ajQ l=r.take i++alY z (l.drop (k+m))) (fun⟨i,m,z,r⟩=>l.length-m) ⟨k,1,y,l⟩ rfl ⟨aM _,by omega,by omega,rfl,rfl,by rw[kZ];exact hy,by rw[h4,alD hy,if_pos hc28']⟩ (fun _=>rfl) (fun⟨i,m,z,r⟩ hk=>?_)
    try dsimp only at hk⊢
    obtain⟨g1,g2,g3,g4,g5,g6,g7⟩:=hk
    have hrl:(r.map eZ).length=r.length:=aJ ..
    refine rsn J J<|?_
    refine br (fu1:=⟨9⟩) (fu2:=⟨9⟩) J J J (fun hc35=>?_) (fun hc35=>?_)
    ·
     obtain⟨u,hu⟩: ∃u,l[k+m]? =some u:=⟨_,aZ (by omega)⟩
     haveI:=hb u (bX hu)
     haveI:=hb z (bX g6)
     have g8:r[k+m]? =some u:=by rw[←hu];exact ass (by omega) g5
     have g10:r[k+m-1]? =some z:=by rw[←g6];exact ass (aM _) g5
     have g9:r.drop (k+m)=l.drop (k+m):=auE (by omega) g5
     refine rsi (k+m) rfl (by omega) (by omega) (by omega) rfl<|lb (fu:=⟨3⟩) _ rfl (aaB g8) rfl<|rsi (k+m-1) rfl (by omega) (by omega) (by omega) rfl<|?_
     refine lb (fu:=⟨0⟩) _ rfl (aaB g10) rfl<|cl rfl (as2 (u:=u) (v:=z) hi hi) rfl<|?_
     refine bb (fu1:=⟨6⟩) J J J (fun hc49=>?_) (fun hc49=>?_)
     ·
      have hc49': ¬aaC u z=0:=by simpa using hc49
      refine rsi (k+m) rfl (by omega) (by omega) (by omega) rfl<|lb _ rfl (aaB g8) rfl<|sb _ ((r.set i u).map eZ) rfl (aui (by omega)) rfl (by rw[←ava]<;>rfl) rfl<|?_
      exact at_ ⟨i+1,m+1,u,r.set i u⟩ (by dsimp only;exact⟨⟨by omega,by omega,by omega,by rw[aR];exact g4,by rw[show k+(m+1)-1=k+m by omega,pJ (by omega)];exact g9,by rw[show k+(m+1)-1=k+m by omega];exact hu,by rw[g7,alD hu,if_neg hc49',alF (by omega),cR];rfl⟩,(by omega)⟩)
     ·
      have hc49':aaC u z=0:=by simpa using hc49
      exact at_ ⟨i,m+1,u,r⟩ (by dsimp only;exact⟨⟨by omega,by omega,by omega,g4,by rw[show k+(m+1)-1=k+m by omega];exact g9,by rw[show k+(m+1)-1=k+m by omega];exact hu,by rw[g7,alD hu,if_pos hc49'];rfl⟩,(by omega)⟩)
    ·
     obtain hm:k+m=l.length:=by omega
     refine rsl i (l.length-i) J J (by omega) (by omega) rfl<|rcl (fu:=⟨6⟩) _ rfl (by rw[hrl];omega) (by omega) J J<|rct ((r.take i).map eZ) i J J (by rw[aV,cK,aW,hrl];omega) (by rw[dV (by rw[cK,hrl];omega),List.take_take,Nat.min_self,gV]) rfl<|?_
     exact rzQ J J J (by rw[g7,hm,fZ,alY,gR])
   ·
    have hc28':=hc28
    exact at_ ⟨k+1,y⟩ (by dsimp only;exact⟨⟨by omega,by omega,hy,by rw[h4,alD hy,if_neg hc28',arq hy,cR];rfl⟩,(by omega)⟩)
  ·
   exact rzQ J J J (by rw[h4,show k=l.length by omega,fZ,alY,gR,fK])
theorem avU{v:Value}(h:Go.Sx.flat v=true):v.oneCell'=true:=by cases v<;>first|rfl|cases h
theorem aiq{α:Type}{k:Nat}: ∀(l:List (List α)) (t:Nat),(∀x∈l,x.length=k)→t<l.length*k→l.flatten[t]? =(l[t/k]?).bind (·[t%k]?)
 |[],t,_,h=>by simp at h
 |x::l,t,h,ht=>by
  have hx:=h x aQ
  have hk:0<k:=by
   rcases eY k with e|e
   ·subst e;simp at ht
   ·exact e
  rw[kK]
  by_cases q:t<k
  ·rw[fX (by omega),iL q,fQ q];rfl
  ·rw[fV (by omega),hx,aiq l (t-k) (fun y hy=>h y (aX _ hy)) (by rw[bZ,cW] at ht;omega)]
   have e1:t/k=(t-k)/k+1:=by rw[Nat.div_eq_sub_div hk (by omega)]
   have e2:t%k=(t-k)%k:=by rw[Nat.mod_eq_sub_mod (by omega)]
   rw[e1,e2];rfl
section
variable {α:Type} [Inhabited α]
theorem avd(enc:α→List Value)(k:Nat)(hk: ∀x,(enc x).length=k)(d:Array α):(Go.Sort.flatK enc k d).toList=(d.toList.map enc).flatten:=by
 apply jT
 intro t
 have hlen:(d.toList.map enc).flatten.length=d.size*k:=by
  have: ∀l:List α,(l.map enc).flatten.length=l.length*k:=fun l=>by
   induction l with
   |nil=>simp
   |cons x l ih=>rw[bW,kK,aV,ih,hk,bZ,cW];omega
  simpa using this d.toList
 by_cases ht:t<d.size*k
 ·have hk0:0<k:=by
   rcases eY k with e|e
   ·subst e;simp at ht
   ·exact e
  have hi:t/k<d.size:=rK (by rwa [bM])
  rw[aiq (k:=k) _ _ (fun x hx=>by obtain⟨y,_,rfl⟩:=bL.1 hx;exact hk y) (by simpa using ht)]
  simp only[Go.Sort.flatK,qN,Array.toList_range,dR]
  rw[rS ht]
  have hj:t%k<(enc d[t/k]).length:=by rw[hk];exact dQ _ hk0
  simp only[jK]
  rw[getElem!_pos d (t/k) hi,getElem!_pos (enc d[t/k]) (t%k) hj]
  simp[hi,hj]
 ·rw[cS (by simp[Go.Sort.flatK];omega),cS (by rw[hlen];omega)]
theorem ash(enc:α→List Value)(k:Nat)(w:World)(b m:Nat)(dk:Array α)(os:Array Obj){q:Nat}(hq:q<w.heap.size):
  (sortWorldK enc k w b 0 m dk os).heap[q]? =if q=b then(w.heap[q]?).map (Go.Sort.onCells (Go.Sort.putCells id 0 (Go.Sort.flatK enc k dk))) else w.heap[q]? :=by
 show((w.heap.modify b _)++os)[q]? =_
 rw[mX (by simpa using hq),Array.getElem?_modify]
 by_cases e:b=q
 ·subst e;simp
 ·simp[e,Ne.symm e]
theorem at6{F:Array Value}{xs rest:List Value}(h:xs.length=F.size):Go.Sort.putCells id 0 F ⟨xs++rest⟩=⟨F.toList++rest⟩:=by
 apply Array.ext'
 apply jT
 intro k
 simp only[Go.Sort.putCells,Array.toList_mapIdx,List.getElem?_mapIdx]
 by_cases hk:k<F.size
 ·rw[fX (by omega),fX (by simpa using hk),aZ (by omega)]
  simp[hk]
 ·rw[fV (by omega),fV (by simp;omega),h]
  simp only[pK]
  cases rest[k-F.size]? with
  |none=>rfl
  |some v=>simp[hk]
end
def arl{A:Type}(cf:A→A→Int)(ds:List A):List A:=ds.mergeSort fun x y=>!decide (cf y x<0)
theorem aes{A:Type}(cf:A→A→Int)(ds:List A):(arl cf ds).Perm ds:=List.mergeSort_perm ..
theorem aoV{A:Type}{cf:A→A→Int}(hO:Go.Sort.SWO (Go.Proofs.ltOf cf))(ds:List A):(arl cf ds).Pairwise fun x y=> ¬cf y x<0:=by
 have:=List.pairwise_mergeSort (le:=fun x y=>!decide (cf y x<0)) (fun a b c h1 h2=>by
  have h1':Go.Proofs.ltOf cf b a=false:=by simpa[Go.Proofs.ltOf] using h1
  have h2':Go.Proofs.ltOf cf c b=false:=by simpa[Go.Proofs.ltOf] using h2
  have:=hO.ntrans c b a h2' h1'
  simpa[Go.Proofs.ltOf] using this) (fun a b=>by
  cases h1:Go.Proofs.ltOf cf b a with
  |false=>
   have: ¬cf b a<0:=by simpa[Go.Proofs.ltOf] using h1
   simp;omega
  |true=>
   cases h2:Go.Proofs.ltOf cf a b with
   |false=>
    have: ¬cf a b<0:=by simpa[Go.Proofs.ltOf] using h2
    simp;omega
   |true=>have:=hO.trans _ _ _ h1 h2;rw[hO.irrefl] at this;cases this) ds
 exact this.imp fun h=>by simpa using h
theorem aES{P:Program}{ρ:Go.Shelf.Ren}{GB:Gh}(L:SlLaysF0.n6 P ρ)(ha:ado P (ρ.f 6)){s:Nat}(hAg: ∀w,(isAgg (ρ.t 24)).run P w= .ok true w)(hZs: ∀w,(sizeOf (ρ.t 24)).run P w= .ok s w)
  {A:Type}(e:A→DV)(V:A→Prop)(hA: ∀x,∃l,e x= .ag l∧(DV.ag l).okc=true∧l.length=s)(cf:A→A→Int)(hO:Go.Sort.SWO (Go.Proofs.ltOf cf)){g:FuncId}(hg:ado P g)
  (hc: ∀x y,V x→V y→PF GB P g [e x,e y] (.v (.int .i64 (cf x y)))){ty:TypeId}{ds:List A}(hV: ∀x∈ds,V x)(hn:ds.length<4611686018427387904)(hu: ∀x∈ds,∀y∈ds,¬cf x y<0→ ¬cf y x<0→x=y):
  PW GB P (ρ.f 6) [none,some (.v (.func (.func g) #[] #[]))] s ty (ds.map e) (.tp []) ((arl cf ds).map e):=by
 intro G z vs B hgb hB hvs
 refine⟨ha,fun w hw=>?_⟩
 obtain⟨v1,m1,rfl,q1,hvs⟩:=aab.1 hvs
 obtain⟨v2,m2,rfl,q2,hvs⟩:=aab.1 hvs
 cases aaG.1 hvs
 rw[aaP] at q1 q2
 subst q1 q2
 obtain⟨es,k1,k2,k3,_⟩:=hB
 simp only at k1 k2 k3
 have hlen:es.length=ds.length:=by rw[k2.len,aJ]
 by_cases h0:ds=[]
 ·subst h0
  have hes:es=[]:=bT (by simpa using hlen)
  have hz:z.n=0:=by rw[k1.len,hes];rfl
  rw[hz]
  refine(AnyF.slices_SortFunc_none L z.a z.c _ w).mono fun r w' ⟨h1,h2⟩=>?_
  subst h2
  exact⟨_,asB B,G,h1,hw,adL.2 ⟨[],rfl, .nil⟩,es,k1.asB,by subst hes;show IsLs G ((arl cf []).map e) [];unfold arl;rw[List.mergeSort_nil];exact .nil,k3,fun h=>by cases h⟩
 ·have hpos:0<es.length:=by rw[hlen];exact lW.2 h0
  rcases k1 with⟨e1,_,_⟩|⟨b,rest,lo,e1,e2,e3,e4,e5⟩
  ·rw[e1] at hpos;simp at hpos
  subst e2
  -- elements with their cells
  have lift: ∀{ds:List A} {es:List Value},IsLs G (ds.map e) es→(∀x∈ds,V x)→ ∃qs:List {q:A×List Value//V q.1∧Is G (e q.1) (.agg ⟨q.2⟩)},qs.map (·.1.1)=ds∧qs.map (fun q=>Value.agg ⟨q.1.2⟩)=es:=by
   intro ds
   induction ds with
   |nil=>intro es h _;cases aaG.1 h;exact⟨[],rfl,rfl⟩
   |cons x ds ih=>
    intro es h hV
    obtain⟨y,n,rfl,g1,g2⟩:=aab.1 h
    obtain⟨qs,g3,g4⟩:=ih g2 fun x hx=>hV x (aX _ hx)
    obtain⟨l,hl,_⟩:=hA x
    have g1':=g1
    rw[hl] at g1'
    obtain⟨m,rfl,_⟩:=abF.1 g1'
    exact⟨⟨(x,m),hV x aQ,g1⟩::qs,by simp[g3],by simp[g4]⟩
  obtain⟨qs,hq1,hq2⟩:=lift k2 hV
  have:Inhabited {q:A×List Value//V q.1∧Is G (e q.1) (.agg ⟨q.2⟩)}:=⟨qs.head (fun e=>by rw[e] at hq1;exact h0 hq1.symm)⟩
  let enc:{q:A×List Value//V q.1∧Is G (e q.1) (.agg ⟨q.2⟩)}→List Value:=fun q=>q.1.2
  have henc: ∀q,(enc q).length=s∧ ∀v∈enc q,Go.Sx.flat v=true:=fun q=>by
   obtain⟨l,hl,h1,h2⟩:=hA q.1.1
   have h3:=q.2.2
   rw[hl] at h3
   obtain⟨m,hm,h4⟩:=abF.1 h3
   cases hm
   exact⟨by show q.1.2.length=s;rw[h4.len,h2],fun v hv=>h4.flat h1 v hv⟩
  have hk: ∀q,(enc q).length=s:=fun q=>(henc q).1
  have hqs:qs.toArray.size=es.length:=by rw[mM,←hq2,aJ]
  have hfl: ∀d:Array {q:A×List Value//V q.1∧Is G (e q.1) (.agg ⟨q.2⟩)},(Go.Sort.flatK enc s d).toList=aag (d.toList.map fun q=>Value.agg ⟨q.1.2⟩):=fun d=>by
   rw[avd enc s hk]
   unfold aag
   rw[List.map_map];rfl
  have hfe:(Go.Sort.flatK enc s qs.toArray).toList=aag es:=by rw[hfl,←hq2]
  have hown:=hw.hown ⟨b,aag es++rest,ty,false⟩ aQ
  obtain⟨hb,hGb,_,_⟩:=hown
  simp only at hb hGb
  have hblt:=acU hb
  have hH:Go.Sort.HoldsK enc s w b 0 qs.toArray:=by
   intro j hj
   refine⟨?_,by simp[World.frozen?,hb]⟩
   rw[acL hb,dJ]
   have hj':j<(aag es).length:=by rw[←hfe];simpa using hj
   rw[fX hj',←hfe]
   show _=some ((Go.Sort.flatK enc s qs.toArray)[j]!)
   rw[getElem!_pos _ j hj]
   simp
  have hsz: ∀dk:Array {q:A×List Value//V q.1∧Is G (e q.1) (.agg ⟨q.2⟩)},dk.size=qs.toArray.size→(aag es).length=(Go.Sort.flatK enc s dk).size:=fun dk hd=>by rw[←hfe];simp[hd]
  have hblk: ∀(m:Nat) (os:Array Obj) (dk:Array _),dk.size=qs.toArray.size→(sortWorldK enc s w b 0 m dk os).heap[b]? =some (.cells ⟨(Go.Sort.flatK enc s dk).toList++rest⟩ ty (0,0)):=fun m os dk hd=>by
   rw[ash enc s w b m dk os hblt,if_pos rfl,hb]
   show some (Obj.cells (Go.Sort.putCells id 0 (Go.Sort.flatK enc s dk) ⟨aag es++rest⟩) ty (0,0))=_
   rw[at6 (hsz dk hd)]
  have hoth: ∀(m:Nat) (os:Array Obj) (dk:Array _) (q:Nat),q<w.heap.size→q≠b→(sortWorldK enc s w b 0 m dk os).heap[q]? =w.heap[q]? :=fun m os dk q hq hne=>by rw[ash enc s w b m dk os hq,if_neg hne]
  have hsub: ∀(m:Nat) (os:Array Obj) (dk:Array _) (c:Nat) (cs:List Value),G c=some cs→ ∃ty fz,(sortWorldK enc s w b 0 m dk os).heap[c]? =some (.cells ⟨cs⟩ ty fz):=fun m os dk c cs hcs=>by
   obtain⟨ty',fz,h⟩:=hw.sub c cs hcs
   exact⟨ty',fz,by rw[hoth m os dk c (acU h) (fun e=>by subst e;rw[hGb] at hcs;cases hcs)];exact h⟩
  have hsize: ∀(m:Nat) (os:Array Obj) (dk:Array _),w.heap.size≤(sortWorldK enc s w b 0 m dk os).heap.size:=fun m os dk=>by
   show _≤((w.heap.modify b _)++os).size
   simp
  have hcmp:Go.Proofs.CmpLays P g #[] enc s (fun q r=>cf q.1.1 r.1.1) b 0 qs.toArray.size w:=by
   intro m os dk _ x y
   have hF:=hc x.1.1 y.1.1 x.2.1 y.2.1 G [.agg ⟨x.1.2⟩, .agg ⟨y.1.2⟩] hgb (.cons x.2.2 (.cons y.2.2 .nil))
   refine(hF.run _ (hsub m os dk)).mono fun r W ⟨v,G',h1,h2,h3⟩=>?_
   rw[aaP] at h3
   subst h3
   refine⟨h1,W.drawn-(sortWorldK enc s w b 0 m dk os).drawn,W.heap.extract (sortWorldK enc s w b 0 m dk os).heap.size W.heap.size,?_⟩
   have hdr:=h2.dr
   have hos:=h2.os
   have htp:=h2.tape
   have hou:=h2.output
   have hkp:=h2.keep
   have hss:=h2.size
   simp only at hdr hos htp hou hkp hss
   generalize sortWorldK enc s w b 0 m dk os=W0 at*
   cases W with
   |mk heap tape drawn os' output=>
    simp only at*
    unfold Go.Sort.grow World.drewN
    simp only[World.mk.injEq]
    refine⟨?_,htp,by omega,hos,hou⟩
    apply Array.ext_getElem?
    intro k
    rw[Array.getElem?_append]
    split
    ·rename_i hk';exact hkp k hk' (by simp)
    ·rename_i hk'
     rw[Array.getElem?_extract]
     split
     ·congr 1;omega
     ·rw[qK (by omega)]
  have hO':Go.Sort.SWO (Go.Proofs.ltOf fun(q r:{q:A×List Value//V q.1∧Is G (e q.1) (.agg ⟨q.2⟩)})=>cf q.1.1 r.1.1):=⟨fun x=>hO.irrefl x.1.1,fun x y z=>hO.trans x.1.1 y.1.1 z.1.1,fun x y z=>hO.ntrans x.1.1 y.1.1 z.1.1⟩
  have hrun:=AnyQ.slices_SortFunc L s hAg hZs enc hk (fun q v hv=>avU ((henc q).2 v hv)) (fun q r=>cf q.1.1 r.1.1) hO' g #[] b 0 z.c qs.toArray w (fun args w=>ahI hg args w) hcmp hH hblt (by rw[hqs,hlen];exact hn)
  have ez:z=⟨some ⟨b,0,none⟩,qs.toArray.size,z.c⟩:=by rw[hqs];exact e1
  have ea:(⟨[Value.slice z.a z.n z.c, .func (.func g) #[] #[]]⟩:Array Value)= #[.slice (some ⟨b,0,none⟩) qs.toArray.size z.c, .func (.func g) #[] #[]]:=by rw[ez]
  rw[ea]
  refine hrun.mono fun r w' ⟨h1,d',n,os,hp,hs,h2⟩=>?_
  subst h2
  have hdz:d'.size=qs.toArray.size:=hp.1
  have hperm:d'.toList.Perm qs:=by
   have:=hp.2.2
   have e1:d'.toList.take qs.length=d'.toList:=aT (by rw[pK,hdz];simp)
   simpa[e1] using this
  have hasc:d'.toList.Pairwise fun x y=> ¬cf y.1.1 x.1.1<0:=by
   rw[List.pairwise_iff_getElem]
   intro i j hi hj hij
   have:=hs i j (bK _) hij (by rw[←hdz];simpa using hj)
   rw[getElem!_pos d' j (by simpa using hj),getElem!_pos d' i (by simpa using hi)] at this
   simpa[Go.Proofs.ltOf] using this
  have hds:d'.toList.map (·.1.1)=arl cf ds:=by
   refine List.Perm.eq_of_pairwise (le:=fun x y=> ¬cf y x<0) (fun x y hx hy k1 k2=>?_) ?_ (aoV hO ds) ?_
   ·have m1:x∈ds:=by
     obtain⟨q,hq,rfl⟩:=bL.1 hx
     rw[←hq1];exact bL.2 ⟨q,hperm.mem_iff.1 hq,rfl⟩
    exact hu x m1 y ((aes cf ds).mem_iff.1 hy) k2 k1
   ·rw[qV];exact hasc
   ·refine(hperm.map _).trans ?_
    rw[hq1];exact(aes cf ds).symm
  have hlen':(d'.toList.map fun q=>Value.agg ⟨q.1.2⟩).length=es.length:=by rw[aJ,pK,hdz,hqs]
  have hIs: ∀l:List {q:A×List Value//V q.1∧Is G (e q.1) (.agg ⟨q.2⟩)},IsLs G ((l.map (·.1.1)).map e) (l.map fun q=>Value.agg ⟨q.1.2⟩):=fun l=>by
   induction l with
   |nil=>exact .nil
   |cons q l ih=>exact .cons q.2.2 ih
  have hcell: ∀v∈d'.toList.map (fun q=>Value.agg ⟨q.1.2⟩),(aaf v).length=s:=fun v hv=>by
   obtain⟨q,_,rfl⟩:=bL.1 hv
   exact hk q
  refine⟨_,[⟨b,aag (d'.toList.map fun q=>Value.agg ⟨q.1.2⟩)++rest,ty,false⟩],G,h1,?_,adL.2 ⟨[],rfl, .nil⟩,d'.toList.map (fun q=>Value.agg ⟨q.1.2⟩), .inr ⟨b,rest,false,by rw[hlen'];exact e1,rfl,aao _ hcell,?_,by rw[hlen'];exact e5⟩,by rw[←hds];exact hIs _,hcell,fun h=>by cases h⟩
  ·refine⟨rfl,rfl,rfl,hsize n os d',fun q hq hqm=>hoth n os d' q hq fun e=>hqm (by rw[e];exact aQ),hsub n os d',GLe.refl _,fun _ _=>rfl,fun o ho=>?_,List.pairwise_singleton _ _,?_⟩
   ·rw[aS.1 ho]
    exact⟨by rw[←hfl];exact hblk n os d' hdz,hGb,(fun h=>by cases h),fun _=>aQ⟩
   ·show w.drawn≤w.drawn+n
    omega
  ·rw[←e4,aao _ hcell,e3,hlen']
theorem alU(u:PtQ): ¬Bef u u:=by
 rintro (h|⟨_,h⟩)
 ·omega
 ·have:u.cross u=0:=by unfold PtQ.cross;grind
  rw[this] at h;exact absurd h (by decide)
theorem avo{u v:PtQ}(h:Bef u v)(k:Bef v u):False:=alU u (agK h k)
theorem aAX{a b c:PtQ}(h:Bef c a):Bef c b∨Bef b a:=by
 by_cases h1:c.half<b.half
 ·exact .inl (.inl h1)
 ·by_cases h2:b.half<a.half
  ·exact .inr (.inl h2)
  ·rcases h with h|⟨h,k⟩
   ·omega
   ·have e1:c.half=b.half:=by omega
    have e2:b.half=a.half:=by omega
    by_cases q1:0<c.cross b
    ·exact .inl (.inr ⟨e1,q1⟩)
    ·by_cases q2:0<b.cross a
     ·exact .inr (.inr ⟨e2,q2⟩)
     ·exfalso
      have i1:b.y*c.cross a=a.y*c.cross b+c.y*b.cross a:=by unfold PtQ.cross;grind
      have i2:b.x*c.cross a=a.x*c.cross b+c.x*b.cross a:=by unfold PtQ.cross;grind
      have q1':c.cross b≤0:=by grind
      have q2':b.cross a≤0:=by grind
      rcases aaT b with⟨eb,kb⟩|⟨eb,kb⟩|⟨eb,kb⟩<;>rcases aaT a with⟨ea,ka⟩|⟨ea,ka⟩|⟨ea,ka⟩<;>rcases aaT c with⟨ec,kc⟩|⟨ec,kc⟩|⟨ec,kc⟩<;>first|omega|skip
      ·have ha:0≤a.y:=by grind
       have hc:0≤c.y:=by grind
       rcases kb with kb|⟨kb,kb'⟩
       ·have g1:=nT ha (show 0≤ -c.cross b by grind)
        have g2:=nT hc (show 0≤ -b.cross a by grind)
        have g3:=aad kb k
        grind
       ·have hx:b.cross a=b.x*a.y:=by unfold PtQ.cross;rw[kb];grind
        have ha0:a.y=0:=by
         rcases ka with ka|ka
         ·have:=aad kb' ka;grind
         ·exact ka.1
        have hax:0<a.x:=by grind
        have hy:c.cross a= -(c.y*a.x):=by unfold PtQ.cross;rw[ha0];grind
        have:=nT hc (show 0≤a.x by grind)
        grind
      ·have ha:0≤ -a.y:=by grind
       have hc:0≤ -c.y:=by grind
       rcases kb with kb|⟨kb,kb'⟩
       ·have g1:=nT ha (show 0≤ -c.cross b by grind)
        have g2:=nT hc (show 0≤ -b.cross a by grind)
        have g3:=aad (show 0< -b.y by grind) k
        grind
       ·have hx:b.cross a=b.x*a.y:=by unfold PtQ.cross;rw[kb];grind
        have ha0:a.y=0:=by
         rcases ka with ka|ka
         ·have:=aad (show 0< -b.x by grind) (show 0< -a.y by grind);grind
         ·exact ka.1
        have hax:0< -a.x:=by grind
        have hy:c.cross a= -(c.y*a.x):=by unfold PtQ.cross;rw[ha0];grind
        have:=nT hc (show 0≤ -a.x by grind)
        grind
      ·have hy:c.cross a=0:=by unfold PtQ.cross;rw[ka.1,ka.2];grind
       rw[hy] at k;exact absurd k (by decide)
theorem asv:Go.Sort.SWO (Go.Proofs.ltOf aaC):=by
 have e: ∀x y,Go.Proofs.ltOf aaC x y=true↔Bef x y:=fun x y=>by rw[←aeb];simp[Go.Proofs.ltOf]
 have e2: ∀x y,Go.Proofs.ltOf aaC x y=false↔ ¬Bef x y:=fun x y=>by rw[←e];simp
 refine⟨fun x=>(e2 x x).2 (alU x),fun x y z h k=>(e x z).2 (agK ((e x y).1 h) ((e y z).1 k)),fun x y z h k=>(e2 x z).2 fun q=>?_⟩
 rcases aAX (b:=y) q with q|q
 ·exact(e2 x y).1 h q
 ·exact(e2 y z).1 k q
theorem axU: ∀{l m:List PtQ},l.Pairwise Bef→m.Pairwise Bef→(∀x,x∈l↔x∈m)→l=m
 |[],[],_,_,_=>rfl
 |[],b::m,_,_,h=>absurd ((h b).2 aQ) (by simp)
 |a::l,[],_,_,h=>absurd ((h a).1 aQ) (by simp)
 |a::l,b::m,h1,h2,h=>by
  obtain⟨p1,p2⟩:=bR.1 h1
  obtain⟨q1,q2⟩:=bR.1 h2
  have e:a=b:=by
   rcases aU.1 ((h a).1 aQ) with e|e
   ·exact e
   ·rcases aU.1 ((h b).2 aQ) with f|f
    ·exact f.symm
    ·exact(avo (q1 a e) (p1 b f)).elim
  subst e
  congr 1
  refine axU p2 q2 fun x=>⟨fun hx=>?_,fun hx=>?_⟩
  ·rcases aU.1 ((h x).1 (aX _ hx)) with e|e
   ·subst e;exact(alU _ (p1 _ hx)).elim
   ·exact e
  ·rcases aU.1 ((h x).2 (aX _ hx)) with e|e
   ·subst e;exact(alU _ (q1 _ hx)).elim
   ·exact e
def an8(l:List PtQ):Prop:= ∀x∈l,∀y∈l,aaC x y=0→x=y
theorem asS{x y:PtQ}(h: ¬Bef x y)(k: ¬Bef y x):aaC x y=0:=by
 rw[←aeb] at h k
 unfold aaC at*
 split at h<;>try omega
 split at h<;>try omega
 split at k<;>try omega
 rw[show y.cross x= -(x.cross y) by unfold PtQ.cross;grind,lS,Int.sign_neg] at k
 omega
theorem aym: ∀{l:List PtQ} {x:PtQ},(x::l).Pairwise (fun a b=> ¬Bef b a)→an8 (x::l)→(alY x l).Pairwise Bef∧(∀y∈alY x l,Bef x y)∧ ∀y,y∈x::alY x l↔y∈x::l
 |[],_,_,_=>⟨.nil,(fun y hy=>by cases hy),fun _=>Iff.rfl⟩
 |z::l,x,h,ht=>by
  obtain⟨p1,p2⟩:=bR.1 h
  obtain⟨i1,i2,i3⟩:=aym p2 fun a ha b hb=>ht a (aX _ ha) b (aX _ hb)
  rw[alY]
  by_cases e:aaC z x=0
  ·rw[if_pos e]
   obtain rfl:=ht z (by simp) x (by simp) e
   exact⟨i1,i2,fun y=>by rw[i3];simp⟩
  ·rw[if_neg e]
   have hb:Bef x z:=by
    by_cases q:Bef x z
    ·exact q
    ·exact absurd (asS (p1 z aQ) q) e
   refine⟨bR.2 ⟨i2,i1⟩,fun y hy=>?_,fun y=>?_⟩
   ·rcases aU.1 hy with rfl|hy
    ·exact hb
    ·exact agK hb (i2 y hy)
   ·rw[aU,i3,aU (b:=x) (l:=z::l)]
theorem ao8: ∀(l:List PtQ) (x:PtQ),(alY x l).length≤l.length
 |[],_=>aM _
 |y::l,x=>by
  have:=ao8 l y
  rw[alY]
  split<;>simp only[bZ]<;>omega
theorem atU(l:List PtQ):(ajQ l).length≤l.length:=by
 cases l with
 |nil=>exact aM _
 |cons x l=>have:=ao8 l x;simp only[ajQ,bZ];omega
theorem aAm{l:List PtQ}(h:l.Pairwise fun a b=> ¬Bef b a)(ht:an8 l):(ajQ l).Pairwise Bef∧ ∀y,y∈ajQ l↔y∈l:=by
 cases l with
 |nil=>exact⟨.nil,fun _=>Iff.rfl⟩
 |cons x l=>
  obtain⟨i1,i2,i3⟩:=aym h ht
  exact⟨bR.2 ⟨i2,i1⟩,i3⟩
theorem apy{l:List PtQ}(ht:an8 l)(y:PtQ):y∈ah0 l↔y∈l:=by
 have h2: ∀y,y∈ah0 l→y∈l:=fun y hy=>by
  rcases afk aaC hy with h|h
  ·exact h
  ·cases h
 refine⟨h2 y,fun hy=>?_⟩
 obtain⟨e,e1,e2⟩:=akX aaC (o:=[]) hy
 rcases e2 with rfl|e2
 ·exact e1
 ·rw[←ht e (h2 e e1) y hy e2];exact e1
theorem aqi{l:List PtQ}(ht:an8 l):ajQ (arl aaC l)=ah0 l:=by
 have hm: ∀y,y∈arl aaC l↔y∈l:=fun y=>(aes aaC l).mem_iff
 have h1:(arl aaC l).Pairwise fun a b=> ¬Bef b a:=(aoV asv l).imp fun h=>by rw[←aeb];exact h
 obtain⟨k1,k2⟩:=aAm h1 fun a ha b hb=>ht a ((hm a).1 ha) b ((hm b).1 hb)
 exact axU k1 (aqg l) fun x=>by rw[k2,hm,apy ht]
theorem au4{t:Tr}(ht:t.all LnQ.ok)(p:PtQ):an8 (abu t p):=fun x hx y hy h=>by
 obtain⟨l,k1,k2⟩:=abQ.1 hx
 obtain⟨m,k3,k4⟩:=abQ.1 hy
 obtain⟨a1,a2⟩:=acf k1
 obtain⟨b1,b2⟩:=acf k3
 exact ayk (adB ht _ a1) (adB ht _ b1) a2 b2 k2 k4 h
end Go.Sx
end
section
namespace Go.Proofs
open Go.Shelf
def Tryz.sortPt_ren:Go.Shelf.Ren:=⟨fun|6=>208|15=>255|14=>254|28=>294|29=>295|20=>286|21=>287|22=>288|23=>289|24=>290|25=>291|26=>292|27=>293|46=>307|47=>308|48=>309|49=>310|50=>311|57=>320|n=>n,fun|22=>230|24=>104|25=>287|3=>3|39=>290|0=>0|53=>262|55=>282|4=>4|46=>366|45=>365|50=>359|5=>5|9=>9|66=>384|70=>388|76=>394|77=>395|n=>n,fun|n=>n⟩
theorem Tryz.sortPt:Go.Proofs.SlLaysF0.n6 Tryz.prog Tryz.sortPt_ren:={
 mixed:=by kernel_rfl
 f6:=⟨Tryz.f208.name,by decide,Tryz.func208.trans (congrArg some (by kernel_rfl))⟩
 f14:=⟨Tryz.f254.name,by decide,Tryz.func254.trans (congrArg some (by kernel_rfl))⟩
 f15:=Tryz.func255.trans (congrArg some (by kernel_rfl))
 f20:=⟨Tryz.f286.name,by decide,Tryz.func286.trans (congrArg some (by kernel_rfl))⟩
 f21:=⟨Tryz.f287.name,by decide,Tryz.func287.trans (congrArg some (by kernel_rfl))⟩
 f22:=⟨Tryz.f288.name,by decide,Tryz.func288.trans (congrArg some (by kernel_rfl))⟩
 f23:=⟨Tryz.f289.name,by decide,Tryz.func289.trans (congrArg some (by kernel_rfl))⟩
 f24:=⟨Tryz.f290.name,by decide,Tryz.func290.trans (congrArg some (by kernel_rfl))⟩
 f25:=⟨Tryz.f291.name,by decide,Tryz.func291.trans (congrArg some (by kernel_rfl))⟩
 f26:=⟨Tryz.f292.name,by decide,Tryz.func292.trans (congrArg some (by kernel_rfl))⟩
 f27:=⟨Tryz.f293.name,by decide,Tryz.func293.trans (congrArg some (by kernel_rfl))⟩
 f28:=Tryz.func294.trans (congrArg some (by kernel_rfl))
 f29:=Tryz.func295.trans (congrArg some (by kernel_rfl))
 f46:=⟨Tryz.f307.name,by decide,Tryz.func307.trans (congrArg some (by kernel_rfl))⟩
 f47:=Tryz.func308.trans (congrArg some (by kernel_rfl))
 f48:=Tryz.func309.trans (congrArg some (by kernel_rfl))
 f49:=⟨Tryz.f310.name,by decide,Tryz.func310.trans (congrArg some (by kernel_rfl))⟩
 f50:=⟨Tryz.f311.name,by decide,Tryz.func311.trans (congrArg some (by kernel_rfl))⟩
 f57:=⟨Tryz.f320.name,by decide,Tryz.func320.trans (congrArg some (by kernel_rfl))⟩
 t0:=Tryz.underlying0
 a0:=Tryz.isAgg0
 z0:=Tryz.sizeOf0
 v0:=Tryz.zeroValue0
 t3:=Tryz.underlying3
 a3:=Tryz.isAgg3
 z3:=Tryz.sizeOf3
 v3:=Tryz.zeroValue3
 t4:=Tryz.underlying4
 a4:=Tryz.isAgg4
 z4:=Tryz.sizeOf4
 v4:=Tryz.zeroValue4
 t5:=Tryz.underlying5
 a5:=Tryz.isAgg5
 z5:=Tryz.sizeOf5
 v5:=Tryz.zeroValue5
 t9:=Tryz.underlying9
 a9:=Tryz.isAgg9
 z9:=Tryz.sizeOf9
 v9:=Tryz.zeroValue9
 t22:=Tryz.underlying230
 a22:=Tryz.isAgg230
 z22:=Tryz.sizeOf230
 v22:=Tryz.zeroValue230
 t25:=Tryz.underlying287
 a25:=Tryz.isAgg287
 z25:=Tryz.sizeOf287
 v25:=Tryz.zeroValue287
 t39:=Tryz.underlying290
 a39:=Tryz.isAgg290
 z39:=Tryz.sizeOf290
 v39:=Tryz.zeroValue290
 t45:=Tryz.underlying365
 a45:=Tryz.isAgg365
 z45:=Tryz.sizeOf365
 v45:=Tryz.zeroValue365
 t46:=Tryz.underlying366
 a46:=Tryz.isAgg366
 z46:=Tryz.sizeOf366
 v46:=Tryz.zeroValue366
 t50:=Tryz.underlying359
 a50:=Tryz.isAgg359
 z50:=Tryz.sizeOf359
 v50:=Tryz.zeroValue359
 t53:=Tryz.underlying262
 a53:=Tryz.isAgg262
 z53:=Tryz.sizeOf262
 v53:=Tryz.zeroValue262
 t55:=Tryz.underlying282
 a55:=Tryz.isAgg282
 z55:=Tryz.sizeOf282
 v55:=Tryz.zeroValue282
 t66:=Tryz.underlying384
 a66:=Tryz.isAgg384
 z66:=Tryz.sizeOf384
 v66:=Tryz.zeroValue384
 t70:=Tryz.underlying388
 a70:=Tryz.isAgg388
 z70:=Tryz.sizeOf388
 v70:=Tryz.zeroValue388
 t76:=Tryz.underlying394
 a76:=Tryz.isAgg394
 z76:=Tryz.sizeOf394
 v76:=Tryz.zeroValue394
 t77:=Tryz.underlying395
 a77:=Tryz.isAgg395
 z77:=Tryz.sizeOf395
 v77:=Tryz.zeroValue395}
end Go.Proofs
end
section
namespace Go.Sx
open Go Go.Proofs Tryz
section
variable {GB:Gh} {C:Ctx} {n:Nat} {Q0:Exit→Act→World→Prop} {fr fr':FrX} {own own':OwX} {cf cf':Cf} {vc:List Prop}
theorem aCi{lk:LK}{bk:BM}{dst:Option Nat}{t ty':TypeId}{pos:String}{af:Array Edge}{gd:Option (Nat×Bool)}{x y:Operand}{e len s nm off:Nat}{k:IntKind}{i:Nat}(hu:prog.underlying t=some (.array len e))(hs:(prog.info? e).map (·.size)=some s)
  (e1:evX lk x=some (.ov nm off))(e2:evX lk y=some (.d (.v (.int k (i:Nat)))))(hi:i<len):OpR prog GB C n lk bk ⟨dst, .indexAddr t x y,ty',pos,af,gd⟩ (.ov nm (off+i*s)) [] []:= .yd fun ρ G ov a w r=>by
 obtain⟨p,h1,h2⟩:=r.ev e1
 obtain⟨q,h3,h4⟩:=r.ev e2
 rw[aav] at h4;subst h4
 obtain⟨b,hb,rfl⟩:=h2
 refine⟨_,⟨b,hb,rfl⟩,?_⟩
 obtain⟨j,hj,hjs⟩: ∃j,prog.info? e=some j∧j.size=s:=by
  cases h:prog.info? e with
  |none=>rw[h] at hs;cases hs
  |some j=>rw[h] at hs;exact⟨j,rfl,by simpa using hs⟩
 intro a' w' hf hh
 simp only[execOp,aac hf h1,aac hf h3]
 have:(Instr.indexAt t (.pointer (some ⟨b,off,none⟩)) (.int k (i:Nat))).run prog w'= .ok (.pointer (some ⟨b,off+i*s,none⟩)) w':=by
  unfold Instr.indexAt
  show(underlying t>>=_).run prog w'=_
  rw[aaa (ad7 hu w')]
  show(underlying t>>=_).run prog w'=_
  rw[aaa (ad7 hu w')]
  have h0:0≤((i:Nat):Int):=Int.natCast_nonneg i
  have h1:((i:Nat):Int)<((len:Nat):Int):=by omega
  simp only[h0,h1,and_self,if_true]
  show(sizeOf e>>=_).run prog w'=_
  rw[aaa (agt hj w'),aco,hjs,aL]
  rfl
 exact aam this
def aFi(fr:FrX)(cf:Cf):Option (TypeId×Nat×Nat×Int):=match opC fr cf with
 |some ⟨_, .indexAddr t x y,_,_,_,_⟩=>match evX (lkC fr cf) x with
  |some (.ov nm off)=>match evX (lkC fr cf) y with
   |some (.d (.v (.int _ i)))=>some (t,nm,off,i)
   |_=>none
  |_=>none
 |_=>none
theorem ixa[fu:Fu](i:Nat){t nm off e len s:Nat}(h:aFi fr cf=some (t,nm,off,((i:Nat):Int)))(hu:prog.underlying t=some (.array len e))(hs:(prog.info? e).map (·.size)=some s)(hi:i<len)
  (hgo:goA tt n fu.n fr own cf (.ov nm (off+i*s)) [] []=⟨vc,fr',own',cf'⟩)(k:CfS prog GB C n Q0 fr' own' cf')
  (hv:aai vc:=by first|exact trivial|(simp only[aai];kernel_rfl)|(simp only[aai];omega)):CfS prog GB C n Q0 fr own cf:=by
 unfold aFi at h
 split at h<;>try (cases h;done)
 rename_i hh
 split at h<;>try (cases h;done)
 rename_i hx
 split at h<;>cases h
 rename_i hy
 exact us hh (aCi hu hs hx hy hi) hgo hv k
theorem aCh{lk:LK}{bk:BM}{d s:Nat}{e t ty':TypeId}{pos:String}{af:Array Edge}{gd:Option (Nat×Bool)}{ps:List (Nat×Operand)}{fo:List (Nat×Nat×Nat)}{i:TI}{z zx:List FX}{k:Nat}{pre post:List DV}(hi:afh prog t=some i)(hk:i.k= .st fo)(hz:i.z=some z)
  (hb:axW lk fo z ps=some zx)(h0:zx[k]? =some .nl)(h1:aea (zx.take k)=some pre)(h2:aea (zx.drop (k+1))=some post):OpR prog GB C n lk bk ⟨some d, .build t ⟨ps⟩,ty',pos,af,gd⟩ (.bx false pre d post) [(d,some (.b e s [] true))] [d]:=by
 intro hd tl tb K' s1 s2 hf hk'
 refine⟨fun ρ G ov a w r Q=>?_⟩
 obtain⟨v,hv,hv'⟩:=alO hi hz
 have:=axx hi hk
 have hsp:zx=zx.take k++ .nl::zx.drop (k+1):=by
  obtain⟨hk1,hk2⟩:=bQ.1 h0
  conv=>lhs;rw[←jR k zx,aN hk1,hk2]
 obtain⟨l,h1',h2'⟩:=alH (r.mono s1 s2) (fo:=fo) ps _ _ _ hb (hv' ρ G)
 rw[hsp] at h2'
 obtain⟨m1,m2',rfl,k1,y,m2,rfl,k2,k3⟩:=akc h2'
 cases (show y= .slice none 0 0 from k2)
 have hy:Yd prog C (frA a) ov G ⟨some d, .build t ⟨ps⟩,ty',pos,af,gd⟩ (.agg ⟨m1++Value.slice none 0 0::m2⟩):=ah7 h1'
 have r3:=r.new' (x:=⟨none,0,0⟩) (B':= .b e s [] true) (os:=[]) (ov':=ov) (f:= .bx false pre d post) (y:= .agg ⟨m1++Value.slice none 0 0::m2⟩) hf (GLe.refl G) r.h
  ⟨[],by simp only[if_true];exact .inl ⟨rfl,rfl,rfl⟩, .nil,by simp,fun _ o ho=>by cases ho⟩ (fun o ho=>by cases ho) (fun m B _ _ o ho _=>⟨ho,by simp⟩)
  ⟨m1,m2,by simp,ac4 k1 h1,ac4 k3 h2⟩ (r.putA _ hd)
 exact abb (hy a w (aaQ a) r.h) (hk'.run _ G ov _ w r3)
def aFz(fr:FrX)(cf:Cf):Option (Nat×List FX):=match opC fr cf with
 |some ⟨some d, .build t ⟨ps⟩,_,_,_,_⟩=>match abi tt t with
  |some ⟨.st fo,_,some zx,_⟩=>match axW (lkC fr cf) fo zx ps with
   |some l=>some (d,l)
   |none=>none
  |_=>none
 |_=>none
theorem bzp[fu:Fu]{d:Nat}{zx:List FX}(e s kk:Nat)(pre post:List DV)(h:aFz fr cf=some (d,zx))(h0:zx[kk]? =some .nl)(h1:aea (zx.take kk)=some pre)(h2:aea (zx.drop (kk+1))=some post)(hgo:goA tt n fu.n fr own cf (.bx false pre d post) [(d,some (.b e s [] true))] [d]=⟨vc,fr',own',cf'⟩)(k:CfS prog GB C n Q0 fr' own' cf')
  (hv:aai vc:=by first|exact trivial|(simp only[aai];kernel_rfl)|(simp only[aai];omega)):CfS prog GB C n Q0 fr own cf:=by
 unfold aFz at h
 split at h<;>try (cases h;done)
 rename_i hh
 split at h<;>try (cases h;done)
 rename_i hT
 split at h<;>cases h
 rename_i hb
 exact us hh (aCh (abJ _ _ hT) J J hb h0 h1 h2) hgo hv k
end
def sp1(f:FrQ)(m:LnQ)(k:Nat):List FrQ:=if k=0 then [] else aa4 f m 1
def sp2(f:FrQ)(m:LnQ)(k:Nat):List FrQ:=if k≤1 then [] else aa4 f m (-1)
theorem aqn{l m:LnQ}(hl:LB l)(hm:LB m)(hlo:l.ok){side:Int}: ∀v∈ad9 l m side,IvB v:=fun v hv=>⟨(an7 hl hm hlo v hv).2.1,(an7 hl hm hlo v hv).2.2⟩
theorem agG{l m:LnQ}{side:Int}:(ad9 l m side).length≤1:=by
 unfold ad9;split
 ·split<;>simp
 ·split<;>simp
theorem aqm(op:Int)(a b:List IvQ):(aiV op a b).length≤2*(a.length+b.length)+1:=by
 unfold aiV aox
 refine cV aiN ?_
 rw[aJ,agD]
 have:=ajl (a++b);rw[aV] at this;omega
theorem ayH{GB:Gh}{f:FrQ}{m:LnQ}(h:FOk f)[hm:LB m](hmo:m.ok):PF GB prog 264 [eFF f,eL m] (.tp [.sl ((aa4 f m 1).map eFF), .sl ((aa4 f m (-1)).map eFF)]):=by
 haveI:=h.lb
 refine fn func264 J J ntmps264 J J (fun C=>?_)
 refine rf (fu:=⟨1⟩) J J<|?_
 refine eqF 14 (.d (vI (2:Nat))) J J ?_
 refine gx rfl<|?_
 refine nro 6 0 60 303 14 J J J J J ?_
 refine nro 6 1 61 303 14 J J J J J ?_
 refine lp (X:=Nat) (fun k=>[(15, .d (vI (k:Nat))),(6, .ov 6 0)]) (fun k=>[(6,some (.o 374 [.rw 60, .rw 61] true)),(60,some (.b 303 14 ((sp1 f m k).map eFF) true)),(61,some (.b 303 14 ((sp2 f m k).map eFF) true))]) (fun k=>k≤2) (fun k=>2-k) 0 rfl (by omega) (fun _=>rfl) (fun k hk=>?_)
 refine br J J J (fun hc16=>?_) (fun hc16=>?_)
 ·
  rcases(show k=0∨k=1 by omega) with rfl|rfl
  ·
   refine ix _ J J J<|cl (fu:=⟨0⟩) rfl (arw (l:=f.l) (m:=m) (side:=1) h.ok hmo (.inl rfl)) rfl<|?_
   obtain⟨cs,hcs⟩: ∃c,c=aiV 2 [f.v] (ad9 f.l m 1):=⟨_,rfl⟩
   have hcl:cs.length≤5:=by rw[hcs];have h1:=aqm 2 [f.v] (ad9 f.l m 1);have h2:=agG (l:=f.l) (m:=m) (side:=1);simp only[dS] at h1;omega
   refine eqF 25 (.d (.tp [.sl ((ad9 f.l m 1).map eV),vB (onB f.l m)])) J J ?_
   refine gx rfl<|?_
   refine bb J J J (fun hc28=>?_) (fun hc28=>?_)
   ·
    have hon:onB f.l m=true:=hc28
    exact rz rfl (by first|(unfold aa4;rw[if_pos hon,if_pos hon];rfl)|rfl)
   ·
    have hon:onB f.l m=false:=by simpa using hc28
    refine rf J J<|cl (fu:=⟨0⟩) rfl (anC (a:=[f.v]) (b:=ad9 f.l m 1) (fun v hv=>by rw[aS] at hv;subst hv;exact⟨h.lo,h.hi⟩) (aqn h.lb hm h.ok) (by show 1≤100;decide) (by have:=agG (l:=f.l) (m:=m) (side:=1);omega)) rfl<|?_
    refine eqF 33 (.d (.sl (cs.map eV))) rfl (by rw[hcs]) ?_
    refine gx (fu:=⟨1⟩) rfl<|?_
    refine eqF 34 (.d (vI (cs.length:Nat))) rfl (by rw[aaJ eV cs]<;>rfl) ?_
    refine gx rfl<|?_
    refine lp (X:=Nat) (fun j=>[(35, .d (vI (j:Nat)))]) (fun j=>[(60,some (.b 303 14 (((cs.take j).map fun v=>(⟨f.l,v⟩:FrQ)).map eFF) true))]) (fun j=>j≤cs.length) (fun j=>cs.length-j) 0 rfl (bK _) (fun _=>rfl) (fun j hk=>?_)
    have hml:(((cs.take j).map fun v=>(⟨f.l,v⟩:FrQ)).map eFF).length≤j:=by rw[aJ,aJ,cK];omega
    refine br J J J (fun hc36=>?_) (fun hc36=>?_)
    ·
     obtain⟨z,hz⟩: ∃s,cs[j]? =some s:=⟨_,aZ (by omega)⟩
     refine ix _ rfl (aaB hz) rfl<|ixa 0 (e:=296) (len:=2) (s:=1) rfl (by kernel_rfl) (by kernel_rfl) (by decide) rfl<|rf J J<|?_
     refine ap (((cs.take (j+1)).map fun v=>(⟨f.l,v⟩:FrQ)).map eFF) rfl (by rw[←abm hz,bU];rfl) (akx [⟨f.l,z⟩]) rfl<|ixa (hv:=by simp only[aai];exact⟨by kernel_rfl,by omega⟩) 0 (e:=296) (len:=2) (s:=1) rfl (by kernel_rfl) (by kernel_rfl) (by decide) rfl<|?_
     refine rnE 48 60 rfl ?_
     exact at_ (j+1) ⟨(by omega),(by omega)⟩
    ·
     obtain rfl:j=cs.length:=by omega
     rw[show(cs.take cs.length).map (fun v=>(⟨f.l,v⟩:FrQ))=aa4 f m 1 from by rw[fK];unfold aa4;rw[if_neg (by rw[hon];decide),←hcs]]
     exact at_ (0+1) ⟨(by omega),(by omega)⟩
  ·
   refine ix _ J J J<|cl (fu:=⟨0⟩) rfl (arw (l:=f.l) (m:=m) (side:= -1) h.ok hmo (.inr rfl)) rfl<|?_
   obtain⟨cs,hcs⟩: ∃c,c=aiV 2 [f.v] (ad9 f.l m (-1)):=⟨_,rfl⟩
   have hcl:cs.length≤5:=by rw[hcs];have h1:=aqm 2 [f.v] (ad9 f.l m (-1));have h2:=agG (l:=f.l) (m:=m) (side:=(-1));simp only[dS] at h1;omega
   refine eqF 25 (.d (.tp [.sl ((ad9 f.l m (-1)).map eV),vB (onB f.l m)])) J J ?_
   refine gx rfl<|?_
   refine bb J J J (fun hc28=>?_) (fun hc28=>?_)
   ·
    have hon:onB f.l m=true:=hc28
    exact rz rfl (by first|(unfold aa4;rw[if_pos hon,if_pos hon];rfl)|rfl)
   ·
    have hon:onB f.l m=false:=by simpa using hc28
    refine rf J J<|cl (fu:=⟨0⟩) rfl (anC (a:=[f.v]) (b:=ad9 f.l m (-1)) (fun v hv=>by rw[aS] at hv;subst hv;exact⟨h.lo,h.hi⟩) (aqn h.lb hm h.ok) (by show 1≤100;decide) (by have:=agG (l:=f.l) (m:=m) (side:=(-1));omega)) rfl<|?_
    refine eqF 33 (.d (.sl (cs.map eV))) rfl (by rw[hcs]) ?_
    refine gx (fu:=⟨1⟩) rfl<|?_
    refine eqF 34 (.d (vI (cs.length:Nat))) rfl (by rw[aaJ eV cs]<;>rfl) ?_
    refine gx rfl<|?_
    refine lp (X:=Nat) (fun j=>[(35, .d (vI (j:Nat)))]) (fun j=>[(61,some (.b 303 14 (((cs.take j).map fun v=>(⟨f.l,v⟩:FrQ)).map eFF) true))]) (fun j=>j≤cs.length) (fun j=>cs.length-j) 0 rfl (bK _) (fun _=>rfl) (fun j hk=>?_)
    have hml:(((cs.take j).map fun v=>(⟨f.l,v⟩:FrQ)).map eFF).length≤j:=by rw[aJ,aJ,cK];omega
    refine br J J J (fun hc36=>?_) (fun hc36=>?_)
    ·
     obtain⟨z,hz⟩: ∃s,cs[j]? =some s:=⟨_,aZ (by omega)⟩
     refine ix _ rfl (aaB hz) rfl<|ixa 1 (e:=296) (len:=2) (s:=1) rfl (by kernel_rfl) (by kernel_rfl) (by decide) rfl<|rf J J<|?_
     refine ap (((cs.take (j+1)).map fun v=>(⟨f.l,v⟩:FrQ)).map eFF) rfl (by rw[←abm hz,bU];rfl) (akx [⟨f.l,z⟩]) rfl<|ixa (hv:=by simp only[aai];exact⟨by kernel_rfl,by omega⟩) 1 (e:=296) (len:=2) (s:=1) rfl (by kernel_rfl) (by kernel_rfl) (by decide) rfl<|?_
     refine rnE 48 61 rfl ?_
     exact at_ (j+1) ⟨(by omega),(by omega)⟩
    ·
     obtain rfl:j=cs.length:=by omega
     rw[show(cs.take cs.length).map (fun v=>(⟨f.l,v⟩:FrQ))=aa4 f m (-1) from by rw[fK];unfold aa4;rw[if_neg (by rw[hon];decide),←hcs]]
     exact at_ (1+1) ⟨(by omega),(by omega)⟩
 ·
  obtain rfl:k=2:=by omega
  refine ixa 0 (e:=296) (len:=2) (s:=1) rfl (by kernel_rfl) (by kernel_rfl) (by decide) rfl<|ixa 1 (e:=296) (len:=2) (s:=1) rfl (by kernel_rfl) (by kernel_rfl) (by decide) rfl<|?_
  refine fzE 60 rfl ?_
  refine fzE 61 rfl ?_
  exact rz rfl (by first|(unfold aa4;rw[if_pos hon,if_pos hon];rfl)|rfl)
end Go.Sx
end
