/- Part 18 of a proof. -/
import Derived.Test.YtopfgminkdfpkaaGreatDoorMp17
set_option linter.unusedSimpArgs false
set_option maxHeartbeats 4000000
set_option maxRecDepth 100000
set_option linter.unusedVariables false
section
namespace Go.Sx
open Go Go.Proofs Tryz
variable {GB:Gh}
theorem anB{cuts:List Rat}{marks:List Bool}: ∀k,2*(adi cuts marks k).length≤k+(if 0<k∧marks.getD (k-1) false=true then 1 else 0)
 |0=>by rw[adi];simp
 |k+1=>by
  have ih:=anB (cuts:=cuts) (marks:=marks) k
  rw[adi]
  simp only[kQ]
  by_cases hm:marks.getD k false=true
  ·rw[if_pos hm,if_pos (show 0<k+1∧marks.getD k false=true from⟨by omega,hm⟩)]
   by_cases hp:0<k∧marks.getD (k-1) false=true
   ·rw[if_pos hp] at ih⊢
    cases hv:(adi cuts marks k).getLast? with
    |some v=>
     have:0<(adi cuts marks k).length:=by
      cases e:adi cuts marks k with
      |nil=>rw[e] at hv;simp at hv
      |cons a t=>simp
     show 2*((adi cuts marks k).dropLast++[_]).length≤_
     rw[aV,gR,dK];omega
    |none=>
     have:adi cuts marks k=[]:=List.getLast?_eq_none_iff.1 hv
     simp only[this];simp
   ·rw[if_neg hp] at ih⊢
    rw[aV,dK];omega
  ·rw[if_neg hm]
   split at ih<;>split<;>omega
theorem avu(op:Int)(a b:List IvQ):(ajc op a b).length≤a.length+b.length+1:=by
 unfold ajc aoK
 have h:=anB (cuts:=aeK (a++b)) (marks:=(aaY (aeK (a++b))).map fun t=>ahr op (acS a t) (acS b t)) ((aaY (aeK (a++b))).map fun t=>ahr op (acS a t) (acS b t)).length
 have h2:=ai2 (a++b)
 rw[aV] at h2
 have h3:((aaY (aeK (a++b))).map fun t=>ahr op (acS a t) (acS b t)).length=(aeK (a++b)).length+1:=by rw[aJ,aeq]
 split at h<;>omega
theorem ajG(f:FrQ)(m:LnQ)(side:Int):(aa4 f m side).length≤3:=by
 unfold aa4
 split
 ·simp
 ·rw[aJ]
  have:=avu 2 [f.v] (aeg f.l m side)
  have h2:=agz (l:=f.l) (m:=m) (side:=side)
  rw[dK] at this
  omega
theorem aoM{p v:PtQ}{m:LnQ}{s:Rat}[hp:BPt p 4500][hv:BPt v 97][hm:LB m](hs:BQ s 60000):BQ (adx p v m s) 60000:=by
 unfold adx amX
 split
 ·exact hs
 ·split
  ·exact hs
  ·split
   ·split
    ·haveI:BQ (-(m.value p/(m.value (adB p v ((1:Int):Rat))-m.value p))) 45000:=BQ.mono inferInstance (by decide)
     exact BQ.mono (inferInstance:BQ (-(m.value p/(m.value (adB p v ((1:Int):Rat))-m.value p))/2) _) (by decide)
    ·exact hs
   ·exact hs
theorem aqu{p v:PtQ}[hp:BPt p 4500][hv:BPt v 97]: ∀{c:List LnQ} {s:Rat},(∀m∈c,LB m)→BQ s 60000→BQ (aj5 p v c s) 60000
 |[],_,_,hs=>hs
 |m::t,s,hc,hs=>by
  haveI:=hc m aQ
  exact aqu (c:=t) (fun q hq=>hc q (aX _ hq)) (aoM hs)
theorem anS{c:List LnQ}(hc: ∀m∈c,LB m)(hok: ∀m∈c,m.ok): ∀{t:List LnQ},(∀m∈t,m∈c)→BPt (acQ c t) 70000
 |[],_=>by
  have h0:BQ (0:Rat) 70000:=BQ.mono (k:=1) ⟨by decide,by decide⟩ (by decide)
  exact⟨h0,h0⟩
 |m::t,h=>by
  have hm:=h m aQ
  haveI:=hc m hm
  rw[acQ]
  split
  ·have hbd:=ais (v:=IvQ.all) (hok m hm).ne hc IvZ.all (BQ.mono (k:=1) ⟨by decide,by decide⟩ (by decide)) (BQ.mono (k:=1) ⟨by decide,by decide⟩ (by decide))
   haveI:=hbd.1
   haveI:=hbd.2
   haveI hsb:=amm (v:=(acK m c IvQ.all).1) (i:=1200)
   haveI hpt:BPt (m.at (ab0 (acK m c IvQ.all).1)) 4500:=by have:=BPt.at m (ab0 (acK m c IvQ.all).1) (1200+1200+5);exact⟨this.x.mono (by decide),this.y.mono (by decide)⟩
   haveI hvt:BPt (afe m.dir) 97:=inferInstance
   haveI hns:BQ (aj5 (m.at (ab0 (acK m c IvQ.all).1)) (afe m.dir) c ((1:Int):Rat)) 60000:=aqu hc (BQ.mono (k:=2) ⟨by decide,by decide⟩ (by decide))
   have:=BPt.mov (m.at (ab0 (acK m c IvQ.all).1)) (afe m.dir) (aj5 (m.at (ab0 (acK m c IvQ.all).1)) (afe m.dir) c ((1:Int):Rat)) 4500 97 60000
   exact⟨this.x.mono (by decide),this.y.mono (by decide)⟩
  ·exact anS hc hok (fun q hq=>h q (aX _ hq))
theorem amE{l:List FrQ}{k:Nat}{g:FrQ}{m:LnQ}{side:Int}(h:l[k]? =some g):(l.take (k+1)).flatMap (fun g=>aa4 g m side)=(l.take k).flatMap (fun g=>aa4 g m side)++aa4 g m side:=by
 rw[iU,h,pY];simp
theorem aim(l:List FrQ)(m:LnQ)(side:Int):(l.flatMap fun g=>aa4 g m side).length≤3*l.length:=by
 induction l with
 |nil=>simp
 |cons a t ih=>rw[qS,aV,bV];have:=ajG a m side;omega
theorem au8{acc:PtQ→Bool}{n:Nat}{c:List LnQ}:al8 acc n [] c= .leaf (acc (acQ c c)):=by cases n<;>rfl
theorem aqR{rs:List (List ZP)}{fill:Int}(hrs: ∀r∈rs,aby r)(hrn:rs.length≤100){n:Nat}{c:List LnQ}(hc: ∀m∈c,LB m)(hok: ∀m∈c,m.ok)(hn:c.length≤900):PF GB prog 221 [eRR rs fill, .sl [], .sl (c.map eL)] (eT (al8 (inR rs fill) n [] c)):=by
 haveI hpb:=anS hc hok (t:=c) (fun _ h=>h)
 refine fn (fu:=⟨11⟩) func221 J J ntmps221 J J (fun C=>?_)
 refine knT J J J<|cl rfl (aoj (c:=c) hc hok (by omega)) rfl<|cl rfl (aEf (p:=acQ c c) (i:=70000) hrs hrn (by decide)) rfl<|cl rfl (ac4 (p:=inR rs fill (acQ c c))) rfl<|?_
 exact rz rfl (by rw[au8];rfl)
theorem aqV{rs:List (List ZP)}{fill:Int}(hrs: ∀r∈rs,aby r)(hrn:rs.length≤100){n:Nat}{f:FrQ}{t:List FrQ}{c:List LnQ}(hfew:Few (n+1) (f::t))(hfo: ∀g∈f::t,FOk g)(hlen:(f::t).length*3^(n+1)≤6973568802)(hc: ∀m∈c,LB m)(hok: ∀m∈c,m.ok)(hn:c.length+(n+1)≤900)(ih: ∀{l:List FrQ} {c:List LnQ},Few n l→(∀f∈l,FOk f)→l.length*3^n≤6973568802→(∀m∈c,LB m)→(∀m∈c,m.ok)→c.length+n≤900→PF GB prog 221 [eRR rs fill, .sl (l.map eFF), .sl (c.map eL)] (eT (al8 (inR rs fill) n l c))):PF GB prog 221 [eRR rs fill, .sl ((f::t).map eFF), .sl (c.map eL)] (eT (al8 (inR rs fill) (n+1) (f::t) c)):=by
 obtain⟨l,hl⟩: ∃l,l=f::t:=⟨_,rfl⟩
 have hl0:l[0]? =some f:=by rw[hl];rfl
 rw[←hl] at hfew hfo hlen⊢
 have hm:=aav eFF l
 have hfl:=hfo f (aM hl0)
 haveI:=hfl.lb
 have hlp:0<l.length:=by rw[hl];simp
 have hlb:l.length≤6973568802:=cW (nZ _ (dR (by decide))) hlen
 refine fn (fu:=⟨11⟩) func221 J J ntmps221 J J (fun C=>?_)
 refine eqF 17 (.d (vI (l.length:Nat))) rfl (by rw[hm]<;>rfl) ?_
 refine gx (fu:=⟨0⟩) rfl<|knF rfl (by show some (decide _)=some false;rw[decide_eq_false (by omega)]) rfl<|ix (fu:=⟨17⟩) _ rfl (aas (i:=0) hl0) rfl<|?_
 refine eqF 33 (.d (vI (l.length:Nat))) rfl (by rw[hm]<;>rfl) ?_
 refine gx rfl<|?_
 refine nr 10 10 303 14 J J J ?_
 refine nr 11 11 303 14 J J J ?_
 refine lp (X:=Nat) (fun k=>[(34, .d (vI (k:Nat))),(10, .rw 10),(11, .rw 11)]) (fun k=>[(10,some (.b 303 14 (((l.take k).flatMap fun g=>aa4 g f.l 1).map eFF) true)),(11,some (.b 303 14 (((l.take k).flatMap fun g=>aa4 g f.l (-1)).map eFF) true))]) (fun k=>k≤l.length) (fun k=>l.length-k) 0 rfl (bZ _) (fun _=>rfl) (fun k hk=>?_)
 have htk:(l.take k).length≤6973568802:=by rw[cV];omega
 have hb1:(((l.take k).flatMap fun g=>aa4 g f.l 1).map eFF).length≤20920706406:=by rw[aJ];have:=aim (l.take k) f.l 1;omega
 have hb2:(((l.take k).flatMap fun g=>aa4 g f.l (-1)).map eFF).length≤20920706406:=by rw[aJ];have:=aim (l.take k) f.l (-1);omega
 refine br (fu2:=⟨0⟩) J J J (fun hc35=>?_) (fun hc35=>?_)
 ·
  obtain⟨g,hz⟩: ∃s,l[k]? =some s:=⟨_,aZ (by omega)⟩
  have hg:=hfo g (aM hz)
  have hs1:((aa4 g f.l 1).map eFF).length≤3:=by rw[aJ];exact ajG _ _ _
  have hs2:((aa4 g f.l (-1)).map eFF).length≤3:=by rw[aJ];exact ajG _ _ _
  refine ix _ rfl (aas hz) rfl<|cl rfl (aAH (f:=g) (m:=f.l) hg hfl.ok) rfl<|ap (hbd:=by omega) (((l.take (k+1)).flatMap fun g=>aa4 g f.l 1).map eFF) rfl (by rw[amE hz,bJ]) (akt _) rfl<|?_
  refine ap (hbd:=by omega) (((l.take (k+1)).flatMap fun g=>aa4 g f.l (-1)).map eFF) rfl (by rw[amE hz,bJ]) (akt _) rfl<|?_
  refine rnE 46 10 rfl ?_
  refine rnE 49 11 rfl ?_
  exact at_ (k+1) ⟨(by omega),(by omega)⟩
 ·
  obtain rfl:k=l.length:=by omega
  rw[fX]
  refine fzC 10 rfl ?_
  refine fzC 11 rfl ?_
  refine gx rfl<|ro0 J J<|ap (c.map eL) J J (abw c) rfl<|rf J J<|apf ((c++[f.l]).map eL) rfl (by rw[bJ];rfl) (abw [f.l]) rfl<|?_
  refine cl rfl (ih (c:=c++[f.l]) (by subst hl;exact Few.split hfew hfo) (fun g hg=>by obtain⟨q,hq,hg⟩:=nU.1 hg;exact(alp (hfo q hq) hfl.lb g hg).1) (by have:=aim l f.l 1;rw[eX] at hlen;exact cW (bT _ this) (by rw[bN 3,cX];rw[bN (3^n)] at hlen;exact hlen)) (agG hc hfl.lb) (acm hok hfl.ok) (by rw[aV,dK];omega)) rfl<|?_
  refine ro0 J J<|ap (c.map eL) J J (abw c) rfl<|cl rfl (aiE (l:=f.l)) rfl<|rf J J<|apf ((c++[f.l.rev]).map eL) rfl (by rw[bJ];rfl) (abw [f.l.rev]) rfl<|?_
  refine cl (fu:=⟨1⟩) rfl (ih (c:=c++[f.l.rev]) (by subst hl;exact Few.split hfew hfo) (fun g hg=>by obtain⟨q,hq,hg⟩:=nU.1 hg;exact(alp (hfo q hq) hfl.lb g hg).1) (by have:=aim l f.l (-1);rw[eX] at hlen;exact cW (bT _ this) (by rw[bN 3,cX];rw[bN (3^n)] at hlen;exact hlen)) (agG hc hfl.lb.rev) (acm hok hfl.ok.rev) (by rw[aV,dK];omega)) rfl<|?_
  refine bxf J J<|?_
  exact rz rfl (by subst hl;rfl)
theorem aC2{rs:List (List ZP)}{fill:Int}(hrs: ∀r∈rs,aby r)(hrn:rs.length≤100): ∀{n:Nat} {l:List FrQ} {c:List LnQ},Few n l→(∀f∈l,FOk f)→l.length*3^n≤6973568802→(∀m∈c,LB m)→(∀m∈c,m.ok)→c.length+n≤900→PF GB prog 221 [eRR rs fill, .sl (l.map eFF), .sl (c.map eL)] (eT (al8 (inR rs fill) n l c))
 |n,[],c,_,_,_,hc,hok,hn=>aqR hrs hrn hc hok (by omega)
 |0,f::t,c,hf,_,_,_,_,_=>by
  obtain⟨K,h1,h2⟩:=hf
  obtain⟨m,hm,_⟩:=h2 f aQ
  rw[bS (l:=K) (by omega)] at hm
  cases hm
 |n+1,f::t,c,hf,ho,hl,hc,hok,hn=>aqV hrs hrn hf ho hl hc hok hn (fun a1 a2 a3 a4 a5 a6=>aC2 hrs hrn a1 a2 a3 a4 a5 a6)
theorem av7(l:List FrQ):Few l.length l:=⟨l.map FrQ.l,by rw[aJ];exact bQ _,fun f hf=>⟨f.l,pK hf, .inl rfl⟩⟩
theorem aAN{n:Nat}(h:n≤18):n*3^n≤6973568802:=cW (gS h (bW (by decide) h)) (by decide)
theorem aAt{rs:List (List ZP)}{fill:Int}(hrs: ∀r∈rs,aby r)(hrn:rs.length≤3):PF GB prog 171 [eRR rs fill] (eT (aiX rs fill)):=by
 have hm:=aav eRg rs
 have hE:=aeB hrs
 have hraw:=ax0 (acc:=inR rs fill) hE.2 rfl
 refine fn (fu:=⟨17⟩) func171 J J ntmps171 J J (fun C=>?_)
 refine eqF 8 (.d (vI (rs.length:Nat))) rfl (by rw[hm]<;>rfl) ?_
 refine gx rfl<|?_
 refine nr 3 3 303 14 J J J ?_
 refine lp (X:=Nat) (fun k=>[(9, .d (vI (k:Nat))),(3, .rw 3)]) (fun k=>[(3,some (.b 303 14 ((acG (rs.take k)).map eFF) true))]) (fun k=>k≤rs.length) (fun k=>rs.length-k) 0 rfl (bZ _) (fun _=>rfl) (fun k hk=>?_)
 have het:((acG (rs.take k)).map eFF).length≤6*k:=by rw[aJ];exact ajF hrs k
 refine br J J J (fun hc10=>?_) (fun hc10=>?_)
 ·
  obtain⟨r,hz⟩: ∃s,rs[k]? =some s:=⟨_,aZ (by omega)⟩
  have hr:=hrs r (aM hz)
  have hel:((adc r).map eFF).length≤6:=by rw[aJ];have:=(alY hr).1;have:=hr.n6;omega
  refine ix _ rfl (aas hz) rfl<|cl rfl (asd (r:=r) hr) rfl<|ap (hbd:=by omega) ((acG (rs.take (k+1))).map eFF) rfl (by rw[aiF hz,bJ]) (akt _) rfl<|?_
  refine rnE 16 3 rfl ?_
  exact at_ (k+1) ⟨(by omega),(by omega)⟩
 ·
  obtain rfl:k=rs.length:=by omega
  rw[fX]
  refine fz 3 J J<|cl rfl (aC2 (n:=(acG rs).length) (l:=acG rs) (c:=[]) hrs (by omega) (av7 _) hE.2 (aAN (by have:=hE.1;omega)) (fun m h=>by cases h) (fun m h=>by cases h) (by have:=hE.1;rw[dV];omega)) rfl<|?_
  refine cl rfl (afA (t:=aFn rs fill) hraw.gd.lb hraw.gd.ok (by have:=hraw.dp;have:=hE.1;show(al8 _ _ _ _).depth≤900;omega)) rfl<|?_
  exact rz J J
theorem aq2{b:Bool}:PF GB prog 97 [eT (.leaf b)] (eT (Tr.compl (.leaf b))):=by
 refine fn (fu:=⟨11⟩) func97 J J ntmps97 J J (fun C=>?_)
 refine knT J J J<|cl rfl (ac4 (p:=!b)) rfl<|?_
 exact rz J J
theorem aqN{l:LnQ}{x y:Tr}(ihx:PF GB prog 97 [eT x] (eT x.compl))(ihy:PF GB prog 97 [eT y] (eT y.compl)):PF GB prog 97 [eT (.node l x y)] (eT (Tr.compl (.node l x y))):=by
 refine fn (fu:=⟨11⟩) func97 J J ntmps97 J J (fun C=>?_)
 refine knF J J J<|cl rfl ihx rfl<|cl (fu:=⟨1⟩) rfl ihy rfl<|bxf J J<|?_
 exact rz J J
theorem afY: ∀{t:Tr},PF GB prog 97 [eT t] (eT t.compl)
 | .leaf _=>aq2
 | .node _ _ _=>aqN afY afY
theorem alJ{op:Int}{b:Bool}{u:Tr}{c:List LnQ}(hu:u.all LB)(huo:u.all LnQ.ok)(hc: ∀m∈c,LB m)(hok: ∀m∈c,m.ok)(hn:c.length+u.depth≤900):PF GB prog 44 [vI op,eT (.leaf b),eT u, .sl (c.map eL)] (eT (Tr.mergeL op (.leaf b) u c)):=by
 refine fn (fu:=⟨11⟩) func44 J J ntmps44 J J (fun C=>?_)
 refine knT J J J<|cl rfl (aeY (t:=u) (c:=c) hu huo hc hok hn) rfl<|?_
 refine cs 20 J J J (fun hg20=>?_) (fun hg20=>?_)
 ·
  refine bb J J J (fun hc17=>?_) (fun hc17=>?_)
  ·
   refine cl rfl (ac4 (p:=true)) rfl<|?_
   exact rz rfl (by show eT _=eT _;congr 1;rw[Tr.mergeL];unfold Tr.chooseL;(repeat' split)<;>first|rfl|(exfalso;simp_all;done)|(exfalso;omega))
  ·
   refine cs 30 J J J (fun hg30=>?_) (fun hg30=>?_)
   ·
    refine bb J J J (fun hc27=>?_) (fun hc27=>?_)
    ·
     refine cl rfl (ac4 (p:=false)) rfl<|?_
     exact rz rfl (by show eT _=eT _;congr 1;rw[Tr.mergeL];unfold Tr.chooseL;(repeat' split)<;>first|rfl|(exfalso;simp_all;done)|(exfalso;omega))
    ·
     refine cs 45 J J J (fun hg45=>?_) (fun hg45=>?_)
     ·
      refine bb J J J (fun hc42=>?_) (fun hc42=>?_)
      ·
       refine cl rfl afY rfl<|?_
       exact rz rfl (by show eT _=eT _;congr 1;rw[Tr.mergeL];unfold Tr.chooseL;(repeat' split)<;>first|rfl|(exfalso;simp_all;done)|(exfalso;omega))
      ·
       exact rz rfl (by show eT _=eT _;congr 1;rw[Tr.mergeL];unfold Tr.chooseL;(repeat' split)<;>first|rfl|(exfalso;simp_all;done)|(exfalso;omega))
     ·
      refine cs 49 J J J (fun hg49=>?_) (fun hg49=>?_)
      ·
       refine bb J J J (fun hc42=>?_) (fun hc42=>?_)
       ·
        refine cl rfl afY rfl<|?_
        exact rz rfl (by show eT _=eT _;congr 1;rw[Tr.mergeL];unfold Tr.chooseL;(repeat' split)<;>first|rfl|(exfalso;simp_all;done)|(exfalso;omega))
       ·
        exact rz rfl (by show eT _=eT _;congr 1;rw[Tr.mergeL];unfold Tr.chooseL;(repeat' split)<;>first|rfl|(exfalso;simp_all;done)|(exfalso;omega))
      ·
       exact rz rfl (by show eT _=eT _;congr 1;rw[Tr.mergeL];unfold Tr.chooseL;(repeat' split)<;>first|rfl|(exfalso;simp_all;done)|(exfalso;omega))
   ·
    refine cs 34 J J J (fun hg34=>?_) (fun hg34=>?_)
    ·
     refine bb J J J (fun hc27=>?_) (fun hc27=>?_)
     ·
      refine cl rfl (ac4 (p:=false)) rfl<|?_
      exact rz rfl (by show eT _=eT _;congr 1;rw[Tr.mergeL];unfold Tr.chooseL;(repeat' split)<;>first|rfl|(exfalso;simp_all;done)|(exfalso;omega))
     ·
      refine cs 45 J J J (fun hg45=>?_) (fun hg45=>?_)
      ·
       refine bb J J J (fun hc42=>?_) (fun hc42=>?_)
       ·
        refine cl rfl afY rfl<|?_
        exact rz rfl (by show eT _=eT _;congr 1;rw[Tr.mergeL];unfold Tr.chooseL;(repeat' split)<;>first|rfl|(exfalso;simp_all;done)|(exfalso;omega))
       ·
        exact rz rfl (by show eT _=eT _;congr 1;rw[Tr.mergeL];unfold Tr.chooseL;(repeat' split)<;>first|rfl|(exfalso;simp_all;done)|(exfalso;omega))
      ·
       refine cs 49 J J J (fun hg49=>?_) (fun hg49=>?_)
       ·
        refine bb J J J (fun hc42=>?_) (fun hc42=>?_)
        ·
         refine cl rfl afY rfl<|?_
         exact rz rfl (by show eT _=eT _;congr 1;rw[Tr.mergeL];unfold Tr.chooseL;(repeat' split)<;>first|rfl|(exfalso;simp_all;done)|(exfalso;omega))
        ·
         exact rz rfl (by show eT _=eT _;congr 1;rw[Tr.mergeL];unfold Tr.chooseL;(repeat' split)<;>first|rfl|(exfalso;simp_all;done)|(exfalso;omega))
       ·
        exact rz rfl (by show eT _=eT _;congr 1;rw[Tr.mergeL];unfold Tr.chooseL;(repeat' split)<;>first|rfl|(exfalso;simp_all;done)|(exfalso;omega))
    ·
     refine cs 45 J J J (fun hg45=>?_) (fun hg45=>?_)
     ·
      refine bb J J J (fun hc42=>?_) (fun hc42=>?_)
      ·
       refine cl rfl afY rfl<|?_
       exact rz rfl (by show eT _=eT _;congr 1;rw[Tr.mergeL];unfold Tr.chooseL;(repeat' split)<;>first|rfl|(exfalso;simp_all;done)|(exfalso;omega))
      ·
       exact rz rfl (by show eT _=eT _;congr 1;rw[Tr.mergeL];unfold Tr.chooseL;(repeat' split)<;>first|rfl|(exfalso;simp_all;done)|(exfalso;omega))
     ·
      refine cs 49 J J J (fun hg49=>?_) (fun hg49=>?_)
      ·
       refine bb J J J (fun hc42=>?_) (fun hc42=>?_)
       ·
        refine cl rfl afY rfl<|?_
        exact rz rfl (by show eT _=eT _;congr 1;rw[Tr.mergeL];unfold Tr.chooseL;(repeat' split)<;>first|rfl|(exfalso;simp_all;done)|(exfalso;omega))
       ·
        exact rz rfl (by show eT _=eT _;congr 1;rw[Tr.mergeL];unfold Tr.chooseL;(repeat' split)<;>first|rfl|(exfalso;simp_all;done)|(exfalso;omega))
      ·
       exact rz rfl (by show eT _=eT _;congr 1;rw[Tr.mergeL];unfold Tr.chooseL;(repeat' split)<;>first|rfl|(exfalso;simp_all;done)|(exfalso;omega))
 ·
  refine cs 30 J J J (fun hg30=>?_) (fun hg30=>?_)
  ·
   refine bb J J J (fun hc27=>?_) (fun hc27=>?_)
   ·
    refine cl rfl (ac4 (p:=false)) rfl<|?_
    exact rz rfl (by show eT _=eT _;congr 1;rw[Tr.mergeL];unfold Tr.chooseL;(repeat' split)<;>first|rfl|(exfalso;simp_all;done)|(exfalso;omega))
   ·
    refine cs 45 J J J (fun hg45=>?_) (fun hg45=>?_)
    ·
     refine bb J J J (fun hc42=>?_) (fun hc42=>?_)
     ·
      refine cl rfl afY rfl<|?_
      exact rz rfl (by show eT _=eT _;congr 1;rw[Tr.mergeL];unfold Tr.chooseL;(repeat' split)<;>first|rfl|(exfalso;simp_all;done)|(exfalso;omega))
     ·
      exact rz rfl (by show eT _=eT _;congr 1;rw[Tr.mergeL];unfold Tr.chooseL;(repeat' split)<;>first|rfl|(exfalso;simp_all;done)|(exfalso;omega))
    ·
     refine cs 49 J J J (fun hg49=>?_) (fun hg49=>?_)
     ·
      refine bb J J J (fun hc42=>?_) (fun hc42=>?_)
      ·
       refine cl rfl afY rfl<|?_
       exact rz rfl (by show eT _=eT _;congr 1;rw[Tr.mergeL];unfold Tr.chooseL;(repeat' split)<;>first|rfl|(exfalso;simp_all;done)|(exfalso;omega))
      ·
       exact rz rfl (by show eT _=eT _;congr 1;rw[Tr.mergeL];unfold Tr.chooseL;(repeat' split)<;>first|rfl|(exfalso;simp_all;done)|(exfalso;omega))
     ·
      exact rz rfl (by show eT _=eT _;congr 1;rw[Tr.mergeL];unfold Tr.chooseL;(repeat' split)<;>first|rfl|(exfalso;simp_all;done)|(exfalso;omega))
  ·
   refine cs 34 J J J (fun hg34=>?_) (fun hg34=>?_)
   ·
    refine bb J J J (fun hc27=>?_) (fun hc27=>?_)
    ·
     refine cl rfl (ac4 (p:=false)) rfl<|?_
     exact rz rfl (by show eT _=eT _;congr 1;rw[Tr.mergeL];unfold Tr.chooseL;(repeat' split)<;>first|rfl|(exfalso;simp_all;done)|(exfalso;omega))
    ·
     refine cs 45 J J J (fun hg45=>?_) (fun hg45=>?_)
     ·
      refine bb J J J (fun hc42=>?_) (fun hc42=>?_)
      ·
       refine cl rfl afY rfl<|?_
       exact rz rfl (by show eT _=eT _;congr 1;rw[Tr.mergeL];unfold Tr.chooseL;(repeat' split)<;>first|rfl|(exfalso;simp_all;done)|(exfalso;omega))
      ·
       exact rz rfl (by show eT _=eT _;congr 1;rw[Tr.mergeL];unfold Tr.chooseL;(repeat' split)<;>first|rfl|(exfalso;simp_all;done)|(exfalso;omega))
     ·
      refine cs 49 J J J (fun hg49=>?_) (fun hg49=>?_)
      ·
       refine bb J J J (fun hc42=>?_) (fun hc42=>?_)
       ·
        refine cl rfl afY rfl<|?_
        exact rz rfl (by show eT _=eT _;congr 1;rw[Tr.mergeL];unfold Tr.chooseL;(repeat' split)<;>first|rfl|(exfalso;simp_all;done)|(exfalso;omega))
       ·
        exact rz rfl (by show eT _=eT _;congr 1;rw[Tr.mergeL];unfold Tr.chooseL;(repeat' split)<;>first|rfl|(exfalso;simp_all;done)|(exfalso;omega))
      ·
       exact rz rfl (by show eT _=eT _;congr 1;rw[Tr.mergeL];unfold Tr.chooseL;(repeat' split)<;>first|rfl|(exfalso;simp_all;done)|(exfalso;omega))
   ·
    refine cs 45 J J J (fun hg45=>?_) (fun hg45=>?_)
    ·
     refine bb J J J (fun hc42=>?_) (fun hc42=>?_)
     ·
      refine cl rfl afY rfl<|?_
      exact rz rfl (by show eT _=eT _;congr 1;rw[Tr.mergeL];unfold Tr.chooseL;(repeat' split)<;>first|rfl|(exfalso;simp_all;done)|(exfalso;omega))
     ·
      exact rz rfl (by show eT _=eT _;congr 1;rw[Tr.mergeL];unfold Tr.chooseL;(repeat' split)<;>first|rfl|(exfalso;simp_all;done)|(exfalso;omega))
    ·
     refine cs 49 J J J (fun hg49=>?_) (fun hg49=>?_)
     ·
      refine bb J J J (fun hc42=>?_) (fun hc42=>?_)
      ·
       refine cl rfl afY rfl<|?_
       exact rz rfl (by show eT _=eT _;congr 1;rw[Tr.mergeL];unfold Tr.chooseL;(repeat' split)<;>first|rfl|(exfalso;simp_all;done)|(exfalso;omega))
      ·
       exact rz rfl (by show eT _=eT _;congr 1;rw[Tr.mergeL];unfold Tr.chooseL;(repeat' split)<;>first|rfl|(exfalso;simp_all;done)|(exfalso;omega))
     ·
      exact rz rfl (by show eT _=eT _;congr 1;rw[Tr.mergeL];unfold Tr.chooseL;(repeat' split)<;>first|rfl|(exfalso;simp_all;done)|(exfalso;omega))
theorem al0{op:Int}{l:LnQ}{x y u:Tr}{c:List LnQ}(hl:LB l)(hlo:l.ok)(hc: ∀m∈c,LB m)(hok: ∀m∈c,m.ok)(hn:c.length+(Tr.node l x y).depth+u.depth≤900)(ihx: ∀{c:List LnQ},(∀m∈c,LB m)→(∀m∈c,m.ok)→c.length+x.depth+u.depth≤900→PF GB prog 44 [vI op,eT x,eT u, .sl (c.map eL)] (eT (Tr.mergeL op x u c)))(ihy: ∀{c:List LnQ},(∀m∈c,LB m)→(∀m∈c,m.ok)→c.length+y.depth+u.depth≤900→PF GB prog 44 [vI op,eT y,eT u, .sl (c.map eL)] (eT (Tr.mergeL op y u c))):PF GB prog 44 [vI op,eT (.node l x y),eT u, .sl (c.map eL)] (eT (Tr.mergeL op (.node l x y) u c)):=by
 have hdp:(Tr.node l x y).depth=1+Nat.max x.depth y.depth:=rfl
 have hdx:x.depth≤Nat.max x.depth y.depth:=mV _ _
 have hdy:y.depth≤Nat.max x.depth y.depth:=lR _ _
 have hca:=acW (c++[l])
 have hcb:=acW (c++[l.rev])
 rw[aV,dK] at hca hcb
 refine fn (fu:=⟨11⟩) func44 J J ntmps44 J J (fun C=>?_)
 refine knF J J J<|cl rfl (asn (c:=c) (l:=l) hc hok (by omega) hl hlo) rfl<|?_
 refine br J J J (fun hc64=>?_) (fun hc64=>?_)
 ·
  refine cl rfl (ihx hc hok (by omega)) rfl<|?_
  exact rz rfl (by rw[Tr.mergeL,if_pos hc64];rfl)
 ·
  refine br J J J (fun hc74=>?_) (fun hc74=>?_)
  ·
   refine cl rfl (ihy hc hok (by omega)) rfl<|?_
   exact rz rfl (by rw[Tr.mergeL,if_neg hc64,if_pos hc74];rfl)
  ·
   refine cl rfl (apz (c:=c) (l:=l) hc hok (by omega) hl hlo) rfl<|cl rfl (ihx (c:=aaR (c++[l])) (apI (agG hc hl)) (apq (acm hok hlo)) (by omega)) rfl<|?_
   refine cl rfl (aiE (l:=l)) rfl<|cl rfl (apz (c:=c) (l:=l.rev) hc hok (by omega) hl.rev hlo.rev) rfl<|cl rfl (ihy (c:=aaR (c++[l.rev])) (apI (agG hc hl.rev)) (apq (acm hok hlo.rev)) (by omega)) rfl<|?_
   refine cl rfl axv rfl<|?_
   exact rz rfl (by rw[Tr.mergeL,if_neg hc64,if_neg hc74];rfl)
theorem aij{op:Int}{u:Tr}(hu:u.all LB)(huo:u.all LnQ.ok): ∀{t:Tr} {c:List LnQ},t.all LB→t.all LnQ.ok→(∀m∈c,LB m)→(∀m∈c,m.ok)→c.length+t.depth+u.depth≤900→PF GB prog 44 [vI op,eT t,eT u, .sl (c.map eL)] (eT (Tr.mergeL op t u c))
 | .leaf _,_,_,_,hc,hok,hn=>alJ hu huo hc hok (cW (Nat.add_le_add_right (lT _ _) _) hn)
 | .node l x y,c,hb,ho,hc,hok,hn=>al0 hb.1 ho.1 hc hok hn (fun h1 h2 h3=>aij hu huo hb.2.1 ho.2.1 h1 h2 h3) (fun h1 h2 h3=>aij hu huo hb.2.2 ho.2.2 h1 h2 h3)
theorem aBR(p r:ZP):(agI p.q r.q<0↔az7 p r<0)∧(agI p.q r.q=0↔az7 p r=0):=by
 have e1: ∀a b:Int,aa2 (a:Rat) (b:Rat)<0↔a<b:=fun a b=>by rw[ajW,Rat.intCast_lt_intCast]
 have e2: ∀a b:Int,aa2 (a:Rat) (b:Rat)=0↔a=b:=fun a b=>by rw[aeE,mW]
 have f1:=e1 p.1 r.1
 have f2:=e2 p.1 r.1
 have f3:=e1 p.2 r.2
 have f4:=e2 p.2 r.2
 show(agI ⟨(p.1:Rat),(p.2:Rat)⟩ ⟨(r.1:Rat),(r.2:Rat)⟩<0↔_)∧(agI ⟨(p.1:Rat),(p.2:Rat)⟩ ⟨(r.1:Rat),(r.2:Rat)⟩=0↔_)
 unfold agI az7
 dsimp only
 generalize aa2 (p.1:Rat) (r.1:Rat)=u at*
 generalize aa2 (p.2:Rat) (r.2:Rat)=v at*
 by_cases h:p.1<r.1
 ·rw[if_pos (by omega),if_pos h];omega
 ·by_cases h2:r.1<p.1
  ·rw[if_pos (by omega),if_neg h,if_pos h2];omega
  ·rw[if_neg (by omega),if_neg h,if_neg h2]
   by_cases h3:p.2<r.2
   ·rw[if_pos h3];omega
   ·rw[if_neg h3]
    split<;>omega
theorem axJ(x:ZP): ∀l:List ZP,acV agI x.q (l.map ZP.q)=(awu x l).map ZP.q
 |[]=>rfl
 |u::t=>by
  obtain⟨h1,h2⟩:=aBR u x
  rw[bM,acV,awu,axJ x t]
  by_cases k1:az7 u x<0
  ·rw[if_pos (h1.2 k1),if_pos k1];rfl
  ·rw[if_neg (fun e=>k1 (h1.1 e)),if_neg k1]
   by_cases k2:az7 u x=0
   ·rw[if_pos (h2.2 k2),if_pos k2];rfl
   ·rw[if_neg (fun e=>k2 (h2.1 e)),if_neg k2];rfl
theorem azq(l:List ZP):ahn agI (l.map ZP.q)=(ams l).map ZP.q:=by
 have key: ∀(l o:List ZP),(l.map ZP.q).foldl (fun out x=>acV agI x out) (o.map ZP.q)=(l.foldl (fun out x=>awu x out) o).map ZP.q:=by
  intro l
  induction l with
  |nil=>intro o;rfl
  |cons x t ih=>intro o;rw[bM,jR,jR,axJ,ih]
 exact key l []
theorem aFe(l:List ZP):(l.map ZP.q).map eP=l.map eZp:=by rw[List.map_map];rfl
theorem anM{l:List ZP}(h: ∀p∈l,ZP.le 100 p)(hn:l.length≤100000):PF GB prog 219 [.sl (l.map eZp)] (.sl ((ams l).map eZp)):=by
 have:=avL (GB:=GB) (ps:=l.map ZP.q) (atm h) (by rw[aJ];exact hn)
 rw[azq,aFe,aFe] at this
 exact this
theorem aAx(u v:ZP):(PtQ.cross (iP u.1 u.2) (iP v.1 v.2))=((ajL u v:Int):Rat):=by
 unfold PtQ.cross iP ajL
 push_cast
 rfl
theorem aiO(u v:ZP):(PtQ.cross (iP u.1 u.2) (iP v.1 v.2)).num.sign≠0↔ajL u v≠0:=by
 rw[aAx,pL]
 exact not_congr fK
theorem arc{α β:Type}(f:α→β)(l:List α):((l.map f).take (l.length-1)).drop 0=l.dropLast.map f:=by
 rw[iX,←fS,List.dropLast_eq_take]
theorem aqp{l:List ZP}(h:0<l.length): ∃u,l.getLast? =some u∧l[l.length-1]? =some u∧l.getD (l.length-1) (0,0)=u:=by
 refine⟨l[l.length-1],?_,aZ (by omega),?_⟩
 ·rw[kR];exact aZ (by omega)
 ·rw[aK,aZ (by omega)];rfl
theorem ata{l:List ZP}(h:0<l.length): ∃u,l[0]? =some u∧l.getD 0 (0,0)=u:=by
 refine⟨l[0],aZ (by omega),?_⟩
 rw[aK,aZ (by omega)];rfl
theorem avO{u p:ZP}:(u.1=p.1∧u.2=p.2)↔u=p:=⟨fun h=>Prod.ext h.1 h.2,fun h=>by rw[h];exact⟨rfl,rfl⟩⟩
theorem asi{b:Nat}{es:List Int}(hes:es.length≤400){a:Nat}(ha:a≤es.length):PM GB prog 170 (mkP [none] b) b 94 [.sl (es.map vI), .v (.int .i64 (a:Nat))] (eRg (acR es a).1) [.sl (es.map vI), .v (.int .i64 ((acR es a).2:Nat))]:=by
 have hk0:=aaG (n:=4) ha
 refine fnM (fu:=⟨6⟩) func170 J J ntmps170 J J (fun C b m lo hmb=>?_)
 refine mg (X:=Nat) (fun a2=>[]) (fun a2=>[(1000000,some (.o 94 [.d (.sl (es.map vI)), .d (.v (.int .i64 (a2:Nat)))] false))]) (fun a2=>acR es a=au4 es a2∧a2≤es.length) [] [1000000] rfl ?_ (fun _=>rfl) (fun a2 ⟨hR,ha2⟩=>?_)
 ·
  refine gx rfl<|cm rfl (fun b=>(ab5 (n:=4) hes ha (by decide) (by decide))) rfl<|?_
  refine br J J J (fun hc15=>?_) (fun hc15=>?_)
  ·
   have hx1:=aaG (n:=5) hk0
   have hy1:=aaG (n:=5) hx1
   have hz1:=aaG (n:=4) hy1
   have hw1:=aaG (n:=4) hz1
   have hl0:=abE (es:=es) (n:=5) (a:=(aaf es 4 a).2) (by decide)
   have hl1:=abE (es:=es) (n:=5) (a:=(aaf es 5 (aaf es 4 a).2).2) (by decide)
   have hl2:=abE (es:=es) (n:=4) (a:=(aaf es 5 (aaf es 5 (aaf es 4 a).2).2).2) (by decide)
   have hl3:=abE (es:=es) (n:=4) (a:=(aaf es 4 (aaf es 5 (aaf es 5 (aaf es 4 a).2).2).2).2) (by decide)
   refine cm rfl (fun b=>(ab5 (n:=5) hes hk0 (by decide) (by decide))) rfl<|cm rfl (fun b=>(ab5 (n:=5) hes hx1 (by decide) (by decide))) rfl<|?_
   refine cm rfl (fun b=>(ab5 (n:=4) hes hy1 (by decide) (by decide))) rfl<|cm rfl (fun b=>(ab5 (n:=4) hes hz1 (by decide) (by decide))) rfl<|?_
   refine cl rfl (arx (m:=(((aaf es 5 (aaf es 4 a).2).1:Int)-4)) (n:=(((aaf es 5 (aaf es 5 (aaf es 4 a).2).2).1:Int)-4)) (by omega) (by omega)) rfl<|?_
   refine cl rfl (arx (m:=(((aaf es 5 (aaf es 4 a).2).1:Int)-4+1+((aaf es 4 (aaf es 5 (aaf es 5 (aaf es 4 a).2).2).2).1:Int))) (n:=(((aaf es 5 (aaf es 5 (aaf es 4 a).2).2).1:Int)-4)) (by omega) (by omega)) rfl<|?_
   refine cl rfl (arx (m:=(((aaf es 5 (aaf es 4 a).2).1:Int)-4+1+((aaf es 4 (aaf es 5 (aaf es 5 (aaf es 4 a).2).2).2).1:Int))) (n:=(((aaf es 5 (aaf es 5 (aaf es 4 a).2).2).1:Int)-4+1+((aaf es 4 (aaf es 4 (aaf es 5 (aaf es 5 (aaf es 4 a).2).2).2).2).1:Int))) (by omega) (by omega)) rfl<|?_
   refine cl rfl (arx (m:=(((aaf es 5 (aaf es 4 a).2).1:Int)-4)) (n:=(((aaf es 5 (aaf es 5 (aaf es 4 a).2).2).1:Int)-4+1+((aaf es 4 (aaf es 4 (aaf es 5 (aaf es 5 (aaf es 4 a).2).2).2).2).1:Int))) (by omega) (by omega)) rfl<|?_
   refine rf J J<|?_
   exact rzM hmb J J (by rw[show acR es a=_ from if_pos hc15];rfl) (by rw[show acR es a=_ from if_pos hc15];rfl)
  ·
   refine br J J J (fun hc46=>?_) (fun hc46=>?_)
   ·
    obtain⟨hp1,hp2,hp3⟩:=amw hk0
    obtain⟨hu1,hu2,hu3,hu4⟩:=arm hp3
    obtain⟨hv1,hv2,hv3,hv4⟩:=arm hu4
    haveI:=biC (k:=10) (m:=(vF es (pF es (aaf es 4 a).2).2).1.1) (by omega) (by decide)
    haveI:=biC (k:=10) (m:=(vF es (pF es (aaf es 4 a).2).2).1.2) (by omega) (by decide)
    haveI:=biC (k:=10) (m:=(vF es (vF es (pF es (aaf es 4 a).2).2).2).1.1) (by omega) (by decide)
    haveI:=biC (k:=10) (m:=(vF es (vF es (pF es (aaf es 4 a).2).2).2).1.2) (by omega) (by decide)
    refine cm rfl (fun b=>(aDw hes hk0)) rfl<|cm rfl (fun b=>(aEI hes hp3)) rfl<|cm rfl (fun b=>(aEI hes hu4)) rfl<|cl rfl (ak5 (p:=iP (vF es (pF es (aaf es 4 a).2).2).1.1 (vF es (pF es (aaf es 4 a).2).2).1.2) (q:=iP (vF es (vF es (pF es (aaf es 4 a).2).2).2).1.1 (vF es (vF es (pF es (aaf es 4 a).2).2).2).1.2)) rfl<|?_
    refine cl rfl (q_S (q:=PtQ.cross (iP (vF es (pF es (aaf es 4 a).2).2).1.1 (vF es (pF es (aaf es 4 a).2).2).1.2) (iP (vF es (vF es (pF es (aaf es 4 a).2).2).2).1.1 (vF es (vF es (pF es (aaf es 4 a).2).2).2).1.2))) rfl<|?_
    refine br J J J (fun hc58=>?_) (fun hc58=>?_)
    ·
     refine cl rfl (alz (n:=1) (by decide) (by decide)) rfl<|cl rfl (apO (m:=(pF es (aaf es 4 a).2).1.1) (n:=(pF es (aaf es 4 a).2).1.2) (m':=(vF es (pF es (aaf es 4 a).2).2).1.1) (n':=(vF es (pF es (aaf es 4 a).2).2).1.2) (k:=1) (by omega) (by omega) (by omega) (by omega) (by decide)) rfl<|?_
     refine cl rfl (alz (n:=1) (by decide) (by decide)) rfl<|cl rfl (apO (m:=(pF es (aaf es 4 a).2).1.1) (n:=(pF es (aaf es 4 a).2).1.2) (m':=(vF es (vF es (pF es (aaf es 4 a).2).2).2).1.1) (n':=(vF es (vF es (pF es (aaf es 4 a).2).2).2).1.2) (k:=1) (by omega) (by omega) (by omega) (by omega) (by decide)) rfl<|?_
     refine rf J J<|?_
     exact rzM hmb J J (by rw[show acR es a=_ from(if_neg hc15).trans ((if_pos hc46).trans (if_pos ((aiO _ _).1 hc58)))];rfl) (by rw[show acR es a=_ from(if_neg hc15).trans ((if_pos hc46).trans (if_pos ((aiO _ _).1 hc58)))])
    ·
     exact at_ (vF es (vF es (pF es (aaf es 4 a).2).2).2).2 ⟨(if_neg hc15).trans ((if_pos hc46).trans (if_neg (fun e=>hc58 ((aiO _ _).2 e)))),hv4⟩
   ·
    exact at_ (aaf es 4 a).2 ⟨(if_neg hc15).trans (if_neg hc46),hk0⟩
 ·
  have hj1:=abE (es:=es) (n:=4) (a:=a2) (by decide)
  have hj2:=aaG (n:=4) ha2
  refine cm rfl (fun b=>(ab5 (n:=4) hes ha2 (by decide) (by decide))) rfl<|?_
  refine nr 10 10 58 6 J J J ?_
  refine lp (X:=List ZP×Nat×Nat) (fun⟨r,i,a3⟩=>[(11, .d (vI (i:Nat))),(10, .rw 10)]) (fun⟨r,i,a3⟩=>[(1000000,some (.o 94 [.d (.sl (es.map vI)), .d (.v (.int .i64 (a3:Nat)))] false)),(10,some (.b 58 6 (r.map eZp) true))]) (fun⟨r,i,a3⟩=>apa es i a3 r=apa es (3+(aaf es 4 a2).1) (aaf es 4 a2).2 []∧a3≤es.length∧Adj r∧r.length+i≤6) (fun⟨r,i,a3⟩=>i) ⟨[],3+(aaf es 4 a2).1,(aaf es 4 a2).2⟩ rfl ⟨rfl,hj2,Adj.nil,by simp;omega⟩ (fun _=>rfl) (fun⟨r,i,a3⟩ hk=>?_)
  try dsimp only at hk⊢
  obtain⟨h1,h2,h3,h4⟩:=hk
  have hrl:(r.map eZp).length=r.length:=by simp
  refine br (fu2:=⟨0⟩) J J J (fun hc73=>?_) (fun hc73=>?_)
  ·
   obtain⟨j,rfl⟩: ∃j,i=j+1:=⟨i-1,by omega⟩
   obtain⟨hq1,hq2,hq3⟩:=amw h2
   refine cm (fu:=⟨8⟩) rfl (fun b=>(aDw hes h2)) rfl<|?_
   refine csS (v1:=fun hg80=>by simp only[aag];kernel_rfl) J J J J (fun hg80=>?_) (fun hg80=>?_)
   ·
    have hlast: ¬r.getLast? =some (pF es a3).1:=by rw[bS (l:=r) (by omega)];simp
    refine rf J J<|ap ((r++[(pF es a3).1]).map eZp) rfl (by rw[bJ];rfl) (aAz [_]) rfl<|?_
    refine rnE 95 10 rfl ?_
    exact at_ ⟨r++[(pF es a3).1],j,(pF es a3).2⟩ (by dsimp only;exact⟨⟨by rw[←h1,apa,if_neg hlast],hq3,h3.snoc ⟨by omega,by omega⟩ hlast,by simp;omega⟩,(by omega)⟩)
   ·
    obtain⟨q,hq,hqi,hqd⟩:=aqp (l:=r) (by omega)
    have hqm:=h3.le q (rY hq)
    unfold ZP.le at hqm
    refine lb (eZp q) rfl (by rw[show(((r.map eZp).length:Nat):Int)-1=((r.length-1:Nat):Int) by omega];exact aas hqi) rfl<|cl rfl (ak6 (m:=q.1) (n:=q.2) (m':=(pF es a3).1.1) (n':=(pF es a3).1.2) (by omega) (by omega) (by omega) (by omega)) rfl<|?_
    refine bb J J J (fun hc91=>?_) (fun hc91=>?_)
    ·
     have hlast: ¬r.getLast? =some (pF es a3).1:=by rw[hq];intro e;have:=avO.2 (Option.some.inj e);simp[this] at hc91
     refine rf J J<|ap ((r++[(pF es a3).1]).map eZp) rfl (by rw[bJ];rfl) (aAz [_]) rfl<|?_
     refine rnE 95 10 rfl ?_
     exact at_ ⟨r++[(pF es a3).1],j,(pF es a3).2⟩ (by dsimp only;exact⟨⟨by rw[←h1,apa,if_neg hlast],hq3,h3.snoc ⟨by omega,by omega⟩ hlast,by simp;omega⟩,(by omega)⟩)
    ·
     have hlast:r.getLast? =some (pF es a3).1:=by rw[hq];congr 1;exact avO.1 (by simpa using hc91)
     exact at_ ⟨r,j,(pF es a3).2⟩ (by dsimp only;exact⟨⟨by rw[←h1,apa,if_pos hlast],hq3,h3,by omega⟩,(by omega)⟩)
  ·
   obtain rfl:i=0:=by omega
   have hg:=h1
   rw[apa] at hg
   refine fzC 10 rfl ?_
   refine gx rfl<|?_
   refine lp (fu:=⟨5⟩) (X:=List ZP×Nat) (fun⟨l,m⟩=>[(10, .d (.sl (l.map eZp)))]) (fun⟨l,m⟩=>[]) (fun⟨l,m⟩=>afb m l=afb 6 r∧l.length≤m+1∧Adj l∧l.length≤6) (fun⟨l,m⟩=>m) ⟨r,6⟩ rfl ⟨rfl,by omega,h3,by omega⟩ (fun _=>rfl) (fun⟨l,m⟩ hk=>?_)
   try dsimp only at hk⊢
   obtain⟨t1,t2,t3,t4⟩:=hk
   have hll:(l.map eZp).length=l.length:=by simp
   refine csS (v2:=fun hg98=>by simp only[aag];kernel_rfl) J J J J (fun hg98=>?_) (fun hg98=>?_)
   ·
    obtain⟨q,hqi,hqd⟩:=ata (l:=l) (by omega)
    obtain⟨q2,hq0,hqi2,hqd2⟩:=aqp (l:=l) (by omega)
    have hqm:=t3.le q (aM hqi)
    have hqm2:=t3.le q2 (aM hqi2)
    unfold ZP.le at hqm hqm2
    refine ix _ rfl (aas (i:=0) hqi) rfl<|ix (eZp q2) rfl (by rw[show(((l.map eZp).length:Nat):Int)-1=((l.length-1:Nat):Int) by omega];exact aas hqi2) rfl<|?_
    refine cl rfl (ak6 (m:=q.1) (n:=q.2) (m':=q2.1) (n':=q2.2) (by omega) (by omega) (by omega) (by omega)) rfl<|?_
    refine bd J J J (fun hc110=>?_) (fun hc110=>?_)
    ·
     have hcond:1<l.length∧l.getD 0 (0,0)=l.getD (l.length-1) (0,0):=⟨by omega,by rw[hqd,hqd2];exact avO.1 hc110⟩
     refine sc' 0 (l.length-1) (l.dropLast.map eZp) J J (by omega) (arc eZp l) (aAz l) (bZ _) (by omega) rfl<|?_
     exact at_ ⟨l.dropLast,m-1⟩ (by dsimp only;exact⟨⟨by rw[←t1];obtain⟨m,rfl⟩: ∃q,m=q+1:=⟨m-1,by omega⟩;rw[afb,if_pos hcond];rfl,by rw[gR];omega,t3.drop,by rw[gR];omega⟩,(by omega)⟩)
    ·
     have hcond: ¬(1<l.length∧l.getD 0 (0,0)=l.getD (l.length-1) (0,0)):=fun e=>hc110 (avO.2 (by rw[←hqd,←hqd2];exact e.2))
     refine cl (fu:=⟨1⟩) rfl (anM (l:=l) t3.le (by omega)) rfl<|?_
     have hgen:afb 6 r=l:=by rw[←t1];cases m with|zero=>rfl|succ m=>rw[afb,if_neg hcond]
     refine eqF 118 (.d (vI ((ams l).length:Nat))) rfl (by rw[aJ];rfl) ?_
     refine gx rfl<|?_
     refine br J J J (fun hc119=>?_) (fun hc119=>?_)
     ·
      have hfin:acR es a=(aAW,a3):=by rw[hR,au4,←hg,hgen,if_pos (by omega)]
      refine cl rfl (arx (m:=0) (n:=0) (by decide) (by decide)) rfl<|cl rfl (arx (m:=2) (n:=0) (by decide) (by decide)) rfl<|cl rfl (arx (m:=0) (n:=2) (by decide) (by decide)) rfl<|?_
      refine rf J J<|?_
      exact rzM hmb J J (by rw[hfin];rfl) (by rw[hfin])
     ·
      have hfin:acR es a=(l,a3):=by rw[hR,au4,←hg,hgen,if_neg (by omega)]
      exact rzM hmb J J (by rw[hfin];rfl) (by rw[hfin])
   ·
    have hcond: ¬(1<l.length∧l.getD 0 (0,0)=l.getD (l.length-1) (0,0)):=fun e=>by omega
    refine cl (fu:=⟨1⟩) rfl (anM (l:=l) t3.le (by omega)) rfl<|?_
    have hgen:afb 6 r=l:=by rw[←t1];cases m with|zero=>rfl|succ m=>rw[afb,if_neg hcond]
    refine eqF 118 (.d (vI ((ams l).length:Nat))) rfl (by rw[aJ];rfl) ?_
    refine gx rfl<|?_
    refine br J J J (fun hc119=>?_) (fun hc119=>?_)
    ·
     have hfin:acR es a=(aAW,a3):=by rw[hR,au4,←hg,hgen,if_pos (by omega)]
     refine cl rfl (arx (m:=0) (n:=0) (by decide) (by decide)) rfl<|cl rfl (arx (m:=2) (n:=0) (by decide) (by decide)) rfl<|cl rfl (arx (m:=0) (n:=2) (by decide) (by decide)) rfl<|?_
     refine rf J J<|?_
     exact rzM hmb J J (by rw[hfin];rfl) (by rw[hfin])
    ·
     have hfin:acR es a=(l,a3):=by rw[hR,au4,←hg,hgen,if_neg (by omega)]
     exact rzM hmb J J (by rw[hfin];rfl) (by rw[hfin])
def aEA:DV:= .v (.pointer none)
def cTd(l:LnQ)(p q:DV):List DV:=[.v (.bool false), .v (.bool false), .v (.bool (decide (l.a<0))),dN l.a.natAbs, .v (.bool (decide (l.b<0))),dN l.b.natAbs, .v (.bool (decide (l.c<0))),dN l.c.natAbs,p,q]
inductive RF (ns:List RN):Int→(Nat→Bool)→DV→Bool→(Nat→Bool)→Prop where
 |leaf (b:Bool) (f:Nat→Bool):RF ns (ac9 b) f (eT (.leaf b)) true f
 |bad (rt:Int) (f:Nat→Bool) (h1:rt≠ -1) (h2:rt≠ -2) (h:rt<0∨(ns.length:Int)≤rt∨(∃k:Nat,rt=k∧k<ns.length∧f k=true)):RF ns rt f aEA false f
 |line (k:Nat) (n:RN) (f:Nat→Bool) (h:ns[k]? =some n) (hf:f k=false) (hl:n.g.ln=none):RF ns (k:Int) f aEA false (anW f k)
 |left (k:Nat) (n:RN) (l:LnQ) (f f2:Nat→Bool) (p:DV) (h:ns[k]? =some n) (hf:f k=false) (hl:n.g.ln=some l) (h1:RF ns n.l (anW f k) p false f2):RF ns (k:Int) f aEA false f2
 |node (k:Nat) (n:RN) (l:LnQ) (f f2 f3:Nat→Bool) (p q:DV) (ok:Bool) (h:ns[k]? =some n) (hf:f k=false) (hl:n.g.ln=some l) (h1:RF ns n.l (anW f k) p true f2) (h2:RF ns n.r f2 q ok f3):RF ns (k:Int) f (.pt (cTd l p q)) ok f3
def aG4(n:Nat)(f:Nat→Bool):Bool:=(List.range n).all f
def RN.of(n:NQ):RN:=⟨⟨decide (n.l.a<0),dg n.l.a.natAbs,decide (n.l.b<0),dg n.l.b.natAbs,decide (n.l.c<0),dg n.l.c.natAbs⟩,n.a,n.b⟩
theorem aDV(ns:List NQ):ns.map eN=(ns.map RN.of).map RN.d:=by
 rw[List.map_map];rfl
theorem aEc(t:Tr):eA t=eRT (t.num 0) ((t.wr 0).map RN.of):=by
 unfold eA eRT
 rw[aDV];rfl
theorem awp(a:Int):ahI (decide (a<0)) (dg a.natAbs)=a:=by
 unfold ahI
 rw[(aaH _).1]
 split
 ·rename_i h;have:=of_decide_eq_true h;omega
 ·rename_i h;have: ¬a<0:=fun e=>h (decide_eq_true e);omega
theorem aow(a:Int):anZ (decide (a<0)) (dg a.natAbs):=⟨(aaH _).2.2,fun h=>ahF.2 (by have:=of_decide_eq_true h;omega)⟩
theorem RN.of_l(n:NQ):(RN.of n).g.l=n.l:=by
 unfold RN.of RL.l
 simp only[awp]
theorem RN.of_ln{n:NQ}(h:n.l.ok):(RN.of n).g.ln=some n.l:=by
 unfold RL.ln
 rw[if_pos ⟨⟨aow _,aow _,aow _⟩,by rw[RN.of_l];exact h⟩,RN.of_l]
theorem RN.of_sm{n:NQ}(h:LB n.l):(RN.of n).g.sm:=by
 have key: ∀a:Int,a.natAbs<2^96→DOk (dg a.natAbs)∧(dg a.natAbs).length≤3:=fun a ha=>⟨(aaH _).2.1,by have:=aa8 ha;omega⟩
 exact⟨key _ h.bl.a,key _ h.bl.b,key _ h.bl.c⟩
theorem aeZ(b:Bool)(k:Nat):ac9 b≠(k:Int):=by cases b<;>(unfold ac9;simp)
theorem RR.det{ns:List RN}{rt:Int}{s s1:RS}{t1:Tr}(h:RR ns rt s t1 s1): ∀{s2:RS} {t2:Tr},RR ns rt s t2 s2→t1=t2∧s1=s2:=by
 induction h with
 |leaf b s=>
  intro s2 t2 h
  generalize hr:ac9 b=r at h
  cases h with
  |leaf b' s=>
   have:b=b':=by cases b<;>cases b'<;>first|rfl|(simp[ac9] at hr)
   subst this;exact⟨rfl,rfl⟩
  |bad rt s h1 h2 h=>cases b<;>simp[ac9] at hr<;>omega
  |line k=>exact absurd hr (aeZ _ _)
  |node k=>exact absurd hr (aeZ _ _)
 |bad rt s h1 h2 h=>
  intro s2 t2 h'
  cases h' with
  |leaf b s=>cases b<;>simp[ac9] at h1 h2
  |bad=>exact⟨rfl,rfl⟩
  |line k n s hn hf=>
   have:=(aL.1 hn).1
   rcases h with h|h|⟨j,e,_,hj⟩
   ·omega
   ·omega
   ·have:j=k:=by omega
    subst this;rw[hf] at hj;cases hj
  |node k n l s s2 s3 x y hn hf=>
   have:=(aL.1 hn).1
   rcases h with h|h|⟨j,e,_,hj⟩
   ·omega
   ·omega
   ·have:j=k:=by omega
    subst this;rw[hf] at hj;cases hj
 |line k n s hn hf hl=>
  intro s2 t2 h'
  generalize hr:(k:Int)=r at h'
  cases h' with
  |leaf b s=>exact absurd hr.symm (aeZ _ _)
  |bad rt s h1 h2 h=>
   have:=(aL.1 hn).1
   rcases h with h|h|⟨j,e,_,hj⟩
   ·omega
   ·omega
   ·have:j=k:=by omega
    subst this;rw[hf] at hj;cases hj
  |line k' n' s hn' hf' hl'=>
   have:k=k':=by omega
   subst this;exact⟨rfl,rfl⟩
  |node k' n' l s s2 s3 x y hn' hf' hl'=>
   have:k=k':=by omega
   subst this;rw[hn] at hn';cases hn';rw[hl] at hl';cases hl'
 |node k n l s s2 s3 x y hn hf hl h1 h2 i1 i2=>
  intro s4 t4 h'
  generalize hr:(k:Int)=r at h'
  cases h' with
  |leaf b s=>exact absurd hr.symm (aeZ _ _)
  |bad rt s h1 h2 h=>
   have:=(aL.1 hn).1
   rcases h with h|h|⟨j,e,_,hj⟩
   ·omega
   ·omega
   ·have:j=k:=by omega
    subst this;rw[hf] at hj;cases hj
  |line k' n' s hn' hf' hl'=>
   have:k=k':=by omega
   subst this;rw[hn] at hn';cases hn';rw[hl] at hl';cases hl'
  |node k' n' l' s s2' s3' x' y' hn' hf' hl' h1' h2'=>
   have:k=k':=by omega
   subst this;rw[hn] at hn';cases hn';rw[hl] at hl';cases hl'
   obtain⟨rfl,rfl⟩:=i1 h1'
   obtain⟨rfl,rfl⟩:=i2 h2'
   exact⟨rfl,rfl⟩
def RT'(ns:List NQ):Tr→Int→List Nat→Prop
 | .leaf b,rt,L=>rt=ac9 b∧L=[]
 | .node l x y,rt,L=> ∃(k:Nat) (a b:Int) (L1 L2:List Nat),rt=(k:Int)∧ns[k]? =some ⟨l,a,b⟩∧RT' ns x a L1∧RT' ns y b L2∧L=k::(L1++L2)
theorem RT'.rr{ns:List NQ}: ∀{t:Tr} {rt:Int} {L:List Nat} {s:RS},RT' ns t rt L→t.all LnQ.ok→L.Nodup→(∀j∈L,s.f j=false)→ ∃f,RR (ns.map RN.of) rt s t ⟨f,s.c+t.size,s.b⟩∧ ∀j,j∉L→f j=s.f j
 | .leaf b,rt,L,s,⟨e,e2⟩,_,_,_=>by
  subst e e2
  exact⟨s.f, .leaf b s,fun _ _=>rfl⟩
 | .node l x y,rt,L,s,⟨k,a,b,L1,L2,e,hk,hx,hy,e2⟩,⟨h0,h1,h2⟩,hnd,hf=>by
  subst e e2
  obtain⟨hkn,hnd⟩:=List.nodup_cons.1 hnd
  obtain⟨hd1,hd2,hdis⟩:=List.nodup_append.1 hnd
  have hfk:=hf k aQ
  have hn1: ∀j∈L1,j≠k:=fun j hj e=>hkn (e▸bL _ hj)
  have hn2: ∀j∈L2,j≠k:=fun j hj e=>hkn (e▸bY _ hj)
  obtain⟨f1,r1,g1⟩:=RT'.rr (s:=⟨anW s.f k,s.c+1,s.b⟩) hx h1 hd1 (fun j hj=>by simp only;rw[aiT (hn1 j hj)];exact hf j (aX _ (bL _ hj)))
  simp only at r1 g1
  obtain⟨f2,r2,g2⟩:=RT'.rr (s:=⟨f1,s.c+1+x.size,s.b⟩) hy h2 hd2 (fun j hj=>by
   simp only
   rw[g1 j (fun h=>hdis _ h _ hj rfl),aiT (hn2 j hj)]
   exact hf j (aX _ (bY _ hj)))
  simp only at r2 g2
  have hc:s.c+(Tr.node l x y).size=s.c+1+x.size+y.size:=by simp only[Tr.size];omega
  rw[hc]
  refine⟨f2, .node k (RN.of ⟨l,a,b⟩) l s _ _ x y (by rw[dQ,hk];rfl) hfk (RN.of_ln h0) r1 r2,fun j hj=>?_⟩
  simp only[aW,bK,not_or] at hj
  rw[g2 j hj.2.2,g1 j hj.2.1,aiT hj.1]
theorem RT'.len{ns:List NQ}: ∀{t:Tr} {rt:Int} {L:List Nat},RT' ns t rt L→L.length=t.size
 | .leaf _,_,_,⟨_,h⟩=>by rw[h];rfl
 | .node l x y,_,_,⟨k,a,b,L1,L2,_,_,h1,h2,h⟩=>by
  rw[h,bV,aV,RT'.len h1,RT'.len h2]
  simp only[Tr.size]
  omega
def RD'(ns:List NQ)(t:Tr)(rt:Int):Prop:= ∃L,RT' ns t rt L∧L.Nodup∧L.length=ns.length
theorem aBt{ns:List NQ}{t:Tr}{rt:Int}(h:RD' ns t rt)(ho:t.all LnQ.ok):ofQ (ns.map RN.of) rt=some t:=by
 obtain⟨L,h1,h2,h3⟩:=h
 obtain⟨f,r,_⟩:=h1.rr (s:=rs0) ho h2 (fun _ _=>rfl)
 have hr:=ap2 (ns:=ns.map RN.of) (m:=(ns.map RN.of).length+1) (rt:=rt) (s:=rs0) (by have:=aiK (ns.map RN.of).length rs0.f;omega)
 obtain⟨e1,e2⟩:=hr.1.det r
 unfold ofQ
 simp only
 rw[e2,e1,if_pos ⟨rfl,by show rs0.c+t.size=_;rw[aJ,←h3,h1.len];show 0+_=_;omega⟩]
theorem azt{ns:List NQ}: ∀{t:Tr} {n:Nat},(∀i,i<t.size→ns[n+i]? =(t.wr n)[i]?)→RT' ns t (t.num n) (List.range' n t.size)
 | .leaf b,n,_=>⟨rfl,rfl⟩
 | .node l x y,n,h=>by
  have hsz:(Tr.node l x y).size=1+x.size+y.size:=rfl
  have hw:(Tr.node l x y).wr n=⟨l,x.num (n+1),y.num (n+1+x.size)⟩::(x.wr (n+1)++y.wr (n+1+x.size)):=by simp[Tr.wr]
  have hx:=x.wr_len (n+1)
  have hy:=y.wr_len (n+1+x.size)
  refine⟨n,x.num (n+1),y.num (n+1+x.size),List.range' (n+1) x.size,List.range' (n+1+x.size) y.size,rfl,?_,azt fun i hi=>?_,azt fun i hi=>?_,?_⟩
  ·have:=h 0 (by omega)
   rw[hw,dY] at this
   rw[this];rfl
  ·have:=h (1+i) (by omega)
   rw[hw,jV 1 i,List.getElem?_cons_succ,fJ (by omega)] at this
   rw[show n+1+i=n+(i+1) by omega];exact this
  ·have:=h (1+x.size+i) (by omega)
   rw[hw,show 1+x.size+i=(x.size+i)+1 by omega,List.getElem?_cons_succ,fM (by omega),hx,Nat.add_sub_cancel_left] at this
   rw[show n+1+x.size+i=n+(x.size+i+1) by omega];exact this
  ·rw[hsz,show 1+x.size+y.size=(x.size+y.size)+1 by omega,List.range'_succ,List.range'_append_1]
theorem aBN{t:Tr}(ho:t.all LnQ.ok):ofQ ((t.wr 0).map RN.of) (t.num 0)=some t:=
 aBt ⟨_,azt (n:=0) (fun i _=>by rw[dT]),List.nodup_range',by rw[List.length_range',t.wr_len]⟩ ho
theorem aEp{t:Tr}(hb:t.all LB): ∀n∈(t.wr 0).map RN.of,n.g.sm:=fun n hn=>by
 obtain⟨m,hm,rfl⟩:=bU.1 hn
 exact RN.of_sm (Tr.all_wr 0 hb m hm)
theorem Tr.all_imp{p q:LnQ→Prop}(h: ∀l,p l→q l): ∀{t:Tr},t.all p→t.all q
 | .leaf _,_=>trivial
 | .node _ _ _,⟨h0,h1,h2⟩=>⟨h _ h0,Tr.all_imp h h1,Tr.all_imp h h2⟩
theorem aGi{t:Tr}(hs:t.size≤65536):((t.wr 0).map RN.of).length≤65536:=by rw[aJ,t.wr_len];exact hs
def l00:LnQ:=⟨0,1,0⟩
def t00:Tr:= .node l00 (.leaf true) (.leaf false)
theorem afW.red_size{k:Nat}{t:Tr}(h:afW k t)(hr:t.Red []):t.size≤k*(1+k):=by
 obtain⟨K,h1,h2,h3⟩:=h.am
 exact cW (Tr.size_le h2 hr h.gd.ok acg.nil h3) (gS h1 (by omega))
structure TrX (k:Nat) (t:Tr):Prop where
 o:afW k t
 s:t.size≤3000
theorem TrX.gd{k:Nat}{t:Tr}(h:TrX k t):t.gd:=h.o.gd
theorem TrX.lb{k:Nat}{t:Tr}(h:TrX k t):t.all LB:=h.o.gd.lb
theorem TrX.ok{k:Nat}{t:Tr}(h:TrX k t):t.all LnQ.ok:=h.o.gd.ok
theorem TrX.bl{k:Nat}{t:Tr}(h:TrX k t):t.all (fun l=>BL l 96):=Tr.all_imp (fun _ h=>h.bl) h.o.gd.lb
theorem TrX.dp{k:Nat}{t:Tr}(h:TrX k t):t.depth≤k:=h.o.dp
theorem TrX.mono{j k:Nat}{t:Tr}(h:TrX j t)(hk:j≤k):TrX k t:=⟨h.o.mono hk,h.s⟩
theorem afW.x{k:Nat}{t:Tr}(h:afW k t)(hr:t.Red [])(hk:k≤54):TrX k t:=
 ⟨h,cW (h.red_size hr) (cW (gS hk (show 1+k≤55 by omega)) (by decide))⟩
theorem TrX.merge{j k:Nat}{op:Int}{t u:Tr}(h:TrX j t)(hu:TrX k u)(hk:j+k≤54):TrX (j+k) (t.mergeQ op u []):=(h.o.merge hu.o).x (Tr.merge_red op u t []) hk
theorem TrX.lim{j k:Nat}{op:Int}{t u:Tr}(h:TrX j t)(hu:TrX k u)(hk:j+k≤200):art op t u=some (t.mergeQ op u []):=h.o.lim hu.o hk
theorem auC(rs:List (List ZP))(fill:Int):(aiX rs fill).Red []:=Tr.restrict_red _ _
theorem akD(es:List Int)(a:Nat):(ad4 es a).1.Red []:=by
 unfold ad4
 dsimp only
 split<;>exact auC _ _
theorem aiL(es:List Int)(a:Nat):(aaw es 0 a).1.Red []:=by
 rw[aaw]
 try dsimp only
 split
 ·exact Tr.restrict_red _ _
 ·split
  ·exact Tr.restrict_red _ _
  ·split
   ·exact Tr.compl_red (akD _ _)
   ·exact akD _ _
theorem afM{es:List Int}{a:Nat}(ha:a≤es.length):TrX 18 (aaw es 0 a).1∧(aaw es 0 a).2≤es.length:=by
 obtain⟨h1,h2⟩:=adC (d:=0) ha
 exact⟨(afW.mono h1 (by decide)).x (aiL es a) (by decide),h2⟩
theorem ala{es:List Int}{a:Nat}(ha:a≤es.length):TrX 18 (abB es 3 a).1∧(abB es 3 a).2≤es.length:=by
 obtain⟨h1,h2⟩:=aoa (d:=3) ha (by decide)
 have h5:=Tr.size_lt (abB es 3 a).1
 have h6:(2:Nat)^(abB es 3 a).1.depth≤2^4:=bW (by decide) (by have:=(agN (d:=3) ha).1;omega)
 exact⟨⟨h1,by omega⟩,h2⟩
def aGn(es:List Int)(a:Nat):(Tr×Tr)×Nat:=
 let x:=aaw es 0 a
 let y:=aaw es 0 x.2
 let k:=aaf es 3 y.2
 let u:=if(k.1:Int)=0 then abB es 3 k.2 else(x.1,k.2)
 let j:=aaf es 3 u.2
 let v:=if(j.1:Int)=0 then abB es 3 j.2 else(y.1,j.2)
 ((u.1,v.1),v.2)
def adZ(es:List Int)(a:Nat):(Tr×Tr)×Nat:=
 let x:=aaw es 0 a
 let y:=aaw es 0 x.2
 let k:=aaf es 6 y.2
 if(k.1:Int)=0 then((x.1, .node (lF es k.2).1 x.1 x.1),(lF es k.2).2)
 else if(k.1:Int)=1 then((x.1,y.1.mergeQ 1 x.1 []),k.2)
 else if(k.1:Int)=2 then((x.1,y.1.mergeQ 3 x.1 []),k.2)
 else if(k.1:Int)=3 then((x.1,(abB es 3 k.2).1),(abB es 3 k.2).2)
 else((x.1,y.1),k.2)
theorem TrX.above{k:Nat}{t:Tr}(h:TrX k t)(hs:t.size≤1400){l:LnQ}(hl:LS l):TrX (k+1) (.node l t t):=by
 obtain⟨K,h1,h2,h3⟩:=h.o.am
 have a3:adw (l::K) t:=h3.mono fun m hm=>⟨m,aX _ hm, .inl rfl⟩
 exact⟨⟨⟨⟨⟨hl.bl⟩,h.lb,h.lb⟩,⟨hl.ok,h.ok,h.ok⟩⟩,by have:=h.dp;show 1+max _ _≤_;omega,l::K,by simp;exact h1,fun m hm=>by
  rcases aW.1 hm with rfl|hm
  ·exact hl.ok
  ·exact h2 m hm,⟨⟨l,aQ, .inl rfl⟩,a3,a3⟩⟩,by have:=h.s;simp only[Tr.size];omega⟩
theorem amU{es:List Int}{a:Nat}(ha:a≤es.length):(aaw es 0 a).1.size≤342:=
 (afW.mono (adC (d:=0) ha).1 (by decide:18*2^0≤18)).red_size (aiL es a)
theorem ave{es:List Int}{a:Nat}(ha:a≤es.length):TrX 18 (adZ es a).1.1∧TrX 36 (adZ es a).1.2∧(adZ es a).2≤es.length:=by
 obtain⟨x1,x2⟩:=afM ha
 obtain⟨y1,y2⟩:=afM x2
 have xs:=amU ha
 have hk:=aaG (n:=6) y2
 unfold adZ
 dsimp only
 split
 ·obtain⟨h1,h2⟩:=aoS hk
  exact⟨x1,(x1.above (by omega) h1).mono (by decide),h2⟩
 ·split
  ·exact⟨x1,y1.merge x1 (by decide),hk⟩
  ·split
   ·exact⟨x1,y1.merge x1 (by decide),hk⟩
   ·split
    ·obtain⟨h1,h2⟩:=ala hk
     exact⟨x1,h1.mono (by decide),h2⟩
    ·exact⟨x1,y1.mono (by decide),hk⟩
def aBx(es:List Int):Nat→Nat→List Tr×Nat
 |0,a=>([],a)
 |n+1,a=>((aaw es 0 a).1::(aBx es n (aaw es 0 a).2).1,(aBx es n (aaw es 0 a).2).2)
def aF6(r:List ZP)(i k:Nat):Bool:=decide (k=i)||decide (k=(i+1)%r.length)||decide (0<alM (r.getD i (0,0)).q (afZ r i).q (r.getD k (0,0)).q)
def aEz(r:List ZP):Bool:=(List.range r.length).all fun i=>(List.range r.length).all fun k=>aF6 r i k
theorem aCM{r:List ZP}(h:aby r): ∀x∈[r],aby x:=fun x hx=>by rw[aU] at hx;subst hx;exact h
theorem aCb{r s:List ZP}(h:aby r)(k:aby s): ∀x∈[r,s],aby x:=fun x hx=>by
 simp only[aW,nT,or_false] at hx
 rcases hx with rfl|rfl
 ·exact h
 ·exact k
theorem ahh{b:Nat}{es:List Int}(hes:es.length≤400){a:Nat}(ha:a≤es.length):PM GB prog 98 (mkP [none] b) b 94 [.sl (es.map vI), .v (.int .i64 (a:Nat))] (eT (ad4 es a).1) [.sl (es.map vI), .v (.int .i64 ((ad4 es a).2:Nat))]:=by
 obtain⟨r1,r2⟩:=aiy ha
 have hk3:=aaG (n:=3) r2
 refine fnM func98 J J ntmps98 J J (fun C b m lo hmb=>?_)
 refine cm rfl (fun b=>(asi hes ha)) rfl<|ro (fu:=⟨4⟩) J J<|?_
 refine mg (X:=List (List ZP)×Nat) (fun⟨rs,a2⟩=>[(3, .rw 6)]) (fun⟨rs,a2⟩=>[(1000000,some (.o 94 [.d (.sl (es.map vI)), .d (.v (.int .i64 (a2:Nat)))] false)),(6,some (.b 73 1 (rs.map eRg) true))]) (fun⟨rs,a2⟩=>ad4 es a=(aiX rs (1+((aaf es 2 a2).1:Int)),(aaf es 2 a2).2)∧a2≤es.length∧(∀r∈rs,aby r)∧rs.length≤2) [3] [1000000,6] rfl ?_ (fun _=>rfl) (fun⟨rs,a2⟩ ⟨hB,ha2,hrs,hrl⟩=>?_)
 ·
  refine gx rfl<|cm rfl (fun b=>(ab5 (n:=3) hes r2 (by decide) (by decide))) rfl<|?_
  refine br J J J (fun hc9=>?_) (fun hc9=>?_)
  ·
   obtain⟨s1,s2⟩:=aiy hk3
   refine cm rfl (fun b=>(asi hes hk3)) rfl<|rf J J<|ap (hbd:=by simp) ([(acR es a).1,(acR es (aaf es 3 (acR es a).2).2).1].map eRg) J J (ayB [(acR es (aaf es 3 (acR es a).2).2).1]) rfl<|?_
   refine rnE 14 6 rfl ?_
   exact at_ ⟨[(acR es a).1,(acR es (aaf es 3 (acR es a).2).2).1],(acR es (aaf es 3 (acR es a).2).2).2⟩ ⟨if_pos hc9,s2,aCb r1 s1,by simp⟩
  ·
   exact at_ ⟨[(acR es a).1],(aaf es 3 (acR es a).2).2⟩ ⟨if_neg hc9,hk3,aCM r1,by simp⟩
 ·
  try dsimp only at hB ha2 hrs hrl⊢
  have hf2:=abE (es:=es) (n:=2) (a:=a2) (by decide)
  refine fz 6 J J<|cl rfl (aE2 (rs:=rs) hrs (by omega)) rfl<|cm rfl (fun b=>(ab5 (n:=2) hes ha2 (by decide) (by decide))) rfl<|cl rfl (aAE (rs:=rs) (fill:=1+((aaf es 2 a2).1:Int)) hrs (by omega)) rfl<|?_
  refine cl rfl (aAt (rs:=rs) (fill:=1+((aaf es 2 a2).1:Int)) hrs (by omega)) rfl<|?_
  exact rzM hmb J J (by rw[hB];rfl) (by rw[hB])
theorem alt{b:Nat}{es:List Int}(hes:es.length≤400){a:Nat}(ha:a≤es.length){n:Int}(hn:n=0):PM GB prog 41 (mkP [none,some (.v (.int .i64 n))] b) b 94 [.sl (es.map vI), .v (.int .i64 (a:Nat))] (eT (aaw es 0 a).1) [.sl (es.map vI), .v (.int .i64 ((aaw es 0 a).2:Nat))]:=by
 have hk0:=aaG (n:=6) ha
 obtain⟨hl,hl2⟩:=aoS hk0
 obtain⟨ht,ht2⟩:=ala hk0
 obtain⟨hb,hb2⟩:=aew hk0
 refine fnM func41 J J ntmps41 J J (fun C b m lo hmb=>?_)
 refine cm (fu:=⟨5⟩) rfl (fun b=>(ab5 (n:=6) hes ha (by decide) (by decide))) rfl<|?_
 refine mg (X:=Unit) (fun _=>[(9, .ff)]) (fun _=>[]) (fun _=>True) [9] [] rfl ?_ (fun _=>rfl) (fun _ _=>?_)
 ·
  refine gx rfl<|?_
  refine cs (fu1:=⟨1⟩) 12 J J J (fun hg12=>?_) (fun hg12=>?_)
  ·
   refine knF rfl (by show some (decide _)=some false;rw[decide_eq_false (by omega)]) rfl<|?_
   exact at_ () trivial
  ·
   exact at_ () trivial
 ·
  refine br J J J (fun hc29=>?_) (fun hc29=>?_)
  ·
   refine cm rfl (fun b=>(aDv hes hk0)) rfl<|cl rfl (ac4 (p:=true)) rfl<|cl (fu:=⟨1⟩) rfl (ac4 (p:=false)) rfl<|bxf J J<|cl rfl (afA (t:= .node (lF es (aaf es 6 a).2).1 (.leaf true) (.leaf false)) ⟨⟨hl.bl⟩,trivial,trivial⟩ ⟨hl.ok,trivial,trivial⟩ (by simp[Tr.depth])) rfl<|?_
   exact rzM hmb J J (by rw[show aaw es 0 a=_ from if_pos hc29];rfl) (by rw[show aaw es 0 a=_ from if_pos hc29])
  ·
   refine br J J J (fun hc39=>?_) (fun hc39=>?_)
   ·
    refine cm rfl (fun b=>(aoW (d:=3) hes hk0 (by decide))) rfl<|cl rfl (afA (t:=(abB es 3 (aaf es 6 a).2).1) ht.lb ht.ok (by have:=ht.dp;omega)) rfl<|?_
    exact rzM hmb J J (by rw[show aaw es 0 a=_ from(if_neg hc29).trans (if_pos hc39)];rfl) (by rw[show aaw es 0 a=_ from(if_neg hc29).trans (if_pos hc39)])
   ·
    refine br J J J (fun hc45=>?_) (fun hc45=>?_)
    ·
     refine cm rfl (fun b=>(ahh hes hk0)) rfl<|cl rfl afY rfl<|?_
     exact rzM hmb J J (by rw[show aaw es 0 a=_ from(if_neg hc29).trans ((if_neg hc39).trans (if_pos hc45))];rfl) (by rw[show aaw es 0 a=_ from(if_neg hc29).trans ((if_neg hc39).trans (if_pos hc45))])
    ·
     refine cm rfl (fun b=>(ahh hes hk0)) rfl<|?_
     exact rzM hmb J J (by rw[show aaw es 0 a=_ from(if_neg hc29).trans ((if_neg hc39).trans (if_neg hc45))];rfl) (by rw[show aaw es 0 a=_ from(if_neg hc29).trans ((if_neg hc39).trans (if_neg hc45))])
theorem alO{b:Nat}{es:List Int}(hes:es.length≤400){a:Nat}(ha:a≤es.length){d:Nat}{n:Int}(hn:n=((d+1:Nat):Int))(hd:d≤3)(ih: ∀{GB:Gh} {b a:Nat} {n:Int},a≤es.length→n=(d:Int)→PM GB prog 41 (mkP [none,some (.v (.int .i64 n))] b) b 94 [.sl (es.map vI), .v (.int .i64 (a:Nat))] (eT (aaw es d a).1) [.sl (es.map vI), .v (.int .i64 ((aaw es d a).2:Nat))]):PM GB prog 41 (mkP [none,some (.v (.int .i64 n))] b) b 94 [.sl (es.map vI), .v (.int .i64 (a:Nat))] (eT (aaw es (d+1) a).1) [.sl (es.map vI), .v (.int .i64 ((aaw es (d+1) a).2:Nat))]:=by
 have hk0:=aaG (n:=6) ha
 obtain⟨hl,hl2⟩:=aoS hk0
 obtain⟨ht,ht2⟩:=ala hk0
 obtain⟨hb,hb2⟩:=aew hk0
 obtain⟨g1,g2⟩:=adC (d:=d) hk0
 have hj:=aaG (n:=4) g2
 have hjl:=abE (es:=es) (n:=4) (a:=(aaw es d (aaf es 6 a).2).2) (by decide)
 obtain⟨g3,g4⟩:=adC (d:=d) hj
 have hpw:18*2^d≤18*2^3:=eM _ (bW (by decide) hd)
 refine fnM func41 J J ntmps41 J J (fun C b m lo hmb=>?_)
 refine cm rfl (fun b=>(ab5 (n:=6) hes ha (by decide) (by decide))) rfl<|?_
 refine cs (fu1:=⟨1⟩) 12 J J J (fun hg12=>?_) (fun hg12=>?_)
 ·
  refine knT rfl (by show some (decide _)=some true;rw[decide_eq_true (by omega)]) rfl<|cm rfl (fun b=>(ih hk0 (by omega))) rfl<|cm rfl (fun b=>(ab5 (n:=4) hes g2 (by decide) (by decide))) rfl<|?_
  refine cm rfl (fun b=>(ih hj (by omega))) rfl<|cl rfl (aij (op:=1+((aaf es 4 (aaw es d (aaf es 6 a).2).2).1:Int)) (t:=(aaw es d (aaf es 6 a).2).1) (u:=(aaw es d (aaf es 4 (aaw es d (aaf es 6 a).2).2).2).1) (c:=[]) g3.gd.lb g3.gd.ok g1.gd.lb g1.gd.ok (fun m h=>by cases h) (fun m h=>by cases h) (by have:=g1.dp;have:=g3.dp;rw[dV];omega)) rfl<|?_
  exact rzM hmb J J (by rw[show aaw es (d+1) a=_ from if_pos hg12];show eT (Tr.mergeL _ _ _ _)=eT (Tr.mergeQ _ _ _ _);rw[Tr.mergeL_nil (by omega) g1.gd.ok g3.gd.ok]) (by rw[show aaw es (d+1) a=_ from if_pos hg12])
 ·
  refine br J J J (fun hc29=>?_) (fun hc29=>?_)
  ·
   refine cm rfl (fun b=>(aDv hes hk0)) rfl<|cl rfl (ac4 (p:=true)) rfl<|cl (fu:=⟨1⟩) rfl (ac4 (p:=false)) rfl<|bxf J J<|cl rfl (afA (t:= .node (lF es (aaf es 6 a).2).1 (.leaf true) (.leaf false)) ⟨⟨hl.bl⟩,trivial,trivial⟩ ⟨hl.ok,trivial,trivial⟩ (by simp[Tr.depth])) rfl<|?_
   exact rzM hmb J J (by rw[show aaw es (d+1) a=_ from(if_neg hg12).trans (if_pos hc29)];rfl) (by rw[show aaw es (d+1) a=_ from(if_neg hg12).trans (if_pos hc29)])
  ·
   refine br J J J (fun hc39=>?_) (fun hc39=>?_)
   ·
    refine cm rfl (fun b=>(aoW (d:=3) hes hk0 (by decide))) rfl<|cl rfl (afA (t:=(abB es 3 (aaf es 6 a).2).1) ht.lb ht.ok (by have:=ht.dp;omega)) rfl<|?_
    exact rzM hmb J J (by rw[show aaw es (d+1) a=_ from(if_neg hg12).trans ((if_neg hc29).trans (if_pos hc39))];rfl) (by rw[show aaw es (d+1) a=_ from(if_neg hg12).trans ((if_neg hc29).trans (if_pos hc39))])
   ·
    refine br J J J (fun hc45=>?_) (fun hc45=>?_)
    ·
     refine cm rfl (fun b=>(ahh hes hk0)) rfl<|cl rfl afY rfl<|?_
     exact rzM hmb J J (by rw[show aaw es (d+1) a=_ from(if_neg hg12).trans ((if_neg hc29).trans ((if_neg hc39).trans (if_pos hc45)))];rfl) (by rw[show aaw es (d+1) a=_ from(if_neg hg12).trans ((if_neg hc29).trans ((if_neg hc39).trans (if_pos hc45)))])
    ·
     refine cm rfl (fun b=>(ahh hes hk0)) rfl<|?_
     exact rzM hmb J J (by rw[show aaw es (d+1) a=_ from(if_neg hg12).trans ((if_neg hc29).trans ((if_neg hc39).trans (if_neg hc45)))];rfl) (by rw[show aaw es (d+1) a=_ from(if_neg hg12).trans ((if_neg hc29).trans ((if_neg hc39).trans (if_neg hc45)))])
theorem anz{es:List Int}(hes:es.length≤400): ∀{d:Nat} {GB:Gh} {b a:Nat} {n:Int},d≤4→a≤es.length→n=(d:Int)→PM GB prog 41 (mkP [none,some (.v (.int .i64 n))] b) b 94 [.sl (es.map vI), .v (.int .i64 (a:Nat))] (eT (aaw es d a).1) [.sl (es.map vI), .v (.int .i64 ((aaw es d a).2:Nat))]
 |0,_,_,_,_,_,ha,hn=>alt hes ha hn
 |d+1,_,_,_,_,hd,ha,hn=>alO hes ha hn (by omega) (fun h1 h2=>anz hes (by omega) h1 h2)
theorem anp{es:List Int}(hes:es.length≤400){a d b:Nat}(ha:a≤es.length)(hd:d≤4):PM GB prog 41 (mkP [none,some (.v (.int .i64 (d:Nat)))] b) b 94 [.sl (es.map vI), .v (.int .i64 (a:Nat))] (eT (aaw es d a).1) [.sl (es.map vI), .v (.int .i64 ((aaw es d a).2:Nat))]:=anz (GB:=GB) hes hd ha rfl
section
variable {GB:Gh} {C:Ctx} {n:Nat} {Q0:Exit→Act→World→Prop} {fr fr' fr1 fr2:FrX} {own own' own1 own2:OwX} {cf cf' cf1 cf2:Cf} {vc vc1 vc2:List Prop}
def aGX(fr:FrX)(cf:Cf):Option Int:=match opC fr cf with
 |some ⟨_, .binOp .and _ x (.const (.int .i64 3)) _,_,_,_,_⟩=>match evX (lkC fr cf) x with
  |some (.d (.v (.int .i64 p)))=>some p
  |_=>none
 |_=>none
end
theorem aCo{es0 es:List Int}(hb:es0.length≤1125899906842624)(he:es=es0.take 400):PN GB prog 9 [.sl (es0.map vI)] 94 Unit (fun _=>[.sl (es.map vI), .v (.int .i64 (0:Nat))]):=by
 subst he;exact aEa hb
theorem apD{k:Nat}{t:Tr}(h:TrX k t):PF GB prog 11 [eT t] (eA t):=aAs h.bl (by have:=h.s;omega)
theorem anh{op:Int}{j k:Nat}{a b:Tr}(ho:1≤op∧op≤4)(ha:TrX j a)(hb:TrX k b)(hk:j+k≤900):PF GB prog 44 [vI op,eT a,eT b, .sl []] (eT (a.mergeQ op b [])):=by
 have:=aij (GB:=GB) (op:=op) hb.lb hb.ok (t:=a) (c:=[]) ha.lb ha.ok (fun m h=>by cases h) (fun m h=>by cases h) (by have:=ha.dp;have:=hb.dp;rw[dV];omega)
 rw[Tr.mergeL_nil ho ha.ok hb.ok] at this
 exact this
theorem aDk{b:Nat}{es:List Int}(hes:es.length≤400){a:Nat}(ha:a≤es.length):PM GB prog 8 (mkP [none] b) b 94 [.sl (es.map vI), .v (.int .i64 (a:Nat))] (.tp [eT (adZ es a).1.1,eT (adZ es a).1.2]) [.sl (es.map vI), .v (.int .i64 ((adZ es a).2:Nat))]:=by
 obtain⟨x1,x2⟩:=afM ha
 obtain⟨y1,y2⟩:=afM x2
 have hk0:=aaG (n:=6) y2
 refine fnM func8 J J ntmps8 J J (fun C b m lo hmb=>?_)
 refine cm rfl (fun b=>(anp (d:=0) hes ha (by decide))) rfl<|cm rfl (fun b=>(anp (d:=0) hes x2 (by decide))) rfl<|cm rfl (fun b=>(ab5 (n:=6) hes y2 (by decide) (by decide))) rfl<|?_
 refine br J J J (fun hc12=>?_) (fun hc12=>?_)
 ·
  refine cm (fu:=⟨3⟩) rfl (fun b=>(aDv hes hk0)) rfl<|bxf J J<|?_
  exact rzM hmb J J (by rw[show adZ es a=_ from if_pos hc12];rfl) (by rw[show adZ es a=_ from if_pos hc12])
 ·
  refine br J J J (fun hc20=>?_) (fun hc20=>?_)
  ·
   refine cl rfl (anh (op:=1) (by decide) y1 x1 (by decide)) rfl<|?_
   exact rzM hmb J J (by rw[show adZ es a=_ from(if_neg hc12).trans (if_pos hc20)];rfl) (by rw[show adZ es a=_ from(if_neg hc12).trans (if_pos hc20)])
  ·
   refine br J J J (fun hc25=>?_) (fun hc25=>?_)
   ·
    refine cl rfl (anh (op:=3) (by decide) y1 x1 (by decide)) rfl<|?_
    exact rzM hmb J J (by rw[show adZ es a=_ from(if_neg hc12).trans ((if_neg hc20).trans (if_pos hc25))];rfl) (by rw[show adZ es a=_ from(if_neg hc12).trans ((if_neg hc20).trans (if_pos hc25))])
   ·
    refine br J J J (fun hc30=>?_) (fun hc30=>?_)
    ·
     refine cm rfl (fun b=>(aoW (d:=3) hes hk0 (by decide))) rfl<|?_
     exact rzM hmb J J (by rw[show adZ es a=_ from(if_neg hc12).trans ((if_neg hc20).trans ((if_neg hc25).trans (if_pos hc30)))];rfl) (by rw[show adZ es a=_ from(if_neg hc12).trans ((if_neg hc20).trans ((if_neg hc25).trans (if_pos hc30)))])
    ·
     exact rzM hmb J J (by rw[show adZ es a=_ from(if_neg hc12).trans ((if_neg hc20).trans ((if_neg hc25).trans (if_neg hc30)))];rfl) (by rw[show adZ es a=_ from(if_neg hc12).trans ((if_neg hc20).trans ((if_neg hc25).trans (if_neg hc30)))])
def aGM(cs:List RL):Option (List LnQ):=if cs.all (fun r=>r.ln.isSome) then some (cs.filterMap RL.ln) else none
def aGP:Option (List LnQ)→DV
 |some ls=> .tp [.sl (ls.map eLn),vB true]
 |none=> .tp [.sl [],vB false]
def aGD:Option aan→DV
 |some c=> .tp [.sl (c.map eFr),vB true]
 |none=> .tp [.sl [],vB false]
def aFV(ai al:Addr)(more:Nat):Option Tr→DV
 |none=> .tp [.v (.pointer none),aCL ai]
 |some t=>if 1024<t.depth+more then .tp [.v (.pointer none),aCL al] else .tp [eU t, .v .nilIface]
def aGz(ai:Addr)(f:Tr→Tr):Option Tr→Tr ⊕ Addr
 |some t=> .inl (f t)
 |none=> .inr ai
def aFS(ai ae:Addr):Option Tr→Option (List LnQ)→Tr ⊕ Addr
 |some t,some ls=>(match afv ls [] with
  |some c=> .inl (t.restrict c)
  |none=> .inr ae)
 |_,_=> .inr ai
def aGA(ai:Addr):Option LnQ→Option Tr→DV
 |some m,some t=> .tp [eA (t.restrict (aaS [] m)),eA (t.restrict (aaS [] m.rev)), .v .nilIface]
 |_,_=> .tp [trZ,trZ,aCL ai]

section
variable {GB:Gh} {C:Ctx} {n:Nat} {Q0:Exit→Act→World→Prop} {fr fr':FrX} {own own':OwX} {cf cf':Cf} {vc:List Prop} {ops:Array Oper} {r:List Oper} {K:List Kt}
def aG1(fr:FrX)(cf:Cf):Option (FuncId×Value):=match opC fr cf with
 |some ⟨_, .makeFunc (.func f) ⟨[x]⟩ ⟨[]⟩,_,_,_,_⟩=>match evX (lkC fr cf) x with
  |some (.d (.v pv))=>some (f,pv)
  |_=>none
 |_=>none
def aG0(fr:FrX)(cf:Cf):Option (FuncId×List Value×List DV):=match opC fr cf with
 |some ⟨_, .call ⟨.value fo,args,_⟩,_,_,_,_⟩=>match evX (lkC fr cf) fo,evDs (lkC fr cf) args.toList with
  |some (.d (.v (.func (.func f) ⟨c1⟩ ⟨[]⟩))),some ds=>some (f,c1,ds)
  |_,_=>none
 |_=>none
/-! an array of constants -/
def ax5:List (Nat×Operand)→Option (List (Nat×Value))
 |[]=>some []
 |(i, .const v)::t=>match ax5 t with
  |some l=>some ((i,v)::l)
  |none=>none
 |_::_=>none
def aGS(cf:Cf)(fr:FrX):Option (TypeId×List (Nat×Value)):=match opC fr cf with
 |some ⟨_, .build t ⟨ps⟩,_,_,_,_⟩=>match ax5 ps with
  |some vs=>some (t,vs)
  |none=>none
 |_=>none
def aGU(fr:FrX)(own:OwX)(cf:Cf):Option (TypeId×Nat×Nat×List FX×Bool×FX):=match opC fr cf with
 |some ⟨_, .store t x y,_,_,_,_⟩=>match evX (lkC fr cf) x with
  |some (.ov nm 0)=>match bkC fr own cf nm with
   |some (.o ty cs lo)=>match evX (lkC fr cf) y with
    |some fv=>some (t,nm,ty,cs,lo,fv)
    |_=>none
   |_=>none
  |_=>none
 |_=>none
def aGN(fr:FrX)(cf:Cf):Option RwA:=match opC fr cf with
 |some ⟨some d, .buildSlice t len parts,_,_,_,_⟩=>match abk tt t with
  |some ⟨.sl e s _,_,_,_⟩=>match aAM (lkC fr cf) 0 parts.toList with
   |some ds=>bif axh s ds&&(Nat.beq parts.toList.length len&&(Nat.ble (len*s) 1000&&Nat.blt 0 (len*s))) then some ⟨d,e,s,ds⟩ else none
   |none=>none
  |_=>none
 |_=>none
def aGV(fr:FrX)(cf:Cf):Option (TypeId×List DV):=match opC fr cf with
 |some ⟨_, .load t x,_,_,_,_⟩=>match evX (lkC fr cf) x with
  |some (.ep l)=>some (t,l)
  |_=>none
 |_=>none
def aGB:TypeDesc→Bool
 | .struct _=>false
 | .array _ _=>false
 |_=>true
end
def ePr(a b:Tr):DV:= .ag [eU a,eU b]
def prZ:DV:= .ag [.v (.pointer none), .v (.pointer none)]
theorem avn{k:Nat}{t:Tr}(h:TrX k t):PF GB prog 74 [eA t] (.tp [eU t,vB true]):=by
 have:=aDY (GB:=GB) (rt:=t.num 0) (aEp h.lb) (aGi (by have:=h.s;omega)) (aBN h.ok)
 rw[←aEc] at this
 exact this
theorem atG{op:Int}{a b:Tr}{v:Bool}(h:Tr.leaf v=a.mergeQ op b []):adn op a b=!v:=by unfold adn;rw[←h];cases v<;>rfl
theorem auw{op:Int}{a b:Tr}{l:LnQ}{x y:Tr}(h:Tr.node l x y=a.mergeQ op b []):adn op a b=false:=by unfold adn;rw[←h];simp[Tr.isLeaf]
theorem aAC{j k:Nat}{a b:Tr}(ha:TrX j a)(hb:TrX k b):PF GB prog 50 [eA a,eA b] (.tp [ePr a b, .v .nilIface]):=by
 refine fn func50 J J ntmps50 J J (fun C=>?_)
 refine cl (fu:=⟨3⟩) rfl (avn ha) rfl<|?_
 refine kbT 14 rfl ?_
 refine gx rfl<|cl (fu:=⟨3⟩) rfl (avn hb) rfl<|?_
 refine kbT 19 rfl ?_
 refine gx rfl<|?_
 exact rz J J
theorem auT{ai al ae:Addr}(hE:EG GB ai al ae){op:Int}{j k:Nat}{a b:Tr}(ha:TrX j a)(hb:TrX k b)(hk:j+k≤200):PF GB prog 168 [ePr a b,vI op] (.tp [vB (adn op a b), .v .nilIface]):=by
 obtain⟨t,ht⟩: ∃t,t=a.mergeQ op b []:=⟨_,rfl⟩
 refine fn func168 J J ntmps168 J J (fun C=>?_)
 refine cl rfl (aCR (t:=t) hE ha.gd hb.gd (by have:=ha.s;omega) (by have:=hb.s;omega) (by rw[ht];exact ha.lim hb hk)) rfl<|?_
 rcases t with v|⟨l,x,y⟩
 ·
  have hq:=atG ht
  refine cl (fu:=⟨0⟩) rfl abr rfl<|?_
  refine kbT 21 rfl ?_
  refine gx rfl<|?_
  exact rz rfl (by rw[hq];rfl)
 ·
  have hq:=auw ht
  refine cl (fu:=⟨0⟩) rfl abf rfl<|?_
  refine kbF 21 rfl ?_
  refine gx rfl<|?_
  exact rz rfl (by rw[hq];rfl)
theorem awr{ai al ae:Addr}(hE:EG GB ai al ae){j k:Nat}{a b:Tr}(ha:TrX j a)(hb:TrX k b)(hk:j+k≤200):PF GB prog 138 [ePr a b] (.tp [vB (adn 4 a b), .v .nilIface]):=by
 refine fn func138 J J ntmps138 J J (fun C=>?_)
 refine cl rfl (auT hE (op:=4) ha hb hk) rfl<|?_
 exact rz J J
theorem asV{ai al ae:Addr}(hE:EG GB ai al ae){j k:Nat}{a b:Tr}(ha:TrX j a)(hb:TrX k b)(hk:j+k≤200):PF GB prog 93 [ePr a b] (.tp [vB (adn 3 a b), .v .nilIface]):=by
 refine fn func93 J J ntmps93 J J (fun C=>?_)
 refine cl rfl (auT hE (op:=3) ha hb hk) rfl<|?_
 exact rz J J
theorem az2{ai al ae:Addr}(hE:EG GB ai al ae){j k:Nat}{a b:Tr}(ha:TrX j a)(hb:TrX k b)(hk:j+k≤200):PF GB prog 94 [ePr a b] (.tp [vB (adn 2 a b), .v .nilIface]):=by
 refine fn func94 J J ntmps94 J J (fun C=>?_)
 refine cl rfl (auT hE (op:=2) ha hb hk) rfl<|?_
 exact rz J J
theorem aDZ{ai al ae:Addr}(hE:EG GB ai al ae){j k:Nat}{a b:Tr}(ha:TrX j a)(hb:TrX k b)(hk:j+k≤200):PF GB prog 63 [eA a,eA b] (.tp [vB (adn 4 a b), .v .nilIface]):=by
 refine fn func63 J J ntmps63 J J (fun C=>?_)
 refine cl rfl (aAC ha hb) rfl<|cl rfl (awr hE ha hb hk) rfl<|?_
 exact rz J J
theorem aA3{ai al ae:Addr}(hE:EG GB ai al ae){j k:Nat}{a b:Tr}(ha:TrX j a)(hb:TrX k b)(hk:j+k≤200):PF GB prog 37 [eA a,eA b] (.tp [vB (adn 3 a b), .v .nilIface]):=by
 refine fn func37 J J ntmps37 J J (fun C=>?_)
 refine cl rfl (aAC ha hb) rfl<|cl rfl (asV hE ha hb hk) rfl<|?_
 exact rz J J
theorem aA6{ai al ae:Addr}(hE:EG GB ai al ae){j k:Nat}{a b:Tr}(ha:TrX j a)(hb:TrX k b)(hk:j+k≤200):PF GB prog 38 [eA a,eA b] (.tp [vB (adn 2 a b), .v .nilIface]):=by
 refine fn func38 J J ntmps38 J J (fun C=>?_)
 refine cl rfl (aAC ha hb) rfl<|cl rfl (az2 hE ha hb hk) rfl<|?_
 exact rz J J
theorem axp{ai al ae:Addr}(hE:EG GB ai al ae){k:Nat}{t:Tr}(h:TrX k t)(hk:k≤1000):PF GB prog 45 [eA t] (.tp [eU (t.restrict []), .v .nilIface]):=by
 have hd:=h.dp
 refine fn func45 J J ntmps45 J J (fun C=>?_)
 refine cl (fu:=⟨3⟩) rfl (avn h) rfl<|?_
 refine kbT 10 rfl ?_
 refine gx rfl<|cl (fu:=⟨0⟩) rfl (ajS (t:=t) (by omega)) rfl<|knF rfl (by show some (decide _)=some false;rw[decide_eq_false (by omega)]) rfl<|cl rfl (avq (t:=t) h.lb h.ok (by omega)) rfl<|?_
 exact rz J J
theorem ar3{v w:Bool}{t:Tr}(h:Tr.leaf v=t.restrict []):amv w t=decide (v=w):=by unfold amv;rw[←h];simp[Tr.isLeaf,Tr.code]
theorem asc{w:Bool}{t:Tr}{l:LnQ}{x y:Tr}(h:Tr.node l x y=t.restrict []):amv w t=false:=by unfold amv;rw[←h];simp[Tr.isLeaf]
theorem avt{ai al ae:Addr}(hE:EG GB ai al ae){k:Nat}{t:Tr}(h:TrX k t)(hk:k≤1000):PF GB prog 61 [eA t] (.tp [vB (amv false t), .v .nilIface]):=by
 obtain⟨u,ht⟩: ∃u,u=t.restrict []:=⟨_,rfl⟩
 refine fn func61 J J ntmps61 J J (fun C=>?_)
 refine cl (fu:=⟨0⟩) rfl (axp hE h hk) rfl<|?_
 refine eqF 8 (.d (.tp [eU u, .v .nilIface])) rfl (by rw[ht]) ?_
 refine gx rfl<|?_
 rcases u with v|⟨l,x,y⟩
 ·
  have hq:=ar3 (w:=false) ht
  refine cl (fu:=⟨0⟩) rfl abr rfl<|?_
  refine kbT 15 rfl ?_
  refine gx rfl<|?_
  exact rz rfl (by rw[hq];cases v<;>rfl)
 ·
  have hq:=asc (w:=false) ht
  refine cl (fu:=⟨0⟩) rfl abf rfl<|?_
  refine kbF 15 rfl ?_
  refine gx rfl<|?_
  exact rz rfl (by rw[hq];rfl)
theorem avR{ai al ae:Addr}(hE:EG GB ai al ae){k:Nat}{t:Tr}(h:TrX k t)(hk:k≤1000):PF GB prog 62 [eA t] (.tp [vB (amv true t), .v .nilIface]):=by
 obtain⟨u,ht⟩: ∃u,u=t.restrict []:=⟨_,rfl⟩
 refine fn func62 J J ntmps62 J J (fun C=>?_)
 refine cl (fu:=⟨0⟩) rfl (axp hE h hk) rfl<|?_
 refine eqF 8 (.d (.tp [eU u, .v .nilIface])) rfl (by rw[ht]) ?_
 refine gx rfl<|?_
 rcases u with v|⟨l,x,y⟩
 ·
  have hq:=ar3 (w:=true) ht
  refine cl (fu:=⟨0⟩) rfl abr rfl<|?_
  refine kbT 15 rfl ?_
  refine gx rfl<|?_
  exact rz rfl (by rw[hq];cases v<;>rfl)
 ·
  have hq:=asc (w:=true) ht
  refine cl (fu:=⟨0⟩) rfl abf rfl<|?_
  refine kbF 15 rfl ?_
  refine gx rfl<|?_
  exact rz rfl (by rw[hq];rfl)
end Go.Sx
end
