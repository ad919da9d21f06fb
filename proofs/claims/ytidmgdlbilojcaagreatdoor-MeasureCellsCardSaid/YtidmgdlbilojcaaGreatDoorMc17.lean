import Derived.Test.YtidmgdlbilojcaaGreatDoorMc16
set_option linter.unusedSimpArgs false
set_option maxHeartbeats 4000000
set_option maxRecDepth 100000
set_option linter.unusedVariables false
section
namespace Go.Sx
open Go Go.Proofs Tryz
variable {GB:Gh}
theorem azA(xs ys:List NQ)(n:NQ):((xs++(n::ys)).map eN)[((xs.length:Nat):Int).toNat]? =some (eN n):=by simp
theorem ay9(xs ys:List NQ)(n m:NQ)(e:DV)(h:e=eN m):((xs++(n::ys)).map eN).set ((xs.length:Nat):Int).toNat e=(xs++(m::ys)).map eN:=by subst h;simp
theorem an0{ns:List NQ}:PB GB prog 34 (mkB [some (eT (.leaf true)),none]) 8 182 (ns.map eN) (fun w=> .tp ([]++ .v (.slice w.a w.n w.c)::[.v (.int .i64 (Tr.num (.leaf true) ns.length))])) ((ns++Tr.wr (.leaf true) ns.length).map eN):=by
 refine fnB (fu:=⟨12⟩) func34 J J ntmps34 J J (fun C=>?_)
 refine knT (fu:=⟨9⟩) J J J<|knT J J J<|?_
 exact rzB J J J J J (by simp[Tr.wr]) rfl
theorem amj{ns:List NQ}:PB GB prog 34 (mkB [some (eT (.leaf false)),none]) 8 182 (ns.map eN) (fun w=> .tp ([]++ .v (.slice w.a w.n w.c)::[.v (.int .i64 (Tr.num (.leaf false) ns.length))])) ((ns++Tr.wr (.leaf false) ns.length).map eN):=by
 refine fnB (fu:=⟨12⟩) func34 J J ntmps34 J J (fun C=>?_)
 refine knT (fu:=⟨9⟩) J J J<|knF J J J<|?_
 exact rzB J J J J J (by simp[Tr.wr]) rfl
theorem anU{l:LnQ}{s u:Tr}{ns:List NQ}(hl:BL l 96)(hs:ns.length+(1+s.size+u.size)≤1000000)(ihs: ∀{ns:List NQ},ns.length+s.size≤1000000→PB GB prog 34 (mkB [some (eT s),none]) 8 182 (ns.map eN) (fun w=> .tp ([]++ .v (.slice w.a w.n w.c)::[.v (.int .i64 (Tr.num s ns.length))])) ((ns++Tr.wr s ns.length).map eN))(ihu: ∀{ns:List NQ},ns.length+u.size≤1000000→PB GB prog 34 (mkB [some (eT u),none]) 8 182 (ns.map eN) (fun w=> .tp ([]++ .v (.slice w.a w.n w.c)::[.v (.int .i64 (Tr.num u ns.length))])) ((ns++Tr.wr u ns.length).map eN)):PB GB prog 34 (mkB [some (eT (.node l s u)),none]) 8 182 (ns.map eN) (fun w=> .tp ([]++ .v (.slice w.a w.n w.c)::[.v (.int .i64 (Tr.num (.node l s u) ns.length))])) ((ns++Tr.wr (.node l s u) ns.length).map eN):=by
 refine fnB (fu:=⟨12⟩) func34 J J ntmps34 J J (fun C=>?_)
 refine knF (fu:=⟨9⟩) J J J<|?_
 refine eqF 20 (.d (.v (.int .i64 (ns.length:Nat)))) rfl (by simp) ?_
 refine gx rfl<|cl rfl (aFW hl) rfl<|rf J J<|apB ((ns++[(⟨l,0,0⟩:NQ)]).map eN) rfl (by rw[bU]<;>rfl) (aGF [(⟨l,0,0⟩:NQ)]) rfl<|?_
 refine cb _ rfl (ihs (ns:=ns++[(⟨l,0,0⟩:NQ)]) (by simp;omega)) J J<|cb (hv:=by simp only[aah];exact(by simp;omega)) ((ns++((⟨l,0,0⟩:NQ)::(s.wr (ns.length+1)++u.wr (ns.length+1+s.size)))).map eN) rfl (ihu (ns:=ns++[(⟨l,0,0⟩:NQ)]++s.wr (ns++[(⟨l,0,0⟩:NQ)]).length) (by simp[Tr.wr_len];omega)) (by simp[Tr.wr_len,jR,jU 1]) rfl<|?_
 refine sb (hv:=by simp only[aah];exact(by simp;omega)) (eN ⟨l,0,0⟩) ((ns++((⟨l,s.num (ns.length+1),0⟩:NQ)::(s.wr (ns.length+1)++u.wr (ns.length+1+s.size)))).map eN) rfl (azA ns _ ⟨l,0,0⟩) rfl (by rw[ay9 _ _ _ ⟨l,s.num (ns.length+1),0⟩ _ (by simp[eN,DV.cells])]) rfl<|?_
 refine sb (eN ⟨l,s.num (ns.length+1),0⟩) ((ns++Tr.wr (.node l s u) ns.length).map eN) rfl (azA ns _ ⟨l,s.num (ns.length+1),0⟩) rfl (by rw[ay9 _ _ _ ⟨l,s.num (ns.length+1),u.num (ns.length+1+s.size)⟩ _ (by simp[eN,DV.cells,Tr.wr_len,jR,jU 1])];simp[Tr.wr]) rfl<|?_
 exact rzB J J J J J J J
theorem aoT: ∀{t:Tr} {ns:List NQ},t.all (fun l=>BL l 96)→ns.length+t.size≤1000000→PB GB prog 34 (mkB [some (eT t),none]) 8 182 (ns.map eN) (fun w=> .tp ([]++ .v (.slice w.a w.n w.c)::[.v (.int .i64 (Tr.num t ns.length))])) ((ns++Tr.wr t ns.length).map eN)
 | .leaf true,ns,_,_=>an0
 | .leaf false,ns,_,_=>amj
 | .node l s u,ns,hb,hs=>anU hb.1 hs (fun h=>aoT hb.2.1 h) (fun h=>aoT hb.2.2 h)
theorem azQ{t:Tr}(hb:t.all (fun l=>BL l 96))(hs:t.size≤1000000):PF GB prog 7 [eT t] (eA t):=by
 refine fn func7 J J ntmps7 J J (fun C=>?_)
 refine cbn _ rfl (aoT (t:=t) (ns:=[]) hb (by simpa using hs)) J J<|?_
 refine fzE 6 rfl ?_
 exact rz J J
theorem aGh(ds:List Int):adh 1 (ds.map vI):=fun d hd=>by
 obtain⟨n,_,rfl⟩:=bJ.1 hd;exact⟨rfl,rfl⟩
theorem axG(es:List Int):(es.map vI).take (min es.length 400)=(es.take 400).map vI:=by
 rw[gW]
 rcases Nat.le_total es.length 400 with h|h
 ·rw[iZ h,aW (by simp),aW (by simpa using h)]
 ·rw[Nat.min_eq_right h]
theorem aGg{es:List Int}(hb:es.length≤1125899906842624):PN GB prog 8 [.sl (es.map vI)] 87 Unit (fun _=>[.sl ((es.take 400).map vI), .v (.int .i64 (0:Nat))]):=by
 have hel:(es.map vI).length=es.length:=by simp
 refine fnN func8 J J ntmps8 J J (fun C hmb=>?_)
 refine sc' 0 (min es.length 400) ((es.take 400).map vI) J J (by rw[hel];show(if _ then _ else _:Int)=_;split<;>omega) (axG es) (aGh _) (by omega) (by omega) rfl<|?_
 exact rzN () J J J J J
theorem asS{t:Tr}(hb:t.all LB)(hok:t.all LnQ.ok)(hd:t.depth≤900):PF GB prog 117 [eT t] (eT (t.restrict [])):=by
 refine fn func117 J J ntmps117 J J (fun C=>?_)
 refine cl rfl (aeI (t:=t) (c:=[]) hb hok (by simp) (by simp) (by simpa using hd)) rfl<|?_
 exact rz rfl (by rw[←Tr.restrictL_eq t [] [] hok (by simp) aaJ.nil (fun p=>by unfold InD InL;simp)];rfl)
theorem anz{cuts:List Rat}{marks:List Bool}: ∀k,2*(acq cuts marks k).length≤k+(if 0<k∧marks.getD (k-1) false=true then 1 else 0)
 |0=>by rw[acq];simp
 |k+1=>by
  have ih:=anz (cuts:=cuts) (marks:=marks) k
  rw[acq]
  simp only[lK]
  by_cases hm:marks.getD k false=true
  ·rw[if_pos hm,if_pos (show 0<k+1∧marks.getD k false=true from⟨by omega,hm⟩)]
   by_cases hp:0<k∧marks.getD (k-1) false=true
   ·rw[if_pos hp] at ih⊢
    cases hv:(acq cuts marks k).getLast? with
    |some v=>
     have:0<(acq cuts marks k).length:=by
      cases e:acq cuts marks k with
      |nil=>rw[e] at hv;simp at hv
      |cons a t=>simp
     show 2*((acq cuts marks k).dropLast++[_]).length≤_
     rw[aR,gL,gU];omega
    |none=>
     have:acq cuts marks k=[]:=List.getLast?_eq_none_iff.1 hv
     simp only[this];simp
   ·rw[if_neg hp] at ih⊢
    rw[aR,gU];omega
  ·rw[if_neg hm]
   split at ih<;>split<;>omega
theorem ax8(op:Int)(a b:List IvQ):(ahB op a b).length≤a.length+b.length+1:=by
 unfold ahB anB
 have h:=anz (cuts:=adc (a++b)) (marks:=(ab6 (adc (a++b))).map fun t=>agR op (acm a t) (acm b t)) ((ab6 (adc (a++b))).map fun t=>agR op (acm a t) (acm b t)).length
 have h2:=ai3 (a++b)
 rw[aR] at h2
 have h3:((ab6 (adc (a++b))).map fun t=>agR op (acm a t) (acm b t)).length=(adc (a++b)).length+1:=by rw[aK,afp]
 split at h<;>omega
theorem ajN(f:FrQ)(m:LnQ)(side:Int):(aaX f m side).length≤3:=by
 unfold aaX
 split
 ·simp
 ·rw[aK]
  have:=ax8 2 [f.v] (adL f.l m side)
  have h2:=agC (l:=f.l) (m:=m) (side:=side)
  rw[gU] at this
  omega
theorem aph{p v:PtQ}{m:LnQ}{s:Rat}[hp:BPt p 4500][hv:BPt v 97][hm:LB m](hs:BQ s 60000):BQ (aca p v m s) 60000:=by
 unfold aca al1
 split
 ·exact hs
 ·split
  ·exact hs
  ·split
   ·split
    ·haveI:BQ (-(m.value p/(m.value (adk p v ((1:Int):Rat))-m.value p))) 45000:=BQ.mono inferInstance (by decide)
     exact BQ.mono (inferInstance:BQ (-(m.value p/(m.value (adk p v ((1:Int):Rat))-m.value p))/2) _) (by decide)
    ·exact hs
   ·exact hs
theorem aqc{p v:PtQ}[hp:BPt p 4500][hv:BPt v 97]: ∀{c:List LnQ} {s:Rat},(∀m∈c,LB m)→BQ s 60000→BQ (agb p v c s) 60000
 |[],_,_,hs=>hs
 |m::t,s,hc,hs=>by
  haveI:=hc m aZ
  exact aqc (c:=t) (fun q hq=>hc q (aJ _ hq)) (aph hs)
theorem aoa{c:List LnQ}(hc: ∀m∈c,LB m)(hok: ∀m∈c,m.ok): ∀{t:List LnQ},(∀m∈t,m∈c)→BPt (ab8 c t) 70000
 |[],_=>by
  have h0:BQ (0:Rat) 70000:=BQ.mono (k:=1) ⟨by decide,by decide⟩ (by decide)
  exact⟨h0,h0⟩
 |m::t,h=>by
  have hm:=h m aZ
  haveI:=hc m hm
  rw[ab8]
  split
  ·have hbd:=air (v:=IvQ.all) (hok m hm).ne hc IvZ.all (BQ.mono (k:=1) ⟨by decide,by decide⟩ (by decide)) (BQ.mono (k:=1) ⟨by decide,by decide⟩ (by decide))
   haveI:=hbd.1
   haveI:=hbd.2
   haveI hsb:=am6 (v:=(ach m c IvQ.all).1) (i:=1200)
   haveI hpt:BPt (m.at (abF (ach m c IvQ.all).1)) 4500:=by have:=BPt.at m (abF (ach m c IvQ.all).1) (1200+1200+5);exact⟨this.x.mono (by decide),this.y.mono (by decide)⟩
   haveI hvt:BPt (ahj m.dir) 97:=inferInstance
   haveI hns:BQ (agb (m.at (abF (ach m c IvQ.all).1)) (ahj m.dir) c ((1:Int):Rat)) 60000:=aqc hc (BQ.mono (k:=2) ⟨by decide,by decide⟩ (by decide))
   have:=BPt.mov (m.at (abF (ach m c IvQ.all).1)) (ahj m.dir) (agb (m.at (abF (ach m c IvQ.all).1)) (ahj m.dir) c ((1:Int):Rat)) 4500 97 60000
   exact⟨this.x.mono (by decide),this.y.mono (by decide)⟩
  ·exact aoa hc hok (fun q hq=>h q (aJ _ hq))
theorem anP{l:List FrQ}{k:Nat}{g:FrQ}{m:LnQ}{side:Int}(h:l[k]? =some g):(l.take (k+1)).flatMap (fun g=>aaX g m side)=(l.take k).flatMap (fun g=>aaX g m side)++aaX g m side:=by
 rw[iX,h,nL];simp
theorem ait(l:List FrQ)(m:LnQ)(side:Int):(l.flatMap fun g=>aaX g m side).length≤3*l.length:=by
 induction l with
 |nil=>simp
 |cons a t ih=>rw[kQ,aR,bW];have:=ajN a m side;omega
theorem aw3{acc:PtQ→Bool}{n:Nat}{c:List LnQ}:aj7 acc n [] c= .leaf (acc (ab8 c c)):=by cases n<;>rfl
theorem ar7{rs:List (List ZP)}{fill:Int}(hrs: ∀r∈rs,aaQ r)(hrn:rs.length≤100){n:Nat}{c:List LnQ}(hc: ∀m∈c,LB m)(hok: ∀m∈c,m.ok)(hn:c.length≤900):PF GB prog 118 [eRR rs fill, .sl [], .sl (c.map eL)] (eT (aj7 (inR rs fill) n [] c)):=by
 haveI hpb:=aoa hc hok (t:=c) (fun _ h=>h)
 refine fn (fu:=⟨11⟩) func118 J J ntmps118 J J (fun C=>?_)
 refine knT J J J<|cl rfl (aoZ (c:=c) hc hok (by omega)) rfl<|cl rfl (aGS (p:=ab8 c c) (i:=70000) hrs hrn (by decide)) rfl<|cl rfl (af9 (p:=inR rs fill (ab8 c c))) rfl<|?_
 exact rz rfl (by rw[aw3];rfl)
theorem arm{rs:List (List ZP)}{fill:Int}(hrs: ∀r∈rs,aaQ r)(hrn:rs.length≤100){n:Nat}{f:FrQ}{t:List FrQ}{c:List LnQ}(hfew:Few (n+1) (f::t))(hfo: ∀g∈f::t,FOk g)(hlen:(f::t).length*3^(n+1)≤6973568802)(hc: ∀m∈c,LB m)(hok: ∀m∈c,m.ok)(hn:c.length+(n+1)≤900)(ih: ∀{l:List FrQ} {c:List LnQ},Few n l→(∀f∈l,FOk f)→l.length*3^n≤6973568802→(∀m∈c,LB m)→(∀m∈c,m.ok)→c.length+n≤900→PF GB prog 118 [eRR rs fill, .sl (l.map eFF), .sl (c.map eL)] (eT (aj7 (inR rs fill) n l c))):PF GB prog 118 [eRR rs fill, .sl ((f::t).map eFF), .sl (c.map eL)] (eT (aj7 (inR rs fill) (n+1) (f::t) c)):=by
 obtain⟨l,hl⟩: ∃l,l=f::t:=⟨_,rfl⟩
 have hl0:l[0]? =some f:=by rw[hl];rfl
 rw[←hl] at hfew hfo hlen⊢
 have hm:=aaG eFF l
 have hfl:=hfo f (aU hl0)
 haveI:=hfl.lb
 have hlp:0<l.length:=by rw[hl];simp
 have hlb:l.length≤6973568802:=cW (qU _ (eK (by decide))) hlen
 refine fn (fu:=⟨11⟩) func118 J J ntmps118 J J (fun C=>?_)
 refine eqF 17 (.d (vI (l.length:Nat))) rfl (by rw[hm]<;>rfl) ?_
 refine gx (fu:=⟨0⟩) rfl<|knF rfl (by show some (decide _)=some false;rw[decide_eq_false (by omega)]) rfl<|ix (fu:=⟨17⟩) _ rfl (aav (i:=0) hl0) rfl<|?_
 refine eqF 33 (.d (vI (l.length:Nat))) rfl (by rw[hm]<;>rfl) ?_
 refine gx rfl<|?_
 refine nr 10 10 225 14 J J J ?_
 refine nr 11 11 225 14 J J J ?_
 refine lp (X:=Nat) (fun k=>[(34, .d (vI (k:Nat))),(10, .rw 10),(11, .rw 11)]) (fun k=>[(10,some (.b 225 14 (((l.take k).flatMap fun g=>aaX g f.l 1).map eFF) true)),(11,some (.b 225 14 (((l.take k).flatMap fun g=>aaX g f.l (-1)).map eFF) true))]) (fun k=>k≤l.length) (fun k=>l.length-k) 0 rfl (bX _) (fun _=>rfl) (fun k hk=>?_)
 have htk:(l.take k).length≤6973568802:=by rw[cR];omega
 have hb1:(((l.take k).flatMap fun g=>aaX g f.l 1).map eFF).length≤20920706406:=by rw[aK];have:=ait (l.take k) f.l 1;omega
 have hb2:(((l.take k).flatMap fun g=>aaX g f.l (-1)).map eFF).length≤20920706406:=by rw[aK];have:=ait (l.take k) f.l (-1);omega
 refine br (fu2:=⟨0⟩) J J J (fun hc35=>?_) (fun hc35=>?_)
 ·
  obtain⟨g,hz⟩: ∃s,l[k]? =some s:=⟨_,aQ (by omega)⟩
  have hg:=hfo g (aU hz)
  have hs1:((aaX g f.l 1).map eFF).length≤3:=by rw[aK];exact ajN _ _ _
  have hs2:((aaX g f.l (-1)).map eFF).length≤3:=by rw[aK];exact ajN _ _ _
  refine ix _ rfl (aav hz) rfl<|cl rfl (aAX (f:=g) (m:=f.l) hg hfl.ok) rfl<|ap (hbd:=by omega) (((l.take (k+1)).flatMap fun g=>aaX g f.l 1).map eFF) rfl (by rw[anP hz,bU]) (akV _) rfl<|?_
  refine ap (hbd:=by omega) (((l.take (k+1)).flatMap fun g=>aaX g f.l (-1)).map eFF) rfl (by rw[anP hz,bU]) (akV _) rfl<|?_
  refine rnE 46 10 rfl ?_
  refine rnE 49 11 rfl ?_
  exact at_ (k+1) ⟨(by omega),(by omega)⟩
 ·
  obtain rfl:k=l.length:=by omega
  rw[cM]
  refine fzC 10 rfl ?_
  refine fzC 11 rfl ?_
  refine gx rfl<|ro0 J J<|ap (c.map eL) J J (acR c) rfl<|rf J J<|apf ((c++[f.l]).map eL) rfl (by rw[bU];rfl) (acR [f.l]) rfl<|?_
  refine cl rfl (ih (c:=c++[f.l]) (by subst hl;exact Few.split hfew hfo) (fun g hg=>by obtain⟨q,hq,hg⟩:=fW.1 hg;exact(aiu (hfo q hq) hfl.lb g hg).1) (by have:=ait l f.l 1;rw[fX] at hlen;exact cW (bK _ this) (by rw[bL 3,bM];rw[bL (3^n)] at hlen;exact hlen)) (ag8 hc hfl.lb) (abS hok hfl.ok) (by rw[aR,gU];omega)) rfl<|?_
  refine ro0 J J<|ap (c.map eL) J J (acR c) rfl<|cl rfl (akL (l:=f.l)) rfl<|rf J J<|apf ((c++[f.l.rev]).map eL) rfl (by rw[bU];rfl) (acR [f.l.rev]) rfl<|?_
  refine cl (fu:=⟨1⟩) rfl (ih (c:=c++[f.l.rev]) (by subst hl;exact Few.split hfew hfo) (fun g hg=>by obtain⟨q,hq,hg⟩:=fW.1 hg;exact(aiu (hfo q hq) hfl.lb g hg).1) (by have:=ait l f.l (-1);rw[fX] at hlen;exact cW (bK _ this) (by rw[bL 3,bM];rw[bL (3^n)] at hlen;exact hlen)) (ag8 hc hfl.lb.rev) (abS hok hfl.ok.rev) (by rw[aR,gU];omega)) rfl<|?_
  refine bxf J J<|?_
  exact rz rfl (by subst hl;rfl)
theorem aEL{rs:List (List ZP)}{fill:Int}(hrs: ∀r∈rs,aaQ r)(hrn:rs.length≤100): ∀{n:Nat} {l:List FrQ} {c:List LnQ},Few n l→(∀f∈l,FOk f)→l.length*3^n≤6973568802→(∀m∈c,LB m)→(∀m∈c,m.ok)→c.length+n≤900→PF GB prog 118 [eRR rs fill, .sl (l.map eFF), .sl (c.map eL)] (eT (aj7 (inR rs fill) n l c))
 |n,[],c,_,_,_,hc,hok,hn=>ar7 hrs hrn hc hok (by omega)
 |0,f::t,c,hf,_,_,_,_,_=>by
  obtain⟨K,h1,h2⟩:=hf
  obtain⟨m,hm,_⟩:=h2 f aZ
  rw[bR (l:=K) (by omega)] at hm
  cases hm
 |n+1,f::t,c,hf,ho,hl,hc,hok,hn=>arm hrs hrn hf ho hl hc hok hn (fun a1 a2 a3 a4 a5 a6=>aEL hrs hrn a1 a2 a3 a4 a5 a6)
theorem awy(l:List FrQ):Few l.length l:=⟨l.map FrQ.l,by rw[aK];exact aM _,fun f hf=>⟨f.l,dV hf, .inl rfl⟩⟩
theorem aAU{n:Nat}(h:n≤18):n*3^n≤6973568802:=cW (iJ h (bV (by decide) h)) (by decide)
theorem atx{rs:List (List ZP)}{fill:Int}(hrs: ∀r∈rs,aaQ r)(hrn:rs.length≤3):PF GB prog 54 [eRR rs fill] (eT (ae0 rs fill)):=by
 have hm:=aaG eRg rs
 have hE:=acM hrs
 have hraw:=auC (acc:=inR rs fill) hE.2 rfl
 refine fn (fu:=⟨17⟩) func54 J J ntmps54 J J (fun C=>?_)
 refine eqF 8 (.d (vI (rs.length:Nat))) rfl (by rw[hm]<;>rfl) ?_
 refine gx rfl<|?_
 refine nr 3 3 225 14 J J J ?_
 refine lp (X:=Nat) (fun k=>[(9, .d (vI (k:Nat))),(3, .rw 3)]) (fun k=>[(3,some (.b 225 14 ((abU (rs.take k)).map eFF) true))]) (fun k=>k≤rs.length) (fun k=>rs.length-k) 0 rfl (bX _) (fun _=>rfl) (fun k hk=>?_)
 have het:((abU (rs.take k)).map eFF).length≤6*k:=by rw[aK];exact ajI hrs k
 refine br J J J (fun hc10=>?_) (fun hc10=>?_)
 ·
  obtain⟨r,hz⟩: ∃s,rs[k]? =some s:=⟨_,aQ (by omega)⟩
  have hr:=hrs r (aU hz)
  have hel:((acO r).map eFF).length≤6:=by rw[aK];have:=(aii hr).1;have:=hr.n6;omega
  refine ix _ rfl (aav hz) rfl<|cl rfl (avl (r:=r) hr) rfl<|ap (hbd:=by omega) ((abU (rs.take (k+1))).map eFF) rfl (by rw[aiW hz,bU]) (akV _) rfl<|?_
  refine rnE 16 3 rfl ?_
  exact at_ (k+1) ⟨(by omega),(by omega)⟩
 ·
  obtain rfl:k=rs.length:=by omega
  rw[cM]
  refine fz 3 J J<|cl rfl (aEL (n:=(abU rs).length) (l:=abU rs) (c:=[]) hrs (by omega) (awy _) hE.2 (aAU (by have:=hE.1;omega)) (fun m h=>by cases h) (fun m h=>by cases h) (by have:=hE.1;rw[gX];omega)) rfl<|?_
  refine cl rfl (asS (t:=aBQ rs fill) hraw.gd.lb hraw.gd.ok (by have:=hraw.dp;have:=hE.1;show(aj7 _ _ _ _).depth≤900;omega)) rfl<|?_
  exact rz J J
theorem arW{b:Bool}:PF GB prog 89 [eT (.leaf b)] (eT (Tr.compl (.leaf b))):=by
 refine fn (fu:=⟨11⟩) func89 J J ntmps89 J J (fun C=>?_)
 refine knT J J J<|cl rfl (af9 (p:=!b)) rfl<|?_
 exact rz J J
theorem arj{l:LnQ}{x y:Tr}(ihx:PF GB prog 89 [eT x] (eT x.compl))(ihy:PF GB prog 89 [eT y] (eT y.compl)):PF GB prog 89 [eT (.node l x y)] (eT (Tr.compl (.node l x y))):=by
 refine fn (fu:=⟨11⟩) func89 J J ntmps89 J J (fun C=>?_)
 refine knF J J J<|cl rfl ihx rfl<|cl (fu:=⟨1⟩) rfl ihy rfl<|bxf J J<|?_
 exact rz J J
theorem agm: ∀{t:Tr},PF GB prog 89 [eT t] (eT t.compl)
 | .leaf _=>arW
 | .node _ _ _=>arj agm agm
theorem al3{op:Int}{b:Bool}{u:Tr}{c:List LnQ}(hu:u.all LB)(huo:u.all LnQ.ok)(hc: ∀m∈c,LB m)(hok: ∀m∈c,m.ok)(hn:c.length+u.depth≤900):PF GB prog 36 [vI op,eT (.leaf b),eT u, .sl (c.map eL)] (eT (Tr.mergeL op (.leaf b) u c)):=by
 refine fn (fu:=⟨11⟩) func36 J J ntmps36 J J (fun C=>?_)
 refine knT J J J<|cl rfl (aeI (t:=u) (c:=c) hu huo hc hok hn) rfl<|?_
 refine cs 20 J J J (fun hg20=>?_) (fun hg20=>?_)
 ·
  refine bb J J J (fun hc17=>?_) (fun hc17=>?_)
  ·
   refine cl rfl (af9 (p:=true)) rfl<|?_
   exact rz rfl (by show eT _=eT _;congr 1;rw[Tr.mergeL];unfold Tr.chooseL;(repeat' split)<;>first|rfl|(exfalso;simp_all;done)|(exfalso;omega))
  ·
   refine cs 30 J J J (fun hg30=>?_) (fun hg30=>?_)
   ·
    refine bb J J J (fun hc27=>?_) (fun hc27=>?_)
    ·
     refine cl rfl (af9 (p:=false)) rfl<|?_
     exact rz rfl (by show eT _=eT _;congr 1;rw[Tr.mergeL];unfold Tr.chooseL;(repeat' split)<;>first|rfl|(exfalso;simp_all;done)|(exfalso;omega))
    ·
     refine cs 45 J J J (fun hg45=>?_) (fun hg45=>?_)
     ·
      refine bb J J J (fun hc42=>?_) (fun hc42=>?_)
      ·
       refine cl rfl agm rfl<|?_
       exact rz rfl (by show eT _=eT _;congr 1;rw[Tr.mergeL];unfold Tr.chooseL;(repeat' split)<;>first|rfl|(exfalso;simp_all;done)|(exfalso;omega))
      ·
       exact rz rfl (by show eT _=eT _;congr 1;rw[Tr.mergeL];unfold Tr.chooseL;(repeat' split)<;>first|rfl|(exfalso;simp_all;done)|(exfalso;omega))
     ·
      refine cs 49 J J J (fun hg49=>?_) (fun hg49=>?_)
      ·
       refine bb J J J (fun hc42=>?_) (fun hc42=>?_)
       ·
        refine cl rfl agm rfl<|?_
        exact rz rfl (by show eT _=eT _;congr 1;rw[Tr.mergeL];unfold Tr.chooseL;(repeat' split)<;>first|rfl|(exfalso;simp_all;done)|(exfalso;omega))
       ·
        exact rz rfl (by show eT _=eT _;congr 1;rw[Tr.mergeL];unfold Tr.chooseL;(repeat' split)<;>first|rfl|(exfalso;simp_all;done)|(exfalso;omega))
      ·
       exact rz rfl (by show eT _=eT _;congr 1;rw[Tr.mergeL];unfold Tr.chooseL;(repeat' split)<;>first|rfl|(exfalso;simp_all;done)|(exfalso;omega))
   ·
    refine cs 34 J J J (fun hg34=>?_) (fun hg34=>?_)
    ·
     refine bb J J J (fun hc27=>?_) (fun hc27=>?_)
     ·
      refine cl rfl (af9 (p:=false)) rfl<|?_
      exact rz rfl (by show eT _=eT _;congr 1;rw[Tr.mergeL];unfold Tr.chooseL;(repeat' split)<;>first|rfl|(exfalso;simp_all;done)|(exfalso;omega))
     ·
      refine cs 45 J J J (fun hg45=>?_) (fun hg45=>?_)
      ·
       refine bb J J J (fun hc42=>?_) (fun hc42=>?_)
       ·
        refine cl rfl agm rfl<|?_
        exact rz rfl (by show eT _=eT _;congr 1;rw[Tr.mergeL];unfold Tr.chooseL;(repeat' split)<;>first|rfl|(exfalso;simp_all;done)|(exfalso;omega))
       ·
        exact rz rfl (by show eT _=eT _;congr 1;rw[Tr.mergeL];unfold Tr.chooseL;(repeat' split)<;>first|rfl|(exfalso;simp_all;done)|(exfalso;omega))
      ·
       refine cs 49 J J J (fun hg49=>?_) (fun hg49=>?_)
       ·
        refine bb J J J (fun hc42=>?_) (fun hc42=>?_)
        ·
         refine cl rfl agm rfl<|?_
         exact rz rfl (by show eT _=eT _;congr 1;rw[Tr.mergeL];unfold Tr.chooseL;(repeat' split)<;>first|rfl|(exfalso;simp_all;done)|(exfalso;omega))
        ·
         exact rz rfl (by show eT _=eT _;congr 1;rw[Tr.mergeL];unfold Tr.chooseL;(repeat' split)<;>first|rfl|(exfalso;simp_all;done)|(exfalso;omega))
       ·
        exact rz rfl (by show eT _=eT _;congr 1;rw[Tr.mergeL];unfold Tr.chooseL;(repeat' split)<;>first|rfl|(exfalso;simp_all;done)|(exfalso;omega))
    ·
     refine cs 45 J J J (fun hg45=>?_) (fun hg45=>?_)
     ·
      refine bb J J J (fun hc42=>?_) (fun hc42=>?_)
      ·
       refine cl rfl agm rfl<|?_
       exact rz rfl (by show eT _=eT _;congr 1;rw[Tr.mergeL];unfold Tr.chooseL;(repeat' split)<;>first|rfl|(exfalso;simp_all;done)|(exfalso;omega))
      ·
       exact rz rfl (by show eT _=eT _;congr 1;rw[Tr.mergeL];unfold Tr.chooseL;(repeat' split)<;>first|rfl|(exfalso;simp_all;done)|(exfalso;omega))
     ·
      refine cs 49 J J J (fun hg49=>?_) (fun hg49=>?_)
      ·
       refine bb J J J (fun hc42=>?_) (fun hc42=>?_)
       ·
        refine cl rfl agm rfl<|?_
        exact rz rfl (by show eT _=eT _;congr 1;rw[Tr.mergeL];unfold Tr.chooseL;(repeat' split)<;>first|rfl|(exfalso;simp_all;done)|(exfalso;omega))
       ·
        exact rz rfl (by show eT _=eT _;congr 1;rw[Tr.mergeL];unfold Tr.chooseL;(repeat' split)<;>first|rfl|(exfalso;simp_all;done)|(exfalso;omega))
      ·
       exact rz rfl (by show eT _=eT _;congr 1;rw[Tr.mergeL];unfold Tr.chooseL;(repeat' split)<;>first|rfl|(exfalso;simp_all;done)|(exfalso;omega))
 ·
  refine cs 30 J J J (fun hg30=>?_) (fun hg30=>?_)
  ·
   refine bb J J J (fun hc27=>?_) (fun hc27=>?_)
   ·
    refine cl rfl (af9 (p:=false)) rfl<|?_
    exact rz rfl (by show eT _=eT _;congr 1;rw[Tr.mergeL];unfold Tr.chooseL;(repeat' split)<;>first|rfl|(exfalso;simp_all;done)|(exfalso;omega))
   ·
    refine cs 45 J J J (fun hg45=>?_) (fun hg45=>?_)
    ·
     refine bb J J J (fun hc42=>?_) (fun hc42=>?_)
     ·
      refine cl rfl agm rfl<|?_
      exact rz rfl (by show eT _=eT _;congr 1;rw[Tr.mergeL];unfold Tr.chooseL;(repeat' split)<;>first|rfl|(exfalso;simp_all;done)|(exfalso;omega))
     ·
      exact rz rfl (by show eT _=eT _;congr 1;rw[Tr.mergeL];unfold Tr.chooseL;(repeat' split)<;>first|rfl|(exfalso;simp_all;done)|(exfalso;omega))
    ·
     refine cs 49 J J J (fun hg49=>?_) (fun hg49=>?_)
     ·
      refine bb J J J (fun hc42=>?_) (fun hc42=>?_)
      ·
       refine cl rfl agm rfl<|?_
       exact rz rfl (by show eT _=eT _;congr 1;rw[Tr.mergeL];unfold Tr.chooseL;(repeat' split)<;>first|rfl|(exfalso;simp_all;done)|(exfalso;omega))
      ·
       exact rz rfl (by show eT _=eT _;congr 1;rw[Tr.mergeL];unfold Tr.chooseL;(repeat' split)<;>first|rfl|(exfalso;simp_all;done)|(exfalso;omega))
     ·
      exact rz rfl (by show eT _=eT _;congr 1;rw[Tr.mergeL];unfold Tr.chooseL;(repeat' split)<;>first|rfl|(exfalso;simp_all;done)|(exfalso;omega))
  ·
   refine cs 34 J J J (fun hg34=>?_) (fun hg34=>?_)
   ·
    refine bb J J J (fun hc27=>?_) (fun hc27=>?_)
    ·
     refine cl rfl (af9 (p:=false)) rfl<|?_
     exact rz rfl (by show eT _=eT _;congr 1;rw[Tr.mergeL];unfold Tr.chooseL;(repeat' split)<;>first|rfl|(exfalso;simp_all;done)|(exfalso;omega))
    ·
     refine cs 45 J J J (fun hg45=>?_) (fun hg45=>?_)
     ·
      refine bb J J J (fun hc42=>?_) (fun hc42=>?_)
      ·
       refine cl rfl agm rfl<|?_
       exact rz rfl (by show eT _=eT _;congr 1;rw[Tr.mergeL];unfold Tr.chooseL;(repeat' split)<;>first|rfl|(exfalso;simp_all;done)|(exfalso;omega))
      ·
       exact rz rfl (by show eT _=eT _;congr 1;rw[Tr.mergeL];unfold Tr.chooseL;(repeat' split)<;>first|rfl|(exfalso;simp_all;done)|(exfalso;omega))
     ·
      refine cs 49 J J J (fun hg49=>?_) (fun hg49=>?_)
      ·
       refine bb J J J (fun hc42=>?_) (fun hc42=>?_)
       ·
        refine cl rfl agm rfl<|?_
        exact rz rfl (by show eT _=eT _;congr 1;rw[Tr.mergeL];unfold Tr.chooseL;(repeat' split)<;>first|rfl|(exfalso;simp_all;done)|(exfalso;omega))
       ·
        exact rz rfl (by show eT _=eT _;congr 1;rw[Tr.mergeL];unfold Tr.chooseL;(repeat' split)<;>first|rfl|(exfalso;simp_all;done)|(exfalso;omega))
      ·
       exact rz rfl (by show eT _=eT _;congr 1;rw[Tr.mergeL];unfold Tr.chooseL;(repeat' split)<;>first|rfl|(exfalso;simp_all;done)|(exfalso;omega))
   ·
    refine cs 45 J J J (fun hg45=>?_) (fun hg45=>?_)
    ·
     refine bb J J J (fun hc42=>?_) (fun hc42=>?_)
     ·
      refine cl rfl agm rfl<|?_
      exact rz rfl (by show eT _=eT _;congr 1;rw[Tr.mergeL];unfold Tr.chooseL;(repeat' split)<;>first|rfl|(exfalso;simp_all;done)|(exfalso;omega))
     ·
      exact rz rfl (by show eT _=eT _;congr 1;rw[Tr.mergeL];unfold Tr.chooseL;(repeat' split)<;>first|rfl|(exfalso;simp_all;done)|(exfalso;omega))
    ·
     refine cs 49 J J J (fun hg49=>?_) (fun hg49=>?_)
     ·
      refine bb J J J (fun hc42=>?_) (fun hc42=>?_)
      ·
       refine cl rfl agm rfl<|?_
       exact rz rfl (by show eT _=eT _;congr 1;rw[Tr.mergeL];unfold Tr.chooseL;(repeat' split)<;>first|rfl|(exfalso;simp_all;done)|(exfalso;omega))
      ·
       exact rz rfl (by show eT _=eT _;congr 1;rw[Tr.mergeL];unfold Tr.chooseL;(repeat' split)<;>first|rfl|(exfalso;simp_all;done)|(exfalso;omega))
     ·
      exact rz rfl (by show eT _=eT _;congr 1;rw[Tr.mergeL];unfold Tr.chooseL;(repeat' split)<;>first|rfl|(exfalso;simp_all;done)|(exfalso;omega))
theorem alI{op:Int}{l:LnQ}{x y u:Tr}{c:List LnQ}(hl:LB l)(hlo:l.ok)(hc: ∀m∈c,LB m)(hok: ∀m∈c,m.ok)(hn:c.length+(Tr.node l x y).depth+u.depth≤900)(ihx: ∀{c:List LnQ},(∀m∈c,LB m)→(∀m∈c,m.ok)→c.length+x.depth+u.depth≤900→PF GB prog 36 [vI op,eT x,eT u, .sl (c.map eL)] (eT (Tr.mergeL op x u c)))(ihy: ∀{c:List LnQ},(∀m∈c,LB m)→(∀m∈c,m.ok)→c.length+y.depth+u.depth≤900→PF GB prog 36 [vI op,eT y,eT u, .sl (c.map eL)] (eT (Tr.mergeL op y u c))):PF GB prog 36 [vI op,eT (.node l x y),eT u, .sl (c.map eL)] (eT (Tr.mergeL op (.node l x y) u c)):=by
 have hdp:(Tr.node l x y).depth=1+Nat.max x.depth y.depth:=rfl
 have hdx:x.depth≤Nat.max x.depth y.depth:=sK _ _
 have hdy:y.depth≤Nat.max x.depth y.depth:=rR _ _
 have hca:=afI (c++[l])
 have hcb:=afI (c++[l.rev])
 rw[aR,gU] at hca hcb
 refine fn (fu:=⟨11⟩) func36 J J ntmps36 J J (fun C=>?_)
 refine knF J J J<|cl rfl (atN (c:=c) (l:=l) hc hok (by omega) hl hlo) rfl<|?_
 refine br J J J (fun hc64=>?_) (fun hc64=>?_)
 ·
  refine cl rfl (ihx hc hok (by omega)) rfl<|?_
  exact rz rfl (by rw[Tr.mergeL,if_pos hc64];rfl)
 ·
  refine br J J J (fun hc74=>?_) (fun hc74=>?_)
  ·
   refine cl rfl (ihy hc hok (by omega)) rfl<|?_
   exact rz rfl (by rw[Tr.mergeL,if_neg hc64,if_pos hc74];rfl)
  ·
   refine cl rfl (aqW (c:=c) (l:=l) hc hok (by omega) hl hlo) rfl<|cl rfl (ihx (c:=aa3 (c++[l])) (aq2 (ag8 hc hl)) (aqh (abS hok hlo)) (by omega)) rfl<|?_
   refine cl rfl (akL (l:=l)) rfl<|cl rfl (aqW (c:=c) (l:=l.rev) hc hok (by omega) hl.rev hlo.rev) rfl<|cl rfl (ihy (c:=aa3 (c++[l.rev])) (aq2 (ag8 hc hl.rev)) (aqh (abS hok hlo.rev)) (by omega)) rfl<|?_
   refine cl rfl ayL rfl<|?_
   exact rz rfl (by rw[Tr.mergeL,if_neg hc64,if_neg hc74];rfl)
theorem amf{op:Int}{u:Tr}(hu:u.all LB)(huo:u.all LnQ.ok): ∀{t:Tr} {c:List LnQ},t.all LB→t.all LnQ.ok→(∀m∈c,LB m)→(∀m∈c,m.ok)→c.length+t.depth+u.depth≤900→PF GB prog 36 [vI op,eT t,eT u, .sl (c.map eL)] (eT (Tr.mergeL op t u c))
 | .leaf _,_,_,_,hc,hok,hn=>al3 hu huo hc hok (cW (Nat.add_le_add_right (mV _ _) _) hn)
 | .node l x y,c,hb,ho,hc,hok,hn=>alI hb.1 ho.1 hc hok hn (fun h1 h2 h3=>amf hu huo hb.2.1 ho.2.1 h1 h2 h3) (fun h1 h2 h3=>amf hu huo hb.2.2 ho.2.2 h1 h2 h3)
theorem aC7(p r:ZP):(agZ p.q r.q<0↔az0 p r<0)∧(agZ p.q r.q=0↔az0 p r=0):=by
 have e1: ∀a b:Int,abd (a:Rat) (b:Rat)<0↔a<b:=fun a b=>by rw[afg,Rat.intCast_lt_intCast]
 have e2: ∀a b:Int,abd (a:Rat) (b:Rat)=0↔a=b:=fun a b=>by rw[aeS,nX]
 have f1:=e1 p.1 r.1
 have f2:=e2 p.1 r.1
 have f3:=e1 p.2 r.2
 have f4:=e2 p.2 r.2
 show(agZ ⟨(p.1:Rat),(p.2:Rat)⟩ ⟨(r.1:Rat),(r.2:Rat)⟩<0↔_)∧(agZ ⟨(p.1:Rat),(p.2:Rat)⟩ ⟨(r.1:Rat),(r.2:Rat)⟩=0↔_)
 unfold agZ az0
 dsimp only
 generalize abd (p.1:Rat) (r.1:Rat)=u at*
 generalize abd (p.2:Rat) (r.2:Rat)=v at*
 by_cases h:p.1<r.1
 ·rw[if_pos (by omega),if_pos h];omega
 ·by_cases h2:r.1<p.1
  ·rw[if_pos (by omega),if_neg h,if_pos h2];omega
  ·rw[if_neg (by omega),if_neg h,if_neg h2]
   by_cases h3:p.2<r.2
   ·rw[if_pos h3];omega
   ·rw[if_neg h3]
    split<;>omega
theorem azk(x:ZP): ∀l:List ZP,afU agZ x.q (l.map ZP.q)=(awj x l).map ZP.q
 |[]=>rfl
 |u::t=>by
  obtain⟨h1,h2⟩:=aC7 u x
  rw[cZ,afU,awj,azk x t]
  by_cases k1:az0 u x<0
  ·rw[if_pos (h1.2 k1),if_pos k1];rfl
  ·rw[if_neg (fun e=>k1 (h1.1 e)),if_neg k1]
   by_cases k2:az0 u x=0
   ·rw[if_pos (h2.2 k2),if_pos k2];rfl
   ·rw[if_neg (fun e=>k2 (h2.1 e)),if_neg k2];rfl
theorem aAo(l:List ZP):ale agZ (l.map ZP.q)=(anu l).map ZP.q:=by
 have key: ∀(l o:List ZP),(l.map ZP.q).foldl (fun out x=>afU agZ x out) (o.map ZP.q)=(l.foldl (fun out x=>awj x out) o).map ZP.q:=by
  intro l
  induction l with
  |nil=>intro o;rfl
  |cons x t ih=>intro o;rw[cZ,jT,jT,azk,ih]
 exact key l []
theorem aHv(l:List ZP):(l.map ZP.q).map eP=l.map eZp:=by rw[rQ];rfl
theorem ane{l:List ZP}(h: ∀p∈l,ZP.le 100 p)(hn:l.length≤100000):PF GB prog 156 [.sl (l.map eZp)] (.sl ((anu l).map eZp)):=by
 have:=awv (GB:=GB) (ps:=l.map ZP.q) (avH h) (by rw[aK];exact hn)
 rw[aAo,aHv,aHv] at this
 exact this
theorem aBA(u v:ZP):(PtQ.cross (iP u.1 u.2) (iP v.1 v.2))=((aj4 u v:Int):Rat):=by
 unfold PtQ.cross iP aj4
 push_cast
 rfl
theorem ajP(u v:ZP):(PtQ.cross (iP u.1 u.2) (iP v.1 v.2)).num.sign≠0↔aj4 u v≠0:=by
 rw[aBA,qJ]
 exact not_congr iV
theorem arT{α β:Type}(f:α→β)(l:List α):((l.map f).take (l.length-1)).drop 0=l.dropLast.map f:=by
 rw[gT,←gW,List.dropLast_eq_take]
theorem apN{l:List ZP}(h:0<l.length): ∃u,l.getLast? =some u∧l[l.length-1]? =some u∧l.getD (l.length-1) (0,0)=u:=by
 refine⟨l[l.length-1],?_,aQ (by omega),?_⟩
 ·rw[lX];exact aQ (by omega)
 ·rw[aX,aQ (by omega)];rfl
theorem avv{l:List ZP}(h:0<l.length): ∃u,l[0]? =some u∧l.getD 0 (0,0)=u:=by
 refine⟨l[0],aQ (by omega),?_⟩
 rw[aX,aQ (by omega)];rfl
theorem axA{u p:ZP}:(u.1=p.1∧u.2=p.2)↔u=p:=⟨fun h=>Prod.ext h.1 h.2,fun h=>by rw[h];exact⟨rfl,rfl⟩⟩
theorem at3{b:Nat}{es:List Int}(hes:es.length≤400){a:Nat}(ha:a≤es.length):PM GB prog 94 (mkP [none] b) b 87 [.sl (es.map vI), .v (.int .i64 (a:Nat))] (eRg (acj es a).1) [.sl (es.map vI), .v (.int .i64 ((acj es a).2:Nat))]:=by
 have hk0:=aaS (n:=4) ha
 refine fnM (fu:=⟨6⟩) func94 J J ntmps94 J J (fun C b m lo hmb=>?_)
 refine mg (X:=Nat) (fun a2=>[]) (fun a2=>[(1000000,some (.o 87 [.d (.sl (es.map vI)), .d (.v (.int .i64 (a2:Nat)))] false))]) (fun a2=>acj es a=avR es a2∧a2≤es.length) [] [1000000] rfl ?_ (fun _=>rfl) (fun a2 ⟨hR,ha2⟩=>?_)
 ·
  refine gx rfl<|cm rfl (fun b=>(adq (n:=4) hes ha (by decide) (by decide))) rfl<|?_
  refine br J J J (fun hc15=>?_) (fun hc15=>?_)
  ·
   have hx1:=aaS (n:=5) hk0
   have hy1:=aaS (n:=5) hx1
   have hz1:=aaS (n:=4) hy1
   have hw1:=aaS (n:=4) hz1
   have hl0:=abB (es:=es) (n:=5) (a:=(aaf es 4 a).2) (by decide)
   have hl1:=abB (es:=es) (n:=5) (a:=(aaf es 5 (aaf es 4 a).2).2) (by decide)
   have hl2:=abB (es:=es) (n:=4) (a:=(aaf es 5 (aaf es 5 (aaf es 4 a).2).2).2) (by decide)
   have hl3:=abB (es:=es) (n:=4) (a:=(aaf es 4 (aaf es 5 (aaf es 5 (aaf es 4 a).2).2).2).2) (by decide)
   refine cm rfl (fun b=>(adq (n:=5) hes hk0 (by decide) (by decide))) rfl<|cm rfl (fun b=>(adq (n:=5) hes hx1 (by decide) (by decide))) rfl<|?_
   refine cm rfl (fun b=>(adq (n:=4) hes hy1 (by decide) (by decide))) rfl<|cm rfl (fun b=>(adq (n:=4) hes hz1 (by decide) (by decide))) rfl<|?_
   refine cl rfl (aoj (m:=(((aaf es 5 (aaf es 4 a).2).1:Int)-4)) (n:=(((aaf es 5 (aaf es 5 (aaf es 4 a).2).2).1:Int)-4)) (by omega) (by omega)) rfl<|?_
   refine cl rfl (aoj (m:=(((aaf es 5 (aaf es 4 a).2).1:Int)-4+1+((aaf es 4 (aaf es 5 (aaf es 5 (aaf es 4 a).2).2).2).1:Int))) (n:=(((aaf es 5 (aaf es 5 (aaf es 4 a).2).2).1:Int)-4)) (by omega) (by omega)) rfl<|?_
   refine cl rfl (aoj (m:=(((aaf es 5 (aaf es 4 a).2).1:Int)-4+1+((aaf es 4 (aaf es 5 (aaf es 5 (aaf es 4 a).2).2).2).1:Int))) (n:=(((aaf es 5 (aaf es 5 (aaf es 4 a).2).2).1:Int)-4+1+((aaf es 4 (aaf es 4 (aaf es 5 (aaf es 5 (aaf es 4 a).2).2).2).2).1:Int))) (by omega) (by omega)) rfl<|?_
   refine cl rfl (aoj (m:=(((aaf es 5 (aaf es 4 a).2).1:Int)-4)) (n:=(((aaf es 5 (aaf es 5 (aaf es 4 a).2).2).1:Int)-4+1+((aaf es 4 (aaf es 4 (aaf es 5 (aaf es 5 (aaf es 4 a).2).2).2).2).1:Int))) (by omega) (by omega)) rfl<|?_
   refine rf J J<|?_
   exact rzM hmb J J (by rw[show acj es a=_ from if_pos hc15];rfl) (by rw[show acj es a=_ from if_pos hc15];rfl)
  ·
   refine br J J J (fun hc46=>?_) (fun hc46=>?_)
   ·
    obtain⟨hp1,hp2,hp3⟩:=arU hk0
    obtain⟨hu1,hu2,hu3,hu4⟩:=ayo hp3
    obtain⟨hv1,hv2,hv3,hv4⟩:=ayo hu4
    haveI:=biC (k:=10) (m:=(vF es (pF es (aaf es 4 a).2).2).1.1) (by omega) (by decide)
    haveI:=biC (k:=10) (m:=(vF es (pF es (aaf es 4 a).2).2).1.2) (by omega) (by decide)
    haveI:=biC (k:=10) (m:=(vF es (vF es (pF es (aaf es 4 a).2).2).2).1.1) (by omega) (by decide)
    haveI:=biC (k:=10) (m:=(vF es (vF es (pF es (aaf es 4 a).2).2).2).1.2) (by omega) (by decide)
    refine cm rfl (fun b=>(aG1 hes hk0)) rfl<|cm rfl (fun b=>(aHj hes hp3)) rfl<|cm rfl (fun b=>(aHj hes hu4)) rfl<|cl rfl (alw (p:=iP (vF es (pF es (aaf es 4 a).2).2).1.1 (vF es (pF es (aaf es 4 a).2).2).1.2) (q:=iP (vF es (vF es (pF es (aaf es 4 a).2).2).2).1.1 (vF es (vF es (pF es (aaf es 4 a).2).2).2).1.2)) rfl<|?_
    refine cl rfl (q_S (q:=PtQ.cross (iP (vF es (pF es (aaf es 4 a).2).2).1.1 (vF es (pF es (aaf es 4 a).2).2).1.2) (iP (vF es (vF es (pF es (aaf es 4 a).2).2).2).1.1 (vF es (vF es (pF es (aaf es 4 a).2).2).2).1.2))) rfl<|?_
    refine br J J J (fun hc58=>?_) (fun hc58=>?_)
    ·
     refine cl rfl (anH (n:=1) (by decide) (by decide)) rfl<|cl rfl (asH (m:=(pF es (aaf es 4 a).2).1.1) (n:=(pF es (aaf es 4 a).2).1.2) (m':=(vF es (pF es (aaf es 4 a).2).2).1.1) (n':=(vF es (pF es (aaf es 4 a).2).2).1.2) (k:=1) (by omega) (by omega) (by omega) (by omega) (by decide)) rfl<|?_
     refine cl rfl (anH (n:=1) (by decide) (by decide)) rfl<|cl rfl (asH (m:=(pF es (aaf es 4 a).2).1.1) (n:=(pF es (aaf es 4 a).2).1.2) (m':=(vF es (vF es (pF es (aaf es 4 a).2).2).2).1.1) (n':=(vF es (vF es (pF es (aaf es 4 a).2).2).2).1.2) (k:=1) (by omega) (by omega) (by omega) (by omega) (by decide)) rfl<|?_
     refine rf J J<|?_
     exact rzM hmb J J (by rw[show acj es a=_ from(if_neg hc15).trans ((if_pos hc46).trans (if_pos ((ajP _ _).1 hc58)))];rfl) (by rw[show acj es a=_ from(if_neg hc15).trans ((if_pos hc46).trans (if_pos ((ajP _ _).1 hc58)))])
    ·
     exact at_ (vF es (vF es (pF es (aaf es 4 a).2).2).2).2 ⟨(if_neg hc15).trans ((if_pos hc46).trans (if_neg (fun e=>hc58 ((ajP _ _).2 e)))),hv4⟩
   ·
    exact at_ (aaf es 4 a).2 ⟨(if_neg hc15).trans (if_neg hc46),hk0⟩
 ·
  have hj1:=abB (es:=es) (n:=4) (a:=a2) (by decide)
  have hj2:=aaS (n:=4) ha2
  refine cm rfl (fun b=>(adq (n:=4) hes ha2 (by decide) (by decide))) rfl<|?_
  refine nr 10 10 62 6 J J J ?_
  refine lp (X:=List ZP×Nat×Nat) (fun⟨r,i,a3⟩=>[(11, .d (vI (i:Nat))),(10, .rw 10)]) (fun⟨r,i,a3⟩=>[(1000000,some (.o 87 [.d (.sl (es.map vI)), .d (.v (.int .i64 (a3:Nat)))] false)),(10,some (.b 62 6 (r.map eZp) true))]) (fun⟨r,i,a3⟩=>aqa es i a3 r=aqa es (3+(aaf es 4 a2).1) (aaf es 4 a2).2 []∧a3≤es.length∧Adj r∧r.length+i≤6) (fun⟨r,i,a3⟩=>i) ⟨[],3+(aaf es 4 a2).1,(aaf es 4 a2).2⟩ rfl ⟨rfl,hj2,Adj.nil,by simp;omega⟩ (fun _=>rfl) (fun⟨r,i,a3⟩ hk=>?_)
  try dsimp only at hk⊢
  obtain⟨h1,h2,h3,h4⟩:=hk
  have hrl:(r.map eZp).length=r.length:=by simp
  refine br (fu2:=⟨0⟩) J J J (fun hc73=>?_) (fun hc73=>?_)
  ·
   obtain⟨j,rfl⟩: ∃j,i=j+1:=⟨i-1,by omega⟩
   obtain⟨hq1,hq2,hq3⟩:=arU h2
   refine cm (fu:=⟨8⟩) rfl (fun b=>(aG1 hes h2)) rfl<|?_
   refine csS (v1:=fun hg80=>by simp only[aah];kernel_rfl) J J J J (fun hg80=>?_) (fun hg80=>?_)
   ·
    have hlast: ¬r.getLast? =some (pF es a3).1:=by rw[bR (l:=r) (by omega)];simp
    refine rf J J<|ap ((r++[(pF es a3).1]).map eZp) rfl (by rw[bU];rfl) (aB9 [_]) rfl<|?_
    refine rnE 95 10 rfl ?_
    exact at_ ⟨r++[(pF es a3).1],j,(pF es a3).2⟩ (by dsimp only;exact⟨⟨by rw[←h1,aqa,if_neg hlast],hq3,h3.snoc ⟨by omega,by omega⟩ hlast,by simp;omega⟩,(by omega)⟩)
   ·
    obtain⟨q,hq,hqi,hqd⟩:=apN (l:=r) (by omega)
    have hqm:=h3.le q (nW hq)
    unfold ZP.le at hqm
    refine lb (eZp q) rfl (by rw[show(((r.map eZp).length:Nat):Int)-1=((r.length-1:Nat):Int) by omega];exact aav hqi) rfl<|cl rfl (ali (m:=q.1) (n:=q.2) (m':=(pF es a3).1.1) (n':=(pF es a3).1.2) (by omega) (by omega) (by omega) (by omega)) rfl<|?_
    refine bb J J J (fun hc91=>?_) (fun hc91=>?_)
    ·
     have hlast: ¬r.getLast? =some (pF es a3).1:=by rw[hq];intro e;have:=axA.2 (Option.some.inj e);simp[this] at hc91
     refine rf J J<|ap ((r++[(pF es a3).1]).map eZp) rfl (by rw[bU];rfl) (aB9 [_]) rfl<|?_
     refine rnE 95 10 rfl ?_
     exact at_ ⟨r++[(pF es a3).1],j,(pF es a3).2⟩ (by dsimp only;exact⟨⟨by rw[←h1,aqa,if_neg hlast],hq3,h3.snoc ⟨by omega,by omega⟩ hlast,by simp;omega⟩,(by omega)⟩)
    ·
     have hlast:r.getLast? =some (pF es a3).1:=by rw[hq];congr 1;exact axA.1 (by simpa using hc91)
     exact at_ ⟨r,j,(pF es a3).2⟩ (by dsimp only;exact⟨⟨by rw[←h1,aqa,if_pos hlast],hq3,h3,by omega⟩,(by omega)⟩)
  ·
   obtain rfl:i=0:=by omega
   have hg:=h1
   rw[aqa] at hg
   refine fzC 10 rfl ?_
   refine gx rfl<|?_
   refine lp (fu:=⟨5⟩) (X:=List ZP×Nat) (fun⟨l,m⟩=>[(10, .d (.sl (l.map eZp)))]) (fun⟨l,m⟩=>[]) (fun⟨l,m⟩=>ae8 m l=ae8 6 r∧l.length≤m+1∧Adj l∧l.length≤6) (fun⟨l,m⟩=>m) ⟨r,6⟩ rfl ⟨rfl,by omega,h3,by omega⟩ (fun _=>rfl) (fun⟨l,m⟩ hk=>?_)
   try dsimp only at hk⊢
   obtain⟨t1,t2,t3,t4⟩:=hk
   have hll:(l.map eZp).length=l.length:=by simp
   refine csS (v2:=fun hg98=>by simp only[aah];kernel_rfl) J J J J (fun hg98=>?_) (fun hg98=>?_)
   ·
    obtain⟨q,hqi,hqd⟩:=avv (l:=l) (by omega)
    obtain⟨q2,hq0,hqi2,hqd2⟩:=apN (l:=l) (by omega)
    have hqm:=t3.le q (aU hqi)
    have hqm2:=t3.le q2 (aU hqi2)
    unfold ZP.le at hqm hqm2
    refine ix _ rfl (aav (i:=0) hqi) rfl<|ix (eZp q2) rfl (by rw[show(((l.map eZp).length:Nat):Int)-1=((l.length-1:Nat):Int) by omega];exact aav hqi2) rfl<|?_
    refine cl rfl (ali (m:=q.1) (n:=q.2) (m':=q2.1) (n':=q2.2) (by omega) (by omega) (by omega) (by omega)) rfl<|?_
    refine bd J J J (fun hc110=>?_) (fun hc110=>?_)
    ·
     have hcond:1<l.length∧l.getD 0 (0,0)=l.getD (l.length-1) (0,0):=⟨by omega,by rw[hqd,hqd2];exact axA.1 hc110⟩
     refine sc' 0 (l.length-1) (l.dropLast.map eZp) J J (by omega) (arT eZp l) (aB9 l) (bX _) (by omega) rfl<|?_
     exact at_ ⟨l.dropLast,m-1⟩ (by dsimp only;exact⟨⟨by rw[←t1];obtain⟨m,rfl⟩: ∃q,m=q+1:=⟨m-1,by omega⟩;rw[ae8,if_pos hcond];rfl,by rw[gL];omega,t3.drop,by rw[gL];omega⟩,(by omega)⟩)
    ·
     have hcond: ¬(1<l.length∧l.getD 0 (0,0)=l.getD (l.length-1) (0,0)):=fun e=>hc110 (axA.2 (by rw[←hqd,←hqd2];exact e.2))
     refine cl (fu:=⟨1⟩) rfl (ane (l:=l) t3.le (by omega)) rfl<|?_
     have hgen:ae8 6 r=l:=by rw[←t1];cases m with|zero=>rfl|succ m=>rw[ae8,if_neg hcond]
     refine eqF 118 (.d (vI ((anu l).length:Nat))) rfl (by rw[aK];rfl) ?_
     refine gx rfl<|?_
     refine br J J J (fun hc119=>?_) (fun hc119=>?_)
     ·
      have hfin:acj es a=(aCx,a3):=by rw[hR,avR,←hg,hgen,if_pos (by omega)]
      refine cl rfl (aoj (m:=0) (n:=0) (by decide) (by decide)) rfl<|cl rfl (aoj (m:=2) (n:=0) (by decide) (by decide)) rfl<|cl rfl (aoj (m:=0) (n:=2) (by decide) (by decide)) rfl<|?_
      refine rf J J<|?_
      exact rzM hmb J J (by rw[hfin];rfl) (by rw[hfin])
     ·
      have hfin:acj es a=(l,a3):=by rw[hR,avR,←hg,hgen,if_neg (by omega)]
      exact rzM hmb J J (by rw[hfin];rfl) (by rw[hfin])
   ·
    have hcond: ¬(1<l.length∧l.getD 0 (0,0)=l.getD (l.length-1) (0,0)):=fun e=>by omega
    refine cl (fu:=⟨1⟩) rfl (ane (l:=l) t3.le (by omega)) rfl<|?_
    have hgen:ae8 6 r=l:=by rw[←t1];cases m with|zero=>rfl|succ m=>rw[ae8,if_neg hcond]
    refine eqF 118 (.d (vI ((anu l).length:Nat))) rfl (by rw[aK];rfl) ?_
    refine gx rfl<|?_
    refine br J J J (fun hc119=>?_) (fun hc119=>?_)
    ·
     have hfin:acj es a=(aCx,a3):=by rw[hR,avR,←hg,hgen,if_pos (by omega)]
     refine cl rfl (aoj (m:=0) (n:=0) (by decide) (by decide)) rfl<|cl rfl (aoj (m:=2) (n:=0) (by decide) (by decide)) rfl<|cl rfl (aoj (m:=0) (n:=2) (by decide) (by decide)) rfl<|?_
     refine rf J J<|?_
     exact rzM hmb J J (by rw[hfin];rfl) (by rw[hfin])
    ·
     have hfin:acj es a=(l,a3):=by rw[hR,avR,←hg,hgen,if_neg (by omega)]
     exact rzM hmb J J (by rw[hfin];rfl) (by rw[hfin])
def aFL:DV:= .v (.pointer none)
def cTd(l:LnQ)(p q:DV):List DV:=[.v (.bool false), .v (.bool false), .v (.bool (decide (l.a<0))),dN l.a.natAbs, .v (.bool (decide (l.b<0))),dN l.b.natAbs, .v (.bool (decide (l.c<0))),dN l.c.natAbs,p,q]
inductive RF (ns:List RN):Int→(Nat→Bool)→DV→Bool→(Nat→Bool)→Prop where
 |leaf (b:Bool) (f:Nat→Bool):RF ns (ac6 b) f (eT (.leaf b)) true f
 |bad (rt:Int) (f:Nat→Bool) (h1:rt≠ -1) (h2:rt≠ -2) (h:rt<0∨(ns.length:Int)≤rt∨(∃k:Nat,rt=k∧k<ns.length∧f k=true)):RF ns rt f aFL false f
 |line (k:Nat) (n:RN) (f:Nat→Bool) (h:ns[k]? =some n) (hf:f k=false) (hl:n.g.ln=none):RF ns (k:Int) f aFL false (aod f k)
 |left (k:Nat) (n:RN) (l:LnQ) (f f2:Nat→Bool) (p:DV) (h:ns[k]? =some n) (hf:f k=false) (hl:n.g.ln=some l) (h1:RF ns n.l (aod f k) p false f2):RF ns (k:Int) f aFL false f2
 |node (k:Nat) (n:RN) (l:LnQ) (f f2 f3:Nat→Bool) (p q:DV) (ok:Bool) (h:ns[k]? =some n) (hf:f k=false) (hl:n.g.ln=some l) (h1:RF ns n.l (aod f k) p true f2) (h2:RF ns n.r f2 q ok f3):RF ns (k:Int) f (.pt (cTd l p q)) ok f3
def aIN(n:Nat)(f:Nat→Bool):Bool:=(List.range n).all f
theorem Tr.all_imp{p q:LnQ→Prop}(h: ∀l,p l→q l): ∀{t:Tr},t.all p→t.all q
 | .leaf _,_=>trivial
 | .node _ _ _,⟨h0,h1,h2⟩=>⟨h _ h0,Tr.all_imp h h1,Tr.all_imp h h2⟩
theorem aIa{t:Tr}(hs:t.size≤65536):((t.wr 0).map RN.of).length≤65536:=by rw[aK,t.wr_len];exact hs
def l00:LnQ:=⟨0,1,0⟩
def t00:Tr:= .node l00 (.leaf true) (.leaf false)
theorem akd.red_size{k:Nat}{t:Tr}(h:akd k t)(hr:t.Red []):t.size≤k*(1+k):=by
 obtain⟨K,h1,h2,h3⟩:=h.am
 exact cW (Tr.size_le h2 hr h.gd.ok aaJ.nil h3) (iJ h1 (by omega))
structure TrX (k:Nat) (t:Tr):Prop where
 o:akd k t
 s:t.size≤3000
theorem TrX.lb{k:Nat}{t:Tr}(h:TrX k t):t.all LB:=h.o.gd.lb
theorem TrX.ok{k:Nat}{t:Tr}(h:TrX k t):t.all LnQ.ok:=h.o.gd.ok
theorem TrX.bl{k:Nat}{t:Tr}(h:TrX k t):t.all (fun l=>BL l 96):=Tr.all_imp (fun _ h=>h.bl) h.o.gd.lb
theorem TrX.dp{k:Nat}{t:Tr}(h:TrX k t):t.depth≤k:=h.o.dp
theorem akd.x{k:Nat}{t:Tr}(h:akd k t)(hr:t.Red [])(hk:k≤54):TrX k t:=
 ⟨h,cW (h.red_size hr) (cW (iJ hk (show 1+k≤55 by omega)) (by decide))⟩
theorem anc(rs:List (List ZP))(fill:Int):(ae0 rs fill).Red []:=Tr.restrict_red _ _
theorem akR(es:List Int)(a:Nat):(acJ es a).1.Red []:=by
 unfold acJ
 dsimp only
 split<;>exact anc _ _
def aIm(es:List Int)(a:Nat):(Tr×Tr)×Nat:=
 let x:=aeR es 0 a
 let y:=aeR es 0 x.2
 let k:=aaf es 3 y.2
 let u:=if(k.1:Int)=0 then af6 es 3 k.2 else(x.1,k.2)
 let j:=aaf es 3 u.2
 let v:=if(j.1:Int)=0 then af6 es 3 j.2 else(y.1,j.2)
 ((u.1,v.1),v.2)
def aIc(es:List Int)(a:Nat):(Tr×Tr)×Nat:=
 let x:=aeR es 0 a
 let y:=aeR es 0 x.2
 let k:=aaf es 6 y.2
 if(k.1:Int)=0 then((x.1, .node (lF es k.2).1 x.1 x.1),(lF es k.2).2)
 else if(k.1:Int)=1 then((x.1,y.1.mergeQ 1 x.1 []),k.2)
 else if(k.1:Int)=2 then((x.1,y.1.mergeQ 3 x.1 []),k.2)
 else if(k.1:Int)=3 then((x.1,(af6 es 3 k.2).1),(af6 es 3 k.2).2)
 else((x.1,y.1),k.2)
def aC5(es:List Int):Nat→Nat→List Tr×Nat
 |0,a=>([],a)
 |n+1,a=>((aeR es 0 a).1::(aC5 es n (aeR es 0 a).2).1,(aC5 es n (aeR es 0 a).2).2)
def aHX(r:List ZP)(i k:Nat):Bool:=decide (k=i)||decide (k=(i+1)%r.length)||decide (0<ahr (r.getD i (0,0)).q (acQ r i).q (r.getD k (0,0)).q)
def aFI(r:List ZP):Bool:=(List.range r.length).all fun i=>(List.range r.length).all fun k=>aHX r i k
theorem aDG{r:List ZP}(h:aaQ r): ∀x∈[r],aaQ x:=fun x hx=>by rw[aV] at hx;subst hx;exact h
theorem aES{r s:List ZP}(h:aaQ r)(k:aaQ s): ∀x∈[r,s],aaQ x:=fun x hx=>by
 simp only[aT,jY,or_false] at hx
 rcases hx with rfl|rfl
 ·exact h
 ·exact k
theorem amQ{b:Nat}{es:List Int}(hes:es.length≤400){a:Nat}(ha:a≤es.length):PM GB prog 37 (mkP [none] b) b 87 [.sl (es.map vI), .v (.int .i64 (a:Nat))] (eT (acJ es a).1) [.sl (es.map vI), .v (.int .i64 ((acJ es a).2:Nat))]:=by
 obtain⟨r1,r2⟩:=afL ha
 have hk3:=aaS (n:=3) r2
 refine fnM func37 J J ntmps37 J J (fun C b m lo hmb=>?_)
 refine cm rfl (fun b=>(at3 hes ha)) rfl<|ro (fu:=⟨4⟩) J J<|?_
 refine mg (X:=List (List ZP)×Nat) (fun⟨rs,a2⟩=>[(3, .rw 6)]) (fun⟨rs,a2⟩=>[(1000000,some (.o 87 [.d (.sl (es.map vI)), .d (.v (.int .i64 (a2:Nat)))] false)),(6,some (.b 130 1 (rs.map eRg) true))]) (fun⟨rs,a2⟩=>acJ es a=(ae0 rs (1+((aaf es 2 a2).1:Int)),(aaf es 2 a2).2)∧a2≤es.length∧(∀r∈rs,aaQ r)∧rs.length≤2) [3] [1000000,6] rfl ?_ (fun _=>rfl) (fun⟨rs,a2⟩ ⟨hB,ha2,hrs,hrl⟩=>?_)
 ·
  refine gx rfl<|cm rfl (fun b=>(adq (n:=3) hes r2 (by decide) (by decide))) rfl<|?_
  refine br J J J (fun hc9=>?_) (fun hc9=>?_)
  ·
   obtain⟨s1,s2⟩:=afL hk3
   refine cm rfl (fun b=>(at3 hes hk3)) rfl<|rf J J<|ap (hbd:=by simp) ([(acj es a).1,(acj es (aaf es 3 (acj es a).2).2).1].map eRg) J J (azw [(acj es (aaf es 3 (acj es a).2).2).1]) rfl<|?_
   refine rnE 14 6 rfl ?_
   exact at_ ⟨[(acj es a).1,(acj es (aaf es 3 (acj es a).2).2).1],(acj es (aaf es 3 (acj es a).2).2).2⟩ ⟨if_pos hc9,s2,aES r1 s1,by simp⟩
  ·
   exact at_ ⟨[(acj es a).1],(aaf es 3 (acj es a).2).2⟩ ⟨if_neg hc9,hk3,aDG r1,by simp⟩
 ·
  try dsimp only at hB ha2 hrs hrl⊢
  have hf2:=abB (es:=es) (n:=2) (a:=a2) (by decide)
  refine fz 6 J J<|cl rfl (aGX (rs:=rs) hrs (by omega)) rfl<|cm rfl (fun b=>(adq (n:=2) hes ha2 (by decide) (by decide))) rfl<|cl rfl (as0 (rs:=rs) (fill:=1+((aaf es 2 a2).1:Int)) hrs (by omega)) rfl<|?_
  refine cl rfl (atx (rs:=rs) (fill:=1+((aaf es 2 a2).1:Int)) hrs (by omega)) rfl<|?_
  exact rzM hmb J J (by rw[hB];rfl) (by rw[hB])
section
variable {GB:Gh} {C:Ctx} {n:Nat} {Q0:Exit→Act→World→Prop} {fr fr' fr1 fr2:FrX} {own own' own1 own2:OwX} {cf cf' cf1 cf2:Cf} {vc vc1 vc2:List Prop}
def aJu(fr:FrX)(cf:Cf):Option Int:=match opC fr cf with
 |some ⟨_, .binOp .and _ x (.const (.int .i64 3)) _,_,_,_,_⟩=>match evX (lkC fr cf) x with
  |some (.d (.v (.int .i64 p)))=>some p
  |_=>none
 |_=>none
end
theorem aCS{es0 es:List Int}(hb:es0.length≤1125899906842624)(he:es=es0.take 400):PN GB prog 8 [.sl (es0.map vI)] 87 Unit (fun _=>[.sl (es.map vI), .v (.int .i64 (0:Nat))]):=by
 subst he;exact aGg hb
theorem ap5{k:Nat}{t:Tr}(h:TrX k t):PF GB prog 7 [eT t] (eA t):=azQ h.bl (by have:=h.s;omega)
section
variable {GB:Gh} {C:Ctx} {n:Nat} {Q0:Exit→Act→World→Prop} {fr fr':FrX} {own own':OwX} {cf cf':Cf} {vc:List Prop} {ops:Array Oper} {r:List Oper} {K:List Kt}
theorem aFT(k:Nat){d:DV}(hl:aao fr k=some (.d d))(h: ∀(GB':Gh) (pv:Value),GLe GB GB'→Is GB' d pv→CfS prog GB' C n Q0 ((k, .d (.v pv))::fr) own (.ops ops r K)):CfS prog GB C n Q0 fr own (.ops ops r K):=by
 refine⟨fun ρ G ov a w r0=>?_⟩
 obtain⟨y,hy,hy'⟩:=r0.fx k _ hl
 refine(h G y r0.gb hy').run ρ G ov a w ⟨GLe.refl _,r0.h,r0.sz,r0.df,fun j f e=>?_,r0.bx,r0.dj,r0.fxd⟩
 rw[aaI] at e
 split at e
 ·rename_i hj
  cases e;subst hj
  exact⟨y,hy,(aaY (G:=G)).2 rfl⟩
 ·exact r0.fx j f e
def aJt(fr:FrX)(cf:Cf):Option (FuncId×Value):=match opC fr cf with
 |some ⟨_, .makeFunc (.func f) ⟨[x]⟩ ⟨[]⟩,_,_,_,_⟩=>match evX (lkC fr cf) x with
  |some (.d (.v pv))=>some (f,pv)
  |_=>none
 |_=>none
def aJf(fr:FrX)(cf:Cf):Option (FuncId×List Value×List DV):=match opC fr cf with
 |some ⟨_, .call ⟨.value fo,args,_⟩,_,_,_,_⟩=>match evX (lkC fr cf) fo,evDs (lkC fr cf) args.toList with
  |some (.d (.v (.func (.func f) ⟨c1⟩ ⟨[]⟩))),some ds=>some (f,c1,ds)
  |_,_=>none
 |_=>none
def azo:List (Nat×Operand)→Option (List (Nat×Value))
 |[]=>some []
 |(i, .const v)::t=>match azo t with
  |some l=>some ((i,v)::l)
  |none=>none
 |_::_=>none
def aI8(cf:Cf)(fr:FrX):Option (TypeId×List (Nat×Value)):=match opC fr cf with
 |some ⟨_, .build t ⟨ps⟩,_,_,_,_⟩=>match azo ps with
  |some vs=>some (t,vs)
  |none=>none
 |_=>none
def aHT(fr:FrX)(own:OwX)(cf:Cf):Option (TypeId×Nat×Nat×List FX×Bool×FX):=match opC fr cf with
 |some ⟨_, .store t x y,_,_,_,_⟩=>match evX (lkC fr cf) x with
  |some (.ov nm 0)=>match bkC fr own cf nm with
   |some (.o ty cs lo)=>match evX (lkC fr cf) y with
    |some fv=>some (t,nm,ty,cs,lo,fv)
    |_=>none
   |_=>none
  |_=>none
 |_=>none
theorem sta[fu:Fu]{t nm ty len e:Nat}{cs:List FX}{lo:Bool}{fv:FX}{j:TypeInfo}(h:aHT fr own cf=some (t,nm,ty,cs,lo,fv))(hu:prog.underlying t=some (.array len e))(hj:prog.info? t=some j)(hc:fv.okc=true∧fv.cells.length=j.size∧j.size=cs.length)
  (hgo:goA tt n fu.n fr own cf .un [(nm,some (.o ty (ovX cs 0 fv.cells) lo))] []=⟨vc,fr',own',cf'⟩)(k:CfS prog GB C n Q0 fr' own' cf')
  (hv:aah vc:=by first|exact trivial|(simp only[aah];kernel_rfl)|(simp only[aah];omega)):CfS prog GB C n Q0 fr own cf:=by
 unfold aHT at h
 split at h<;>try (cases h;done)
 rename_i hh
 split at h<;>try (cases h;done)
 rename_i e1
 split at h<;>try (cases h;done)
 rename_i hb
 split at h<;>cases h
 rename_i e2
 obtain⟨c1,c2,c3⟩:=hc
 have:TyA prog t j.size:=⟨fun w=>ajg hu w,fun w=>ad0 hj w⟩
 refine us hh ?_ hgo hv k
 intro hd tl tb K s1 s2 hf hk
 refine⟨fun ρ G ov a w r Q=>?_⟩
 have r1:=r.mono s1 s2
 obtain⟨p,h1,h2⟩:=r1.ev e1
 obtain⟨q,h3,h4⟩:=r1.ev e2
 obtain⟨b,m,rfl,ha,h5,h6⟩:=r1.own h2 hb
 obtain⟨h7,h8⟩:=h4.cells c1
 obtain⟨own',u1,u2,u3⟩:=agk.of_mem (cs':=ovw m 0 (aag q)) h6
 exact aiF h1 h3 u1 (by rw[h7.len,c2]) (by rw[h5.len,c3];omega) (dZ.2 h8) hd (fun a' w' rl=>r.wrote (m:=m) (s2 _ _ hb) ha (h5.ov h7) u2 u3 hk rl) a w Q ⟨r.h,r.sz,aaF a,r.df⟩
def aJe(fr:FrX)(cf:Cf):Option RwA:=match opC fr cf with
 |some ⟨some d, .buildSlice t len parts,_,_,_,_⟩=>match abc tt t with
  |some ⟨.sl e s _,_,_,_⟩=>match aCb (lkC fr cf) 0 parts.toList with
   |some ds=>bif awU s ds&&(Nat.beq parts.toList.length len&&(Nat.ble (len*s) 1000&&Nat.blt 0 (len*s))) then some ⟨d,e,s,ds⟩ else none
   |none=>none
  |_=>none
 |_=>none
def aIW(fr:FrX)(cf:Cf):Option (TypeId×List DV):=match opC fr cf with
 |some ⟨_, .load t x,_,_,_,_⟩=>match evX (lkC fr cf) x with
  |some (.ep l)=>some (t,l)
  |_=>none
 |_=>none
def aI0:TypeDesc→Bool
 | .struct _=>false
 | .array _ _=>false
 |_=>true
end
def ePr(a b:Tr):DV:= .ag [eU a,eU b]
def prZ:DV:= .ag [.v (.pointer none), .v (.pointer none)]
theorem aCP{k:Nat}{t:Tr}(h:TrX k t):PF GB prog 64 [eA t] (.tp [eU t,vB true]):=by
 have:=aGb (GB:=GB) (rt:=t.num 0) (aFZ h.lb) (aIa (by have:=h.s;omega)) (aEy h.ok)
 rw[←aGx] at this
 exact this
def mtQ(a:LnQ)(t:List LnQ):List Rat:=t.filterMap fun b=>if crossI a b=0 then none else some (abE a b).x
def aJk(l:List LnQ)(x:Rat):List PtQ:=(ab6 (aAH (ysQ l x))).map fun y=>⟨x,y⟩
def atO:Tr→PtQ→Bool
 | .leaf _,_=>true
 | .node l x y,p=>if(l.value p).num.sign=1 then atO x p else if(l.value p).num.sign= -1 then atO y p else false
structure Two (a b:Tr):Prop where
 ga:a.gd
 gb:b.gd
 sa:a.size≤3000
 sb:b.size≤3000
def f1R(x y:Bool):Bool:=x&&!y
def f2R(x y:Bool):Bool:=y&&!x
def f3R(x y:Bool):Bool:=x&&y
def f4R(x y:Bool):Bool:=!x&&!y
def anK(f:Bool→Bool→Bool)(a b:Tr)(k:Nat):Bool:=((fcs a b).take k).any fun p=>f (atQ a p) (atQ b p)
theorem ajb{c:List LnQ}(hok: ∀l∈c,l.ok):af1 c=true↔ ∃p,InL c p:=by
 rw[←aeu hok]
 unfold af1 abY
 cases c with
 |nil=>simp
 |cons a b=>
  rw[if_neg (by simp;omega)]
  simp only[decide_eq_true_eq,aK,List.isEmpty_cons,Bool.false_or,jW]
  constructor
  ·intro h
   obtain⟨m,hm⟩:=List.exists_mem_of_length_pos (l:=aa3 (a::b)) (by omega)
   exact⟨m,abb.1 hm⟩
  ·rintro ⟨m,hm⟩
   have:=List.length_pos_of_mem (abb.2 hm)
   omega
def adO:Tr→List LnQ→List (List LnQ×Bool)
 | .leaf b,c=>if af1 c then [(aa3 c,b)] else []
 | .node l x y,c=>if af1 c then adO x (aa3 c++[l])++adO y (aa3 c++[l.rev]) else []
def aIi(c:List LnQ)(p:PtQ):Bool:=c.all fun l=>decide (0<Int.sign (l.value p).num)
def aJw(c:List LnQ):Option PtQ:=(ayu (ao5 c)).find? (aIi c)
theorem aAM{l m:LnQ}(hl:l.ok)(hm:m.ok)(h:aa6 l.dir m.dir=0): ∃k e:Rat,0<k∧ ∀p,m.value p=k*l.value p+e:=by
 obtain⟨h1,h2⟩:=aye.1 h
 have z1:=avN hl
 have key: ∃k:Rat,0<k∧m.dir.x=k*l.dir.x∧m.dir.y=k*l.dir.y:=by
  unfold PtQ.cross at h2
  rcases acz l.dir with⟨e,k⟩|⟨e,k⟩|⟨e,k⟩
  ·rw[e] at h1
   have k2:=ada.1 h1.symm
   rcases k with k|⟨k,k'⟩
   ·have y2:0<m.dir.y:=by
     rcases k2 with k2|⟨k2,k3⟩
     ·exact k2
     ·exfalso
      rw[k2] at h2
      have:=aan k k3
      grind
    refine⟨m.dir.y/l.dir.y,?_,by grind,by grind⟩
    have:0<m.dir.y/l.dir.y:=(aaq k).1 (by rw[show m.dir.y/l.dir.y*l.dir.y=m.dir.y by grind];exact y2)
    exact this
   ·rw[k] at h2
    have y2:m.dir.y=0:=by
     rcases iW.1 (show l.dir.x*m.dir.y=0 by grind) with q|q
     ·rw[q] at k';exact absurd k' (by decide)
     ·exact q
    have x2:0<m.dir.x:=by
     rcases k2 with k2|⟨_,k3⟩
     ·rw[y2] at k2;exact absurd k2 (by decide)
     ·exact k3
    refine⟨m.dir.x/l.dir.x,(aaq k').1 (by rw[show m.dir.x/l.dir.x*l.dir.x=m.dir.x by grind];exact x2),by grind,by rw[y2,k];grind⟩
  ·rw[e] at h1
   have k2:=aed.1 h1.symm
   rcases k with k|⟨k,k'⟩
   ·have y2:m.dir.y<0:=by
     rcases k2 with k2|⟨k2,k3⟩
     ·exact k2
     ·exfalso
      rw[k2] at h2
      have:=aan (show 0< -l.dir.y by grind) (show 0< -m.dir.x by grind)
      grind
    refine⟨m.dir.y/l.dir.y,(aaq (show 0< -l.dir.y by grind)).1 (by rw[show m.dir.y/l.dir.y* -l.dir.y= -m.dir.y by grind];grind),by grind,by grind⟩
   ·rw[k] at h2
    have y2:m.dir.y=0:=by
     rcases iW.1 (show l.dir.x*m.dir.y=0 by grind) with q|q
     ·rw[q] at k';exact absurd k' (by decide)
     ·exact q
    have x2:m.dir.x<0:=by
     rcases k2 with k2|⟨_,k3⟩
     ·rw[y2] at k2;exact absurd k2 (by decide)
     ·exact k3
    refine⟨m.dir.x/l.dir.x,(aaq (show 0< -l.dir.x by grind)).1 (by rw[show m.dir.x/l.dir.x* -l.dir.x= -m.dir.x by grind];grind),by grind,by rw[y2,k];grind⟩
  ·exact absurd e z1
 obtain⟨k,k0,kx,ky⟩:=key
 simp only[LnQ.dir] at kx ky
 refine⟨k,(m.c:Rat)-k*(l.c:Rat),k0,fun p=>?_⟩
 rw[abl,abl,kx]
 have:(m.a:Rat)=k*(l.a:Rat):=by grind
 rw[this]
 grind
theorem apC{e:aae}(hne: ∃q,InD e q){l m:LnQ}(hl:l.ok)(hm:m.ok)(pl: ∀p,InD e p→0<l.value p)(pm: ∀p,InD e p→0<m.value p)(tl: ∃p,InC e p∧l.value p=0)(tm: ∃p,InC e p∧m.value p=0)(ha:aa6 l.dir m.dir=0):l=m:=by
 obtain⟨k,c,k0,hk⟩:=aAM hl hm ha
 obtain⟨p,p1,p2⟩:=tl
 obtain⟨q,q1,q2⟩:=tm
 have g1:=aa0 hne pm p1
 rw[hk,p2] at g1
 have g2:=aa0 hne pl q1
 have g3:=aab (cN k0) g2
 rw[hk] at q2
 have c0:c=0:=by grind
 have hz: ∀t,m.value (l.at t)=0:=fun t=>by rw[hk,acf hl.ne,c0];grind
 rcases afc hm hl hz with h|h
 ·exact h.symm
 ·exfalso
  obtain⟨u,hu⟩:=hne
  have a:=pl u hu
  have b:=pm u hu
  rw[h,aaV] at b
  grind
theorem agx{c:aae}(hc:aaJ c){s:FrQ}(hs:s∈c):InC c (s.l.at s.v.sample)∧s.l.value (s.l.at s.v.sample)=0:=
 ⟨((hc.edge s hs).2 _).1 (aba (hc.edge s hs).1).has,acf (hc.ok s hs).ne _⟩
def aj8(c:aae):Prop:=(c.map fun s=>s.l.dir).Pairwise Bef
theorem alp{p:Nat→Bool}{N:Nat}(hm: ∀i j,i≤j→j<N→p j=true→p i=true): ∀(d i j:Nat),j-i≤d→i≤j→j≤N→(∀k,k<i→p k=true)→(∀k,j≤k→k<N→p k=false)→(∀k,k<bsq p i j→p k=true)∧ ∀k,bsq p i j≤k→k<N→p k=false
 |0,i,j,h,hij,hN,h1,h2=>by
  obtain rfl:i=j:=by omega
  rw[bsq,dif_neg (by omega)];exact⟨h1,h2⟩
 |d+1,i,j,h,hij,hN,h1,h2=>by
  by_cases q:i<j
  ·rw[bsq,dif_pos q]
   by_cases r:p ((i+j)/2)=true
   ·rw[if_pos r]
    exact alp hm d _ _ (by omega) (by omega) hN (fun k hk=>hm k ((i+j)/2) (by omega) (by omega) r) h2
   ·rw[if_neg r]
    refine alp hm d _ _ (by omega) (by omega) (by omega) h1 fun k hk hkN=>?_
    cases hp:p k with
    |false=>rfl
    |true=>exact absurd (hm _ k hk hkN hp) r
  ·obtain rfl:i=j:=by omega
   rw[bsq,dif_neg q];exact⟨h1,h2⟩
theorem au8{ds:List PtQ}{d:PtQ}{n:Nat}(h:ds.Pairwise Bef)(h1: ∀x∈ds.take n,Bef x d)(h2: ∀x∈ds.drop n,Bef d x):(ds.take n++d::ds.drop n).Pairwise Bef:=by
 have hs:=h
 rw[←iM n ds,fM] at hs
 obtain⟨a,b,c⟩:=hs
 rw[fM]
 refine⟨a,cK.2 ⟨h2,b⟩,fun x hx y hy=>?_⟩
 rcases aT.1 hy with rfl|hy
 ·exact h1 x hx
 ·exact c x hx y hy
theorem alE(l:LnQ): ∀c:aae,((abP l c).map fun s=>s.l.dir).Sublist (c.map fun s=>s.l.dir)
 |[]=>List.Sublist.refl _
 |s::c=>by
  rw[abP]
  split
  ·exact(alE l c).cons_cons _
  ·exact(alE l c).cons _
theorem aqm{α:Type}{l:List α}{n:Nat}{x:α}(h:x∈l.take n): ∃i,i<n∧l[i]? =some x:=by
 obtain⟨i,hi,e⟩:=lL.1 h
 rw[cR] at hi
 exact⟨i,by omega,by rw[List.getElem_take] at e;rw[aQ (by omega),e]⟩
theorem aq8{α:Type}{l:List α}{n:Nat}{x:α}(h:x∈l.drop n): ∃i,n≤i∧i<l.length∧l[i]? =some x:=by
 obtain⟨i,hi,e⟩:=lL.1 h
 rw[gV] at hi
 exact⟨n+i,by omega,by omega,by rw[List.getElem_drop] at e;rw[aQ (by omega),e]⟩
theorem aij{c:aae}{l:LnQ}(hc:aaJ c)(hl:l.ok)(ha:aj8 c)(hb:aa9 c l=true):aj8 (aaL c l):=by
 have hg:=(aaU hc hl hb).1
 unfold aaL at hg⊢
 cases hp:afq c l with
 |none=>exact ha
 |some v=>
  simp only[hp] at hg⊢
  have hs:aj8 (abP l c):=ha.sublist (alE l c)
  have nt: ∀s∈abP l c,aa6 s.l.dir l.dir≠0:=fun s h e=>by
   have m1:s∈aoX (abP l c) l v:=acH.2 (.inr h)
   have m2:(⟨l,v⟩:FrQ)∈aoX (abP l c) l v:=acH.2 (.inl rfl)
   have ee:=apC hg.ne (hg.ok s m1) hl (fun p hp=>hp s m1) (fun p hp=>hp ⟨l,v⟩ m2) ⟨_,agx hg m1⟩ ⟨_,agx hg m2⟩ e
   obtain⟨s0,g1,_,rfl⟩:=aco.1 h
   obtain⟨_,q,q1,q2⟩:=ahy hl.ne hp
   have h5:=q1 s0 g1
   have e5:s0.l=l:=ee
   rw[e5] at h5
   grind
  generalize abP l c=d at*
  have hmo: ∀i j,i≤j→j<d.length→aen d l j=true→aen d l i=true:=fun i j hij hj h=>by
   unfold aen at h⊢
   rw[aQ hj] at h
   rw[aQ (by omega)]
   simp only[decide_eq_true_eq,ahV] at h⊢
   by_cases q:i=j
   ·subst q;exact h
   ·have:=mN.1 hs i j (by simp;omega) (by simp;omega) (by omega)
    simp only[pV] at this
    exact afi this h
  obtain⟨k1,k2⟩:=alp hmo d.length 0 d.length (by omega) (by omega) (aM _) (fun k h=>absurd h (by omega)) (fun k h h'=>absurd h' (by omega))
  unfold aoX aj8
  generalize bsq (aen d l) 0 d.length=n at*
  rw[bU,cZ,gW,iL]
  refine au8 hs (fun x hx=>?_) (fun x hx=>?_)
  ·rw[←gW] at hx
   obtain⟨s,h1,rfl⟩:=bJ.1 hx
   obtain⟨i,hi,e⟩:=aqm h1
   have:=k1 i hi
   unfold aen at this
   rw[e] at this
   simpa[ahV] using this
  ·rw[←iL] at hx
   obtain⟨s,h1,rfl⟩:=bJ.1 hx
   obtain⟨i,hi,hi2,e⟩:=aq8 h1
   have:=k2 i hi hi2
   unfold aen at this
   rw[e] at this
   have h3: ¬Bef s.l.dir l.dir:=by simpa[ahV] using this
   by_cases q:Bef l.dir s.l.dir
   ·exact q
   ·exact absurd (auV h3 q) (nt s (gJ h1))
theorem ajd: ∀{t:Tr} {c:aae},t.all LnQ.ok→aaJ c→aj8 c→ ∀x∈t.parts c,aj8 x.2
 | .leaf b,c,_,_,ha,x,h=>by
  rw[Tr.parts,aV] at h
  subst h;exact ha
 | .node l u v,c,ht,hc,ha,x,h=>by
  rw[Tr.parts] at h
  rcases bY.1 h with h|h
  ·split at h
   ·rename_i hb
    exact ajd ht.2.1 (aaU hc ht.1 hb).1 (aij hc ht.1 ha hb) x h
   ·cases h
  ·split at h
   ·rename_i hb
    exact ajd ht.2.2 (aaU hc ht.1.rev hb).1 (aij hc ht.1.rev ha hb) x h
   ·cases h
def awf(c:List LnQ):Prop:=(c.map LnQ.dir).Pairwise Bef
theorem ai2{c:List LnQ}{e:aae}(hs: ∀s∈e,s.l∈c){l:LnQ}(hl:l.ok)(he:(ab9 l c IvQ.all).isSome=true): ∃w:IvQ,w.Pos∧ ∀t,w.ins t→InC e (l.at t)∧l.value (l.at t)=0∧ ∀m∈c,m≠l→0<m.value (l.at t):=by
 obtain⟨w,hw⟩:=qQ.1 he
 obtain⟨h1,h2⟩:=aek l c _ w agc hw
 refine⟨w,h1,fun t ht=>?_⟩
 have h3:=((h2 t).1 ht).2
 refine⟨fun s hs'=>?_,acf hl.ne t,h3⟩
 by_cases q:s.l=l
 ·rw[q,acf hl.ne];exact fU
 ·exact cN (h3 _ (hs s hs') q)
theorem asW{α:Type}{p:α→Bool}: ∀(l:List α),(∀i x,i<(l.takeWhile p).length→l[i]? =some x→p x=true)∧ ∀x,l[(l.takeWhile p).length]? =some x→p x=false
 |[]=>⟨fun i x h _=>by simp at h,fun x h=>by simp at h⟩
 |a::l=>by
  obtain⟨h1,h2⟩:=asW (p:=p) l
  rw[nS]
  cases ha:p a with
  |false=>
   refine⟨fun i x h _=>by simp at h,fun x h=>?_⟩
   simp at h
   rw[←h];exact ha
  |true=>
   simp only[if_true,bW]
   refine⟨fun i x h e=>?_,fun x h=>h2 x (by simpa using h)⟩
   cases i with
   |zero=>simp at e;rw[←e];exact ha
   |succ i=>exact h1 i x (by omega) (by simpa using e)
theorem amC{out:List LnQ}{l:LnQ}(ha:awf out)(ht: ∀m∈out,aa6 m.dir l.dir=0→m=l):awf (acr out l):=by
 unfold acr
 split
 ·exact ha
 ·rename_i hne
  obtain⟨k1,k2⟩:=asW (p:=fun x:LnQ=>decide (aa6 x.dir l.dir<0)) out
  have e0:ad9 out l=(out.takeWhile fun x=>decide (aa6 x.dir l.dir<0)).length:=rfl
  rw[←e0] at k1 k2
  generalize ad9 out l=n at*
  unfold awf
  rw[bU,cZ,gW,iL]
  refine au8 ha (fun x hx=>?_) (fun x hx=>?_)
  ·rw[←gW] at hx
   obtain⟨m,h1,rfl⟩:=bJ.1 hx
   obtain⟨i,hi,e⟩:=aqm h1
   simpa[ahV] using k1 i m hi e
  ·rw[←iL] at hx
   obtain⟨m,h1,rfl⟩:=bJ.1 hx
   obtain⟨i,hi,hi2,e⟩:=aq8 h1
   have hn:n<out.length:=by omega
   have h3: ¬Bef (out[n]).dir l.dir:=by simpa[ahV] using k2 _ (aQ hn)
   have h4:Bef l.dir (out[n]).dir:=by
    by_cases q:Bef l.dir (out[n]).dir
    ·exact q
    ·exact absurd (by rw[aQ hn,ht _ (bN hn) (auV h3 q)]) hne
   by_cases q:i=n
   ·subst q
    rw[aQ hn] at e
    cases e
    exact h4
   ·have:=mN.1 ha n i (by simp;omega) (by simp;omega) (by omega)
    simp only[pV] at this
    rw[aQ hi2] at e
    cases e
    exact afi h4 this
theorem ahO{c:List LnQ}(ht: ∀l∈c,∀m∈c,(ab9 l c IvQ.all).isSome=true→(ab9 m c IvQ.all).isSome=true→aa6 m.dir l.dir=0→m=l): ∀{t out:List LnQ},(∀l∈t,l∈c)→(∀m∈out,m∈c∧(ab9 m c IvQ.all).isSome=true)→awf out→awf (ad1 c t out)
 |[],out,_,_,ha=>ha
 |l::t,out,hc,ho,ha=>by
  have hl:=hc l aZ
  rw[ad1]
  by_cases q:(ab9 l c IvQ.all).isSome=true
  ·rw[if_pos q]
   refine ahO ht (fun l h=>hc l (aJ _ h)) (fun m hm=>?_) (amC ha fun m hm e=>ht l hl m (ho m hm).1 q (ho m hm).2 e)
   rcases afw.1 hm with rfl|h
   ·exact⟨hl,q⟩
   ·exact ho m h
  ·rw[if_neg q]
   exact ahO ht (fun l h=>hc l (aJ _ h)) ho ha
theorem arJ{c:List LnQ}(hok: ∀l∈c,l.ok)(hne: ∃p,InL c p):awf (aa3 c):=by
 obtain⟨e,_,hg,hi,hs⟩:=aeE hok hne
 refine ahO (fun l hl m hm el em h=>?_) (fun l h=>h) (fun m h=>by cases h) .nil
 obtain⟨w1,p1,k1⟩:=ai2 (fun s h=>(hs s h).1) (hok l hl) el
 obtain⟨w2,p2,k2⟩:=ai2 (fun s h=>(hs s h).1) (hok m hm) em
 obtain⟨a1,a2,_⟩:=k1 _ (aba p1)
 obtain⟨b1,b2,_⟩:=k2 _ (aba p2)
 exact apC hg.ne (hok m hm) (hok l hl) (fun p hp=>(hi p).1 hp m hm) (fun p hp=>(hi p).1 hp l hl) ⟨_,b1,b2⟩ ⟨_,a1,a2⟩ h
theorem auF{v:IvQ}{t u:Rat}(h:v.ins t)(k:v.has u):v.ins ((t+u)*(1/2)):=by
 obtain⟨lo,hi,nl,nh⟩:=v
 unfold IvQ.ins at*
 unfold IvQ.has at k
 cases nl<;>cases nh<;>simp at* <;>grind
theorem aik{c d:aae}(hc: ∃q,InD c q)(h: ∀p,InD c p↔InD d p){p:PtQ}(hp:InC c p):InC d p:=fun s hs=>aa0 hc (fun q hq=>(h q).1 hq s hs) hp
theorem avx{c:List LnQ}{d:aae}(hok: ∀l∈c,l.ok)(hd:aaJ d)(h: ∀p,InD d p↔InL c p)(l:LnQ):l∈d.map (·.l)↔l∈aa3 c:=by
 have hne: ∃p,InL c p:=hd.ne.elim fun q hq=>⟨q,(h q).1 hq⟩
 obtain⟨e,_,hg,hi,hs⟩:=aeE hok hne
 have hde: ∀p,InD d p↔InD e p:=fun p=>by rw[h,hi]
 constructor
 ·intro hl
  obtain⟨s,k,rfl⟩:=bJ.1 hl
  obtain⟨t1,t2⟩:=agx hd k
  have t3:=aik hd.ne hde t1
  have: ¬InD e (s.l.at s.v.sample):=fun q=>by
   have:=(hde _).2 q s k
   rw[t2] at this;exact absurd this (by decide)
  obtain⟨u,hu,hz⟩: ∃u∈e,u.l.value (s.l.at s.v.sample)=0:=by
   by_cases q: ∃u∈e,u.l.value (s.l.at s.v.sample)=0
   ·exact q
   ·exfalso
    refine this fun u hu=>?_
    have g1:=t3 u hu
    have g2:u.l.value (s.l.at s.v.sample)≠0:=fun e=>q ⟨u,hu,e⟩
    grind
  have:=am3 hd k (hg.ok u hu) (fun p hp=>(hde p).1 hp u hu) hz
  rw[←this]
  exact abb.2 (hs u hu)
 ·intro hl
  obtain⟨l1,l2⟩:=abb.1 hl
  obtain⟨w,p1,k1⟩:=ai2 (fun s h=>(hs s h).1) (hok l l1) l2
  have hed: ∀p,InD e p↔InD d p:=fun p=>(hde p).symm
  have hi1:=aba p1
  obtain⟨⟨u1,m1,n1⟩,⟨u2,m2,n2⟩⟩:=alV hi1
  have g1:=auF hi1 n1
  have g2:=auF hi1 n2
  obtain⟨c0,c1,_⟩:=k1 _ hi1
  have c2:=aik hg.ne hed c0
  have: ¬InD d (l.at w.sample):=fun q=>by
   have:=(h _).1 q l l1
   rw[c1] at this;exact absurd this (by decide)
  obtain⟨s,hsd,hz⟩: ∃s∈d,s.l.value (l.at w.sample)=0:=by
   by_cases q: ∃u∈d,u.l.value (l.at w.sample)=0
   ·exact q
   ·exfalso
    refine this fun u hu=>?_
    have g1:=c2 u hu
    have g2:u.l.value (l.at w.sample)≠0:=fun e=>q ⟨u,hu,e⟩
    grind
  have e1:=aik hg.ne hed (k1 _ g1).1 s hsd
  have e2:=aik hg.ne hed (k1 _ g2).1 s hsd
  rw[ace] at hz e1 e2
  have hK:l.cutK s.l=0:=by
   rcases acX (l.cutK s.l) with h|h|h
   ·exact h
   ·exfalso
    have:=aan (a:=w.sample-u1) (b:=l.cutK s.l) (by grind) h
    grind
   ·exfalso
    have:=aan (a:=u2-w.sample) (b:= -l.cutK s.l) (by grind) (by grind)
    grind
  have hz2: ∀t,s.l.value (l.at t)=0:=fun t=>by rw[ace,hK];rw[hK] at hz;grind
  rcases afc (hd.ok s hsd) (hok l l1) hz2 with q|q
  ·rw[←q];exact dV hsd
  ·exfalso
   obtain⟨u,hu⟩:=hd.ne
   have a:=hu s hsd
   have b:=(h u).1 hu l l1
   rw[q,aaV] at a
   grind
theorem aty: ∀{l m:List LnQ},awf l→awf m→(∀x,x∈l↔x∈m)→l=m
 |[],[],_,_,_=>rfl
 |[],b::m,_,_,h=>absurd ((h b).2 aZ) (by simp)
 |a::l,[],_,_,h=>absurd ((h a).1 aZ) (by simp)
 |a::l,b::m,h1,h2,h=>by
  obtain⟨p1,p2⟩:=cK.1 h1
  obtain⟨q1,q2⟩:=cK.1 h2
  have p1': ∀x∈l,Bef a.dir x.dir:=fun x hx=>p1 _ (dV hx)
  have q1': ∀x∈m,Bef b.dir x.dir:=fun x hx=>q1 _ (dV hx)
  have e:a=b:=by
   rcases aT.1 ((h a).1 aZ) with e|e
   ·exact e
   ·rcases aT.1 ((h b).2 aZ) with f|f
    ·exact f.symm
    ·exact(ahg (q1' a e) (p1' b f)).elim
  subst e
  congr 1
  refine aty p2 q2 fun x=>⟨fun hx=>?_,fun hx=>?_⟩
  ·rcases aT.1 ((h x).1 (aJ _ hx)) with e|e
   ·subst e;exact(af5 _ (p1' _ hx)).elim
   ·exact e
  ·rcases aT.1 ((h x).2 (aJ _ hx)) with e|e
   ·subst e;exact(af5 _ (q1' _ hx)).elim
   ·exact e
theorem alR{c:List LnQ}{d:aae}(hok: ∀l∈c,l.ok)(hd:aaJ d)(ha:aj8 d)(h: ∀p,InD d p↔InL c p):aa3 c=d.map (·.l):=by
 refine aty (arJ hok (hd.ne.elim fun q hq=>⟨q,(h q).1 hq⟩)) ?_ fun x=>(avx hok hd h x).symm
 unfold awf
 rw[rQ]
 exact ha
theorem atW{c:List LnQ}(h:af1 c≠true)(t:Tr):adO t c=[]:=by
 cases t<;>rw[adO,if_neg h]
theorem ajl: ∀{t:Tr} {c:List LnQ} {d:aae},t.all LnQ.ok→(∀l∈c,l.ok)→aaJ d→aj8 d→(∀p,InD d p↔InL c p)→adO t c=(t.parts d).map fun x=>(x.2.map (·.l),x.1)
 | .leaf b,c,d,_,hok,hd,ha,h=>by
  have hb:af1 c=true:=(ajb hok).2 (hd.ne.elim fun q hq=>⟨q,(h q).1 hq⟩)
  rw[adO,if_pos hb,Tr.parts,alR hok hd ha h];rfl
 | .node l x y,c,d,ht,hok,hd,ha,h=>by
  have hne: ∃p,InL c p:=hd.ne.elim fun q hq=>⟨q,(h q).1 hq⟩
  have hb:af1 c=true:=(ajb hok).2 hne
  have hck: ∀m∈aa3 c,m.ok:=fun m hm=>hok m (abb.1 hm).1
  have go: ∀(k:LnQ) (u:Tr),k.ok→u.all LnQ.ok→(∀{c:List LnQ} {d:aae},(∀l∈c,l.ok)→aaJ d→aj8 d→(∀p,InD d p↔InL c p)→adO u c=(u.parts d).map fun x=>(x.2.map (·.l),x.1))→adO u (aa3 c++[k])=(if aa9 d k then u.parts (aaL d k) else []).map fun x=>(x.2.map (·.l),x.1):=fun k u hk hu ih=>by
   have hok2:=abS hck hk
   have hin: ∀p,InL (aa3 c++[k]) p↔InD d p∧0<k.value p:=fun p=>by rw[abD,afj hok hne,h]
   by_cases q:aa9 d k=true
   ·rw[if_pos q]
    obtain⟨g1,g2⟩:=aaU hd hk q
    exact ih hok2 g1 (aij hd hk ha q) fun p=>by rw[g2,hin]
   ·rw[if_neg q]
    refine atW (fun e=>q ((ad6 hd hk).2 ?_)) u
    obtain⟨p,hp⟩:=(ajb hok2).1 e
    exact⟨p,(hin p).1 hp⟩
  rw[adO,if_pos hb,Tr.parts,bU,go l x ht.1 ht.2.1 (fun a b c d=>ajl ht.2.1 a b c d),go l.rev y ht.1.rev ht.2.2 fun a b c d=>ajl ht.2.2 a b c d]
def ae7(c:aae):Bool:=!c.isEmpty&&c.all fun s=>!s.v.nl&&!s.v.nh
theorem avi{c:aae}(hc:aaJ c){s:FrQ}(hs:s∈c)(h:s.v.nh=true): ∀u∈c,0≤u.l.nor.dot s.l.dir:=fun u hu=>by
 obtain⟨p1,p2⟩:=hc.edge s hs
 have hi:=(aba p1).has
 have key: ∀n:Rat,0≤n→0≤u.l.value (s.l.at (s.v.sample+n)):=fun n hn=>((p2 _).1 ⟨hi.1.imp id fun q=>by grind, .inl h⟩) u hu
 have h0:=key 0 (by decide)
 rw[ace] at h0
 by_cases q:0≤u.l.nor.dot s.l.dir
 ·exact q
 ·exfalso
  have q':0< -(s.l.cutK u.l):=by unfold LnQ.cutK;grind
  have h1:=key ((s.l.cutC u.l+s.v.sample*s.l.cutK u.l+1)/ -(s.l.cutK u.l)) (by
   have:=(aaq (s:=(s.l.cutC u.l+s.v.sample*s.l.cutK u.l+1)/ -(s.l.cutK u.l)) q').1 (by rw[show(s.l.cutC u.l+s.v.sample*s.l.cutK u.l+1)/ -(s.l.cutK u.l)* -(s.l.cutK u.l)=s.l.cutC u.l+s.v.sample*s.l.cutK u.l+1 by grind];grind)
   grind)
  rw[ace] at h1
  have:(s.l.cutC u.l+s.v.sample*s.l.cutK u.l+1)/ -(s.l.cutK u.l)*s.l.cutK u.l= -(s.l.cutC u.l+s.v.sample*s.l.cutK u.l+1):=by grind
  grind
theorem atF{c:aae}(hc:aaJ c){s:FrQ}(hs:s∈c)(h:s.v.nl=true): ∀u∈c,u.l.nor.dot s.l.dir≤0:=fun u hu=>by
 obtain⟨p1,p2⟩:=hc.edge s hs
 have hi:=(aba p1).has
 have key: ∀n:Rat,0≤n→0≤u.l.value (s.l.at (s.v.sample-n)):=fun n hn=>((p2 _).1 ⟨.inl h,hi.2.imp id fun q=>by grind⟩) u hu
 have h0:=key 0 (by decide)
 rw[ace] at h0
 by_cases q:u.l.nor.dot s.l.dir≤0
 ·exact q
 ·exfalso
  have q':0<s.l.cutK u.l:=by unfold LnQ.cutK;grind
  have h1:=key ((s.l.cutC u.l+s.v.sample*s.l.cutK u.l+1)/s.l.cutK u.l) (by
   have:=(aaq (s:=(s.l.cutC u.l+s.v.sample*s.l.cutK u.l+1)/s.l.cutK u.l) q').1 (by rw[show(s.l.cutC u.l+s.v.sample*s.l.cutK u.l+1)/s.l.cutK u.l*s.l.cutK u.l=s.l.cutC u.l+s.v.sample*s.l.cutK u.l+1 by grind];grind)
   grind)
  rw[ace] at h1
  have:(s.l.cutC u.l+s.v.sample*s.l.cutK u.l+1)/s.l.cutK u.l*s.l.cutK u.l=s.l.cutC u.l+s.v.sample*s.l.cutK u.l+1:=by grind
  grind
def ayp(c:List LnQ)(v:PtQ):Bool:=c.all fun l=>decide (0≤Int.sign (l.dir.cross v).num)
def aHt(c:List LnQ):Bool:=!c.isEmpty&&(c.flatMap fun l=>[l.dir,aj9 l.dir]).all fun v=>!ayp c v
theorem ays(k:Rat):0≤Int.sign k.num↔0≤k:=by
 have h1:=ahN k
 constructor<;>intro h
 ·by_cases q:0≤k
  ·exact q
  ·exact absurd (h1.2 (by grind)) (by omega)
 ·by_cases q:0≤Int.sign k.num
  ·exact q
  ·exact absurd (h1.1 (by omega)) (by grind)
theorem aln{c:aae}{v:PtQ}:ayp (c.map (·.l)) v=true↔ ∀u∈c,0≤u.l.nor.dot v:=by
 unfold ayp
 rw[List.all_map,dZ]
 simp only[Function.comp,decide_eq_true_eq,ays,ajs]
theorem azb{c:aae}(hc:aaJ c):aHt (c.map (·.l))=ae7 c:=by
 unfold aHt ae7
 congr 1
 ·cases c<;>rfl
 rw[Bool.eq_iff_iff,dZ,dZ]
 constructor
 ·intro h s hs
  have e1:=h s.l.dir (by rw[fW];exact⟨s.l,dV hs,by simp⟩)
  have e2:=h (aj9 s.l.dir) (by rw[fW];exact⟨s.l,dV hs,by simp⟩)
  cases nl:s.v.nl with
  |true=>
   rw[aln.2 fun u hu=>by
    have:=atF hc hs nl u hu
    unfold aj9 PtQ.dot at*
    grind] at e2
   cases e2
  |false=>
   cases nh:s.v.nh with
   |true=>rw[aln.2 (avi hc hs nh)] at e1;cases e1
   |false=>rfl
 ·intro h v hv
  obtain⟨l,hl,hv⟩:=fW.1 hv
  obtain⟨s,hs,rfl⟩:=bJ.1 hl
  have hb:=h s hs
  obtain⟨p1,p2⟩:=hc.edge s hs
  cases st:ayp (c.map (·.l)) v with
  |false=>rfl
  |true=>
   exfalso
   have k:=aln.1 st
   have hi:=(aba p1).has
   have q0:=(p2 _).1 hi
   simp only[bT,gQ] at hb
   simp only[aT,jY,or_false] at hv
   rcases hv with rfl|rfl
   ·have hbig:s.v.has (if s.v.sample≤s.v.hi then s.v.hi+1 else s.v.sample):=(p2 _).2 fun u hu=>by
     rw[ace]
     have a1:=q0 u hu
     rw[ace] at a1
     have a2:0≤s.l.cutK u.l:=k u hu
     split
     ·have:=aab (a:=s.v.hi+1-s.v.sample) (b:=s.l.cutK u.l) (by grind) a2
      grind
     ·exact a1
    have:=hbig.2
    rw[hb.2] at this
    rcases this with q|q
    ·cases q
    ·split at q<;>grind
   ·have hbig:s.v.has (if s.v.lo≤s.v.sample then s.v.lo-1 else s.v.sample):=(p2 _).2 fun u hu=>by
     rw[ace]
     have a1:=q0 u hu
     rw[ace] at a1
     have a2:0≤ -(s.l.cutK u.l):=by have:=k u hu;unfold aj9 PtQ.dot at this;unfold LnQ.cutK PtQ.dot;grind
     split
     ·have:=aab (a:=s.v.sample-(s.v.lo-1)) (b:= -(s.l.cutK u.l)) (by grind) a2
      grind
     ·exact a1
    have:=hbig.1
    rw[hb.1] at this
    rcases this with q|q
    ·cases q
    ·split at q<;>grind
def lnU:LnQ:=⟨1,0,0⟩
def auU(c:List LnQ)(i:Nat):List PtQ:=
 if 0<Int.sign ((c.getD i lnU).dir.cross (c.getD ((i+1)%c.length) lnU).dir).num then [abE (c.getD i lnU) (c.getD ((i+1)%c.length) lnU)] else []
def abr(c:List LnQ):List PtQ:=(List.range c.length).flatMap (auU c)
def aH7(v:List PtQ)(i:Nat):List PtQ:=[v.getD 0 ⟨0,0⟩,v.getD (i+1) ⟨0,0⟩,v.getD (i+2) ⟨0,0⟩]
def aDM(v:List PtQ):List (List PtQ):=(List.range (v.length-2)).map (aH7 v)
def aH0(cs:List (List LnQ)):List (List PtQ):=cs.flatMap fun c=>aDM (abr c)
theorem ajO{c:List LnQ}{i:Nat}{l m:LnQ}(h1:c[i]? =some l)(h2:c[(i+1)%c.length]? =some m):auU c i=if 0<Int.sign (l.dir.cross m.dir).num then [abE l m] else []:=by
 unfold auU
 rw[aX,aX,h1,h2];rfl
theorem aiM(c:List LnQ)(k:Nat):(List.range (k+1)).flatMap (auU c)=(List.range k).flatMap (auU c)++auU c k:=by
 rw[List.range_succ,nL];simp
theorem aiG(c:List LnQ): ∀k,((List.range k).flatMap (auU c)).length≤k
 |0=>aM _
 |k+1=>by
  have:=aiG c k
  have h2:(auU c k).length≤1:=by unfold auU;split<;>simp
  rw[aiM,aR]
  omega
theorem ax2{c:List LnQ}{p:PtQ}(h:p∈abr c): ∃l∈c,∃m∈c,p=abE l m:=by
 obtain⟨i,hi,hp⟩:=fW.1 h
 have hi':=lT.1 hi
 have e1:=aQ hi'
 have e2:=aQ (l:=c) (dX (i+1) (show 0<c.length by omega))
 rw[ajO e1 e2] at hp
 split at hp
 ·exact⟨_,bN _,_,bN _,aV.1 hp⟩
 ·cases hp
theorem aCL{t:Tr}(ht:t.all LnQ.ok):((adO t []).filter (·.2)).map (·.1)=(aas t).map fun c=>c.map (·.l):=by
 rw[ajl (d:=[]) ht (fun l h=>by cases h) aaJ.nil .nil (fun p=>⟨fun _ _ h=>(by cases h),fun _ _ h=>(by cases h)⟩)]
 unfold aas
 rw[List.filter_map,rQ,rQ]
 rfl
theorem aeV{t:Tr}(ht:t.all LnQ.ok): ∀c∈aas t,aaJ c:=fun c hc=>(afF ht aaJ.nil (ac1.1 hc)).1
end Go.Sx
end
