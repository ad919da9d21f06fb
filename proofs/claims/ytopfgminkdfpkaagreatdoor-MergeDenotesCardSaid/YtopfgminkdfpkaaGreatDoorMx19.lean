/- Part 19 of a proof. -/
import Derived.Test.YtopfgminkdfpkaaGreatDoorMx18
set_option linter.unusedSimpArgs false
set_option maxHeartbeats 4000000
set_option maxRecDepth 100000
set_option linter.unusedVariables false
section
namespace Go.Sx
open Go Go.Proofs Tryz
variable {GB:Gh}
section
variable {GB:Gh} {C:Ctx} {n:Nat} {Q0:Exit→Act→World→Prop} {fr fr':FrX} {own own':OwX} {cf cf':Cf} {vc:List Prop}
theorem aB8{lk:LK}{bk:BM}{dst:Option Nat}{t ty':TypeId}{pos:String}{af:Array Edge}{gd:Option (Nat×Bool)}{x y:Operand}{e len s nm off:Nat}{k:IntKind}{i:Nat}(hu:prog.underlying t=some (.array len e))(hs:(prog.info? e).map (·.size)=some s)
  (e1:evX lk x=some (.ov nm off))(e2:evX lk y=some (.d (.v (.int k (i:Nat)))))(hi:i<len):OpR prog GB C n lk bk ⟨dst, .indexAddr t x y,ty',pos,af,gd⟩ (.ov nm (off+i*s)) [] []:= .yd fun ρ G ov a w r=>by
 obtain⟨p,h1,h2⟩:=r.ev e1
 obtain⟨q,h3,h4⟩:=r.ev e2
 rw[aaw] at h4;subst h4
 obtain⟨b,hb,rfl⟩:=h2
 refine⟨_,⟨b,hb,rfl⟩,?_⟩
 obtain⟨j,hj,hjs⟩: ∃j,prog.info? e=some j∧j.size=s:=by
  cases h:prog.info? e with
  |none=>rw[h] at hs;cases hs
  |some j=>rw[h] at hs;exact⟨j,rfl,by simpa using hs⟩
 intro a' w' hf hh
 simp only[execOp,aac hf h1,aac hf h3]
 have:(Instr.indexAt t (.pointer (some ⟨b,off,none⟩)) (.int k (i:Nat))).run prog w'= .ok (.pointer (some ⟨b,off+i*s,none⟩)) w':=by
  unfold Instr.indexAt
  show(underlying t>>=_).run prog w'=_
  rw[aaa (aea hu w')]
  show(underlying t>>=_).run prog w'=_
  rw[aaa (aea hu w')]
  have h0:0≤((i:Nat):Int):=Int.natCast_nonneg i
  have h1:((i:Nat):Int)<((len:Nat):Int):=by omega
  simp only[h0,h1,and_self,if_true]
  show(sizeOf e>>=_).run prog w'=_
  rw[aaa (agR hj w'),acu,hjs,aL]
  rfl
 exact aam this
def aFX(fr:FrX)(cf:Cf):Option (TypeId×Nat×Nat×Int):=match opC fr cf with
 |some ⟨_, .indexAddr t x y,_,_,_,_⟩=>match evX (lkC fr cf) x with
  |some (.ov nm off)=>match evX (lkC fr cf) y with
   |some (.d (.v (.int _ i)))=>some (t,nm,off,i)
   |_=>none
  |_=>none
 |_=>none
theorem ixa[fu:Fu](i:Nat){t nm off e len s:Nat}(h:aFX fr cf=some (t,nm,off,((i:Nat):Int)))(hu:prog.underlying t=some (.array len e))(hs:(prog.info? e).map (·.size)=some s)(hi:i<len)
  (hgo:goA tt n fu.n fr own cf (.ov nm (off+i*s)) [] []=⟨vc,fr',own',cf'⟩)(k:CfS prog GB C n Q0 fr' own' cf')
  (hv:aai vc:=by first|exact trivial|(simp only[aai];kernel_rfl)|(simp only[aai];omega)):CfS prog GB C n Q0 fr own cf:=by
 unfold aFX at h
 split at h<;>try (cases h;done)
 rename_i hh
 split at h<;>try (cases h;done)
 rename_i hx
 split at h<;>cases h
 rename_i hy
 exact us hh (aB8 hu hs hx hy hi) hgo hv k
theorem aBZ{lk:LK}{bk:BM}{d s:Nat}{e t ty':TypeId}{pos:String}{af:Array Edge}{gd:Option (Nat×Bool)}{ps:List (Nat×Operand)}{fo:List (Nat×Nat×Nat)}{i:TI}{z zx:List FX}{k:Nat}{pre post:List DV}(hi:afo prog t=some i)(hk:i.k= .st fo)(hz:i.z=some z)
  (hb:ayw lk fo z ps=some zx)(h0:zx[k]? =some .nl)(h1:aee (zx.take k)=some pre)(h2:aee (zx.drop (k+1))=some post):OpR prog GB C n lk bk ⟨some d, .build t ⟨ps⟩,ty',pos,af,gd⟩ (.bx false pre d post) [(d,some (.b e s [] true))] [d]:=by
 intro hd tl tb K' s1 s2 hf hk'
 refine⟨fun ρ G ov a w r Q=>?_⟩
 obtain⟨v,hv,hv'⟩:=ak9 hi hz
 have:=axJ hi hk
 have hsp:zx=zx.take k++ .nl::zx.drop (k+1):=by
  obtain⟨hk1,hk2⟩:=aN.1 h0
  conv=>lhs;rw[←jR k zx,aM hk1,hk2]
 obtain⟨l,h1',h2'⟩:=alF (r.mono s1 s2) (fo:=fo) ps _ _ _ hb (hv' ρ G)
 rw[hsp] at h2'
 obtain⟨m1,m2',rfl,k1,y,m2,rfl,k2,k3⟩:=akT h2'
 cases (show y= .slice none 0 0 from k2)
 have hy:Yd prog C (frA a) ov G ⟨some d, .build t ⟨ps⟩,ty',pos,af,gd⟩ (.agg ⟨m1++Value.slice none 0 0::m2⟩):=aiy h1'
 have r3:=r.new' (x:=⟨none,0,0⟩) (B':= .b e s [] true) (os:=[]) (ov':=ov) (f:= .bx false pre d post) (y:= .agg ⟨m1++Value.slice none 0 0::m2⟩) hf (GLe.refl G) r.h
  ⟨[],by simp only[if_true];exact .inl ⟨rfl,rfl,rfl⟩, .nil,by simp,fun _ o ho=>by cases ho⟩ (fun o ho=>by cases ho) (fun m B _ _ o ho _=>⟨ho,by simp⟩)
  ⟨m1,m2,by simp,ac9 k1 h1,ac9 k3 h2⟩ (r.putA _ hd)
 exact aba (hy a w (aaQ a) r.h) (hk'.run _ G ov _ w r3)
def aFC(fr:FrX)(cf:Cf):Option (Nat×List FX):=match opC fr cf with
 |some ⟨some d, .build t ⟨ps⟩,_,_,_,_⟩=>match abi tt t with
  |some ⟨.st fo,_,some zx,_⟩=>match ayw (lkC fr cf) fo zx ps with
   |some l=>some (d,l)
   |none=>none
  |_=>none
 |_=>none
theorem bzp[fu:Fu]{d:Nat}{zx:List FX}(e s kk:Nat)(pre post:List DV)(h:aFC fr cf=some (d,zx))(h0:zx[kk]? =some .nl)(h1:aee (zx.take kk)=some pre)(h2:aee (zx.drop (kk+1))=some post)(hgo:goA tt n fu.n fr own cf (.bx false pre d post) [(d,some (.b e s [] true))] [d]=⟨vc,fr',own',cf'⟩)(k:CfS prog GB C n Q0 fr' own' cf')
  (hv:aai vc:=by first|exact trivial|(simp only[aai];kernel_rfl)|(simp only[aai];omega)):CfS prog GB C n Q0 fr own cf:=by
 unfold aFC at h
 split at h<;>try (cases h;done)
 rename_i hh
 split at h<;>try (cases h;done)
 rename_i hT
 split at h<;>cases h
 rename_i hb
 exact us hh (aBZ (abK _ _ hT) J J hb h0 h1 h2) hgo hv k
end
def sp1(f:FrQ)(m:LnQ)(k:Nat):List FrQ:=if k=0 then [] else aa3 f m 1
def sp2(f:FrQ)(m:LnQ)(k:Nat):List FrQ:=if k≤1 then [] else aa3 f m (-1)
theorem aqt{l m:LnQ}(hl:LB l)(hm:LB m)(hlo:l.ok){side:Int}: ∀v∈ad8 l m side,IvB v:=fun v hv=>⟨(aoG hl hm hlo v hv).2.1,(aoG hl hm hlo v hv).2.2⟩
theorem agA{l m:LnQ}{side:Int}:(ad8 l m side).length≤1:=by
 unfold ad8;split
 ·split<;>simp
 ·split<;>simp
theorem apu(op:Int)(a b:List IvQ):(ai6 op a b).length≤2*(a.length+b.length)+1:=by
 unfold ai6 aoN
 refine cV aju ?_
 rw[aJ,aev]
 have:=aiO (a++b);rw[aV] at this;omega
theorem aAA{f:FrQ}{m:LnQ}(h:FOk f)[hm:LB m](hmo:m.ok):PF GB prog 264 [eFF f,eL m] (.tp [.sl ((aa3 f m 1).map eFF), .sl ((aa3 f m (-1)).map eFF)]):=by
 haveI:=h.lb
 refine fn func264 J J ntmps264 J J (fun C=>?_)
 refine rf (fu:=⟨1⟩) J J<|?_
 refine eqF 14 (.d (vI (2:Nat))) J J ?_
 refine gx rfl<|?_
 refine nro 6 0 60 303 14 J J J J J ?_
 refine nro 6 1 61 303 14 J J J J J ?_
 refine lp (X:=Nat) (fun k=>[(15, .d (vI (k:Nat))),(6, .ov 6 0)]) (fun k=>[(6,some (.o 374 [.rw 60, .rw 61] true)),(60,some (.b 303 14 ((sp1 f m k).map eFF) true)),(61,some (.b 303 14 ((sp2 f m k).map eFF) true))]) (fun k=>k≤2) (fun k=>2-k) 0 rfl (by omega) (fun _=>rfl) (fun k hk=>?_)
 refine br J J J (fun hc16=>?_) (fun hc16=>?_)
 ·
  rcases(show k=0∨k=1 by omega) with rfl|rfl
  ·
   refine ix _ J J J<|cl (fu:=⟨0⟩) rfl (asG (l:=f.l) (m:=m) (side:=1) h.ok hmo (.inl rfl)) rfl<|?_
   obtain⟨cs,hcs⟩: ∃c,c=ai6 2 [f.v] (ad8 f.l m 1):=⟨_,rfl⟩
   have hcl:cs.length≤5:=by rw[hcs];have h1:=apu 2 [f.v] (ad8 f.l m 1);have h2:=agA (l:=f.l) (m:=m) (side:=1);simp only[dS] at h1;omega
   refine eqF 25 (.d (.tp [.sl ((ad8 f.l m 1).map eV),vB (onB f.l m)])) J J ?_
   refine gx rfl<|?_
   refine bb J J J (fun hc28=>?_) (fun hc28=>?_)
   ·
    have hon:onB f.l m=true:=hc28
    exact rz rfl (by first|(unfold aa3;rw[if_pos hon,if_pos hon];rfl)|rfl)
   ·
    have hon:onB f.l m=false:=by simpa using hc28
    refine rf J J<|cl (fu:=⟨0⟩) rfl (ank (a:=[f.v]) (b:=ad8 f.l m 1) (fun v hv=>by rw[aR] at hv;subst hv;exact⟨h.lo,h.hi⟩) (aqt h.lb hm h.ok) (by show 1≤100;decide) (by have:=agA (l:=f.l) (m:=m) (side:=1);omega)) rfl<|?_
    refine eqF 33 (.d (.sl (cs.map eV))) rfl (by rw[hcs]) ?_
    refine gx (fu:=⟨1⟩) rfl<|?_
    refine eqF 34 (.d (vI (cs.length:Nat))) rfl (by rw[aau eV cs]<;>rfl) ?_
    refine gx rfl<|?_
    refine lp (X:=Nat) (fun j=>[(35, .d (vI (j:Nat)))]) (fun j=>[(60,some (.b 303 14 (((cs.take j).map fun v=>(⟨f.l,v⟩:FrQ)).map eFF) true))]) (fun j=>j≤cs.length) (fun j=>cs.length-j) 0 rfl (bX _) (fun _=>rfl) (fun j hk=>?_)
    have hml:(((cs.take j).map fun v=>(⟨f.l,v⟩:FrQ)).map eFF).length≤j:=by rw[aJ,aJ,cK];omega
    refine br J J J (fun hc36=>?_) (fun hc36=>?_)
    ·
     obtain⟨z,hz⟩: ∃s,cs[j]? =some s:=⟨_,aZ (by omega)⟩
     refine ix _ rfl (aav hz) rfl<|ixa 0 (e:=296) (len:=2) (s:=1) rfl (by kernel_rfl) (by kernel_rfl) (by decide) rfl<|rf J J<|?_
     refine ap (((cs.take (j+1)).map fun v=>(⟨f.l,v⟩:FrQ)).map eFF) rfl (by rw[←abp hz,bK];rfl) (akG [⟨f.l,z⟩]) rfl<|ixa (hv:=by simp only[aai];exact⟨by kernel_rfl,by omega⟩) 0 (e:=296) (len:=2) (s:=1) rfl (by kernel_rfl) (by kernel_rfl) (by decide) rfl<|?_
     refine rnE 48 60 rfl ?_
     exact at_ (j+1) ⟨(by omega),(by omega)⟩
    ·
     obtain rfl:j=cs.length:=by omega
     rw[show(cs.take cs.length).map (fun v=>(⟨f.l,v⟩:FrQ))=aa3 f m 1 from by rw[fZ];unfold aa3;rw[if_neg (by rw[hon];decide),←hcs]]
     exact at_ (0+1) ⟨(by omega),(by omega)⟩
  ·
   refine ix _ J J J<|cl (fu:=⟨0⟩) rfl (asG (l:=f.l) (m:=m) (side:= -1) h.ok hmo (.inr rfl)) rfl<|?_
   obtain⟨cs,hcs⟩: ∃c,c=ai6 2 [f.v] (ad8 f.l m (-1)):=⟨_,rfl⟩
   have hcl:cs.length≤5:=by rw[hcs];have h1:=apu 2 [f.v] (ad8 f.l m (-1));have h2:=agA (l:=f.l) (m:=m) (side:=(-1));simp only[dS] at h1;omega
   refine eqF 25 (.d (.tp [.sl ((ad8 f.l m (-1)).map eV),vB (onB f.l m)])) J J ?_
   refine gx rfl<|?_
   refine bb J J J (fun hc28=>?_) (fun hc28=>?_)
   ·
    have hon:onB f.l m=true:=hc28
    exact rz rfl (by first|(unfold aa3;rw[if_pos hon,if_pos hon];rfl)|rfl)
   ·
    have hon:onB f.l m=false:=by simpa using hc28
    refine rf J J<|cl (fu:=⟨0⟩) rfl (ank (a:=[f.v]) (b:=ad8 f.l m (-1)) (fun v hv=>by rw[aR] at hv;subst hv;exact⟨h.lo,h.hi⟩) (aqt h.lb hm h.ok) (by show 1≤100;decide) (by have:=agA (l:=f.l) (m:=m) (side:=(-1));omega)) rfl<|?_
    refine eqF 33 (.d (.sl (cs.map eV))) rfl (by rw[hcs]) ?_
    refine gx (fu:=⟨1⟩) rfl<|?_
    refine eqF 34 (.d (vI (cs.length:Nat))) rfl (by rw[aau eV cs]<;>rfl) ?_
    refine gx rfl<|?_
    refine lp (X:=Nat) (fun j=>[(35, .d (vI (j:Nat)))]) (fun j=>[(61,some (.b 303 14 (((cs.take j).map fun v=>(⟨f.l,v⟩:FrQ)).map eFF) true))]) (fun j=>j≤cs.length) (fun j=>cs.length-j) 0 rfl (bX _) (fun _=>rfl) (fun j hk=>?_)
    have hml:(((cs.take j).map fun v=>(⟨f.l,v⟩:FrQ)).map eFF).length≤j:=by rw[aJ,aJ,cK];omega
    refine br J J J (fun hc36=>?_) (fun hc36=>?_)
    ·
     obtain⟨z,hz⟩: ∃s,cs[j]? =some s:=⟨_,aZ (by omega)⟩
     refine ix _ rfl (aav hz) rfl<|ixa 1 (e:=296) (len:=2) (s:=1) rfl (by kernel_rfl) (by kernel_rfl) (by decide) rfl<|rf J J<|?_
     refine ap (((cs.take (j+1)).map fun v=>(⟨f.l,v⟩:FrQ)).map eFF) rfl (by rw[←abp hz,bK];rfl) (akG [⟨f.l,z⟩]) rfl<|ixa (hv:=by simp only[aai];exact⟨by kernel_rfl,by omega⟩) 1 (e:=296) (len:=2) (s:=1) rfl (by kernel_rfl) (by kernel_rfl) (by decide) rfl<|?_
     refine rnE 48 61 rfl ?_
     exact at_ (j+1) ⟨(by omega),(by omega)⟩
    ·
     obtain rfl:j=cs.length:=by omega
     rw[show(cs.take cs.length).map (fun v=>(⟨f.l,v⟩:FrQ))=aa3 f m (-1) from by rw[fZ];unfold aa3;rw[if_neg (by rw[hon];decide),←hcs]]
     exact at_ (1+1) ⟨(by omega),(by omega)⟩
 ·
  obtain rfl:k=2:=by omega
  refine ixa 0 (e:=296) (len:=2) (s:=1) rfl (by kernel_rfl) (by kernel_rfl) (by decide) rfl<|ixa 1 (e:=296) (len:=2) (s:=1) rfl (by kernel_rfl) (by kernel_rfl) (by decide) rfl<|?_
  refine fzE 60 rfl ?_
  refine fzE 61 rfl ?_
  exact rz rfl (by first|(unfold aa3;rw[if_pos hon,if_pos hon];rfl)|rfl)
def eZp(p:ZP):DV:=eP p.q
def eRg(r:List ZP):DV:= .sl (r.map eZp)
theorem ay1(l:List ZP):adB 6 (l.map eZp):=fun d hd=>by
 obtain⟨u,_,rfl⟩:=bR.1 hd;exact⟨rfl,rfl⟩
theorem axK(l:List (List ZP)):adB 1 (l.map eRg):=fun d hd=>by
 obtain⟨u,_,rfl⟩:=bR.1 hd;exact⟨rfl,rfl⟩
theorem aEr{r:List ZP}{i:Nat}(h:i<r.length):(r.map eZp)[((i:Nat):Int).toNat]? =some (eZp (r.getD i (0,0))):=by
 rw[aL,dZ,aK,aZ h];rfl
theorem aDJ{r:List ZP}{i:Nat}(h:i<r.length):(r.map eZp)[(((i+1)%r.length:Nat):Int).toNat]? =some (eZp (afX r i)):=aEr (dX _ (by omega))
theorem aCX(v w p:PtQ):(av5 v w p).natAbs≤1:=by
 unfold av5;split<;>split<;>decide
theorem alI(r:List ZP)(p:PtQ): ∀k,(auN r p k).natAbs≤k
 |0=>bZ _
 |k+1=>by rw[auN];have:=alI r p k;have:=aCX (r.getD k (0,0)).q (afX r k).q p;omega
theorem atT{r:List ZP}(h:aby r):PF GB prog 220 [.sl (r.map eZp)] (.sl ((adk r).map eFF)):=by
 have hm:=aau eZp r
 have h3:=h.n3
 have h6:=h.n6
 refine fn (fu:=⟨15⟩) func220 J J ntmps220 J J (fun C=>?_)
 refine eqF 8 (.d (vI (r.length:Nat))) rfl (by rw[hm]<;>rfl) ?_
 refine gx rfl<|?_
 refine nr 3 3 303 14 J J J ?_
 refine lp (X:=Nat) (fun k=>[(9, .d (vI (k:Nat))),(3, .rw 3)]) (fun k=>[(3,some (.b 303 14 ((agZ r k).map eFF) true))]) (fun k=>k≤r.length) (fun k=>r.length-k) 0 rfl (bX _) (fun _=>rfl) (fun k hk=>?_)
 have hel:=fun hh=>(ajK (k:=k) h hh).1
 refine br J J J (fun hc10=>?_) (fun hc10=>?_)
 ·
  have hkr:k<r.length:=by omega
  have hel:=hel (by omega)
  have hem:=aau eFF (agZ r k)
  refine ix (fu:=⟨7⟩) _ rfl (aEr hkr) rfl<|?_
  refine eqF 22 (.d (vI ((k+1)%r.length:Nat))) rfl (by rw[hm]<;>rfl) ?_
  refine gx rfl<|ix _ rfl (aDJ hkr) rfl<|cl rfl (as8 (v:=r.getD k (0,0)) (w:=afX r k) (h.le _ (ail hkr)) (h.le _ (aiV hkr)) (h.ne k hkr)) rfl<|?_
  refine rf J J<|ap ((agZ r (k+1)).map eFF) rfl (by rw[agZ,bK];rfl) (akG [avu (r.getD k (0,0)) (afX r k)]) rfl<|?_
  refine rnE 31 3 rfl ?_
  exact at_ (k+1) ⟨(by omega),(by omega)⟩
 ·
  obtain rfl:k=r.length:=by omega
  refine fzE 3 rfl ?_
  exact rz J J
theorem avG{r:List ZP}{p:PtQ}{i:Nat}[hp:BPt p i](h:aby r)(hi:i≤80000:=by decide):PF GB prog 296 [.sl (r.map eZp),eP p] (vI (awj r p)):=by
 have hm:=aau eZp r
 have h3:=h.n3
 have h6:=h.n6
 refine fn (fu:=⟨16⟩) func296 J J ntmps296 J J (fun C=>?_)
 refine eqF 12 (.d (vI (r.length:Nat))) rfl (by rw[hm]<;>rfl) ?_
 refine gx rfl<|?_
 refine lp (X:=Nat×Int) (fun⟨k,c⟩=>[(13, .d (vI (k:Nat))),(5, .d (vI c))]) (fun⟨k,c⟩=>[]) (fun⟨k,c⟩=>c=auN r p k∧k≤r.length) (fun⟨k,c⟩=>r.length-k) (0,0) rfl ⟨rfl,bX _⟩ (fun _=>rfl) (fun⟨k,c⟩ hk=>?_)
 dsimp only at hk⊢
 obtain⟨h1,h2⟩:=hk
 have hcl:c.natAbs≤k:=by rw[h1];exact alI r p k
 refine br J J J (fun hc14=>?_) (fun hc14=>?_)
 ·
  have hkr:k<r.length:=by omega
  obtain⟨v,hv⟩: ∃v,v=r.getD k (0,0):=⟨_,rfl⟩
  obtain⟨w,hw⟩: ∃v,v=afX r k:=⟨_,rfl⟩
  haveI hvb:BPt v.q 12:=by rw[hv];exact bpZ (h.le _ (ail hkr))
  haveI hwb:BPt w.q 12:=by rw[hw];exact bpZ (h.le _ (aiV hkr))
  refine ix (fu:=⟨1⟩) _ rfl (aEr hkr) rfl<|?_
  refine eqF 19 (.d (eP v.q)) rfl (by rw[hv];rfl) ?_
  refine gx (fu:=⟨6⟩) rfl<|?_
  refine eqF 25 (.d (vI ((k+1)%r.length:Nat))) rfl (by rw[hm]<;>rfl) ?_
  refine gx rfl<|ix (fu:=⟨1⟩) _ rfl (aDJ hkr) rfl<|?_
  refine eqF 27 (.d (eP w.q)) rfl (by rw[hw];rfl) ?_
  refine gx rfl<|cl rfl (q_C (a:=v.q.y) (b:=p.y) (i:=12) (j:=i) (by decide) (by omega)) rfl<|cl (fu:=⟨9⟩) rfl (q_C (a:=w.q.y) (b:=p.y) (i:=12) (j:=i) (by decide) (by omega)) rfl<|?_
  rcases(show(aa0 v.q.y p.y≤0∧aa0 w.q.y p.y≤0)∨(aa0 v.q.y p.y≤0∧ ¬aa0 w.q.y p.y≤0)∨(¬aa0 v.q.y p.y≤0∧aa0 w.q.y p.y≤0)∨(¬aa0 v.q.y p.y≤0∧ ¬aa0 w.q.y p.y≤0) by omega) with⟨ca,cb⟩|⟨ca,cb⟩|⟨ca,cb⟩|⟨ca,cb⟩
  ·
   refine knT (fu:=⟨3⟩) rfl (by show some (decide _)=some true;rw[decide_eq_true (by omega)]) rfl<|knF (fu:=⟨15⟩) rfl (by show some (decide _)=some false;rw[decide_eq_false (by omega)]) rfl<|?_
   refine knF (fu:=⟨20⟩) rfl (by show some (decide _)=some false;rw[decide_eq_false (by omega)]) rfl<|?_
   exact at_ (k+1,c) (by dsimp only;exact⟨⟨by rw[auN,←h1,←hv,←hw];unfold av5;split<;>split<;>omega,by omega⟩,(by omega)⟩)
  ·
   refine knT (fu:=⟨3⟩) rfl (by show some (decide _)=some true;rw[decide_eq_true (by omega)]) rfl<|knT rfl (by show some (decide _)=some true;rw[decide_eq_true (by omega)]) rfl<|?_
   refine cl rfl (ap5 (a:=v.q) (b:=w.q) (c:=p) (i:=12) (j:=12) (k:=i) (by decide) (by decide) hi) rfl<|?_
   refine br (fu1:=⟨10⟩) (fu2:=⟨6⟩) J J J (fun hc51=>?_) (fun hc51=>?_)
   ·
    refine knF rfl (by show some (decide _)=some false;rw[decide_eq_false (by omega)]) rfl<|?_
    exact at_ (k+1,c+1) (by dsimp only;exact⟨⟨by rw[auN,←h1,←hv,←hw];unfold av5;split<;>split<;>omega,by omega⟩,(by omega)⟩)
   ·
    refine knF (fu:=⟨20⟩) rfl (by show some (decide _)=some false;rw[decide_eq_false (by omega)]) rfl<|?_
    exact at_ (k+1,c) (by dsimp only;exact⟨⟨by rw[auN,←h1,←hv,←hw];unfold av5;split<;>split<;>omega,by omega⟩,(by omega)⟩)
  ·
   refine knF (fu:=⟨19⟩) rfl (by show some (decide _)=some false;rw[decide_eq_false (by omega)]) rfl<|knT (fu:=⟨2⟩) rfl (by show some (decide _)=some true;rw[decide_eq_true (by omega)]) rfl<|?_
   refine knT rfl (by show some (decide _)=some true;rw[decide_eq_true (by omega)]) rfl<|cl rfl (ap5 (a:=v.q) (b:=w.q) (c:=p) (i:=12) (j:=12) (k:=i) (by decide) (by decide) hi) rfl<|?_
   refine br (fu2:=⟨8⟩) J J J (fun hc65=>?_) (fun hc65=>?_)
   ·
    exact at_ (k+1,c-1) (by dsimp only;exact⟨⟨by rw[auN,←h1,←hv,←hw];unfold av5;split<;>split<;>omega,by omega⟩,(by omega)⟩)
   ·
    exact at_ (k+1,c) (by dsimp only;exact⟨⟨by rw[auN,←h1,←hv,←hw];unfold av5;split<;>split<;>omega,by omega⟩,(by omega)⟩)
  ·
   refine knF (fu:=⟨19⟩) rfl (by show some (decide _)=some false;rw[decide_eq_false (by omega)]) rfl<|knT (fu:=⟨2⟩) rfl (by show some (decide _)=some true;rw[decide_eq_true (by omega)]) rfl<|?_
   refine knF rfl (by show some (decide _)=some false;rw[decide_eq_false (by omega)]) rfl<|?_
   exact at_ (k+1,c) (by dsimp only;exact⟨⟨by rw[auN,←h1,←hv,←hw];unfold av5;split<;>split<;>omega,by omega⟩,(by omega)⟩)
 ·
  obtain rfl:k=r.length:=by omega
  have hfin:awj r p=c:=h1.symm
  exact rz rfl (by rw[hfin];rfl)
theorem aur{fill n:Int}(hn:n.natAbs≤1000):PF GB prog 297 [vI fill,vI n] (vB (aAz fill n)):=by
 refine fn func297 J J ntmps297 J J (fun C=>?_)
 refine cs 7 J J J (fun hg7=>?_) (fun hg7=>?_)
 ·
  refine cs 12 J J J (fun hg12=>?_) (fun hg12=>?_)
  ·
   exact rz rfl (by show vB _=vB _;unfold aAz;congr 1;simp_all)
  ·
   refine cs 15 J J J (fun hg15=>?_) (fun hg15=>?_)
   ·
    exact rz rfl (by show vB _=vB _;unfold aAz;congr 1;simp_all)
   ·
    exact rz rfl (by show vB _=vB _;unfold aAz;congr 1;simp_all)
 ·
  refine cs 15 J J J (fun hg15=>?_) (fun hg15=>?_)
  ·
   exact rz rfl (by show vB _=vB _;unfold aAz;congr 1;simp_all)
  ·
   exact rz rfl (by show vB _=vB _;unfold aAz;congr 1;simp_all)
def aEW(rs:List (List ZP)):List LnQ:=(acH rs).map FrQ.l
def eRR(rs:List (List ZP))(fill:Int):DV:= .ag [.sl (rs.map eRg), .v (.int .i64 fill), .sl ((aa5 (aEW rs)).map eL)]
theorem aCh{rs:List (List ZP)}{p:PtQ}(h: ∀r∈rs,aby r)(k:Nat):((rs.take k).foldl (fun n r=>n+awj r p) 0).natAbs≤6*k:=by
 induction k with
 |zero=>rw[rN];exact bX _
 |succ k ih=>
  rw[iU,oJ]
  cases e:rs[k]? with
  |none=>exact cV ih (by omega)
  |some r=>
   have h1:(awj r p).natAbs≤r.length:=alI r p r.length
   have h2:=(h r (bQ e)).n6
   show(List.foldl _ 0 (rs.take k)+awj r p).natAbs≤_
   omega
theorem aEX{rs:List (List ZP)}{fill:Int}{p:PtQ}{i:Nat}[hp:BPt p i](h: ∀r∈rs,aby r)(hn:rs.length≤100)(hi:i≤80000:=by decide):PF GB prog 263 [eRR rs fill,eP p] (vB (inR rs fill p)):=by
 have hm:=aau eRg rs
 refine fn (fu:=⟨18⟩) func263 J J ntmps263 J J (fun C=>?_)
 refine eqF 10 (.d (vI (rs.length:Nat))) rfl (by rw[hm]<;>rfl) ?_
 refine gx rfl<|?_
 refine lp (X:=Nat×Int) (fun⟨k,c⟩=>[(11, .d (vI (k:Nat))),(5, .d (vI c))]) (fun⟨k,c⟩=>[]) (fun⟨k,c⟩=>c=(rs.take k).foldl (fun n r=>n+awj r p) 0∧k≤rs.length) (fun⟨k,c⟩=>rs.length-k) (0,0) rfl ⟨by rw[rN];rfl,bX _⟩ (fun _=>rfl) (fun⟨k,c⟩ hk=>?_)
 dsimp only at hk⊢
 obtain⟨h1,h2⟩:=hk
 have hcl:c.natAbs≤6*k:=by rw[h1];exact aCh h k
 refine br J J J (fun hc12=>?_) (fun hc12=>?_)
 ·
  obtain⟨r,hz⟩: ∃s,rs[k]? =some s:=⟨_,aZ (by omega)⟩
  have hr:=h r (bQ hz)
  have hnz:(awj r p).natAbs≤6:=cV (alI r p r.length) hr.n6
  refine ix _ rfl (aav hz) rfl<|cl rfl (avG (r:=r) (p:=p) hr hi) rfl<|?_
  exact at_ (k+1,c+awj r p) (by dsimp only;exact⟨⟨by rw[iU,hz,oJ,←h1];rfl,by omega⟩,(by omega)⟩)
 ·
  obtain rfl:k=rs.length:=by omega
  rw[fZ] at h1
  refine cl rfl (aur (fill:=fill) (n:=c) (by omega)) rfl<|?_
  exact rz rfl (by unfold inR;rw[←h1];rfl)
def eAr(r:List ZP):DV:= .sl ((r.map ZP.q).map ePt)
theorem aBz(l:List (List ZP)):adB 1 (l.map eAr):=fun d hd=>by
 obtain⟨u,_,rfl⟩:=bR.1 hd;exact⟨rfl,rfl⟩
theorem au0{r:List ZP}(h: ∀p∈r,ZP.le 100 p): ∀p∈r.map ZP.q,BPt p 1200:=fun p hp=>by
 obtain⟨z,hz,rfl⟩:=bR.1 hp
 have:=bpZ (h z hz)
 exact⟨BQ.mono this.x (by decide),BQ.mono this.y (by decide)⟩
theorem ax0(r:List ZP):DV.sl ((r.map ZP.q).map eP)=eRg r:=by unfold eRg;rw[List.map_map];rfl
theorem ajB{rs:List (List ZP)}{k:Nat}{r:List ZP}(h:rs[k]? =some r):acH (rs.take (k+1))=acH (rs.take k)++adk r:=by
 unfold acH;rw[iU,h,pY];simp
theorem ajJ{rs:List (List ZP)}(h: ∀r∈rs,aby r)(k:Nat):(acH (rs.take k)).length≤6*k:=by
 have:=(aej (rs:=rs.take k) (fun r hr=>h r (cM hr))).1
 have h2:(rs.take k).length≤k:=by rw[cK];omega
 omega
theorem azy{rs:List (List ZP)}{fill:Int}(h: ∀r∈rs,aby r)(hn:rs.length≤100):PF GB prog 172 [.sl (rs.map eAr), .v (.int .i64 fill)] (eRR rs fill):=by
 have hm:=aau eAr rs
 refine fn (fu:=⟨8⟩) func172 J J ntmps172 J J (fun C=>?_)
 refine bzp (fu:=⟨14⟩) 73 1 0 [] [.v (.int .i64 fill), .sl []] J J J J J<|?_
 refine eqF 15 (.d (vI (rs.length:Nat))) rfl (by rw[hm]<;>rfl) ?_
 refine gx rfl<|?_
 refine nr 6 6 88 6 J J J ?_
 refine lp (X:=Nat) (fun k=>[(16, .d (vI (k:Nat))),(6, .rw 6),(5, .ov 5 0)]) (fun k=>[(5,some (.o 252 [.rw 13, .d (.v (.int .i64 fill)), .d (.sl [])] true)),(13,some (.b 73 1 ((rs.take k).map eRg) true)),(6,some (.b 88 6 (((acH (rs.take k)).map FrQ.l).map eL) true))]) (fun k=>k≤rs.length) (fun k=>rs.length-k) 0 rfl (bX _) (fun _=>rfl) (fun k hk=>?_)
 refine br (fu2:=⟨0⟩) J J J (fun hc17=>?_) (fun hc17=>?_)
 ·
  obtain⟨r,hz⟩: ∃s,rs[k]? =some s:=⟨_,aZ (by omega)⟩
  have hr:=h r (bQ hz)
  have hel:(adk r).length≤6:=by have:=(alN hr).1;have:=hr.n6;omega
  have het:=ajJ h k
  have hrl:((rs.take k).map eRg).length=k:=by rw[aJ,cK];omega
  refine ix _ rfl (aav hz) rfl<|cl (fu:=⟨0⟩) rfl (aEe (ps:=r.map ZP.q) (au0 hr.le) (by rw[aJ];have:=hr.n6;omega)) rfl<|?_
  refine eqF 21 (.d (eRg r)) rfl (by rw[ax0]) ?_
  refine gx rfl<|rf J J<|ap ((rs.take (k+1)).map eRg) rfl (abp hz) (axK [r]) rfl<|cl (fu:=⟨1⟩) rfl (atT (r:=r) hr) rfl<|?_
  refine eqF 30 (.d (vI ((adk r).length:Nat))) rfl (by rw[aau eFF (adk r)]<;>rfl) ?_
  refine gx rfl<|?_
  rw[←gL (acH (rs.take k)),←rN (l:=adk r)]
  refine lp (X:=Nat) (fun j=>[(31, .d (vI (j:Nat))),(6, .rw 6)]) (fun j=>[(6,some (.b 88 6 (((acH (rs.take k)++(adk r).take j).map FrQ.l).map eL) true))]) (fun j=>j≤(adk r).length) (fun j=>(adk r).length-j) 0 rfl (bX _) (fun _=>rfl) (fun j hk=>?_)
  have hml:(((acH (rs.take k)++(adk r).take j).map FrQ.l).map eL).length≤6*k+6:=by rw[aJ,aJ,aV,cK];omega
  refine br J J J (fun hc32=>?_) (fun hc32=>?_)
  ·
   obtain⟨e,he⟩: ∃s,(adk r)[j]? =some s:=⟨_,aZ (by omega)⟩
   refine ix _ rfl (aav he) rfl<|rf J J<|ap (((acH (rs.take k)++(adk r).take (j+1)).map FrQ.l).map eL) rfl (by rw[iU,he];simp only[bK,cR];rfl) (abz [e.l]) rfl<|?_
   refine rnE 39 6 rfl ?_
   exact at_ (j+1) ⟨(by omega),(by omega)⟩
  ·
   obtain rfl:j=(adk r).length:=by omega
   rw[fZ,←ajB hz]
   refine rnE 26 13 rfl ?_
   exact at_ (k+1) ⟨(by omega),(by omega)⟩
 ·
  obtain rfl:k=rs.length:=by omega
  rw[fZ]
  refine fzC 6 rfl ?_
  refine fzC 13 rfl ?_
  refine gx rfl<|cl rfl (aq6 (ls:=aEW rs) (fun l hl=>by obtain⟨f,hf,rfl⟩:=bR.1 hl;exact((aej h).2 f hf).lb) (by unfold aEW;rw[aJ];have:=(aej h).1;omega)) rfl<|?_
  exact rz J J
theorem aET{rs:List (List ZP)}(h: ∀r∈rs,aby r)(hn:rs.length≤100):PF GB prog 173 [.sl (rs.map eRg)] (.sl (rs.map eAr)):=by
 have hm:=aau eRg rs
 refine fn (fu:=⟨15⟩) func173 J J ntmps173 J J (fun C=>?_)
 refine eqF 7 (.d (vI (rs.length:Nat))) rfl (by rw[hm]<;>rfl) ?_
 refine gx rfl<|?_
 refine nr 3 3 300 1 J J J ?_
 refine lp (X:=Nat) (fun k=>[(8, .d (vI (k:Nat))),(3, .rw 3)]) (fun k=>[(3,some (.b 300 1 ((rs.take k).map eAr) true))]) (fun k=>k≤rs.length) (fun k=>rs.length-k) 0 rfl (bX _) (fun _=>rfl) (fun k hk=>?_)
 have hml:((rs.take k).map eAr).length≤k:=by rw[aJ,cK];omega
 refine br J J J (fun hc9=>?_) (fun hc9=>?_)
 ·
  obtain⟨r,hz⟩: ∃s,rs[k]? =some s:=⟨_,aZ (by omega)⟩
  have hr:=h r (bQ hz)
  refine ix (fu:=⟨1⟩) _ rfl (aav hz) rfl<|?_
  refine eqF 11 (.d (.sl ((r.map ZP.q).map eP))) rfl (by rw[ax0]) ?_
  refine gx rfl<|cl rfl (aBe (ps:=r.map ZP.q) (au0 hr.le) (by rw[aJ];have:=hr.n6;omega)) rfl<|rf J J<|ap ((rs.take (k+1)).map eAr) rfl (abp hz) (aBz [r]) rfl<|?_
  refine rnE 16 3 rfl ?_
  exact at_ (k+1) ⟨(by omega),(by omega)⟩
 ·
  obtain rfl:k=rs.length:=by omega
  refine fzE 3 rfl ?_
  exact rz rfl (by rw[fZ];rfl)
theorem am3(out:List LnQ)(l:LnQ):(ac8 out l).length≤out.length+1:=by
 unfold ac8
 split
 ·omega
 ·simp;omega
theorem akC(c:List LnQ): ∀(t out:List LnQ),(ae7 c t out).length≤out.length+t.length
 |[],out=>by simp[ae7]
 |l::t,out=>by
  rw[ae7]
  refine cV (akC c t _) ?_
  have:=am3 out l
  split<;>simp<;>omega
theorem afP(c:List LnQ):(abZ c).length≤c.length:=cV (akC c c []) (by simp)
theorem aqg{c:List LnQ}(h: ∀m∈c,LB m): ∀m∈abZ c,LB m:=fun m hm=>h m (acJ.1 hm).1
theorem aqm{c:List LnQ}(h: ∀m∈c,m.ok): ∀m∈abZ c,m.ok:=fun m hm=>h m (acJ.1 hm).1
theorem apV{c:List LnQ}{l:LnQ}(hc: ∀m∈c,LB m)(hok: ∀m∈c,m.ok)(hn:c.length≤900)(hl:LB l)(hlo:l.ok):PF GB prog 106 [.sl (c.map eL),eL l] (.sl ((abZ (c++[l])).map eL)):=by
 have hcl:=aeR c
 refine fn func106 J J ntmps106 J J (fun C=>?_)
 refine ro0 J J<|ap (c.map eL) J J (abz _) rfl<|rf J J<|apf ((c++[l]).map eL) rfl (by rw[bK];rfl) (abz [l]) rfl<|?_
 refine cl rfl (azX (c:=c++[l]) (agD hc hl) (acm hok hlo) (by simp;omega)) rfl<|?_
 exact rz J J
theorem awF{l l1:LnQ}{x y u:Tr}:PF GB prog 105 [eL l,eT (.node l1 x y),eT u] (eT (.node l (.node l1 x y) u)):=by
 refine fn (fu:=⟨12⟩) func105 J J ntmps105 J J (fun C=>?_)
 refine knF J J J<|?_
 refine fzE 33 rfl ?_
 exact rz J J
theorem atm{l l1:LnQ}{x y:Tr}{p:Bool}:PF GB prog 105 [eL l,eT (.leaf p),eT (.node l1 x y)] (eT (.node l (.leaf p) (.node l1 x y))):=by
 refine fn (fu:=⟨12⟩) func105 J J ntmps105 J J (fun C=>?_)
 refine knT (fu:=⟨4⟩) J J J<|knF J J J<|?_
 refine fzE 33 rfl ?_
 exact rz J J
theorem asb{l:LnQ}{p q:Bool}:PF GB prog 105 [eL l,eT (.leaf p),eT (.leaf q)] (eT (Tr.joinQ l (.leaf p) (.leaf q))):=by
 refine fn (fu:=⟨12⟩) func105 J J ntmps105 J J (fun C=>?_)
 refine knT (fu:=⟨4⟩) J J J<|knT J J J<|?_
 refine bd J J J (fun hc27=>?_) (fun hc27=>?_)
 ·
  exact rz rfl (by rw[show Tr.joinQ l (.leaf p) (.leaf q)= .leaf p by simp[Tr.joinQ,Tr.isLeaf,Tr.code,hc27]];rfl)
 ·
  refine fzE 33 rfl ?_
  exact rz rfl (by rw[show Tr.joinQ l (.leaf p) (.leaf q)= .node l (.leaf p) (.leaf q) by simp[Tr.joinQ,Tr.isLeaf,Tr.code,hc27]];rfl)
theorem ax1{l:LnQ}: ∀{x y:Tr},PF GB prog 105 [eL l,eT x,eT y] (eT (Tr.joinQ l x y))
 | .leaf _, .leaf _=>asb
 | .leaf _, .node .. =>atm
 | .node ..,_=>awF
theorem aia{b:Bool}{c:List LnQ}:PF GB prog 103 [eT (.leaf b), .sl (c.map eL)] (eT (Tr.restrictL (.leaf b) c)):=by
 refine fn (fu:=⟨11⟩) func103 J J ntmps103 J J (fun C=>?_)
 refine knT J J J<|?_
 exact rz J J
theorem aib{l:LnQ}{x y:Tr}{c:List LnQ}(hl:LB l)(hlo:l.ok)(hc: ∀m∈c,LB m)(hok: ∀m∈c,m.ok)(hn:c.length+(Tr.node l x y).depth≤900)(ihx: ∀{c:List LnQ},(∀m∈c,LB m)→(∀m∈c,m.ok)→c.length+x.depth≤900→PF GB prog 103 [eT x, .sl (c.map eL)] (eT (Tr.restrictL x c)))(ihy: ∀{c:List LnQ},(∀m∈c,LB m)→(∀m∈c,m.ok)→c.length+y.depth≤900→PF GB prog 103 [eT y, .sl (c.map eL)] (eT (Tr.restrictL y c))):PF GB prog 103 [eT (.node l x y), .sl (c.map eL)] (eT (Tr.restrictL (.node l x y) c)):=by
 have hdp:(Tr.node l x y).depth=1+Nat.max x.depth y.depth:=rfl
 have hdx:x.depth≤Nat.max x.depth y.depth:=mY _ _
 have hdy:y.depth≤Nat.max x.depth y.depth:=lS _ _
 have hca:=afP (c++[l])
 have hcb:=afP (c++[l.rev])
 rw[aV,dS] at hca hcb
 refine fn (fu:=⟨11⟩) func103 J J ntmps103 J J (fun C=>?_)
 refine knF J J J<|cl rfl (arY (c:=c) (l:=l) hc hok (by omega) hl hlo) rfl<|?_
 refine br J J J (fun hc16=>?_) (fun hc16=>?_)
 ·
  refine cl rfl (ihx hc hok (by omega)) rfl<|?_
  exact rz rfl (by rw[Tr.restrictL,if_pos hc16];rfl)
 ·
  refine br J J J (fun hc24=>?_) (fun hc24=>?_)
  ·
   refine cl rfl (ihy hc hok (by omega)) rfl<|?_
   exact rz rfl (by rw[Tr.restrictL,if_neg hc16,if_pos hc24];rfl)
  ·
   refine cl rfl (apV (c:=c) (l:=l) hc hok (by omega) hl hlo) rfl<|cl rfl (ihx (c:=abZ (c++[l])) (aqg (agD hc hl)) (aqm (acm hok hlo)) (by omega)) rfl<|?_
   refine cl rfl (aku (l:=l)) rfl<|cl rfl (apV (c:=c) (l:=l.rev) hc hok (by omega) hl.rev hlo.rev) rfl<|cl rfl (ihy (c:=abZ (c++[l.rev])) (aqg (agD hc hl.rev)) (aqm (acm hok hlo.rev)) (by omega)) rfl<|?_
   refine cl rfl ax1 rfl<|?_
   exact rz rfl (by rw[Tr.restrictL,if_neg hc16,if_neg hc24];rfl)
theorem aeM: ∀{t:Tr} {c:List LnQ},t.all LB→t.all LnQ.ok→(∀m∈c,LB m)→(∀m∈c,m.ok)→c.length+t.depth≤900→PF GB prog 103 [eT t, .sl (c.map eL)] (eT (Tr.restrictL t c))
 | .leaf _,_,_,_,_,_,_=>aia
 | .node l x y,c,hb,ho,hc,hok,hn=>aib hb.1 ho.1 hc hok hn (fun h1 h2 h3=>aeM hb.2.1 ho.2.1 h1 h2 h3) (fun h1 h2 h3=>aeM hb.2.2 ho.2.2 h1 h2 h3)
def p7:PtQ:=⟨mkRat 1 7,mkRat 1 5⟩
structure LP (l:LnQ):Prop where
 s:LS l
 p:0<l.value p7
def lsR(es:List Int):Nat→Nat→List LnQ×Nat
 |0,a=>([],a)
 |i+1,a=>((lF es a).1::(lsR es i (lF es a).2).1,(lsR es i (lF es a).2).2)
def lsF(es:List Int)(most a:Nat):List LnQ×Nat:=lsR es (aaf es ((most:Int)+1) a).1 (aaf es ((most:Int)+1) a).2
def aCY(l:LnQ):LnQ:=if(l.value p7).num.sign<0 then l.rev else l
def aGk(xs:List LnQ)(i:Nat):List LnQ:=(xs.take i).map aCY++xs.drop i
def aGv(es:List Int)(a:Nat):List LnQ×Nat:=((lsF es 3 a).1.map aCY,(lsF es 3 a).2)
theorem ayy(xs ys:List NQ)(n:NQ):((xs++(n::ys)).map eN)[((xs.length:Nat):Int).toNat]? =some (eN n):=by simp
theorem ax8(xs ys:List NQ)(n m:NQ)(e:DV)(h:e=eN m):((xs++(n::ys)).map eN).set ((xs.length:Nat):Int).toNat e=(xs++(m::ys)).map eN:=by subst h;simp
theorem anz{ns:List NQ}:PB GB prog 49 (mkB [some (eT (.leaf true)),none]) 8 135 (ns.map eN) (fun w=> .tp ([]++ .v (.slice w.a w.n w.c)::[.v (.int .i64 (Tr.num (.leaf true) ns.length))])) ((ns++Tr.wr (.leaf true) ns.length).map eN):=by
 refine fnB (fu:=⟨12⟩) func49 J J ntmps49 J J (fun C=>?_)
 refine knT (fu:=⟨9⟩) J J J<|knT J J J<|?_
 exact rzB J J J J J (by simp[Tr.wr]) rfl
theorem alO{ns:List NQ}:PB GB prog 49 (mkB [some (eT (.leaf false)),none]) 8 135 (ns.map eN) (fun w=> .tp ([]++ .v (.slice w.a w.n w.c)::[.v (.int .i64 (Tr.num (.leaf false) ns.length))])) ((ns++Tr.wr (.leaf false) ns.length).map eN):=by
 refine fnB (fu:=⟨12⟩) func49 J J ntmps49 J J (fun C=>?_)
 refine knT (fu:=⟨9⟩) J J J<|knF J J J<|?_
 exact rzB J J J J J (by simp[Tr.wr]) rfl
theorem ano{l:LnQ}{s u:Tr}{ns:List NQ}(hl:BL l 96)(hs:ns.length+(1+s.size+u.size)≤1000000)(ihs: ∀{ns:List NQ},ns.length+s.size≤1000000→PB GB prog 49 (mkB [some (eT s),none]) 8 135 (ns.map eN) (fun w=> .tp ([]++ .v (.slice w.a w.n w.c)::[.v (.int .i64 (Tr.num s ns.length))])) ((ns++Tr.wr s ns.length).map eN))(ihu: ∀{ns:List NQ},ns.length+u.size≤1000000→PB GB prog 49 (mkB [some (eT u),none]) 8 135 (ns.map eN) (fun w=> .tp ([]++ .v (.slice w.a w.n w.c)::[.v (.int .i64 (Tr.num u ns.length))])) ((ns++Tr.wr u ns.length).map eN)):PB GB prog 49 (mkB [some (eT (.node l s u)),none]) 8 135 (ns.map eN) (fun w=> .tp ([]++ .v (.slice w.a w.n w.c)::[.v (.int .i64 (Tr.num (.node l s u) ns.length))])) ((ns++Tr.wr (.node l s u) ns.length).map eN):=by
 refine fnB (fu:=⟨12⟩) func49 J J ntmps49 J J (fun C=>?_)
 refine knF (fu:=⟨9⟩) J J J<|?_
 refine eqF 20 (.d (.v (.int .i64 (ns.length:Nat)))) rfl (by simp) ?_
 refine gx rfl<|cl rfl (aEv hl) rfl<|rf J J<|apB ((ns++[(⟨l,0,0⟩:NQ)]).map eN) rfl (by rw[bK]<;>rfl) (aFc [(⟨l,0,0⟩:NQ)]) rfl<|?_
 refine cb _ rfl (ihs (ns:=ns++[(⟨l,0,0⟩:NQ)]) (by simp;omega)) J J<|cb (hv:=by simp only[aai];exact(by simp;omega)) ((ns++((⟨l,0,0⟩:NQ)::(s.wr (ns.length+1)++u.wr (ns.length+1+s.size)))).map eN) rfl (ihu (ns:=ns++[(⟨l,0,0⟩:NQ)]++s.wr (ns++[(⟨l,0,0⟩:NQ)]).length) (by simp[Tr.wr_len];omega)) (by simp[Tr.wr_len,jV,jQ 1]) rfl<|?_
 refine sb (hv:=by simp only[aai];exact(by simp;omega)) (eN ⟨l,0,0⟩) ((ns++((⟨l,s.num (ns.length+1),0⟩:NQ)::(s.wr (ns.length+1)++u.wr (ns.length+1+s.size)))).map eN) rfl (ayy ns _ ⟨l,0,0⟩) rfl (by rw[ax8 _ _ _ ⟨l,s.num (ns.length+1),0⟩ _ (by simp[eN,DV.cells])]) rfl<|?_
 refine sb (eN ⟨l,s.num (ns.length+1),0⟩) ((ns++Tr.wr (.node l s u) ns.length).map eN) rfl (ayy ns _ ⟨l,s.num (ns.length+1),0⟩) rfl (by rw[ax8 _ _ _ ⟨l,s.num (ns.length+1),u.num (ns.length+1+s.size)⟩ _ (by simp[eN,DV.cells,Tr.wr_len,jV,jQ 1])];simp[Tr.wr]) rfl<|?_
 exact rzB J J J J J J J
theorem aoj: ∀{t:Tr} {ns:List NQ},t.all (fun l=>BL l 96)→ns.length+t.size≤1000000→PB GB prog 49 (mkB [some (eT t),none]) 8 135 (ns.map eN) (fun w=> .tp ([]++ .v (.slice w.a w.n w.c)::[.v (.int .i64 (Tr.num t ns.length))])) ((ns++Tr.wr t ns.length).map eN)
 | .leaf true,ns,_,_=>anz
 | .leaf false,ns,_,_=>alO
 | .node l s u,ns,hb,hs=>ano hb.1 hs (fun h=>aoj hb.2.1 h) (fun h=>aoj hb.2.2 h)
theorem auD{t:Tr}(hb:t.all (fun l=>BL l 96))(hs:t.size≤1000000):PF GB prog 11 [eT t] (eA t):=by
 refine fn func11 J J ntmps11 J J (fun C=>?_)
 refine cbn _ rfl (aoj (t:=t) (ns:=[]) hb (by simpa using hs)) J J<|?_
 refine fzE 6 rfl ?_
 exact rz J J
theorem aE0(ds:List Int):adB 1 (ds.map vI):=fun d hd=>by
 obtain⟨n,_,rfl⟩:=bR.1 hd;exact⟨rfl,rfl⟩
theorem avd(es:List Int):(es.map vI).take (min es.length 400)=(es.take 400).map vI:=by
 rw[fS]
 rcases Nat.le_total es.length 400 with h|h
 ·rw[fT h,aY (by simp),aY (by simpa using h)]
 ·rw[Nat.min_eq_right h]
theorem aD8{es:List Int}(hb:es.length≤1125899906842624):PN GB prog 9 [.sl (es.map vI)] 94 Unit (fun _=>[.sl ((es.take 400).map vI), .v (.int .i64 (0:Nat))]):=by
 have hel:(es.map vI).length=es.length:=by simp
 refine fnN func9 J J ntmps9 J J (fun C hmb=>?_)
 refine sc' 0 (min es.length 400) ((es.take 400).map vI) J J (by rw[hel];show(if _ then _ else _:Int)=_;split<;>omega) (avd es) (aE0 _) (by omega) (by omega) rfl<|?_
 exact rzN () J J J J J
theorem afw{t:Tr}(hb:t.all LB)(hok:t.all LnQ.ok)(hd:t.depth≤900):PF GB prog 96 [eT t] (eT (t.restrict [])):=by
 refine fn func96 J J ntmps96 J J (fun C=>?_)
 refine cl rfl (aeM (t:=t) (c:=[]) hb hok (by simp) (by simp) (by simpa using hd)) rfl<|?_
 exact rz rfl (by rw[←Tr.restrictL_eq t [] [] hok (by simp) acf.nil (fun p=>by unfold InD InL;simp)];rfl)
theorem anX{cuts:List Rat}{marks:List Bool}: ∀k,2*(adf cuts marks k).length≤k+(if 0<k∧marks.getD (k-1) false=true then 1 else 0)
 |0=>by rw[adf];simp
 |k+1=>by
  have ih:=anX (cuts:=cuts) (marks:=marks) k
  rw[adf]
  simp only[kX]
  by_cases hm:marks.getD k false=true
  ·rw[if_pos hm,if_pos (show 0<k+1∧marks.getD k false=true from⟨by omega,hm⟩)]
   by_cases hp:0<k∧marks.getD (k-1) false=true
   ·rw[if_pos hp] at ih⊢
    cases hv:(adf cuts marks k).getLast? with
    |some v=>
     have:0<(adf cuts marks k).length:=by
      cases e:adf cuts marks k with
      |nil=>rw[e] at hv;simp at hv
      |cons a t=>simp
     show 2*((adf cuts marks k).dropLast++[_]).length≤_
     rw[aV,gR,dS];omega
    |none=>
     have:adf cuts marks k=[]:=List.getLast?_eq_none_iff.1 hv
     simp only[this];simp
   ·rw[if_neg hp] at ih⊢
    rw[aV,dS];omega
  ·rw[if_neg hm]
   split at ih<;>split<;>omega
theorem awe(op:Int)(a b:List IvQ):(ai6 op a b).length≤a.length+b.length+1:=by
 unfold ai6 aoN
 have h:=anX (cuts:=aeP (a++b)) (marks:=(aaZ (aeP (a++b))).map fun t=>ahK op (acU a t) (acU b t)) ((aaZ (aeP (a++b))).map fun t=>ahK op (acU a t) (acU b t)).length
 have h2:=aiO (a++b)
 rw[aV] at h2
 have h3:((aaZ (aeP (a++b))).map fun t=>ahK op (acU a t) (acU b t)).length=(aeP (a++b)).length+1:=by rw[aJ,aev]
 split at h<;>omega
theorem aje(f:FrQ)(m:LnQ)(side:Int):(aa3 f m side).length≤3:=by
 unfold aa3
 split
 ·simp
 ·rw[aJ]
  have:=awe 2 [f.v] (ad8 f.l m side)
  have h2:=agA (l:=f.l) (m:=m) (side:=side)
  rw[dS] at this
  omega
theorem aoo{p v:PtQ}{m:LnQ}{s:Rat}[hp:BPt p 4500][hv:BPt v 97][hm:LB m](hs:BQ s 60000):BQ (adv p v m s) 60000:=by
 unfold adv amr
 split
 ·exact hs
 ·split
  ·exact hs
  ·split
   ·split
    ·haveI:BQ (-(m.value p/(m.value (aeF p v ((1:Int):Rat))-m.value p))) 45000:=BQ.mono inferInstance (by decide)
     exact BQ.mono (inferInstance:BQ (-(m.value p/(m.value (aeF p v ((1:Int):Rat))-m.value p))/2) _) (by decide)
    ·exact hs
   ·exact hs
theorem apa{p v:PtQ}[hp:BPt p 4500][hv:BPt v 97]: ∀{c:List LnQ} {s:Rat},(∀m∈c,LB m)→BQ s 60000→BQ (ajX p v c s) 60000
 |[],_,_,hs=>hs
 |m::t,s,hc,hs=>by
  haveI:=hc m aQ
  exact apa (c:=t) (fun q hq=>hc q (aX _ hq)) (aoo hs)
theorem am1{c:List LnQ}(hc: ∀m∈c,LB m)(hok: ∀m∈c,m.ok): ∀{t:List LnQ},(∀m∈t,m∈c)→BPt (acO c t) 70000
 |[],_=>by
  have h0:BQ (0:Rat) 70000:=BQ.mono (k:=1) ⟨by decide,by decide⟩ (by decide)
  exact⟨h0,h0⟩
 |m::t,h=>by
  have hm:=h m aQ
  haveI:=hc m hm
  rw[acO]
  split
  ·have hbd:=aih (v:=IvQ.all) (hok m hm).ne hc IvZ.all (BQ.mono (k:=1) ⟨by decide,by decide⟩ (by decide)) (BQ.mono (k:=1) ⟨by decide,by decide⟩ (by decide))
   haveI:=hbd.1
   haveI:=hbd.2
   haveI hsb:=amC (v:=(acL m c IvQ.all).1) (i:=1200)
   haveI hpt:BPt (m.at (abY (acL m c IvQ.all).1)) 4500:=by have:=BPt.at m (abY (acL m c IvQ.all).1) (1200+1200+5);exact⟨this.x.mono (by decide),this.y.mono (by decide)⟩
   haveI hvt:BPt (ae9 m.dir) 97:=inferInstance
   haveI hns:BQ (ajX (m.at (abY (acL m c IvQ.all).1)) (ae9 m.dir) c ((1:Int):Rat)) 60000:=apa hc (BQ.mono (k:=2) ⟨by decide,by decide⟩ (by decide))
   have:=BPt.mov (m.at (abY (acL m c IvQ.all).1)) (ae9 m.dir) (ajX (m.at (abY (acL m c IvQ.all).1)) (ae9 m.dir) c ((1:Int):Rat)) 4500 97 60000
   exact⟨this.x.mono (by decide),this.y.mono (by decide)⟩
  ·exact am1 hc hok (fun q hq=>h q (aX _ hq))
theorem anH{l:List FrQ}{k:Nat}{g:FrQ}{m:LnQ}{side:Int}(h:l[k]? =some g):(l.take (k+1)).flatMap (fun g=>aa3 g m side)=(l.take k).flatMap (fun g=>aa3 g m side)++aa3 g m side:=by
 rw[iU,h,pY];simp
theorem aik(l:List FrQ)(m:LnQ)(side:Int):(l.flatMap fun g=>aa3 g m side).length≤3*l.length:=by
 induction l with
 |nil=>simp
 |cons a t ih=>rw[qS,aV,bJ];have:=aje a m side;omega
theorem avX{acc:PtQ→Bool}{n:Nat}{c:List LnQ}:ame acc n [] c= .leaf (acc (acO c c)):=by cases n<;>rfl
theorem aqP{rs:List (List ZP)}{fill:Int}(hrs: ∀r∈rs,aby r)(hrn:rs.length≤100){n:Nat}{c:List LnQ}(hc: ∀m∈c,LB m)(hok: ∀m∈c,m.ok)(hn:c.length≤900):PF GB prog 221 [eRR rs fill, .sl [], .sl (c.map eL)] (eT (ame (inR rs fill) n [] c)):=by
 haveI hpb:=am1 hc hok (t:=c) (fun _ h=>h)
 refine fn (fu:=⟨11⟩) func221 J J ntmps221 J J (fun C=>?_)
 refine knT J J J<|cl rfl (aoF (c:=c) hc hok (by omega)) rfl<|cl rfl (aEX (p:=acO c c) (i:=70000) hrs hrn (by decide)) rfl<|cl rfl (acy (p:=inR rs fill (acO c c))) rfl<|?_
 exact rz rfl (by rw[avX];rfl)
theorem aq2{rs:List (List ZP)}{fill:Int}(hrs: ∀r∈rs,aby r)(hrn:rs.length≤100){n:Nat}{f:FrQ}{t:List FrQ}{c:List LnQ}(hfew:Few (n+1) (f::t))(hfo: ∀g∈f::t,FOk g)(hlen:(f::t).length*3^(n+1)≤6973568802)(hc: ∀m∈c,LB m)(hok: ∀m∈c,m.ok)(hn:c.length+(n+1)≤900)(ih: ∀{l:List FrQ} {c:List LnQ},Few n l→(∀f∈l,FOk f)→l.length*3^n≤6973568802→(∀m∈c,LB m)→(∀m∈c,m.ok)→c.length+n≤900→PF GB prog 221 [eRR rs fill, .sl (l.map eFF), .sl (c.map eL)] (eT (ame (inR rs fill) n l c))):PF GB prog 221 [eRR rs fill, .sl ((f::t).map eFF), .sl (c.map eL)] (eT (ame (inR rs fill) (n+1) (f::t) c)):=by
 obtain⟨l,hl⟩: ∃l,l=f::t:=⟨_,rfl⟩
 have hl0:l[0]? =some f:=by rw[hl];rfl
 rw[←hl] at hfew hfo hlen⊢
 have hm:=aau eFF l
 have hfl:=hfo f (bQ hl0)
 haveI:=hfl.lb
 have hlp:0<l.length:=by rw[hl];simp
 have hlb:l.length≤6973568802:=cV (nJ _ (dT (by decide))) hlen
 refine fn (fu:=⟨11⟩) func221 J J ntmps221 J J (fun C=>?_)
 refine eqF 17 (.d (vI (l.length:Nat))) rfl (by rw[hm]<;>rfl) ?_
 refine gx (fu:=⟨0⟩) rfl<|knF rfl (by show some (decide _)=some false;rw[decide_eq_false (by omega)]) rfl<|ix (fu:=⟨17⟩) _ rfl (aav (i:=0) hl0) rfl<|?_
 refine eqF 33 (.d (vI (l.length:Nat))) rfl (by rw[hm]<;>rfl) ?_
 refine gx rfl<|?_
 refine nr 10 10 303 14 J J J ?_
 refine nr 11 11 303 14 J J J ?_
 refine lp (X:=Nat) (fun k=>[(34, .d (vI (k:Nat))),(10, .rw 10),(11, .rw 11)]) (fun k=>[(10,some (.b 303 14 (((l.take k).flatMap fun g=>aa3 g f.l 1).map eFF) true)),(11,some (.b 303 14 (((l.take k).flatMap fun g=>aa3 g f.l (-1)).map eFF) true))]) (fun k=>k≤l.length) (fun k=>l.length-k) 0 rfl (bX _) (fun _=>rfl) (fun k hk=>?_)
 have htk:(l.take k).length≤6973568802:=by rw[cK];omega
 have hb1:(((l.take k).flatMap fun g=>aa3 g f.l 1).map eFF).length≤20920706406:=by rw[aJ];have:=aik (l.take k) f.l 1;omega
 have hb2:(((l.take k).flatMap fun g=>aa3 g f.l (-1)).map eFF).length≤20920706406:=by rw[aJ];have:=aik (l.take k) f.l (-1);omega
 refine br (fu2:=⟨0⟩) J J J (fun hc35=>?_) (fun hc35=>?_)
 ·
  obtain⟨g,hz⟩: ∃s,l[k]? =some s:=⟨_,aZ (by omega)⟩
  have hg:=hfo g (bQ hz)
  have hs1:((aa3 g f.l 1).map eFF).length≤3:=by rw[aJ];exact aje _ _ _
  have hs2:((aa3 g f.l (-1)).map eFF).length≤3:=by rw[aJ];exact aje _ _ _
  refine ix _ rfl (aav hz) rfl<|cl rfl (aAA (f:=g) (m:=f.l) hg hfl.ok) rfl<|ap (hbd:=by omega) (((l.take (k+1)).flatMap fun g=>aa3 g f.l 1).map eFF) rfl (by rw[anH hz,bK]) (akG _) rfl<|?_
  refine ap (hbd:=by omega) (((l.take (k+1)).flatMap fun g=>aa3 g f.l (-1)).map eFF) rfl (by rw[anH hz,bK]) (akG _) rfl<|?_
  refine rnE 46 10 rfl ?_
  refine rnE 49 11 rfl ?_
  exact at_ (k+1) ⟨(by omega),(by omega)⟩
 ·
  obtain rfl:k=l.length:=by omega
  rw[fZ]
  refine fzC 10 rfl ?_
  refine fzC 11 rfl ?_
  refine gx rfl<|ro0 J J<|ap (c.map eL) J J (abz c) rfl<|rf J J<|apf ((c++[f.l]).map eL) rfl (by rw[bK];rfl) (abz [f.l]) rfl<|?_
  refine cl rfl (ih (c:=c++[f.l]) (by subst hl;exact Few.split hfew hfo) (fun g hg=>by obtain⟨q,hq,hg⟩:=nS.1 hg;exact(alM (hfo q hq) hfl.lb g hg).1) (by have:=aik l f.l 1;rw[eX] at hlen;exact cV (bU _ this) (by rw[bL 3,bM];rw[bL (3^n)] at hlen;exact hlen)) (agD hc hfl.lb) (acm hok hfl.ok) (by rw[aV,dS];omega)) rfl<|?_
  refine ro0 J J<|ap (c.map eL) J J (abz c) rfl<|cl rfl (aku (l:=f.l)) rfl<|rf J J<|apf ((c++[f.l.rev]).map eL) rfl (by rw[bK];rfl) (abz [f.l.rev]) rfl<|?_
  refine cl (fu:=⟨1⟩) rfl (ih (c:=c++[f.l.rev]) (by subst hl;exact Few.split hfew hfo) (fun g hg=>by obtain⟨q,hq,hg⟩:=nS.1 hg;exact(alM (hfo q hq) hfl.lb g hg).1) (by have:=aik l f.l (-1);rw[eX] at hlen;exact cV (bU _ this) (by rw[bL 3,bM];rw[bL (3^n)] at hlen;exact hlen)) (agD hc hfl.lb.rev) (acm hok hfl.ok.rev) (by rw[aV,dS];omega)) rfl<|?_
  refine bxf J J<|?_
  exact rz rfl (by subst hl;rfl)
theorem aCf{rs:List (List ZP)}{fill:Int}(hrs: ∀r∈rs,aby r)(hrn:rs.length≤100): ∀{n:Nat} {l:List FrQ} {c:List LnQ},Few n l→(∀f∈l,FOk f)→l.length*3^n≤6973568802→(∀m∈c,LB m)→(∀m∈c,m.ok)→c.length+n≤900→PF GB prog 221 [eRR rs fill, .sl (l.map eFF), .sl (c.map eL)] (eT (ame (inR rs fill) n l c))
 |n,[],c,_,_,_,hc,hok,hn=>aqP hrs hrn hc hok (by omega)
 |0,f::t,c,hf,_,_,_,_,_=>by
  obtain⟨K,h1,h2⟩:=hf
  obtain⟨m,hm,_⟩:=h2 f aQ
  rw[bT (l:=K) (by omega)] at hm
  cases hm
 |n+1,f::t,c,hf,ho,hl,hc,hok,hn=>aq2 hrs hrn hf ho hl hc hok hn (fun a1 a2 a3 a4 a5 a6=>aCf hrs hrn a1 a2 a3 a4 a5 a6)
theorem avs(l:List FrQ):Few l.length l:=⟨l.map FrQ.l,by rw[aJ];exact bZ _,fun f hf=>⟨f.l,pK hf, .inl rfl⟩⟩
theorem azQ{n:Nat}(h:n≤18):n*3^n≤6973568802:=cV (gM h (bW (by decide) h)) (by decide)
theorem azO{rs:List (List ZP)}{fill:Int}(hrs: ∀r∈rs,aby r)(hrn:rs.length≤3):PF GB prog 171 [eRR rs fill] (eT (ajq rs fill)):=by
 have hm:=aau eRg rs
 have hE:=aej hrs
 have hraw:=axE (acc:=inR rs fill) hE.2 rfl
 refine fn (fu:=⟨17⟩) func171 J J ntmps171 J J (fun C=>?_)
 refine eqF 8 (.d (vI (rs.length:Nat))) rfl (by rw[hm]<;>rfl) ?_
 refine gx rfl<|?_
 refine nr 3 3 303 14 J J J ?_
 refine lp (X:=Nat) (fun k=>[(9, .d (vI (k:Nat))),(3, .rw 3)]) (fun k=>[(3,some (.b 303 14 ((acH (rs.take k)).map eFF) true))]) (fun k=>k≤rs.length) (fun k=>rs.length-k) 0 rfl (bX _) (fun _=>rfl) (fun k hk=>?_)
 have het:((acH (rs.take k)).map eFF).length≤6*k:=by rw[aJ];exact ajJ hrs k
 refine br J J J (fun hc10=>?_) (fun hc10=>?_)
 ·
  obtain⟨r,hz⟩: ∃s,rs[k]? =some s:=⟨_,aZ (by omega)⟩
  have hr:=hrs r (bQ hz)
  have hel:((adk r).map eFF).length≤6:=by rw[aJ];have:=(alN hr).1;have:=hr.n6;omega
  refine ix _ rfl (aav hz) rfl<|cl rfl (atT (r:=r) hr) rfl<|ap (hbd:=by omega) ((acH (rs.take (k+1))).map eFF) rfl (by rw[ajB hz,bK]) (akG _) rfl<|?_
  refine rnE 16 3 rfl ?_
  exact at_ (k+1) ⟨(by omega),(by omega)⟩
 ·
  obtain rfl:k=rs.length:=by omega
  rw[fZ]
  refine fz 3 J J<|cl rfl (aCf (n:=(acH rs).length) (l:=acH rs) (c:=[]) hrs (by omega) (avs _) hE.2 (azQ (by have:=hE.1;omega)) (fun m h=>by cases h) (fun m h=>by cases h) (by have:=hE.1;rw[dV];omega)) rfl<|?_
  refine cl rfl (afw (t:=aFK rs fill) hraw.gd.lb hraw.gd.ok (by have:=hraw.dp;have:=hE.1;show(ame _ _ _ _).depth≤900;omega)) rfl<|?_
  exact rz J J
theorem aqR{b:Bool}:PF GB prog 97 [eT (.leaf b)] (eT (Tr.compl (.leaf b))):=by
 refine fn (fu:=⟨11⟩) func97 J J ntmps97 J J (fun C=>?_)
 refine knT J J J<|cl rfl (acy (p:=!b)) rfl<|?_
 exact rz J J
theorem aqY{l:LnQ}{x y:Tr}(ihx:PF GB prog 97 [eT x] (eT x.compl))(ihy:PF GB prog 97 [eT y] (eT y.compl)):PF GB prog 97 [eT (.node l x y)] (eT (Tr.compl (.node l x y))):=by
 refine fn (fu:=⟨11⟩) func97 J J ntmps97 J J (fun C=>?_)
 refine knF J J J<|cl rfl ihx rfl<|cl (fu:=⟨1⟩) rfl ihy rfl<|bxf J J<|?_
 exact rz J J
theorem af1: ∀{t:Tr},PF GB prog 97 [eT t] (eT t.compl)
 | .leaf _=>aqR
 | .node _ _ _=>aqY af1 af1
theorem al9{op:Int}{b:Bool}{u:Tr}{c:List LnQ}(hu:u.all LB)(huo:u.all LnQ.ok)(hc: ∀m∈c,LB m)(hok: ∀m∈c,m.ok)(hn:c.length+u.depth≤900):PF GB prog 44 [vI op,eT (.leaf b),eT u, .sl (c.map eL)] (eT (Tr.mergeL op (.leaf b) u c)):=by
 refine fn (fu:=⟨11⟩) func44 J J ntmps44 J J (fun C=>?_)
 refine knT J J J<|cl rfl (aeM (t:=u) (c:=c) hu huo hc hok hn) rfl<|?_
 refine cs 20 J J J (fun hg20=>?_) (fun hg20=>?_)
 ·
  refine bb J J J (fun hc17=>?_) (fun hc17=>?_)
  ·
   refine cl rfl (acy (p:=true)) rfl<|?_
   exact rz rfl (by show eT _=eT _;congr 1;rw[Tr.mergeL];unfold Tr.chooseL;(repeat' split)<;>first|rfl|(exfalso;simp_all;done)|(exfalso;omega))
  ·
   refine cs 30 J J J (fun hg30=>?_) (fun hg30=>?_)
   ·
    refine bb J J J (fun hc27=>?_) (fun hc27=>?_)
    ·
     refine cl rfl (acy (p:=false)) rfl<|?_
     exact rz rfl (by show eT _=eT _;congr 1;rw[Tr.mergeL];unfold Tr.chooseL;(repeat' split)<;>first|rfl|(exfalso;simp_all;done)|(exfalso;omega))
    ·
     refine cs 45 J J J (fun hg45=>?_) (fun hg45=>?_)
     ·
      refine bb J J J (fun hc42=>?_) (fun hc42=>?_)
      ·
       refine cl rfl af1 rfl<|?_
       exact rz rfl (by show eT _=eT _;congr 1;rw[Tr.mergeL];unfold Tr.chooseL;(repeat' split)<;>first|rfl|(exfalso;simp_all;done)|(exfalso;omega))
      ·
       exact rz rfl (by show eT _=eT _;congr 1;rw[Tr.mergeL];unfold Tr.chooseL;(repeat' split)<;>first|rfl|(exfalso;simp_all;done)|(exfalso;omega))
     ·
      refine cs 49 J J J (fun hg49=>?_) (fun hg49=>?_)
      ·
       refine bb J J J (fun hc42=>?_) (fun hc42=>?_)
       ·
        refine cl rfl af1 rfl<|?_
        exact rz rfl (by show eT _=eT _;congr 1;rw[Tr.mergeL];unfold Tr.chooseL;(repeat' split)<;>first|rfl|(exfalso;simp_all;done)|(exfalso;omega))
       ·
        exact rz rfl (by show eT _=eT _;congr 1;rw[Tr.mergeL];unfold Tr.chooseL;(repeat' split)<;>first|rfl|(exfalso;simp_all;done)|(exfalso;omega))
      ·
       exact rz rfl (by show eT _=eT _;congr 1;rw[Tr.mergeL];unfold Tr.chooseL;(repeat' split)<;>first|rfl|(exfalso;simp_all;done)|(exfalso;omega))
   ·
    refine cs 34 J J J (fun hg34=>?_) (fun hg34=>?_)
    ·
     refine bb J J J (fun hc27=>?_) (fun hc27=>?_)
     ·
      refine cl rfl (acy (p:=false)) rfl<|?_
      exact rz rfl (by show eT _=eT _;congr 1;rw[Tr.mergeL];unfold Tr.chooseL;(repeat' split)<;>first|rfl|(exfalso;simp_all;done)|(exfalso;omega))
     ·
      refine cs 45 J J J (fun hg45=>?_) (fun hg45=>?_)
      ·
       refine bb J J J (fun hc42=>?_) (fun hc42=>?_)
       ·
        refine cl rfl af1 rfl<|?_
        exact rz rfl (by show eT _=eT _;congr 1;rw[Tr.mergeL];unfold Tr.chooseL;(repeat' split)<;>first|rfl|(exfalso;simp_all;done)|(exfalso;omega))
       ·
        exact rz rfl (by show eT _=eT _;congr 1;rw[Tr.mergeL];unfold Tr.chooseL;(repeat' split)<;>first|rfl|(exfalso;simp_all;done)|(exfalso;omega))
      ·
       refine cs 49 J J J (fun hg49=>?_) (fun hg49=>?_)
       ·
        refine bb J J J (fun hc42=>?_) (fun hc42=>?_)
        ·
         refine cl rfl af1 rfl<|?_
         exact rz rfl (by show eT _=eT _;congr 1;rw[Tr.mergeL];unfold Tr.chooseL;(repeat' split)<;>first|rfl|(exfalso;simp_all;done)|(exfalso;omega))
        ·
         exact rz rfl (by show eT _=eT _;congr 1;rw[Tr.mergeL];unfold Tr.chooseL;(repeat' split)<;>first|rfl|(exfalso;simp_all;done)|(exfalso;omega))
       ·
        exact rz rfl (by show eT _=eT _;congr 1;rw[Tr.mergeL];unfold Tr.chooseL;(repeat' split)<;>first|rfl|(exfalso;simp_all;done)|(exfalso;omega))
    ·
     refine cs 45 J J J (fun hg45=>?_) (fun hg45=>?_)
     ·
      refine bb J J J (fun hc42=>?_) (fun hc42=>?_)
      ·
       refine cl rfl af1 rfl<|?_
       exact rz rfl (by show eT _=eT _;congr 1;rw[Tr.mergeL];unfold Tr.chooseL;(repeat' split)<;>first|rfl|(exfalso;simp_all;done)|(exfalso;omega))
      ·
       exact rz rfl (by show eT _=eT _;congr 1;rw[Tr.mergeL];unfold Tr.chooseL;(repeat' split)<;>first|rfl|(exfalso;simp_all;done)|(exfalso;omega))
     ·
      refine cs 49 J J J (fun hg49=>?_) (fun hg49=>?_)
      ·
       refine bb J J J (fun hc42=>?_) (fun hc42=>?_)
       ·
        refine cl rfl af1 rfl<|?_
        exact rz rfl (by show eT _=eT _;congr 1;rw[Tr.mergeL];unfold Tr.chooseL;(repeat' split)<;>first|rfl|(exfalso;simp_all;done)|(exfalso;omega))
       ·
        exact rz rfl (by show eT _=eT _;congr 1;rw[Tr.mergeL];unfold Tr.chooseL;(repeat' split)<;>first|rfl|(exfalso;simp_all;done)|(exfalso;omega))
      ·
       exact rz rfl (by show eT _=eT _;congr 1;rw[Tr.mergeL];unfold Tr.chooseL;(repeat' split)<;>first|rfl|(exfalso;simp_all;done)|(exfalso;omega))
 ·
  refine cs 30 J J J (fun hg30=>?_) (fun hg30=>?_)
  ·
   refine bb J J J (fun hc27=>?_) (fun hc27=>?_)
   ·
    refine cl rfl (acy (p:=false)) rfl<|?_
    exact rz rfl (by show eT _=eT _;congr 1;rw[Tr.mergeL];unfold Tr.chooseL;(repeat' split)<;>first|rfl|(exfalso;simp_all;done)|(exfalso;omega))
   ·
    refine cs 45 J J J (fun hg45=>?_) (fun hg45=>?_)
    ·
     refine bb J J J (fun hc42=>?_) (fun hc42=>?_)
     ·
      refine cl rfl af1 rfl<|?_
      exact rz rfl (by show eT _=eT _;congr 1;rw[Tr.mergeL];unfold Tr.chooseL;(repeat' split)<;>first|rfl|(exfalso;simp_all;done)|(exfalso;omega))
     ·
      exact rz rfl (by show eT _=eT _;congr 1;rw[Tr.mergeL];unfold Tr.chooseL;(repeat' split)<;>first|rfl|(exfalso;simp_all;done)|(exfalso;omega))
    ·
     refine cs 49 J J J (fun hg49=>?_) (fun hg49=>?_)
     ·
      refine bb J J J (fun hc42=>?_) (fun hc42=>?_)
      ·
       refine cl rfl af1 rfl<|?_
       exact rz rfl (by show eT _=eT _;congr 1;rw[Tr.mergeL];unfold Tr.chooseL;(repeat' split)<;>first|rfl|(exfalso;simp_all;done)|(exfalso;omega))
      ·
       exact rz rfl (by show eT _=eT _;congr 1;rw[Tr.mergeL];unfold Tr.chooseL;(repeat' split)<;>first|rfl|(exfalso;simp_all;done)|(exfalso;omega))
     ·
      exact rz rfl (by show eT _=eT _;congr 1;rw[Tr.mergeL];unfold Tr.chooseL;(repeat' split)<;>first|rfl|(exfalso;simp_all;done)|(exfalso;omega))
  ·
   refine cs 34 J J J (fun hg34=>?_) (fun hg34=>?_)
   ·
    refine bb J J J (fun hc27=>?_) (fun hc27=>?_)
    ·
     refine cl rfl (acy (p:=false)) rfl<|?_
     exact rz rfl (by show eT _=eT _;congr 1;rw[Tr.mergeL];unfold Tr.chooseL;(repeat' split)<;>first|rfl|(exfalso;simp_all;done)|(exfalso;omega))
    ·
     refine cs 45 J J J (fun hg45=>?_) (fun hg45=>?_)
     ·
      refine bb J J J (fun hc42=>?_) (fun hc42=>?_)
      ·
       refine cl rfl af1 rfl<|?_
       exact rz rfl (by show eT _=eT _;congr 1;rw[Tr.mergeL];unfold Tr.chooseL;(repeat' split)<;>first|rfl|(exfalso;simp_all;done)|(exfalso;omega))
      ·
       exact rz rfl (by show eT _=eT _;congr 1;rw[Tr.mergeL];unfold Tr.chooseL;(repeat' split)<;>first|rfl|(exfalso;simp_all;done)|(exfalso;omega))
     ·
      refine cs 49 J J J (fun hg49=>?_) (fun hg49=>?_)
      ·
       refine bb J J J (fun hc42=>?_) (fun hc42=>?_)
       ·
        refine cl rfl af1 rfl<|?_
        exact rz rfl (by show eT _=eT _;congr 1;rw[Tr.mergeL];unfold Tr.chooseL;(repeat' split)<;>first|rfl|(exfalso;simp_all;done)|(exfalso;omega))
       ·
        exact rz rfl (by show eT _=eT _;congr 1;rw[Tr.mergeL];unfold Tr.chooseL;(repeat' split)<;>first|rfl|(exfalso;simp_all;done)|(exfalso;omega))
      ·
       exact rz rfl (by show eT _=eT _;congr 1;rw[Tr.mergeL];unfold Tr.chooseL;(repeat' split)<;>first|rfl|(exfalso;simp_all;done)|(exfalso;omega))
   ·
    refine cs 45 J J J (fun hg45=>?_) (fun hg45=>?_)
    ·
     refine bb J J J (fun hc42=>?_) (fun hc42=>?_)
     ·
      refine cl rfl af1 rfl<|?_
      exact rz rfl (by show eT _=eT _;congr 1;rw[Tr.mergeL];unfold Tr.chooseL;(repeat' split)<;>first|rfl|(exfalso;simp_all;done)|(exfalso;omega))
     ·
      exact rz rfl (by show eT _=eT _;congr 1;rw[Tr.mergeL];unfold Tr.chooseL;(repeat' split)<;>first|rfl|(exfalso;simp_all;done)|(exfalso;omega))
    ·
     refine cs 49 J J J (fun hg49=>?_) (fun hg49=>?_)
     ·
      refine bb J J J (fun hc42=>?_) (fun hc42=>?_)
      ·
       refine cl rfl af1 rfl<|?_
       exact rz rfl (by show eT _=eT _;congr 1;rw[Tr.mergeL];unfold Tr.chooseL;(repeat' split)<;>first|rfl|(exfalso;simp_all;done)|(exfalso;omega))
      ·
       exact rz rfl (by show eT _=eT _;congr 1;rw[Tr.mergeL];unfold Tr.chooseL;(repeat' split)<;>first|rfl|(exfalso;simp_all;done)|(exfalso;omega))
     ·
      exact rz rfl (by show eT _=eT _;congr 1;rw[Tr.mergeL];unfold Tr.chooseL;(repeat' split)<;>first|rfl|(exfalso;simp_all;done)|(exfalso;omega))
theorem alc{op:Int}{l:LnQ}{x y u:Tr}{c:List LnQ}(hl:LB l)(hlo:l.ok)(hc: ∀m∈c,LB m)(hok: ∀m∈c,m.ok)(hn:c.length+(Tr.node l x y).depth+u.depth≤900)(ihx: ∀{c:List LnQ},(∀m∈c,LB m)→(∀m∈c,m.ok)→c.length+x.depth+u.depth≤900→PF GB prog 44 [vI op,eT x,eT u, .sl (c.map eL)] (eT (Tr.mergeL op x u c)))(ihy: ∀{c:List LnQ},(∀m∈c,LB m)→(∀m∈c,m.ok)→c.length+y.depth+u.depth≤900→PF GB prog 44 [vI op,eT y,eT u, .sl (c.map eL)] (eT (Tr.mergeL op y u c))):PF GB prog 44 [vI op,eT (.node l x y),eT u, .sl (c.map eL)] (eT (Tr.mergeL op (.node l x y) u c)):=by
 have hdp:(Tr.node l x y).depth=1+Nat.max x.depth y.depth:=rfl
 have hdx:x.depth≤Nat.max x.depth y.depth:=mY _ _
 have hdy:y.depth≤Nat.max x.depth y.depth:=lS _ _
 have hca:=afP (c++[l])
 have hcb:=afP (c++[l.rev])
 rw[aV,dS] at hca hcb
 refine fn (fu:=⟨11⟩) func44 J J ntmps44 J J (fun C=>?_)
 refine knF J J J<|cl rfl (arY (c:=c) (l:=l) hc hok (by omega) hl hlo) rfl<|?_
 refine br J J J (fun hc64=>?_) (fun hc64=>?_)
 ·
  refine cl rfl (ihx hc hok (by omega)) rfl<|?_
  exact rz rfl (by rw[Tr.mergeL,if_pos hc64];rfl)
 ·
  refine br J J J (fun hc74=>?_) (fun hc74=>?_)
  ·
   refine cl rfl (ihy hc hok (by omega)) rfl<|?_
   exact rz rfl (by rw[Tr.mergeL,if_neg hc64,if_pos hc74];rfl)
  ·
   refine cl rfl (apV (c:=c) (l:=l) hc hok (by omega) hl hlo) rfl<|cl rfl (ihx (c:=abZ (c++[l])) (aqg (agD hc hl)) (aqm (acm hok hlo)) (by omega)) rfl<|?_
   refine cl rfl (aku (l:=l)) rfl<|cl rfl (apV (c:=c) (l:=l.rev) hc hok (by omega) hl.rev hlo.rev) rfl<|cl rfl (ihy (c:=abZ (c++[l.rev])) (aqg (agD hc hl.rev)) (aqm (acm hok hlo.rev)) (by omega)) rfl<|?_
   refine cl rfl ax1 rfl<|?_
   exact rz rfl (by rw[Tr.mergeL,if_neg hc64,if_neg hc74];rfl)
theorem ak4{op:Int}{u:Tr}(hu:u.all LB)(huo:u.all LnQ.ok): ∀{t:Tr} {c:List LnQ},t.all LB→t.all LnQ.ok→(∀m∈c,LB m)→(∀m∈c,m.ok)→c.length+t.depth+u.depth≤900→PF GB prog 44 [vI op,eT t,eT u, .sl (c.map eL)] (eT (Tr.mergeL op t u c))
 | .leaf _,_,_,_,hc,hok,hn=>al9 hu huo hc hok (cV (Nat.add_le_add_right (nV _ _) _) hn)
 | .node l x y,c,hb,ho,hc,hok,hn=>alc hb.1 ho.1 hc hok hn (fun h1 h2 h3=>ak4 hu huo hb.2.1 ho.2.1 h1 h2 h3) (fun h1 h2 h3=>ak4 hu huo hb.2.2 ho.2.2 h1 h2 h3)
theorem aDB(p r:ZP):(aha p.q r.q<0↔aAZ p r<0)∧(aha p.q r.q=0↔aAZ p r=0):=by
 have e1: ∀a b:Int,aa0 (a:Rat) (b:Rat)<0↔a<b:=fun a b=>by rw[aji,Rat.intCast_lt_intCast]
 have e2: ∀a b:Int,aa0 (a:Rat) (b:Rat)=0↔a=b:=fun a b=>by rw[aeT,mU]
 have f1:=e1 p.1 r.1
 have f2:=e2 p.1 r.1
 have f3:=e1 p.2 r.2
 have f4:=e2 p.2 r.2
 show(aha ⟨(p.1:Rat),(p.2:Rat)⟩ ⟨(r.1:Rat),(r.2:Rat)⟩<0↔_)∧(aha ⟨(p.1:Rat),(p.2:Rat)⟩ ⟨(r.1:Rat),(r.2:Rat)⟩=0↔_)
 unfold aha aAZ
 dsimp only
 generalize aa0 (p.1:Rat) (r.1:Rat)=u at*
 generalize aa0 (p.2:Rat) (r.2:Rat)=v at*
 by_cases h:p.1<r.1
 ·rw[if_pos (by omega),if_pos h];omega
 ·by_cases h2:r.1<p.1
  ·rw[if_pos (by omega),if_neg h,if_pos h2];omega
  ·rw[if_neg (by omega),if_neg h,if_neg h2]
   by_cases h3:p.2<r.2
   ·rw[if_pos h3];omega
   ·rw[if_neg h3]
    split<;>omega
theorem ax9(x:ZP): ∀l:List ZP,ac0 aha x.q (l.map ZP.q)=(avj x l).map ZP.q
 |[]=>rfl
 |u::t=>by
  obtain⟨h1,h2⟩:=aDB u x
  rw[bY,ac0,avj,ax9 x t]
  by_cases k1:aAZ u x<0
  ·rw[if_pos (h1.2 k1),if_pos k1];rfl
  ·rw[if_neg (fun e=>k1 (h1.1 e)),if_neg k1]
   by_cases k2:aAZ u x=0
   ·rw[if_pos (h2.2 k2),if_pos k2];rfl
   ·rw[if_neg (fun e=>k2 (h2.1 e)),if_neg k2];rfl
theorem ay0(l:List ZP):ahF aha (l.map ZP.q)=(amo l).map ZP.q:=by
 have key: ∀(l o:List ZP),(l.map ZP.q).foldl (fun out x=>ac0 aha x out) (o.map ZP.q)=(l.foldl (fun out x=>avj x out) o).map ZP.q:=by
  intro l
  induction l with
  |nil=>intro o;rfl
  |cons x t ih=>intro o;rw[bY,jL,jL,ax9,ih]
 exact key l []
theorem aFx(l:List ZP):(l.map ZP.q).map eP=l.map eZp:=by rw[List.map_map];rfl
theorem anF{l:List ZP}(h: ∀p∈l,ZP.le 100 p)(hn:l.length≤100000):PF GB prog 219 [.sl (l.map eZp)] (.sl ((amo l).map eZp)):=by
 have:=awp (GB:=GB) (ps:=l.map ZP.q) (au0 h) (by rw[aJ];exact hn)
 rw[ay0,aFx,aFx] at this
 exact this
theorem aAc(u v:ZP):(PtQ.cross (iP u.1 u.2) (iP v.1 v.2))=((ajS u v:Int):Rat):=by
 unfold PtQ.cross iP ajS
 push_cast
 rfl
theorem aiW(u v:ZP):(PtQ.cross (iP u.1 u.2) (iP v.1 v.2)).num.sign≠0↔ajS u v≠0:=by
 rw[aAc,pL]
 exact not_congr fJ
theorem arv{α β:Type}(f:α→β)(l:List α):((l.map f).take (l.length-1)).drop 0=l.dropLast.map f:=by
 rw[iJ,←fS,List.dropLast_eq_take]
theorem apM{l:List ZP}(h:0<l.length): ∃u,l.getLast? =some u∧l[l.length-1]? =some u∧l.getD (l.length-1) (0,0)=u:=by
 refine⟨l[l.length-1],?_,aZ (by omega),?_⟩
 ·rw[kR];exact aZ (by omega)
 ·rw[aK,aZ (by omega)];rfl
theorem asV{l:List ZP}(h:0<l.length): ∃u,l[0]? =some u∧l.getD 0 (0,0)=u:=by
 refine⟨l[0],aZ (by omega),?_⟩
 rw[aK,aZ (by omega)];rfl
theorem avB{u p:ZP}:(u.1=p.1∧u.2=p.2)↔u=p:=⟨fun h=>Prod.ext h.1 h.2,fun h=>by rw[h];exact⟨rfl,rfl⟩⟩
theorem atL{b:Nat}{es:List Int}(hes:es.length≤400){a:Nat}(ha:a≤es.length):PM GB prog 170 (mkP [none] b) b 94 [.sl (es.map vI), .v (.int .i64 (a:Nat))] (eRg (acV es a).1) [.sl (es.map vI), .v (.int .i64 ((acV es a).2:Nat))]:=by
 have hk0:=aaB (n:=4) ha
 refine fnM (fu:=⟨6⟩) func170 J J ntmps170 J J (fun C b m lo hmb=>?_)
 refine mg (X:=Nat) (fun a2=>[]) (fun a2=>[(1000000,some (.o 94 [.d (.sl (es.map vI)), .d (.v (.int .i64 (a2:Nat)))] false))]) (fun a2=>acV es a=au7 es a2∧a2≤es.length) [] [1000000] rfl ?_ (fun _=>rfl) (fun a2 ⟨hR,ha2⟩=>?_)
 ·
  refine gx rfl<|cm rfl (fun b=>(abW (n:=4) hes ha (by decide) (by decide))) rfl<|?_
  refine br J J J (fun hc15=>?_) (fun hc15=>?_)
  ·
   have hx1:=aaB (n:=5) hk0
   have hy1:=aaB (n:=5) hx1
   have hz1:=aaB (n:=4) hy1
   have hw1:=aaB (n:=4) hz1
   have hl0:=abB (es:=es) (n:=5) (a:=(aaf es 4 a).2) (by decide)
   have hl1:=abB (es:=es) (n:=5) (a:=(aaf es 5 (aaf es 4 a).2).2) (by decide)
   have hl2:=abB (es:=es) (n:=4) (a:=(aaf es 5 (aaf es 5 (aaf es 4 a).2).2).2) (by decide)
   have hl3:=abB (es:=es) (n:=4) (a:=(aaf es 4 (aaf es 5 (aaf es 5 (aaf es 4 a).2).2).2).2) (by decide)
   refine cm rfl (fun b=>(abW (n:=5) hes hk0 (by decide) (by decide))) rfl<|cm rfl (fun b=>(abW (n:=5) hes hx1 (by decide) (by decide))) rfl<|?_
   refine cm rfl (fun b=>(abW (n:=4) hes hy1 (by decide) (by decide))) rfl<|cm rfl (fun b=>(abW (n:=4) hes hz1 (by decide) (by decide))) rfl<|?_
   refine cl rfl (aqj (m:=(((aaf es 5 (aaf es 4 a).2).1:Int)-4)) (n:=(((aaf es 5 (aaf es 5 (aaf es 4 a).2).2).1:Int)-4)) (by omega) (by omega)) rfl<|?_
   refine cl rfl (aqj (m:=(((aaf es 5 (aaf es 4 a).2).1:Int)-4+1+((aaf es 4 (aaf es 5 (aaf es 5 (aaf es 4 a).2).2).2).1:Int))) (n:=(((aaf es 5 (aaf es 5 (aaf es 4 a).2).2).1:Int)-4)) (by omega) (by omega)) rfl<|?_
   refine cl rfl (aqj (m:=(((aaf es 5 (aaf es 4 a).2).1:Int)-4+1+((aaf es 4 (aaf es 5 (aaf es 5 (aaf es 4 a).2).2).2).1:Int))) (n:=(((aaf es 5 (aaf es 5 (aaf es 4 a).2).2).1:Int)-4+1+((aaf es 4 (aaf es 4 (aaf es 5 (aaf es 5 (aaf es 4 a).2).2).2).2).1:Int))) (by omega) (by omega)) rfl<|?_
   refine cl rfl (aqj (m:=(((aaf es 5 (aaf es 4 a).2).1:Int)-4)) (n:=(((aaf es 5 (aaf es 5 (aaf es 4 a).2).2).1:Int)-4+1+((aaf es 4 (aaf es 4 (aaf es 5 (aaf es 5 (aaf es 4 a).2).2).2).2).1:Int))) (by omega) (by omega)) rfl<|?_
   refine rf J J<|?_
   exact rzM hmb J J (by rw[show acV es a=_ from if_pos hc15];rfl) (by rw[show acV es a=_ from if_pos hc15];rfl)
  ·
   refine br J J J (fun hc46=>?_) (fun hc46=>?_)
   ·
    obtain⟨hp1,hp2,hp3⟩:=ann hk0
    obtain⟨hu1,hu2,hu3,hu4⟩:=arn hp3
    obtain⟨hv1,hv2,hv3,hv4⟩:=arn hu4
    haveI:=biC (k:=10) (m:=(vF es (pF es (aaf es 4 a).2).2).1.1) (by omega) (by decide)
    haveI:=biC (k:=10) (m:=(vF es (pF es (aaf es 4 a).2).2).1.2) (by omega) (by decide)
    haveI:=biC (k:=10) (m:=(vF es (vF es (pF es (aaf es 4 a).2).2).2).1.1) (by omega) (by decide)
    haveI:=biC (k:=10) (m:=(vF es (vF es (pF es (aaf es 4 a).2).2).2).1.2) (by omega) (by decide)
    refine cm rfl (fun b=>(aD1 hes hk0)) rfl<|cm rfl (fun b=>(aFl hes hp3)) rfl<|cm rfl (fun b=>(aFl hes hu4)) rfl<|cl rfl (ak2 (p:=iP (vF es (pF es (aaf es 4 a).2).2).1.1 (vF es (pF es (aaf es 4 a).2).2).1.2) (q:=iP (vF es (vF es (pF es (aaf es 4 a).2).2).2).1.1 (vF es (vF es (pF es (aaf es 4 a).2).2).2).1.2)) rfl<|?_
    refine cl rfl (q_S (q:=PtQ.cross (iP (vF es (pF es (aaf es 4 a).2).2).1.1 (vF es (pF es (aaf es 4 a).2).2).1.2) (iP (vF es (vF es (pF es (aaf es 4 a).2).2).2).1.1 (vF es (vF es (pF es (aaf es 4 a).2).2).2).1.2))) rfl<|?_
    refine br J J J (fun hc58=>?_) (fun hc58=>?_)
    ·
     refine cl rfl (alw (n:=1) (by decide) (by decide)) rfl<|cl rfl (apO (m:=(pF es (aaf es 4 a).2).1.1) (n:=(pF es (aaf es 4 a).2).1.2) (m':=(vF es (pF es (aaf es 4 a).2).2).1.1) (n':=(vF es (pF es (aaf es 4 a).2).2).1.2) (k:=1) (by omega) (by omega) (by omega) (by omega) (by decide)) rfl<|?_
     refine cl rfl (alw (n:=1) (by decide) (by decide)) rfl<|cl rfl (apO (m:=(pF es (aaf es 4 a).2).1.1) (n:=(pF es (aaf es 4 a).2).1.2) (m':=(vF es (vF es (pF es (aaf es 4 a).2).2).2).1.1) (n':=(vF es (vF es (pF es (aaf es 4 a).2).2).2).1.2) (k:=1) (by omega) (by omega) (by omega) (by omega) (by decide)) rfl<|?_
     refine rf J J<|?_
     exact rzM hmb J J (by rw[show acV es a=_ from(if_neg hc15).trans ((if_pos hc46).trans (if_pos ((aiW _ _).1 hc58)))];rfl) (by rw[show acV es a=_ from(if_neg hc15).trans ((if_pos hc46).trans (if_pos ((aiW _ _).1 hc58)))])
    ·
     exact at_ (vF es (vF es (pF es (aaf es 4 a).2).2).2).2 ⟨(if_neg hc15).trans ((if_pos hc46).trans (if_neg (fun e=>hc58 ((aiW _ _).2 e)))),hv4⟩
   ·
    exact at_ (aaf es 4 a).2 ⟨(if_neg hc15).trans (if_neg hc46),hk0⟩
 ·
  have hj1:=abB (es:=es) (n:=4) (a:=a2) (by decide)
  have hj2:=aaB (n:=4) ha2
  refine cm rfl (fun b=>(abW (n:=4) hes ha2 (by decide) (by decide))) rfl<|?_
  refine nr 10 10 58 6 J J J ?_
  refine lp (X:=List ZP×Nat×Nat) (fun⟨r,i,a3⟩=>[(11, .d (vI (i:Nat))),(10, .rw 10)]) (fun⟨r,i,a3⟩=>[(1000000,some (.o 94 [.d (.sl (es.map vI)), .d (.v (.int .i64 (a3:Nat)))] false)),(10,some (.b 58 6 (r.map eZp) true))]) (fun⟨r,i,a3⟩=>apk es i a3 r=apk es (3+(aaf es 4 a2).1) (aaf es 4 a2).2 []∧a3≤es.length∧Adj r∧r.length+i≤6) (fun⟨r,i,a3⟩=>i) ⟨[],3+(aaf es 4 a2).1,(aaf es 4 a2).2⟩ rfl ⟨rfl,hj2,Adj.nil,by simp;omega⟩ (fun _=>rfl) (fun⟨r,i,a3⟩ hk=>?_)
  try dsimp only at hk⊢
  obtain⟨h1,h2,h3,h4⟩:=hk
  have hrl:(r.map eZp).length=r.length:=by simp
  refine br (fu2:=⟨0⟩) J J J (fun hc73=>?_) (fun hc73=>?_)
  ·
   obtain⟨j,rfl⟩: ∃j,i=j+1:=⟨i-1,by omega⟩
   obtain⟨hq1,hq2,hq3⟩:=ann h2
   refine cm (fu:=⟨8⟩) rfl (fun b=>(aD1 hes h2)) rfl<|?_
   refine csS (v1:=fun hg80=>by simp only[aai];kernel_rfl) J J J J (fun hg80=>?_) (fun hg80=>?_)
   ·
    have hlast: ¬r.getLast? =some (pF es a3).1:=by rw[bT (l:=r) (by omega)];simp
    refine rf J J<|ap ((r++[(pF es a3).1]).map eZp) rfl (by rw[bK];rfl) (ay1 [_]) rfl<|?_
    refine rnE 95 10 rfl ?_
    exact at_ ⟨r++[(pF es a3).1],j,(pF es a3).2⟩ (by dsimp only;exact⟨⟨by rw[←h1,apk,if_neg hlast],hq3,h3.snoc ⟨by omega,by omega⟩ hlast,by simp;omega⟩,(by omega)⟩)
   ·
    obtain⟨q,hq,hqi,hqd⟩:=apM (l:=r) (by omega)
    have hqm:=h3.le q (rY hq)
    unfold ZP.le at hqm
    refine lb (eZp q) rfl (by rw[show(((r.map eZp).length:Nat):Int)-1=((r.length-1:Nat):Int) by omega];exact aav hqi) rfl<|cl rfl (al8 (m:=q.1) (n:=q.2) (m':=(pF es a3).1.1) (n':=(pF es a3).1.2) (by omega) (by omega) (by omega) (by omega)) rfl<|?_
    refine bb J J J (fun hc91=>?_) (fun hc91=>?_)
    ·
     have hlast: ¬r.getLast? =some (pF es a3).1:=by rw[hq];intro e;have:=avB.2 (Option.some.inj e);simp[this] at hc91
     refine rf J J<|ap ((r++[(pF es a3).1]).map eZp) rfl (by rw[bK];rfl) (ay1 [_]) rfl<|?_
     refine rnE 95 10 rfl ?_
     exact at_ ⟨r++[(pF es a3).1],j,(pF es a3).2⟩ (by dsimp only;exact⟨⟨by rw[←h1,apk,if_neg hlast],hq3,h3.snoc ⟨by omega,by omega⟩ hlast,by simp;omega⟩,(by omega)⟩)
    ·
     have hlast:r.getLast? =some (pF es a3).1:=by rw[hq];congr 1;exact avB.1 (by simpa using hc91)
     exact at_ ⟨r,j,(pF es a3).2⟩ (by dsimp only;exact⟨⟨by rw[←h1,apk,if_pos hlast],hq3,h3,by omega⟩,(by omega)⟩)
  ·
   obtain rfl:i=0:=by omega
   have hg:=h1
   rw[apk] at hg
   refine fzC 10 rfl ?_
   refine gx rfl<|?_
   refine lp (fu:=⟨5⟩) (X:=List ZP×Nat) (fun⟨l,m⟩=>[(10, .d (.sl (l.map eZp)))]) (fun⟨l,m⟩=>[]) (fun⟨l,m⟩=>afd m l=afd 6 r∧l.length≤m+1∧Adj l∧l.length≤6) (fun⟨l,m⟩=>m) ⟨r,6⟩ rfl ⟨rfl,by omega,h3,by omega⟩ (fun _=>rfl) (fun⟨l,m⟩ hk=>?_)
   try dsimp only at hk⊢
   obtain⟨t1,t2,t3,t4⟩:=hk
   have hll:(l.map eZp).length=l.length:=by simp
   refine csS (v2:=fun hg98=>by simp only[aai];kernel_rfl) J J J J (fun hg98=>?_) (fun hg98=>?_)
   ·
    obtain⟨q,hqi,hqd⟩:=asV (l:=l) (by omega)
    obtain⟨q2,hq0,hqi2,hqd2⟩:=apM (l:=l) (by omega)
    have hqm:=t3.le q (bQ hqi)
    have hqm2:=t3.le q2 (bQ hqi2)
    unfold ZP.le at hqm hqm2
    refine ix _ rfl (aav (i:=0) hqi) rfl<|ix (eZp q2) rfl (by rw[show(((l.map eZp).length:Nat):Int)-1=((l.length-1:Nat):Int) by omega];exact aav hqi2) rfl<|?_
    refine cl rfl (al8 (m:=q.1) (n:=q.2) (m':=q2.1) (n':=q2.2) (by omega) (by omega) (by omega) (by omega)) rfl<|?_
    refine bd J J J (fun hc110=>?_) (fun hc110=>?_)
    ·
     have hcond:1<l.length∧l.getD 0 (0,0)=l.getD (l.length-1) (0,0):=⟨by omega,by rw[hqd,hqd2];exact avB.1 hc110⟩
     refine sc' 0 (l.length-1) (l.dropLast.map eZp) J J (by omega) (arv eZp l) (ay1 l) (bX _) (by omega) rfl<|?_
     exact at_ ⟨l.dropLast,m-1⟩ (by dsimp only;exact⟨⟨by rw[←t1];obtain⟨m,rfl⟩: ∃q,m=q+1:=⟨m-1,by omega⟩;rw[afd,if_pos hcond];rfl,by rw[gR];omega,t3.drop,by rw[gR];omega⟩,(by omega)⟩)
    ·
     have hcond: ¬(1<l.length∧l.getD 0 (0,0)=l.getD (l.length-1) (0,0)):=fun e=>hc110 (avB.2 (by rw[←hqd,←hqd2];exact e.2))
     refine cl (fu:=⟨1⟩) rfl (anF (l:=l) t3.le (by omega)) rfl<|?_
     have hgen:afd 6 r=l:=by rw[←t1];cases m with|zero=>rfl|succ m=>rw[afd,if_neg hcond]
     refine eqF 118 (.d (vI ((amo l).length:Nat))) rfl (by rw[aJ];rfl) ?_
     refine gx rfl<|?_
     refine br J J J (fun hc119=>?_) (fun hc119=>?_)
     ·
      have hfin:acV es a=(aA6,a3):=by rw[hR,au7,←hg,hgen,if_pos (by omega)]
      refine cl rfl (aqj (m:=0) (n:=0) (by decide) (by decide)) rfl<|cl rfl (aqj (m:=2) (n:=0) (by decide) (by decide)) rfl<|cl rfl (aqj (m:=0) (n:=2) (by decide) (by decide)) rfl<|?_
      refine rf J J<|?_
      exact rzM hmb J J (by rw[hfin];rfl) (by rw[hfin])
     ·
      have hfin:acV es a=(l,a3):=by rw[hR,au7,←hg,hgen,if_neg (by omega)]
      exact rzM hmb J J (by rw[hfin];rfl) (by rw[hfin])
   ·
    have hcond: ¬(1<l.length∧l.getD 0 (0,0)=l.getD (l.length-1) (0,0)):=fun e=>by omega
    refine cl (fu:=⟨1⟩) rfl (anF (l:=l) t3.le (by omega)) rfl<|?_
    have hgen:afd 6 r=l:=by rw[←t1];cases m with|zero=>rfl|succ m=>rw[afd,if_neg hcond]
    refine eqF 118 (.d (vI ((amo l).length:Nat))) rfl (by rw[aJ];rfl) ?_
    refine gx rfl<|?_
    refine br J J J (fun hc119=>?_) (fun hc119=>?_)
    ·
     have hfin:acV es a=(aA6,a3):=by rw[hR,au7,←hg,hgen,if_pos (by omega)]
     refine cl rfl (aqj (m:=0) (n:=0) (by decide) (by decide)) rfl<|cl rfl (aqj (m:=2) (n:=0) (by decide) (by decide)) rfl<|cl rfl (aqj (m:=0) (n:=2) (by decide) (by decide)) rfl<|?_
     refine rf J J<|?_
     exact rzM hmb J J (by rw[hfin];rfl) (by rw[hfin])
    ·
     have hfin:acV es a=(l,a3):=by rw[hR,au7,←hg,hgen,if_neg (by omega)]
     exact rzM hmb J J (by rw[hfin];rfl) (by rw[hfin])
def aE6:DV:= .v (.pointer none)
def cTd(l:LnQ)(p q:DV):List DV:=[.v (.bool false), .v (.bool false), .v (.bool (decide (l.a<0))),dN l.a.natAbs, .v (.bool (decide (l.b<0))),dN l.b.natAbs, .v (.bool (decide (l.c<0))),dN l.c.natAbs,p,q]
inductive RF (ns:List RN):Int→(Nat→Bool)→DV→Bool→(Nat→Bool)→Prop where
 |leaf (b:Bool) (f:Nat→Bool):RF ns (ac7 b) f (eT (.leaf b)) true f
 |bad (rt:Int) (f:Nat→Bool) (h1:rt≠ -1) (h2:rt≠ -2) (h:rt<0∨(ns.length:Int)≤rt∨(∃k:Nat,rt=k∧k<ns.length∧f k=true)):RF ns rt f aE6 false f
 |line (k:Nat) (n:RN) (f:Nat→Bool) (h:ns[k]? =some n) (hf:f k=false) (hl:n.g.ln=none):RF ns (k:Int) f aE6 false (anr f k)
 |left (k:Nat) (n:RN) (l:LnQ) (f f2:Nat→Bool) (p:DV) (h:ns[k]? =some n) (hf:f k=false) (hl:n.g.ln=some l) (h1:RF ns n.l (anr f k) p false f2):RF ns (k:Int) f aE6 false f2
 |node (k:Nat) (n:RN) (l:LnQ) (f f2 f3:Nat→Bool) (p q:DV) (ok:Bool) (h:ns[k]? =some n) (hf:f k=false) (hl:n.g.ln=some l) (h1:RF ns n.l (anr f k) p true f2) (h2:RF ns n.r f2 q ok f3):RF ns (k:Int) f (.pt (cTd l p q)) ok f3
def aGY(n:Nat)(f:Nat→Bool):Bool:=(List.range n).all f
theorem Tr.all_imp{p q:LnQ→Prop}(h: ∀l,p l→q l): ∀{t:Tr},t.all p→t.all q
 | .leaf _,_=>trivial
 | .node _ _ _,⟨h0,h1,h2⟩=>⟨h _ h0,Tr.all_imp h h1,Tr.all_imp h h2⟩
theorem Tr.gd.bl{t:Tr}(h:t.gd):t.all (fun l=>BL l 96):=Tr.all_imp (fun _ h=>h.bl) h.lb
theorem aDU{t:Tr}(hs:t.size≤65536):((t.wr 0).map RN.of).length≤65536:=by rw[aJ,t.wr_len];exact hs
theorem atk{ai al ae:Addr}(hE:EG GB ai al ae){t:Tr}(h:t.gd)(hs:t.size≤65536):PF GB prog 92 [eA t] (.tp [eA t.compl, .v .nilIface]):=by
 have:=avJ hE (r1:=t.num 0) (awS h.lb) (aDU hs)
 rw[aqF h.ok,←avp] at this
 exact this
theorem asM{ai al ae:Addr}(hE:EG GB ai al ae){op:Int}{a b:Tr}(ho:1≤op∧op≤4)(ha:a.gd)(hb:b.gd)(hsa:a.size≤65536)(hsb:b.size≤65536):PF GB prog 30 [vI op,eA a,eA b] (aEO (aEJ al (aj7 op a b))):=by
 have:=awq hE (op:=op) (r1:=a.num 0) (awS ha.lb) (aDU hsa) (r2:=b.num 0) (awS hb.lb) (aDU hsb)
 rw[aqF ha.ok,aqF hb.ok,←avp,←avp,amv,if_pos ho] at this
 exact this
theorem ai0{ai al ae:Addr}(hE:EG GB ai al ae){op:Int}{a b t:Tr}(ho:1≤op∧op≤4)(ha:a.gd)(hb:b.gd)(hsa:a.size≤65536)(hsb:b.size≤65536)(h:aj7 op a b=some t):PF GB prog 30 [vI op,eA a,eA b] (.tp [eA t, .v .nilIface]):=by
 have:=asM hE ho ha hb hsa hsb;rw[h] at this;exact this
def l00:LnQ:=⟨0,1,0⟩
def t00:Tr:= .node l00 (.leaf true) (.leaf false)
theorem aCk:aqp 0 0 1 0=l00:=by kernel_rfl
theorem aBT:LB l00:=⟨⟨by decide,by decide,by decide⟩⟩
theorem aBt:l00.ok:=by decide
theorem akf:t00.gd:=⟨⟨aBT,trivial,trivial⟩,⟨aBt,trivial,trivial⟩⟩
theorem aFi:aj7 1 t00 t00.compl=some (.leaf true):=by kernel_rfl
theorem aEH:aj7 4 t00 t00=some (.leaf false):=by kernel_rfl
theorem aFk{ai al ae:Addr}(hE:EG GB ai al ae):PF GB prog 30 [vI 1,eA t00,eA t00.compl] (.tp [.ag [vI (-2), .sl []], .v .nilIface]):=ai0 hE (by decide) akf (alx akf) (by decide) (by decide) aFi
theorem aD6{ai al ae:Addr}(hE:EG GB ai al ae):PF GB prog 30 [vI 4,eA t00,eA t00] (.tp [.ag [vI (-1), .sl []], .v .nilIface]):=ai0 hE (by decide) akf akf (by decide) (by decide) aEH
theorem auL{ai al ae:Addr}(hE:EG GB ai al ae):PF GB prog 36 [] (.v (.bool true)):=by
 refine fn func36 J J ntmps36 J J (fun C=>?_)
 refine cl rfl (aqj (m:=0) (n:=0) (by decide) (by decide)) rfl<|cl rfl (aqj (m:=1) (n:=0) (by decide) (by decide)) rfl<|cl (fu:=⟨2⟩) rfl (ajp (m:=0) (n:=0) (m':=1) (n':=0) (by decide) (by decide) (by decide) (by decide) (by decide)) rfl<|?_
 refine eqF 14 (.d (eL l00)) rfl (by rw[aCk]) ?_
 refine gx rfl<|cl rfl acy rfl<|cl (fu:=⟨1⟩) rfl acy rfl<|bxf J J<|cl rfl (auD (t:=t00) akf.bl (by decide)) rfl<|cl rfl (atk hE (t:=t00) akf (by decide)) rfl<|?_
 refine cl rfl (aFk hE) rfl<|cl (fu:=⟨23⟩) rfl (aD6 hE) rfl<|knT (fu:=⟨4⟩) J J J<|knT (fu:=⟨9⟩) (hv:=by simp only[aai];exact(by decide)) J J J<|knT J J J<|?_
 exact rz J J
theorem af8.red_size{k:Nat}{t:Tr}(h:af8 k t)(hr:t.Red []):t.size≤k*(1+k):=by
 obtain⟨K,h1,h2,h3⟩:=h.am
 exact cV (Tr.size_le h2 hr h.gd.ok acf.nil h3) (gM h1 (by omega))
structure TrX (k:Nat) (t:Tr):Prop where
 o:af8 k t
 s:t.size≤3000
theorem TrX.gd{k:Nat}{t:Tr}(h:TrX k t):t.gd:=h.o.gd
theorem TrX.lb{k:Nat}{t:Tr}(h:TrX k t):t.all LB:=h.o.gd.lb
theorem TrX.ok{k:Nat}{t:Tr}(h:TrX k t):t.all LnQ.ok:=h.o.gd.ok
theorem TrX.bl{k:Nat}{t:Tr}(h:TrX k t):t.all (fun l=>BL l 96):=Tr.all_imp (fun _ h=>h.bl) h.o.gd.lb
theorem TrX.dp{k:Nat}{t:Tr}(h:TrX k t):t.depth≤k:=h.o.dp
theorem af8.x{k:Nat}{t:Tr}(h:af8 k t)(hr:t.Red [])(hk:k≤54):TrX k t:=
 ⟨h,cV (h.red_size hr) (cV (gM hk (show 1+k≤55 by omega)) (by decide))⟩
theorem TrX.merge{j k:Nat}{op:Int}{t u:Tr}(h:TrX j t)(hu:TrX k u)(hk:j+k≤54):TrX (j+k) (t.mergeQ op u []):=(h.o.merge hu.o).x (Tr.merge_red op u t []) hk
theorem TrX.lim{j k:Nat}{op:Int}{t u:Tr}(h:TrX j t)(hu:TrX k u)(hk:j+k≤200):aj7 op t u=some (t.mergeQ op u []):=h.o.lim hu.o hk
theorem asS(rs:List (List ZP))(fill:Int):(ajq rs fill).Red []:=Tr.restrict_red _ _
theorem akz(es:List Int)(a:Nat):(adT es a).1.Red []:=by
 unfold adT
 dsimp only
 split<;>exact asS _ _
theorem aoM(es:List Int)(a:Nat):(aah es 0 a).1.Red []:=by
 rw[aah]
 try dsimp only
 split
 ·exact Tr.restrict_red _ _
 ·split
  ·exact Tr.restrict_red _ _
  ·split
   ·exact Tr.compl_red (akz _ _)
   ·exact akz _ _
theorem afI{es:List Int}{a:Nat}(ha:a≤es.length):TrX 18 (aah es 0 a).1∧(aah es 0 a).2≤es.length:=by
 obtain⟨h1,h2⟩:=aeE (d:=0) ha
 exact⟨(af8.mono h1 (by decide)).x (aoM es a) (by decide),h2⟩
theorem agF{es:List Int}{a:Nat}(ha:a≤es.length):TrX 18 (aa8 es 3 a).1∧(aa8 es 3 a).2≤es.length:=by
 obtain⟨h1,h2⟩:=aoT (d:=3) ha (by decide)
 have h5:=Tr.size_lt (aa8 es 3 a).1
 have h6:(2:Nat)^(aa8 es 3 a).1.depth≤2^4:=bW (by decide) (by have:=(agO (d:=3) ha).1;omega)
 exact⟨⟨h1,by omega⟩,h2⟩
def afY(es:List Int)(a:Nat):(Tr×Tr)×Nat:=
 let x:=aah es 0 a
 let y:=aah es 0 x.2
 let k:=aaf es 3 y.2
 let u:=if(k.1:Int)=0 then aa8 es 3 k.2 else(x.1,k.2)
 let j:=aaf es 3 u.2
 let v:=if(j.1:Int)=0 then aa8 es 3 j.2 else(y.1,j.2)
 ((u.1,v.1),v.2)
theorem avL{es:List Int}{a:Nat}(ha:a≤es.length):TrX 18 (afY es a).1.1∧TrX 18 (afY es a).1.2∧(afY es a).2≤es.length:=by
 obtain⟨x1,x2⟩:=afI ha
 obtain⟨y1,y2⟩:=afI x2
 have hk:=aaB (n:=3) y2
 unfold afY
 dsimp only
 have hu:TrX 18 (if((aaf es 3 (aah es 0 (aah es 0 a).2).2).1:Int)=0 then aa8 es 3 (aaf es 3 (aah es 0 (aah es 0 a).2).2).2 else((aah es 0 a).1,(aaf es 3 (aah es 0 (aah es 0 a).2).2).2)).1∧(if((aaf es 3 (aah es 0 (aah es 0 a).2).2).1:Int)=0 then aa8 es 3 (aaf es 3 (aah es 0 (aah es 0 a).2).2).2 else((aah es 0 a).1,(aaf es 3 (aah es 0 (aah es 0 a).2).2).2)).2≤es.length:=by
  split
  ·exact agF hk
  ·exact⟨x1,hk⟩
 generalize (if((aaf es 3 (aah es 0 (aah es 0 a).2).2).1:Int)=0 then aa8 es 3 (aaf es 3 (aah es 0 (aah es 0 a).2).2).2 else((aah es 0 a).1,(aaf es 3 (aah es 0 (aah es 0 a).2).2).2))=u at*
 obtain⟨u1,u2⟩:=hu
 have hj:=aaB (n:=3) u2
 refine⟨u1,?_⟩
 split
 ·exact agF hj
 ·exact⟨y1,hj⟩
def aGl(es:List Int)(a:Nat):(Tr×Tr)×Nat:=
 let x:=aah es 0 a
 let y:=aah es 0 x.2
 let k:=aaf es 6 y.2
 if(k.1:Int)=0 then((x.1, .node (lF es k.2).1 x.1 x.1),(lF es k.2).2)
 else if(k.1:Int)=1 then((x.1,y.1.mergeQ 1 x.1 []),k.2)
 else if(k.1:Int)=2 then((x.1,y.1.mergeQ 3 x.1 []),k.2)
 else if(k.1:Int)=3 then((x.1,(aa8 es 3 k.2).1),(aa8 es 3 k.2).2)
 else((x.1,y.1),k.2)
def aBh(es:List Int):Nat→Nat→List Tr×Nat
 |0,a=>([],a)
 |n+1,a=>((aah es 0 a).1::(aBh es n (aah es 0 a).2).1,(aBh es n (aah es 0 a).2).2)
end Go.Sx
end
