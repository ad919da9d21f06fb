import Derived.Test.YtnnpcjkdmmjknaaGreatDoorMg16
set_option linter.all false
set_option maxHeartbeats 4000000
set_option maxRecDepth 100000
section
namespace Go.Sx
open Go Go.Proofs Tryz
variable {GB G A:Gh}{p d q:DV}{v e w:Value}{m l:aa}{k n i nm ty j:Nat}{side fill rt r0 op:Int}{c ls:List aa}{rs:List (List ZP)}{b y a t t1:Tr}{ns:List RN}{f f':Nat->Bool}{b1 b2 b3 lo:Bool}{r:List ZP}{s' s1:RS}{u:ZP}{es es0:List Int}{C:aD}{Q0:Exit->Act->World->Prop}{fr fr' fr1 fr2:aC}{own' own1 own2:aH}{cf cf' cf1 cf2:Cf}{vc vc1 vc2:List Prop}{ai al ae:Addr}
def SK{cuts:List Rat}{marks:List Bool}: ∀k,2*(gH cuts marks k).length<=k+(if 0<k/\marks.getD (k-1) false=true then 1 else 0)
 |0=>by rw[gH];simp
 |k+1=>by
  have ih:=SK (cuts:=cuts) (marks:=marks) k;rw[gH];simp only[nY];by_cases hm:marks.getD k false=true
  .rw[if_pos hm,if_pos (show 0<k+1/\marks.getD k false=true from⟨by omega,hm⟩)]
   by_cases hp:0<k/\marks.getD (k-1) false=true
   .rw[if_pos hp] at ih⊢
    cases hv:(gH cuts marks k).getLast? with
    |some v=>
     have:0<(gH cuts marks k).length:=by
      cases e:gH cuts marks k with
      |nil=>rw[e] at hv;simp at hv
      |cons a t=>simp
     show 2*((gH cuts marks k).dropLast++[_]).length<=_;rw[aU,mU,gV];omega
    |none=>
     have:gH cuts marks k=[]:=List.getLast?_eq_none_iff.1 hv;simp only[this];simp
   .rw[if_neg hp] at ih⊢
    rw[aU,gV];omega
  .rw[if_neg hm]
   split at ih<;>split<;>omega
def Wr(op:Int)(a b:List ao):(q6 op a b).length<=a.length+b.length+1:=by
 unfold q6 wU;have h:=SK (cuts:=km (a++b)) (marks:=(ck (km (a++b))).map fun t=>oD op (gv a t) (gv b t)) ((ck (km (a++b))).map fun t=>oD op (gv a t) (gv b t)).length;have h2:=JH (a++b);rw[aU] at h2;have h3:((ck (km (a++b))).map fun t=>oD op (gv a t) (gv b t)).length=(km (a++b)).length+1:=by rw[aX,yt]
 split at h<;>omega
def GU(f:bz)(m:aa)(side:Int):(fp f m side).length<=3:=by
 unfold fp;split
 .simp
 .rw[aX]
  have:=Wr 2 [f.v] (jn f.l m side);have h2:=Bz (l:=f.l) (m:=m) (side:=side);rw[gV] at this;omega
theorem apK{p v:ah}{s:Rat}[hp:aG p 4500][hv:aG v 97][hm:LB m](hs:BQ s 60000):BQ (tD p v m s) 60000:=by
 unfold tD vw;split
 .exact hs
 .split
  .exact hs
  .split
   .split
    .haveI:BQ (-(m.value p/(m.value (cD p v ((1:Int):Rat))-m.value p))) 45000:=BQ.mono inferInstance
     exact BQ.mono (inferInstance:BQ (-(m.value p/(m.value (cD p v ((1:Int):Rat))-m.value p))/2) _)
    .exact hs
   .exact hs
theorem MS{p v:ah}[hp:aG p 4500][hv:aG v 97]: ∀{c:List aa} {s:Rat},(∀m∈c,LB m)->BQ s 60000->BQ (r4 p v c s) 60000
 |[],_,_,hs=>hs
 |m::t,s,hc,hs=>by
  haveI:=hc m aQ;exact MS (c:=t) (fun q hq=>hc q (aJ _ hq)) (apK hs)
theorem PA{c:List aa}(hc: ∀m∈c,LB m)(hok: ∀m∈c,m.ok): ∀{t:List aa},(∀m∈t,m∈c)->aG (kH c t) 70000
 |[],_=>by
  have h0:BQ (0:Rat) 70000:=BQ.mono (k:=1) ⟨by decide,by decide⟩;exact⟨h0,h0⟩
 |m::t,h=>by
  have hm:=h m aQ;haveI:=hc m hm;rw[kH];split
  .have hbd:=DO (v:=ao.all) (hok m hm).ne hc il.all (BQ.mono (k:=1) ⟨by decide,by decide⟩) (BQ.mono (k:=1) ⟨by decide,by decide⟩)
   haveI:=hbd.1;haveI:=hbd.2;haveI hsb:=LC (v:=(gj m c ao.all).1) (i:=1200);haveI hpt:aG (m.at (lC (gj m c ao.all).1)) 4500:=by have:=aG.at m (lC (gj m c ao.all).1) (1200+1200+5);exact⟨this.x.mono (by decide),this.y.mono (by decide)⟩
   haveI hvt:aG (iz m.dir) 97:=inferInstance;haveI hns:BQ (r4 (m.at (lC (gj m c ao.all).1)) (iz m.dir) c ((1:Int):Rat)) 60000:=MS hc (BQ.mono (k:=2) ⟨by decide,by decide⟩);have:=aG.mov (m.at (lC (gj m c ao.all).1)) (iz m.dir) (r4 (m.at (lC (gj m c ao.all).1)) (iz m.dir) c ((1:Int):Rat)) 4500 97 60000;exact⟨this.x.mono (by decide),this.y.mono (by decide)⟩
  .exact PA hc hok (fun q hq=>h q (aJ _ hq))
def NY{l:List bz}{g:bz}(h:l[k]? =some g):(l.take (k+1)).flatMap (fun g=>fp g m side)=(l.take k).flatMap (fun g=>fp g m side)++fp g m side:=by
 rw[eM,h,tY];simp
def CA(l:List bz)(m:aa)(side:Int):(l.flatMap fun g=>fp g m side).length<=3*l.length:=by
 induction l with
 |nil=>simp
 |cons a t ih=>rw[lN,aU,bJ];have:=GU a m side;omega
def Zi{acc:ah->Bool}:jP acc n [] c= .leaf (acc (kH c c)):=by cases n<;>rfl
def as2(hrs: ∀r∈rs,ew r)(hrn:rs.length<=100)(hc: ∀m∈c,LB m)(hok: ∀m∈c,m.ok)(hn:c.length<=900):PF GB prog 161 [wF rs fill, .sl [], .sl (c.map eL)] (eT (jP (nC rs fill) n [] c)):=by
 haveI hpb:=PA hc hok (t:=c) (fun _ h=>h);refine fn (fu:=⟨11⟩) func161 J J ntmps161 J J (fun C=>?_);refine c6 J J J<|cl J (Iz (c:=c) hc hok (by omega)) J<|cl J (YE (p:=kH c c) (i:=70000) hrs hrn (by decide)) J<|cl J (Dv (p:=nC rs fill (kH c c))) J<|?_;exact rz J (by rw[Zi];rfl)
def Xz{rs:List (List ZP)}{fill:Int}(hrs: ∀r∈rs,ew r)(hrn:rs.length<=100){n:Nat}{f:bz}{t:List bz}{c:List aa}(hfew:tF (n+1) (f::t))(hfo: ∀g∈f::t,pD g)(hlen:(f::t).length*3^(n+1)<=6973568802)(hc: ∀m∈c,LB m)(hok: ∀m∈c,m.ok)(hn:c.length+(n+1)<=900)(ih: ∀{l:List bz} {c:List aa},tF n l->(∀f∈l,pD f)->l.length*3^n<=6973568802->(∀m∈c,LB m)->(∀m∈c,m.ok)->c.length+n<=900->PF GB prog 161 [wF rs fill, .sl (l.map fA), .sl (c.map eL)] (eT (jP (nC rs fill) n l c))):PF GB prog 161 [wF rs fill, .sl ((f::t).map fA), .sl (c.map eL)] (eT (jP (nC rs fill) (n+1) (f::t) c)):=by
 obtain⟨l,hl⟩: ∃l,l=f::t:=⟨_,rfl⟩;have hl0:l[0]? =some f:=by rw[hl];rfl
 rw[<-hl] at hfew hfo hlen⊢;have hm:=et fA l;have hfl:=hfo f (aV hl0);haveI:=hfl.lb;have hlp:0<l.length:=by rw[hl];simp
 have hlb:l.length<=6973568802:=cS (mR _ (fX (by decide))) hlen;refine fn (fu:=⟨11⟩) func161 J J ntmps161 J J (fun C=>?_);refine ak 17 (.d (vI (l.length:Nat))) J (by rw[hm]<;>rfl) ?_;refine gx (fu:=⟨0⟩) J<|cd J (by show some (decide _)=some false;rw[decide_eq_false (by omega)]) J<|ix (fu:=⟨17⟩) _ J (cH (i:=0) hl0) J<|?_;refine ak 33 (.d (vI (l.length:Nat))) J (by rw[hm]<;>rfl) ?_;refine gx J<|?_;refine nr 10 10 252 14 J J J ?_;refine nr 11 11 252 14 J J J ?_;refine lp (X:=Nat) (fun k=>[(34, .d (vI (k:Nat))),(10, .rw 10),(11, .rw 11)]) (fun k=>[(10,some (.b 252 14 (((l.take k).flatMap fun g=>fp g f.l 1).map fA) true)),(11,some (.b 252 14 (((l.take k).flatMap fun g=>fp g f.l (-1)).map fA) true))]) (fun k=>k<=l.length) (fun k=>l.length-k) 0 J (bZ _) (fun _=>J) (fun k hk=>?_);have htk:(l.take k).length<=6973568802:=by rw[cR];omega
 have hb1:(((l.take k).flatMap fun g=>fp g f.l 1).map fA).length<=20920706406:=by rw[aX];have:=CA (l.take k) f.l 1;omega
 have hb2:(((l.take k).flatMap fun g=>fp g f.l (-1)).map fA).length<=20920706406:=by rw[aX];have:=CA (l.take k) f.l (-1);omega
 refine br (fu2:=⟨0⟩) J J J (fun hc35=>?_) (fun hc35=>?_)
 .
  obtain⟨g,hz⟩: ∃s,l[k]? =some s:=⟨_,aZ (by omega)⟩;have hg:=hfo g (aV hz);have hs1:((fp g f.l 1).map fA).length<=3:=by rw[aX];exact GU _ _ _
  have hs2:((fp g f.l (-1)).map fA).length<=3:=by rw[aX];exact GU _ _ _
  refine ix _ J (cH hz) J<|cl J (aCX (f:=g) (m:=f.l) hg hfl.ok) J<|ap (hbd:=by omega) (((l.take (k+1)).flatMap fun g=>fp g f.l 1).map fA) J (by rw[NY hz,bV]) (yo _) J<|?_;refine ap (hbd:=by omega) (((l.take (k+1)).flatMap fun g=>fp g f.l (-1)).map fA) J (by rw[NY hz,bV]) (yo _) J<|?_;refine fH 46 10 J ?_;refine fH 49 11 J ?_;exact at_ (k+1) ⟨(by omega),(by omega)⟩
 .
  obtain rfl:k=l.length:=by omega
  rw[dQ];refine tj 10 J ?_;refine tj 11 J ?_;refine gx J<|s5 J J<|ap (c.map eL) J J (fP c) J<|rf J J<|mc ((c++[f.l]).map eL) J (by rw[bV];rfl) (fP [f.l]) J<|?_;refine cl rfl (ih (c:=c++[f.l]) (by subst hl;exact tF.split hfew hfo) (fun g hg=>by obtain⟨q,hq,hg⟩:=iU.1 hg;exact(JY (hfo q hq) hfl.lb g hg).1) (by have:=CA l f.l 1;rw[fY] at hlen;exact cS (bL _ this) (by rw[cK 3,cJ];rw[cK (3^n)] at hlen;exact hlen)) (wH hc hfl.lb) (oz hok hfl.ok) (by rw[aU,gV];omega)) rfl<|?_;refine s5 J J<|ap (c.map eL) J J (fP c) J<|cl J (Bv (l:=f.l)) J<|rf J J<|mc ((c++[f.l.rev]).map eL) J (by rw[bV];rfl) (fP [f.l.rev]) J<|?_;refine cl (fu:=⟨1⟩) rfl (ih (c:=c++[f.l.rev]) (by subst hl;exact tF.split hfew hfo) (fun g hg=>by obtain⟨q,hq,hg⟩:=iU.1 hg;exact(JY (hfo q hq) hfl.lb g hg).1) (by have:=CA l f.l (-1);rw[fY] at hlen;exact cS (bL _ this) (by rw[cK 3,cJ];rw[cK (3^n)] at hlen;exact hlen)) (wH hc hfl.lb.rev) (oz hok hfl.ok.rev) (by rw[aU,gV];omega)) rfl<|?_;refine Ec J J<|?_;exact rz J (by subst hl;rfl)
def Tg{rs:List (List ZP)}{fill:Int}(hrs: ∀r∈rs,ew r)(hrn:rs.length<=100): ∀{n:Nat} {l:List bz} {c:List aa},tF n l->(∀f∈l,pD f)->l.length*3^n<=6973568802->(∀m∈c,LB m)->(∀m∈c,m.ok)->c.length+n<=900->PF GB prog 161 [wF rs fill, .sl (l.map fA), .sl (c.map eL)] (eT (jP (nC rs fill) n l c))
 |n,[],c,_,_,_,hc,hok,hn=>as2 hrs hrn hc hok (by omega)
 |0,f::t,c,hf,_,_,_,_,_=>by
  obtain⟨K,h1,h2⟩:=hf;obtain⟨m,hm,_⟩:=h2 f aQ;rw[bM (l:=K) (by omega)] at hm
  cases hm
 |n+1,f::t,c,hf,ho,hl,hc,hok,hn=>Xz hrs hrn hf ho hl hc hok hn (fun a1 a2 a3 a4 a5 a6=>Tg hrs hrn a1 a2 a3 a4 a5 a6)
def XM(l:List bz):tF l.length l:=⟨l.map bz.l,by rw[aX];exact bX _,fun f hf=>⟨f.l,dX hf, .inl J⟩⟩
def VO(h:n<=18):n*3^n<=6973568802:=cS (gX h (bR (by decide) h)) (by decide)
def Ve(hrs: ∀r∈rs,ew r)(hrn:rs.length<=3):PF GB prog 71 [wF rs fill] (eT (fI rs fill)):=by
 have hm:=et ku rs;have hE:=zg hrs;have hraw:=DI (acc:=nC rs fill) hE.2 J;refine fn (fu:=⟨17⟩) func71 J J ntmps71 J J (fun C=>?_);refine ak 8 (.d (vI (rs.length:Nat))) J (by rw[hm]<;>rfl) ?_;refine gx J<|?_;refine nr 3 3 252 14 J J J ?_;refine lp (X:=Nat) (fun k=>[(9, .d (vI (k:Nat))),(3, .rw 3)]) (fun k=>[(3,some (.b 252 14 ((i9 (rs.take k)).map fA) true))]) (fun k=>k<=rs.length) (fun k=>rs.length-k) 0 J (bZ _) (fun _=>J) (fun k hk=>?_);have het:((i9 (rs.take k)).map fA).length<=6*k:=by rw[aX];exact MC hrs k
 refine br J J J (fun hc10=>?_) (fun hc10=>?_)
 .
  obtain⟨r,hz⟩: ∃s,rs[k]? =some s:=⟨_,aZ (by omega)⟩;have hr:=hrs r (aV hz);have hel:((kO r).map fA).length<=6:=by rw[aX];have:=(BP hr).1;have:=hr.n6;omega
  refine ix _ J (cH hz) J<|cl J (S7 (r:=r) hr) J<|ap (hbd:=by omega) ((i9 (rs.take (k+1))).map fA) J (by rw[K3 hz,bV]) (yo _) J<|?_;refine fH 16 3 J ?_;exact at_ (k+1) ⟨(by omega),(by omega)⟩
 .
  obtain rfl:k=rs.length:=by omega
  rw[dQ];refine fz 3 J J<|cl J (Tg (n:=(i9 rs).length) (l:=i9 rs) (c:=[]) hrs (by omega) (XM _) hE.2 (VO (by have:=hE.1;omega)) (fun m h=>by cases h) (fun m h=>by cases h) (by have:=hE.1;rw[eX];omega)) J<|?_;refine cl J (K5 (t:=um rs fill) hraw.gd.lb hraw.gd.ok (by have:=hraw.dp;have:=hE.1;show(jP _ _ _ _).depth<=900;omega)) J<|?_;exact rz J J
def asS{b:Bool}:PF GB prog 91 [eT (.leaf b)] (eT (Tr.compl (.leaf b))):=by
 refine fn (fu:=⟨11⟩) func91 J J ntmps91 J J (fun C=>?_);refine c6 J J J<|cl J (Dv (p:=!b)) J<|?_;exact rz J J
def Wz{x:Tr}(ihx:PF GB prog 91 [eT x] (eT x.compl))(ihy:PF GB prog 91 [eT y] (eT y.compl)):PF GB prog 91 [eT (.node l x y)] (eT (Tr.compl (.node l x y))):=by
 refine fn (fu:=⟨11⟩) func91 J J ntmps91 J J (fun C=>?_);refine cd J J J<|cl J ihx J<|cl (fu:=⟨1⟩) J ihy J<|Ec J J<|?_;exact rz J J
def FE: ∀{t:Tr},PF GB prog 91 [eT t] (eT t.compl)
 | .leaf _=>asS
 | .node _ _ _=>Wz FE FE

def Ix:DV:= .v (.pointer none)
def MG(l:aa)(p q:DV):List DV:=[.v (.bool false), .v (.bool false), .v (.bool (decide (l.a<0))),dN l.a.natAbs, .v (.bool (decide (l.b<0))),dN l.b.natAbs, .v (.bool (decide (l.c<0))),dN l.c.natAbs,p,q]
inductive RF (ns:List RN):Int->(Nat->Bool)->DV->Bool->(Nat->Bool)->Prop where
 |leaf (b:Bool) (f:Nat->Bool):RF ns (rE b) f (eT (.leaf b)) true f
 |bad (rt:Int) (f:Nat->Bool) (h1:rt≠ -1) (h2:rt≠ -2) (h:rt<0\/(ns.length:Int)<=rt\/(∃k:Nat,rt=k/\k<ns.length/\f k=true)):RF ns rt f Ix false f
 |line (k:Nat) (n:RN) (f:Nat->Bool) (h:ns[k]? =some n) (hf:f k=false) (hl:n.g.ln=none):RF ns (k:Int) f Ix false (kp f k)
 |left (k:Nat) (n:RN) (l:aa) (f f2:Nat->Bool) (p:DV) (h:ns[k]? =some n) (hf:f k=false) (hl:n.g.ln=some l) (h1:RF ns n.l (kp f k) p false f2):RF ns (k:Int) f Ix false f2
 |node (k:Nat) (n:RN) (l:aa) (f f2 f3:Nat->Bool) (p q:DV) (ok:Bool) (h:ns[k]? =some n) (hf:f k=false) (hl:n.g.ln=some l) (h1:RF ns n.l (kp f k) p true f2) (h2:RF ns n.r f2 q ok f3):RF ns (k:Int) f (.pt (MG l p q)) ok f3
def RF.ptr{ok:Bool}(h:RF ns rt f p ok f')(hv:Is G p v): ∃a,v= .pointer a:=by
 cases h with
 |leaf=>obtain⟨b,m,e,_⟩:=li.1 hv;exact⟨_,e⟩
 |bad=>exact⟨_,aB.1 hv⟩
 |line=>exact⟨_,aB.1 hv⟩
 |left=>exact⟨_,aB.1 hv⟩
 |node=>obtain⟨b,m,e,_⟩:=li.1 hv;exact⟨_,e⟩
def OX{l1 l2 l3:List DV}(h:Is G (.ag [.v (.bool b1), .sl l1, .v (.bool b2), .sl l2, .v (.bool b3), .sl l3]) v): ∃x1 x2 x3:SV,v= .agg ⟨[.bool b1, .slice x1.a x1.n x1.c, .bool b2, .slice x2.a x2.n x2.c, .bool b3, .slice x3.a x3.n x3.c]⟩:=by
 obtain⟨m,rfl,g⟩:=d9.1 h;clear h;obtain⟨v1,m,rfl,h1,h⟩:=aI.1 g;obtain⟨v2,m,rfl,h2,h⟩:=aI.1 h;obtain⟨v3,m,rfl,h3,h⟩:=aI.1 h;obtain⟨v4,m,rfl,h4,h⟩:=aI.1 h;obtain⟨v5,m,rfl,h5,h⟩:=aI.1 h;obtain⟨v6,m,rfl,h6,h⟩:=aI.1 h;rw[dE] at h;subst h;obtain⟨_,x1,_,rfl,_,_⟩:=gw.1 h2;obtain⟨_,x2,_,rfl,_,_⟩:=gw.1 h4;obtain⟨_,x3,_,rfl,_,_⟩:=gw.1 h6;rw[aB.1 h1,aB.1 h3,aB.1 h5];exact⟨x1,x2,x3,J⟩
def GA{r:RL}(h:Is G (rD r) v): ∃(b1 b2 b3:Bool) (x1 x2 x3:SV),v= .tuple #[.agg ⟨[.bool b1, .slice x1.a x1.n x1.c, .bool b2, .slice x2.a x2.n x2.c, .bool b3, .slice x3.a x3.n x3.c]⟩, .bool r.ln.isSome]/\
  ∀l,r.ln=some l->Is G (eL l) (.agg ⟨[.bool b1, .slice x1.a x1.n x1.c, .bool b2, .slice x2.a x2.n x2.c, .bool b3, .slice x3.a x3.n x3.c]⟩):=by
 obtain⟨m,rfl,g⟩:=jj.1 h;obtain⟨v1,m,rfl,h1,h⟩:=aI.1 g;obtain⟨v2,m,rfl,h2,h⟩:=aI.1 h;rw[dE] at h;subst h;have e:decide (r.nm/\r.l.ok)=r.ln.isSome:=by
  unfold RL.ln;split
  .rename_i h;rw[decide_eq_true h];rfl
  .rename_i h;rw[decide_eq_false h];rfl
 rw[aB.1 h2,e];by_cases hn:r.nm
 .rw[if_pos hn] at h1
  obtain⟨x1,x2,x3,rfl⟩:=OX h1;refine⟨_,_,_,x1,x2,x3,J,fun l hl=>?_⟩;obtain⟨_,_,rfl⟩:=RL.ln_some hl;exact h1
 .rw[if_neg hn] at h1
  obtain⟨x1,x2,x3,rfl⟩:=OX h1;refine⟨_,_,_,x1,x2,x3,J,fun l hl=>?_⟩;exact absurd (RL.ln_some hl).1 hn
def MO{b:Bool}:IsLs G (cT (.leaf b)) [.bool true, .bool b, .bool false, .slice none 0 0, .bool false, .slice none 0 0, .bool false, .slice none 0 0, .pointer none, .pointer none]:=by
 have hs:Is G (.sl []) (.slice none 0 0):=gw.2 ⟨0,⟨none,0,0⟩,[],J, .nil G 0, .nil⟩;exact .cons (aB.2 J) (.cons (aB.2 J) (.cons (aB.2 J) (.cons hs (.cons (aB.2 J) (.cons hs (.cons (aB.2 J) (.cons hs (.cons (aB.2 J) (.cons (aB.2 J) .nil)))))))))
def Gk{acs:List Value}{o:Nat}{a b c d f l r:Value}(h:cw acs o 8=some [a,b,c,d,e,f,l,r]):cw acs (o+0) 6=some [a,b,c,d,e,f]/\acs[o+6]? =some l/\acs[o+7]? =some r:=by
 obtain⟨_,hg⟩:=qa _ _ _ _ h;have h7:=hg 7 (by decide);have hlen:=(aY.1 h7).1;refine⟨?_,hg 6 (by decide),h7⟩;rw[l8 _ _ _ (by omega)];congr 1;apply lR;intro i;rw[pK];split
 .rename_i hi
  rw[mX];have:=hg i (by omega);rw[fK,this]
  match i,hi with
  |0,_=>rfl
  |1,_=>rfl
  |2,_=>rfl
  |3,_=>rfl
  |4,_=>rfl
  |5,_=>rfl
 .rename_i hi
  rw[dY (by simp only[bJ,eX];omega)]
def VH{a b c d f:Value}(h:Is G (eL l) (.agg ⟨[a,b,c,d,e,f]⟩))(hp:Is G p v)(hq:Is G q w):IsLs G (MG l p q) [.bool false, .bool false,a,b,c,d,e,f,v,w]:=by
 obtain⟨m,e',g⟩:=d9.1 h
 cases e'
 obtain⟨h1,g⟩:=g.uncons;obtain⟨h2,g⟩:=g.uncons;obtain⟨h3,g⟩:=g.uncons;obtain⟨h4,g⟩:=g.uncons;obtain⟨h5,g⟩:=g.uncons;obtain⟨h6,g⟩:=g.uncons;exact .cons (aB.2 J) (.cons (aB.2 J) (.cons h1 (.cons h2 (.cons h3 (.cons h4 (.cons h5 (.cons h6 (.cons hp (.cons hq .nil)))))))))
def aDq{x:SV}(hx:Fy x ns A)(hs: ∀n∈ns,n.g.sm)(hn:ns.length<=1000000){ok:Bool}(h:RF ns rt f p ok f'): ∀{G:Gh} {sb:Nat} {lo2:Bool},[GL A G]->
  iE prog 184 [.agg ⟨[.int .i64 r0, .slice x.a x.n x.c]⟩, .int .i64 rt, .slice (some ⟨sb,0,none⟩) ns.length ns.length] [⟨sb,ge ns.length f,4,lo2⟩] G
   (fun v css G'=> ∃q,v= .tuple #[q, .bool ok]/\Is G' p q/\css=[ge ns.length f']):=by
 obtain⟨es,hx,hes⟩:=hx;have hel:=hes.len;rw[aX] at hel;have hlen:=hx.len;rw[hel] at hlen;obtain⟨xa,xn,xc⟩:=x;simp only[] at hlen;subst hlen
 induction h with
 |leaf bb f=>
  intro G sb lo2 _;refine iE.intro func184 J J ntmps184 J ?_;intro C _ _;show St C _ [(0, .agg ⟨[.int .i64 r0, .slice xa ns.length xc]⟩),(1, .int .i64 (rE bb)),(2, .slice (some ⟨sb,0,none⟩) ns.length ns.length)] [⟨sb,ge ns.length f,_,false⟩] _ _;refine sR<|?_;refine sc (p7 J J ?_);intro b1;refine sa J J<|sa J J<|zE<|bi<|sR<|sm J J<|sy (fk J J) J<|sm J J<|?_
  cases bb
  case true=>
   refine ss J J J J<|ss J J J J<|sy (m5 J J) J<|?_;refine zE<|js J<|sR<|sm J J<|sy (fk J J) J<|sy (wo J) J<|?_;refine sc (p7 J J ?_);intro b2;refine sa J J<|sa J J<|zE<|cg<|?_;refine nH b2 (.hd ..) ?_;intro G9 _ hfz;exact lj (css:=[_]) (.tmp J (.tmp J .nil)) J (_::[_]) (fJ (l₁:=[_]) (l₂:=[_])) (.cons_cons _ (fM _)) ⟨_,J,li.2 ⟨b2,_,J,hfz.h,MO⟩,J⟩
  refine aO J J (c8 J) J<|aO J J (fk J J) J<|sy (gm J J) J<|?_;refine zE<|js J<|sR<|sm J J<|sy (fk J J) J<|sy (wo J) J<|?_;refine sc (p7 J J ?_);intro b2;refine sa J J<|sa J J<|zE<|cg<|?_;refine nH b2 (.hd ..) ?_;intro G9 _ hfz;exact lj (css:=[_]) (.tmp J (.tmp J .nil)) J (_::[_]) (fJ (l₁:=[_]) (l₂:=[_])) (.cons_cons _ (fM _)) ⟨_,J,li.2 ⟨b2,_,J,hfz.h,MO⟩,J⟩
 |bad rt f h1 h2 h=>
  intro G sb lo2 _;refine iE.intro func184 J J ntmps184 J ?_;intro C _ _;show St C _ [(0, .agg ⟨[.int .i64 r0, .slice xa ns.length xc]⟩),(1, .int .i64 rt),(2, .slice (some ⟨sb,0,none⟩) ns.length ns.length)] [⟨sb,ge ns.length f,_,false⟩] _ _;refine sR<|?_;refine sc (p7 J J ?_);intro b1;refine sa J J<|sa J J<|zE<|bi<|sR<|sm J J<|sy (fk J J) J<|sm J J<|?_;refine iD 14 J (fun hg=>absurd hg (by omega)) (fun hg=>?_);refine aO J J (c8 J) J<|aO J J (fk J J) J<|sy (gm J J) J<|zE<|?_;refine fq J (fun hc=>absurd hc (by omega)) (fun _=>?_);refine zK<|bi<|sR<|sm J J<|sy (gG J J) J<|sm J J<|?_;refine iD 24 J (fun hg=>?_) (fun hg=>?_)
  .refine ss J J J J<|ss J J J J<|ss J J J J<|ss J J J J<|ss J J J J<|sy (m5 J J) J<|sm J J<|ss J J J J<|ss J J J J<|ss J J J J<|ss J J J J<|?_
   refine sy (m5 J J) J<|zE<|js J<|?_;refine sR<|sa J J<|sa J J<|zE<|cg<|?_;exact lj (css:=[_]) (.tmp J (.tmp J .nil)) J (_::[_]) (fJ (l₁:=[_]) (l₂:=[_])) (.cons_cons _ (fM _)) ⟨_,J,aB.2 J,J⟩
  refine aO J J (c8 J) J<|aO J J (mh J) J<|aO J J (ik J J) J<|aO J J (my J) J<|aO J J (qi J J) J<|sy (gm J J) J<|sm J J<|?_;refine iD 31 J (fun hg=>?_) (fun hg=>?_)
  .refine ss J J J J<|ss J J J J<|ss J J J J<|ss J J J J<|sy (m5 J J) J<|zE<|js J<|?_
   refine sR<|sa J J<|sa J J<|zE<|cg<|?_;exact lj (css:=[_]) (.tmp J (.tmp J .nil)) J (_::[_]) (fJ (l₁:=[_]) (l₂:=[_])) (.cons_cons _ (fM _)) ⟨_,J,aB.2 J,J⟩
  obtain⟨k,rfl,hk,hf⟩: ∃k:Nat,rt=k/\k<ns.length/\f k=true:=by
   rcases h with h|h|h
   .omega
   .exact absurd h hg
   .exact h
  refine aO J J (c8 J) J<|aO J J (c8 J) J<|aO J J (dO J J) J<|?_;refine aO J J (ik (v:= .bool true) J (by rw[aR,fV];exact ul hk hf)) J<|sy (gm J J) J<|zE<|js J<|?_;refine sR<|sa J J<|sa J J<|zE<|cg<|?_;exact lj (css:=[_]) (.tmp J (.tmp J .nil)) J (_::[_]) (fJ (l₁:=[_]) (l₂:=[_])) (.cons_cons _ (fM _)) ⟨_,J,aB.2 J,J⟩
 |line base n f h0 hfb hl=>
  intro G sb lo2 _;have hbn:base<ns.length:=(aY.1 h0).1;obtain⟨z,hzi,hz⟩:=hes.get (i:=base) (d:=n.d) (by rw[bS,h0];rfl);obtain⟨x1,x2,x3,rfl,hzg⟩:=AW hz;obtain⟨ab,aoff,acs,ha,hga,hca⟩:=hx.mem.resolve_left (fun e=>by rw[e] at hel;simp at hel;omega);simp only at ha;subst ha;haveI:pw A ab acs:=⟨hga⟩;obtain⟨hk0,hk6,hk7⟩:=Gk (by
   have h9:=hca base (by rw[hel];exact hbn);rw[show es[base]'(by rw[hel];exact hbn)=_ from Option.some.inj ((aZ (by rw[hel];exact hbn)).symm.trans hzi)] at h9;exact h9)
  refine iE.intro func184 J J ntmps184 J ?_;intro C _ _;show St C _ [(0, .agg ⟨[.int .i64 r0, .slice (some ⟨ab,aoff,none⟩) ns.length xc]⟩),(1, .int .i64 (base:Int)),(2, .slice (some ⟨sb,0,none⟩) ns.length ns.length)] [⟨sb,ge ns.length f,_,false⟩] _ _;refine sR<|?_;refine sc (p7 J J ?_);intro b1;refine sa J J<|sa J J<|zE<|bi<|sR<|sm J J<|sy (fk J J) J<|sm J J<|?_;refine iD 14 J (fun hg=>absurd hg (by omega)) (fun hg=>?_);refine aO J J (c8 J) J<|aO J J (fk J J) J<|sy (gm J J) J<|zE<|?_;refine fq J (fun hc=>absurd hc (by omega)) (fun _=>?_);refine zK<|bi<|sR<|sm J J<|sy (gG J J) J<|sm J J<|?_;refine iD 24 J (fun hg=>absurd hg (by omega)) (fun hg=>?_);refine aO J J (c8 J) J<|aO J J (mh J) J<|aO J J (ik J J) J<|aO J J (my J) J<|aO J J (qi J J) J<|sy (gm J J) J<|sm J J<|?_;refine iD 31 J (fun hg=>absurd hg (by omega)) (fun hg=>?_);refine aO J J (c8 J) J<|aO J J (c8 J) J<|aO J J (dO J J) J<|?_;refine aO J J (ik (v:= .bool false) J (by rw[aR,fV];exact ul hbn hfb)) J<|sy (gm J J) J<|zE<|mP J<|?_;refine zK<|sR<|sm J J<|sm J J<|sy (dO J J) J<|?_;refine sc (pG J J (.tl _ _ _ _ _ _ _ _ (.hd ..)) (by rw[ya,aR,fV];exact hbn) J J ?_);rw[aR,fV,BO];refine zE<|sR<|sf J J<|kv J J J<|sm J J<|sy (r7 J J) J<|?_;rw[aR];refine sf J J<|IF J hk0 J<|?_;refine sc (zC J J (PF.fn0 (FQ (hs n (aV h0))) (.cons (hzg.up GL.le) .nil)) J ?_);rintro _ G6 _ hw;obtain⟨c1,c2,c3,y1,y2,y3,rfl,hw'⟩:=GA hw;rw[hl];refine sm J J<|sx J J J<|sx J J J<|?_;refine sc (qg J ?_)
  intro b3;refine sc (vi J J J (by repeat (first|exact .hd .. |apply fC.tl)) J (nb J) J J ?_);refine sa J J<|zE<|bi<|sR<|sm J J<|sy (ph J) J<|zE<|?_;refine js J<|?_;refine sR<|sa J J<|sa J J<|zE<|cg<|?_;exact lj (css:=[_]) (.tmp J (.tmp J .nil)) J (_::[_,_]) (fJ (l₁:=[_,_]) (l₂:=[_])) (.cons_cons _ (fM _)) ⟨_,J,aB.2 J,J⟩
 |left base n l f f2 p h0 hfb hl h1 ih1=>
  intro G sb lo2 _;have hbn:base<ns.length:=(aY.1 h0).1;obtain⟨z,hzi,hz⟩:=hes.get (i:=base) (d:=n.d) (by rw[bS,h0];rfl);obtain⟨x1,x2,x3,rfl,hzg⟩:=AW hz;obtain⟨ab,aoff,acs,ha,hga,hca⟩:=hx.mem.resolve_left (fun e=>by rw[e] at hel;simp at hel;omega);simp only at ha;subst ha;haveI:pw A ab acs:=⟨hga⟩;obtain⟨hk0,hk6,hk7⟩:=Gk (by
   have h9:=hca base (by rw[hel];exact hbn);rw[show es[base]'(by rw[hel];exact hbn)=_ from Option.some.inj ((aZ (by rw[hel];exact hbn)).symm.trans hzi)] at h9;exact h9)
  refine iE.intro func184 J J ntmps184 J ?_;intro C _ _;show St C _ [(0, .agg ⟨[.int .i64 r0, .slice (some ⟨ab,aoff,none⟩) ns.length xc]⟩),(1, .int .i64 (base:Int)),(2, .slice (some ⟨sb,0,none⟩) ns.length ns.length)] [⟨sb,ge ns.length f,_,false⟩] _ _;refine sR<|?_;refine sc (p7 J J ?_);intro b1;refine sa J J<|sa J J<|zE<|bi<|sR<|sm J J<|sy (fk J J) J<|sm J J<|?_;refine iD 14 J (fun hg=>absurd hg (by omega)) (fun hg=>?_);refine aO J J (c8 J) J<|aO J J (fk J J) J<|sy (gm J J) J<|zE<|?_;refine fq J (fun hc=>absurd hc (by omega)) (fun _=>?_);refine zK<|bi<|sR<|sm J J<|sy (gG J J) J<|sm J J<|?_;refine iD 24 J (fun hg=>absurd hg (by omega)) (fun hg=>?_);refine aO J J (c8 J) J<|aO J J (mh J) J<|aO J J (ik J J) J<|aO J J (my J) J<|aO J J (qi J J) J<|sy (gm J J) J<|sm J J<|?_;refine iD 31 J (fun hg=>absurd hg (by omega)) (fun hg=>?_);refine aO J J (c8 J) J<|aO J J (c8 J) J<|aO J J (dO J J) J<|?_;refine aO J J (ik (v:= .bool false) J (by rw[aR,fV];exact ul hbn hfb)) J<|sy (gm J J) J<|zE<|mP J<|?_;refine zK<|sR<|sm J J<|sm J J<|sy (dO J J) J<|?_;refine sc (pG J J (.tl _ _ _ _ _ _ _ _ (.hd ..)) (by rw[ya,aR,fV];exact hbn) J J ?_);rw[aR,fV,BO];refine zE<|sR<|sf J J<|kv J J J<|sm J J<|sy (r7 J J) J<|?_;rw[aR];refine sf J J<|IF J hk0 J<|?_;refine sc (zC J J (PF.fn0 (FQ (hs n (aV h0))) (.cons (hzg.up GL.le) .nil)) J ?_);rintro _ G6 _ hw;obtain⟨c1,c2,c3,y1,y2,y3,rfl,hw'⟩:=GA hw;rw[hl];refine sm J J<|sx J J J<|sx J J J<|?_;refine sc (qg J ?_)
  intro b3;refine sc (vi J J J (by repeat (first|exact .hd .. |apply fC.tl)) J (nb J) J J ?_);refine sa J J<|zE<|bi<|sR<|sm J J<|sy (ph J) J<|zE<|?_;replace hw':=hw' l hl;refine mP J<|zK<|?_;show St C _ _ [⟨b3,[.bool c1, .slice y1.a y1.n y1.c, .bool c2, .slice y2.a y2.n y2.c, .bool c3, .slice y3.a y3.n y3.c],85,true⟩,⟨b1,[.int .i64 r0, .slice (some ⟨ab,aoff,none⟩) ns.length xc],71,true⟩,⟨sb,ge ns.length (kp f base),4,false⟩] _ _;refine bi<|uC [⟨b1,[.int .i64 r0, .slice (some ⟨ab,aoff,none⟩) ns.length xc],71,true⟩] (fun _=>false) [(0,true),(1,true),(2,true),(3,true),(4,true),(5,true),(6,true),(7,true),(8,false),(9,true),(10,true),(11,true),(12,true),(13,true)] follows (by kernel_rfl)<|?_;refine dL J J J J<|dF J J J<|pg J J J J<|dM J J J<|?_;refine dy J (fun _=>r7 J J) J J<|dF J J J<|?_;refine dy J (fun _=>p8 J tM (by rw[aR];exact hk6)) J J<|dM J J J<|?_;have hrp:=ih1 (G:=G6) (sb:=sb) (lo2:=false);refine dc J J (uO J J (M:=[_]) (rest:=[_,_]) (fJ (l₁:=[_,_]) (l₂:=[_])) hrp J ?_);rintro _ css G7 _ _ ⟨q1,rfl,hq1,rfl⟩;show St C _ _ [⟨sb,ge ns.length f2,4,false⟩,⟨b3,[.bool c1, .slice y1.a y1.n y1.c, .bool c2, .slice y2.a y2.n y2.c, .bool c3, .slice y3.a y3.n y3.c],85,true⟩,⟨b1,[.int .i64 r0, .slice (some ⟨ab,aoff,none⟩) ns.length xc],71,true⟩] _ _;refine kP<|dM J J J<|dy J (fun _=>uw J J) J J<|dy J (fun _=>uw J J) J J<|dA J J J<|?_;refine dA J J J<|dn<|?_;refine bi<|sR<|sm J J<|sy (ph J) J<|zE<|js J<|?_;refine sR<|sa J J<|sa J J<|zE<|cg<|?_;exact lj (css:=[_]) (.tmp J (.tmp J .nil)) J (_::[_,_]) (List.Perm.refl _) (.cons_cons _ (fM _)) ⟨_,J,aB.2 J,J⟩
 |node base n l f f2 f3 p q ok h0 hfb hl h1 h2 ih1 ih2=>
  intro G sb lo2 _;have hbn:base<ns.length:=(aY.1 h0).1;obtain⟨z,hzi,hz⟩:=hes.get (i:=base) (d:=n.d) (by rw[bS,h0];rfl);obtain⟨x1,x2,x3,rfl,hzg⟩:=AW hz;obtain⟨ab,aoff,acs,ha,hga,hca⟩:=hx.mem.resolve_left (fun e=>by rw[e] at hel;simp at hel;omega);simp only at ha;subst ha;haveI:pw A ab acs:=⟨hga⟩;obtain⟨hk0,hk6,hk7⟩:=Gk (by
   have h9:=hca base (by rw[hel];exact hbn);rw[show es[base]'(by rw[hel];exact hbn)=_ from Option.some.inj ((aZ (by rw[hel];exact hbn)).symm.trans hzi)] at h9;exact h9)
  refine iE.intro func184 J J ntmps184 J ?_;intro C _ _;show St C _ [(0, .agg ⟨[.int .i64 r0, .slice (some ⟨ab,aoff,none⟩) ns.length xc]⟩),(1, .int .i64 (base:Int)),(2, .slice (some ⟨sb,0,none⟩) ns.length ns.length)] [⟨sb,ge ns.length f,_,false⟩] _ _;refine sR<|?_;refine sc (p7 J J ?_);intro b1;refine sa J J<|sa J J<|zE<|bi<|sR<|sm J J<|sy (fk J J) J<|sm J J<|?_;refine iD 14 J (fun hg=>absurd hg (by omega)) (fun hg=>?_);refine aO J J (c8 J) J<|aO J J (fk J J) J<|sy (gm J J) J<|zE<|?_;refine fq J (fun hc=>absurd hc (by omega)) (fun _=>?_);refine zK<|bi<|sR<|sm J J<|sy (gG J J) J<|sm J J<|?_;refine iD 24 J (fun hg=>absurd hg (by omega)) (fun hg=>?_);refine aO J J (c8 J) J<|aO J J (mh J) J<|aO J J (ik J J) J<|aO J J (my J) J<|aO J J (qi J J) J<|sy (gm J J) J<|sm J J<|?_;refine iD 31 J (fun hg=>absurd hg (by omega)) (fun hg=>?_);refine aO J J (c8 J) J<|aO J J (c8 J) J<|aO J J (dO J J) J<|?_;refine aO J J (ik (v:= .bool false) J (by rw[aR,fV];exact ul hbn hfb)) J<|sy (gm J J) J<|zE<|mP J<|?_;refine zK<|sR<|sm J J<|sm J J<|sy (dO J J) J<|?_;refine sc (pG J J (.tl _ _ _ _ _ _ _ _ (.hd ..)) (by rw[ya,aR,fV];exact hbn) J J ?_);rw[aR,fV,BO];refine zE<|sR<|sf J J<|kv J J J<|sm J J<|sy (r7 J J) J<|?_;rw[aR];refine sf J J<|IF J hk0 J<|?_;refine sc (zC J J (PF.fn0 (FQ (hs n (aV h0))) (.cons (hzg.up GL.le) .nil)) J ?_);rintro _ G6 _ hw;obtain⟨c1,c2,c3,y1,y2,y3,rfl,hw'⟩:=GA hw;rw[hl];refine sm J J<|sx J J J<|sx J J J<|?_;refine sc (qg J ?_)
  intro b3;refine sc (vi J J J (by repeat (first|exact .hd .. |apply fC.tl)) J (nb J) J J ?_);refine sa J J<|zE<|bi<|sR<|sm J J<|sy (ph J) J<|zE<|?_;replace hw':=hw' l hl;refine mP J<|zK<|?_;show St C _ _ [⟨b3,[.bool c1, .slice y1.a y1.n y1.c, .bool c2, .slice y2.a y2.n y2.c, .bool c3, .slice y3.a y3.n y3.c],85,true⟩,⟨b1,[.int .i64 r0, .slice (some ⟨ab,aoff,none⟩) ns.length xc],71,true⟩,⟨sb,ge ns.length (kp f base),4,false⟩] _ _;refine bi<|uC [⟨b1,[.int .i64 r0, .slice (some ⟨ab,aoff,none⟩) ns.length xc],71,true⟩] (fun _=>false) [(0,true),(1,true),(2,true),(3,true),(4,true),(5,true),(6,true),(7,true),(8,false),(9,true),(10,true),(11,true),(12,true),(13,true)] follows (by kernel_rfl)<|?_;refine dL J J J J<|dF J J J<|pg J J J J<|dM J J J<|?_;refine dy J (fun _=>r7 J J) J J<|dF J J J<|?_;refine dy J (fun _=>p8 J tM (by rw[aR];exact hk6)) J J<|dM J J J<|?_;have hrp:=ih1 (G:=G6) (sb:=sb) (lo2:=false);refine dc J J (uO J J (M:=[_]) (rest:=[_,_]) (fJ (l₁:=[_,_]) (l₂:=[_])) hrp J ?_);rintro _ css G7 _ _ ⟨q1,rfl,hq1,rfl⟩;show St C _ _ [⟨sb,ge ns.length f2,4,false⟩,⟨b3,[.bool c1, .slice y1.a y1.n y1.c, .bool c2, .slice y2.a y2.n y2.c, .bool c3, .slice y3.a y3.n y3.c],85,true⟩,⟨b1,[.int .i64 r0, .slice (some ⟨ab,aoff,none⟩) ns.length xc],71,true⟩] _ _;refine kP<|dM J J J<|dy J (fun _=>uw J J) J J<|dy J (fun _=>uw J J) J J<|dA J J J<|?_;refine dA J J J<|dn<|?_;refine bi<|sR<|sm J J<|sy (ph J) J<|zE<|mP J<|zK<|?_;refine bi<|uC [⟨b1,[.int .i64 r0, .slice (some ⟨ab,aoff,none⟩) ns.length xc],71,true⟩] (fun _=>false) [(0,true),(1,true),(2,true),(3,true),(4,true),(5,true),(6,true),(7,true),(8,false),(9,true),(10,true),(11,true),(12,true),(13,true)] follows (by kernel_rfl)<|?_
  refine dL J J J J<|dF J J J<|pg J J J J<|dM J J J<|?_;refine dy J (fun _=>r7 J J) J J<|dF J J J<|?_;refine dy J (fun _=>p8 J tM (by rw[aR];exact hk7)) J J<|dM J J J<|?_;have hrp:=ih2 (G:=G7) (sb:=sb) (lo2:=false);refine dc J J (uO J J (M:=[_]) (rest:=[_,_]) (List.Perm.refl _) hrp J ?_);rintro _ css G8 _ _ ⟨q2,rfl,hq2,rfl⟩;show St C _ _ [⟨sb,ge ns.length f3,4,false⟩,⟨b3,[.bool c1, .slice y1.a y1.n y1.c, .bool c2, .slice y2.a y2.n y2.c, .bool c3, .slice y3.a y3.n y3.c],85,true⟩,⟨b1,[.int .i64 r0, .slice (some ⟨ab,aoff,none⟩) ns.length xc],71,true⟩] _ _;refine kP<|dM J J J<|dy J (fun _=>uw J J) J J<|dy J (fun _=>uw J J) J J<|dA J J J<|?_;refine dA J J J<|dn<|?_;obtain⟨a1,rfl⟩:=h1.ptr hq1;obtain⟨a2,rfl⟩:=h2.ptr hq2;refine sR<|B7 J J J<|sm J J<|sm J J<|sy (wo J) J<|?_;refine sc (p7 J J ?_);intro b6;refine sm J J<|sa J J<|sa J J<|zE<|cg<|?_;refine nH b6 (.hd ..) ?_;intro G9 _ hfz;exact lj (css:=[_]) (.tmp J (.tmp J .nil)) J (_::[_,_]) (List.Perm.refl _) (.cons_cons _ (fM _)) ⟨_,J,li.2 ⟨b6,_,J,hfz.h,VH (hw'.up GL.le) (hq1.up GL.le) (hq2.up GL.le)⟩,J⟩
def uu(n:Nat)(f:Nat->Bool):Bool:=(List.range n).all f
def N7:uu (n+1) f=(uu n f&&f n):=by
 unfold uu;rw[pM,List.all_append];simp
def VV{ok:Bool}(hs: ∀n∈ns,n.g.sm)(hn:ns.length<=65536)(h:RF ns rt (fun _=>false) p ok f):PF GB prog 98 [vA rt ns] (.tp [p,vB (ok&&uu ns.length f)]):=by
 intro G vs _ hv;obtain⟨v0,m,rfl,h0,hm⟩:=aI.1 hv;rw[dE] at hm;subst hm;obtain⟨m,rfl,g⟩:=d9.1 h0;obtain⟨v1,m,rfl,h1,hm⟩:=aI.1 g;obtain⟨v2,m,rfl,h2,hm⟩:=aI.1 hm;rw[dE] at hm;subst hm;obtain⟨s0,x,es,rfl,hsl,hes⟩:=gw.1 h2;rw[aB.1 h1];have hel:=hes.len;rw[aX] at hel;have hlen:=hsl.len;rw[hel] at hlen;have hx:Fy x ns G:=by
  refine⟨es,?_,hes⟩;rcases Ad (s:=8) hsl hes (fun d hd=>by obtain⟨n,_,rfl⟩:=aT.1 hd;exact⟨rfl,rfl⟩) with e|e
  .exact⟨hsl.len,hsl.cap, .inl e⟩
  .rw[e] at hsl;exact hsl
 obtain⟨xa,xn,xc⟩:=x;simp only[] at hlen;subst hlen;show Fn _ _ [.agg ⟨[.int .i64 rt, .slice xa ns.length xc]⟩] _ _;refine Fn.intro func98 J J ntmps98 J ?_;intro C _ _;refine sR<|?_;refine sc (p7 J J ?_);intro b1;refine sa J J<|sa J J<|zE<|bi<|sR<|sf J J<|kv J J J<|cB J J<|sy (q7 J J) J<|zE<|?_;refine fq J (fun hc=>absurd hc (by omega)) (fun _=>?_);refine zK<|sR<|sf J J<|kv J J J<|cB J J<|?_;refine sc (s9 J J (by omega) (by omega) (by omega) (by rfl) J ?_);intro b2;rw[aR,LX];refine sa J J<|zE<|sR<|B7 J J J<|sf J J<|kv J J J<|sm J J<|?_;have hrp:=aDq (r0:=rt) hx hs (by omega) h (G:=G) (sb:=b2) (lo2:=true);refine sc (uO J J (M:=[_]) (rest:=[_]) (List.Perm.refl _) hrp J ?_);rintro _ css G3 _ _ ⟨q,rfl,hq,rfl⟩;show St C _ _ [⟨b2,ge ns.length f,4,true⟩,⟨b1,[.int .i64 rt, .slice xa ns.length xc],71,true⟩] _ _;refine sm J J<|sx J J J<|sx J J J<|sa J J<|sa J J<|zE<|bi<|sR<|sm J J<|cB J J<|sm J J<|zE<|du<|?_;refine lx (X:=Nat) (fun i=>[(27, .int .i64 (i:Nat)),(26, .int .i64 ns.length),(25, .slice (some ⟨b2,0,none⟩) ns.length ns.length),(6, .bool (ok&&uu i f)),(5,q)]) (fun _=>[⟨b2,ge ns.length f,4,true⟩,⟨b1,[.int .i64 rt, .slice xa ns.length xc],71,true⟩]) (fun i _=>i<=ns.length) (fun i=>ns.length-i) 0 (bZ _) (.cons J (.cons J (.cons J (.cons (by show some (Value.bool ok)=some (.bool (ok&&true));rw[Bool.and_true]) (.cons J .nil))))) J ?_;rintro i Gx _ hi;refine sR<|sy (gG J J) J<|zE<|bi<|?_;refine lB J (fun hc=>?_) (fun hc=>?_)
 .obtain rfl:i=ns.length:=by omega
  refine jl<|dP<|dP<|jg<|sR<|sm J J<|sm J J<|sa J J<|sa J J<|zE<|cg<|?_;exact zD (.tmp J (.tmp J .nil)) (jj.2 ⟨_,J, .cons (hq.up GL.le) (.cons (aB.2 J) .nil)⟩)
 have hi':i<ns.length:=by omega
 refine zK<|bi<|du<|sR<|sy (dO J J) J<|?_;refine sy (ik (v:= .bool (f i)) J (by rw[aR,fV];exact ul hi' J)) J<|sa J J<|zE<|dl<|sm J J<|sm J J<|?_;refine P9 32 J (fun hg=>?_) (fun hg=>?_)
 .refine aO J J (c8 J) J<|sy (m5 J J) J<|sa J J<|zE<|dl<|sy (dt J J) J<|sm J J<|zE<|?_
  exact i7 (i+1) hi' (by omega) (.cons (by show some (Value.int _ _)=some (.int _ _);congr 2) (.cons J (.cons J (.cons (by show some (Value.bool (f i))=some (.bool _);rw[N7,<-Bool.and_assoc,hg,pN]) (.cons J .nil))))) J
 refine ss J J J J<|sy (gm J J) J<|sa J J<|zE<|dl<|sy (dt J J) J<|sm J J<|zE<|?_;exact i7 (i+1) hi' (by omega) (.cons (by show some (Value.int _ _)=some (.int _ _);congr 2) (.cons J (.cons J (.cons (by show some (Value.bool false)=some (.bool _);rw[N7,<-Bool.and_assoc,hg,Bool.false_and]) (.cons J .nil))))) J
def RR.bm{s:RS}(h:RR ns rt s t s'):s.b=true->s'.b=true:=by
 induction h with
 |leaf=>exact id
 |bad=>exact fun _=>J
 |line=>exact fun _=>J
 |node k n l s s2 s3 x y h hf hl h1 h2 i1 i2=>exact fun e=>i2 (i1 e)
def RR.rf{s:RS}(h:RR ns rt s t s'):s.b=false-> ∃p ok f',RF ns rt s.f p ok f'/\(ok=true↔s'.b=false)/\(ok=true->f'=s'.f/\p=eT t):=by
 induction h with
 |leaf b s=>exact fun e=>⟨_,true,_, .leaf b s.f,⟨fun _=>e,fun _=>J⟩,fun _=>⟨J,J⟩⟩
 |bad rt s h1 h2 h=>exact fun e=>⟨_,false,_, .bad rt s.f h1 h2 h,⟨fun e=>(by cases e),fun e=>(by cases e)⟩,fun e=>(by cases e)⟩
 |line k n s h hf hl=>exact fun e=>⟨_,false,_, .line k n s.f h hf hl,⟨fun e=>(by cases e),fun e=>(by cases e)⟩,fun e=>(by cases e)⟩
 |node k n l s s2 s3 x y h hf hl h1 h2 i1 i2=>
  intro e;obtain⟨p,ok,f2,g1,g2,g3⟩:=i1 e
  cases ok with
  |false=>
   have hb:s2.b=true:=by
    cases hh:s2.b with
    |true=>rfl
    |false=>exact absurd (g2.2 hh) (by decide)
   have hb3:=h2.bm hb;exact⟨_,false,_, .left k n l s.f f2 p h hf hl g1,⟨fun e=>(by cases e),fun e=>(by rw[hb3] at e;cases e)⟩,fun e=>(by cases e)⟩
  |true=>
   obtain⟨rfl,rfl⟩:=g3 rfl;obtain⟨q,ok2,f3,k1,k2,k3⟩:=i2 (g2.1 rfl);exact⟨_,ok2,f3, .node k n l s.f s2.f f3 _ q ok2 h hf hl g1 k1,k2,fun e=>⟨(k3 e).1,by rw[(k3 e).2];rfl⟩⟩
def LD:qn n f=0↔uu n f=true:=by
 unfold qn uu;rw[List.length_eq_zero_iff,List.filter_eq_nil_iff,dK];simp
def Uk(hs: ∀n∈ns,n.g.sm)(hn:ns.length<=65536): ∃p,(∀GB,PF GB prog 98 [vA rt ns] (.tp [p,vB (tg ns rt).isSome]))/\ ∀t,tg ns rt=some t->p=eT t:=by
 have h:=AX (ns:=ns) (m:=ns.length+1) (rt:=rt) (s:=ki) (by have:=Du ns.length ki.f;omega);obtain⟨p,ok,f,h1,h2,h3⟩:=h.1.rf rfl;have hq:=fun GB=>VV (GB:=GB) hs hn h1;have hu:qn ns.length ki.f=ns.length:=by
  unfold qn;have e:((List.range ns.length).filter fun j=>!ki.f j)=List.range ns.length:=List.filter_eq_self.2 fun _ _=>J;rw[e,lQ]
 have hc:=h.2;have h0:ki.c=0:=J;rw[hu,h0,eJ] at hc;unfold tg;simp only
 cases ok with
 |false=>
  have hb:(nB ns (ns.length+1) rt ki).2.b=true:=by
   cases hh:(nB ns (ns.length+1) rt ki).2.b with
   |true=>rfl
   |false=>exact absurd (h2.2 hh) (by decide)
  rw[if_neg (fun e=>by rw[hb] at e;cases e.1)];exact⟨p,fun GB=>hq GB,fun t e=>by cases e⟩
 |true=>
  obtain⟨rfl,rfl⟩:=h3 rfl;have hb:=h2.1 J;by_cases hk:uu ns.length (nB ns (ns.length+1) rt ki).2.f=true
  .have:=LD.2 hk
   rw[if_pos ⟨hb,by omega⟩];refine⟨_,fun GB=>?_,fun t e=>by cases e;rfl⟩;have:=hq GB;rw[hk] at this;exact this
  .have hk':uu ns.length (nB ns (ns.length+1) rt ki).2.f=false:=by simpa using hk
   have:=fun e=>hk (LD.1 e);rw[if_neg (fun e=>this (by omega))];refine⟨eT (nB ns (ns.length+1) rt ki).1,fun GB=>?_,fun t e=>(by cases e)⟩;have:=hq GB;rw[hk'] at this;exact this
def RN.of(n:NQ):RN:=⟨⟨decide (n.l.a<0),dg n.l.a.natAbs,decide (n.l.b<0),dg n.l.b.natAbs,decide (n.l.c<0),dg n.l.c.natAbs⟩,n.a,n.b⟩
def aIw(ns:List NQ):ns.map eN=(ns.map RN.of).map RN.d:=by
 rw[List.map_map];rfl
def Nu(t:Tr):eA t=vA (t.num 0) ((t.wr 0).map RN.of):=by
 unfold eA vA;rw[aIw];rfl
def ZO(a:Int):oF (decide (a<0)) (dg a.natAbs)=a:=by
 unfold oF;rw[(eg _).1];split
 .rename_i h;have:=of_decide_eq_true h;omega
 .rename_i h;have: ¬a<0:=fun e=>h (decide_eq_true e);omega
def Gr(a:Int):gn (decide (a<0)) (dg a.natAbs):=⟨(eg _).2.2,fun h=>wh.2 (by have:=of_decide_eq_true h;omega)⟩
def RN.of_l(n:NQ):(RN.of n).g.l=n.l:=by
 unfold RN.of RL.l;simp only[ZO]
def RN.of_ln{n:NQ}(h:n.l.ok):(RN.of n).g.ln=some n.l:=by
 unfold RL.ln;rw[if_pos ⟨⟨Gr _,Gr _,Gr _⟩,by rw[RN.of_l];exact h⟩,RN.of_l]
def RN.of_sm{n:NQ}(h:LB n.l):(RN.of n).g.sm:=by
 have key: ∀a:Int,a.natAbs<2^96->bB (dg a.natAbs)/\(dg a.natAbs).length<=3:=fun a ha=>⟨(eg _).2.1,by have:=lc ha;omega⟩;exact⟨key _ h.bl.a,key _ h.bl.b,key _ h.bl.c⟩
def EE(b:Bool)(k:Nat):rE b≠(k:Int):=by cases b<;>(unfold rE;simp)
def RR.det{s:RS}(h:RR ns rt s t1 s1): ∀{s2:RS} {t2:Tr},RR ns rt s t2 s2->t1=t2/\s1=s2:=by
 induction h with
 |leaf b s=>
  intro s2 t2 h;generalize hr:rE b=r at h
  cases h with
  |leaf b' s=>
   have:b=b':=by cases b<;>cases b'<;>first|rfl|(simp[rE] at hr)
   subst this;exact⟨J,J⟩
  |bad rt s h1 h2 h=>cases b<;>simp[rE] at hr<;>omega
  |line k=>exact absurd hr (EE _ _)
  |node k=>exact absurd hr (EE _ _)
 |bad rt s h1 h2 h=>
  intro s2 t2 h'
  cases h' with
  |leaf b s=>cases b<;>simp[rE] at h1 h2
  |bad=>exact⟨J,J⟩
  |line k n s hn hf=>
   have:=(aY.1 hn).1;rcases h with h|h|⟨j,e,_,hj⟩
   .omega
   .omega
   .have:j=k:=by omega
    subst this;rw[hf] at hj;cases hj
  |node k n l s s2 s3 x y hn hf=>
   have:=(aY.1 hn).1;rcases h with h|h|⟨j,e,_,hj⟩
   .omega
   .omega
   .have:j=k:=by omega
    subst this;rw[hf] at hj;cases hj
 |line k n s hn hf hl=>
  intro s2 t2 h';generalize hr:(k:Int)=r at h'
  cases h' with
  |leaf b s=>exact absurd hr.symm (EE _ _)
  |bad rt s h1 h2 h=>
   have:=(aY.1 hn).1;rcases h with h|h|⟨j,e,_,hj⟩
   .omega
   .omega
   .have:j=k:=by omega
    subst this;rw[hf] at hj;cases hj
  |line k' n' s hn' hf' hl'=>
   have:k=k':=by omega
   subst this;exact⟨J,J⟩
  |node k' n' l s s2 s3 x y hn' hf' hl'=>
   have:k=k':=by omega
   subst this;rw[hn] at hn';cases hn';rw[hl] at hl';cases hl'
 |node k n l s s2 s3 x y hn hf hl h1 h2 i1 i2=>
  intro s4 t4 h';generalize hr:(k:Int)=r at h'
  cases h' with
  |leaf b s=>exact absurd hr.symm (EE _ _)
  |bad rt s h1 h2 h=>
   have:=(aY.1 hn).1;rcases h with h|h|⟨j,e,_,hj⟩
   .omega
   .omega
   .have:j=k:=by omega
    subst this;rw[hf] at hj;cases hj
  |line k' n' s hn' hf' hl'=>
   have:k=k':=by omega
   subst this;rw[hn] at hn';cases hn';rw[hl] at hl';cases hl'
  |node k' n' l' s s2' s3' x' y' hn' hf' hl' h1' h2'=>
   have:k=k':=by omega
   subst this;rw[hn] at hn';cases hn';rw[hl] at hl';cases hl';obtain⟨rfl,rfl⟩:=i1 h1';obtain⟨rfl,rfl⟩:=i2 h2';exact⟨J,J⟩
def qd(ns:List NQ):Tr->Int->List Nat->Prop
 | .leaf b,rt,L=>rt=rE b/\L=[]
 | .node l x y,rt,L=> ∃(k:Nat) (a b:Int) (L1 L2:List Nat),rt=(k:Int)/\ns[k]? =some ⟨l,a,b⟩/\qd ns x a L1/\qd ns y b L2/\L=k::(L1++L2)
def qd.rr{ns:List NQ}: ∀{t:Tr} {rt:Int} {L:List Nat} {s:RS},qd ns t rt L->t.all aa.ok->L.Nodup->(∀j∈L,s.f j=false)-> ∃f,RR (ns.map RN.of) rt s t ⟨f,s.c+t.size,s.b⟩/\ ∀j,j∉L->f j=s.f j
 | .leaf b,rt,L,s,⟨e,e2⟩,_,_,_=>by
  subst e e2;exact⟨s.f, .leaf b s,fun _ _=>J⟩
 | .node l x y,rt,L,s,⟨k,a,b,L1,L2,e,hk,hx,hy,e2⟩,⟨h0,h1,h2⟩,hnd,hf=>by
  subst e e2;obtain⟨hkn,hnd⟩:=List.nodup_cons.1 hnd;obtain⟨hd1,hd2,hdis⟩:=List.nodup_append.1 hnd;have hfk:=hf k aQ;have hn1: ∀j∈L1,j≠k:=fun j hj e=>hkn (e▸bU _ hj);have hn2: ∀j∈L2,j≠k:=fun j hj e=>hkn (e▸bK _ hj);obtain⟨f1,r1,g1⟩:=qd.rr (s:=⟨kp s.f k,s.c+1,s.b⟩) hx h1 hd1 (fun j hj=>by simp only;rw[Cn (hn1 j hj)];exact hf j (aJ _ (bU _ hj)));simp only at r1 g1;obtain⟨f2,r2,g2⟩:=qd.rr (s:=⟨f1,s.c+1+x.size,s.b⟩) hy h2 hd2 (fun j hj=>by
   simp only;rw[g1 j (fun h=>hdis _ h _ hj J),Cn (hn2 j hj)];exact hf j (aJ _ (bK _ hj)))
  simp only at r2 g2;have hc:s.c+(Tr.node l x y).size=s.c+1+x.size+y.size:=by simp only[Tr.size];omega
  rw[hc];refine⟨f2, .node k (RN.of ⟨l,a,b⟩) l s _ _ x y (by rw[bS,hk];rfl) hfk (RN.of_ln h0) r1 r2,fun j hj=>?_⟩;simp only[aW,bW,not_or] at hj;rw[g2 j hj.2.2,g1 j hj.2.1,Cn hj.1]
def qd.len{ns:List NQ}: ∀{t:Tr} {rt:Int} {L:List Nat},qd ns t rt L->L.length=t.size
 | .leaf _,_,_,⟨_,h⟩=>by rw[h];rfl
 | .node l x y,_,_,⟨k,a,b,L1,L2,_,_,h1,h2,h⟩=>by
  rw[h,bJ,aU,qd.len h1,qd.len h2];simp only[Tr.size];omega
def RD'(ns:List NQ)(t:Tr)(rt:Int):Prop:= ∃L,qd ns t rt L/\L.Nodup/\L.length=ns.length
def aEw{ns:List NQ}(h:RD' ns t rt)(ho:t.all aa.ok):tg (ns.map RN.of) rt=some t:=by
 obtain⟨L,h1,h2,h3⟩:=h;obtain⟨f,r,_⟩:=h1.rr (s:=ki) ho h2 (fun _ _=>rfl);have hr:=AX (ns:=ns.map RN.of) (m:=(ns.map RN.of).length+1) (rt:=rt) (s:=ki) (by have:=Du (ns.map RN.of).length ki.f;omega);obtain⟨e1,e2⟩:=hr.1.det r;unfold tg;simp only;rw[e2,e1,if_pos ⟨J,by show ki.c+t.size=_;rw[aX,<-h3,h1.len];show 0+_=_;omega⟩]
def JG{ns:List NQ}: ∀{t:Tr} {n:Nat},(∀i,i<t.size->ns[n+i]? =(t.wr n)[i]?)->qd ns t (t.num n) (List.range' n t.size)
 | .leaf b,n,_=>⟨J,J⟩
 | .node l x y,n,h=>by
  have hsz:(Tr.node l x y).size=1+x.size+y.size:=J;have hw:(Tr.node l x y).wr n=⟨l,x.num (n+1),y.num (n+1+x.size)⟩::(x.wr (n+1)++y.wr (n+1+x.size)):=by simp[Tr.wr]
  have hx:=x.wr_len (n+1);have hy:=y.wr_len (n+1+x.size);refine⟨n,x.num (n+1),y.num (n+1+x.size),List.range' (n+1) x.size,List.range' (n+1+x.size) y.size,J,?_,JG fun i hi=>?_,JG fun i hi=>?_,?_⟩
  .have:=h 0 (by omega)
   rw[hw,fK] at this;rw[this];rfl
  .have:=h (1+i) (by omega)
   rw[hw,kR 1 i,List.getElem?_cons_succ,jX (by omega)] at this;rw[show n+1+i=n+(i+1) by omega];exact this
  .have:=h (1+x.size+i) (by omega)
   rw[hw,show 1+x.size+i=(x.size+i)+1 by omega,List.getElem?_cons_succ,jT (by omega),hx,Nat.add_sub_cancel_left] at this;rw[show n+1+x.size+i=n+(x.size+i+1) by omega];exact this
  .rw[hsz,show 1+x.size+y.size=(x.size+y.size)+1 by omega,List.range'_succ,List.range'_append_1]
def H5(ho:t.all aa.ok):tg ((t.wr 0).map RN.of) (t.num 0)=some t:=
 aEw ⟨_,JG (n:=0) (fun i _=>by rw[eJ]),List.nodup_range',by rw[List.length_range',t.wr_len]⟩ ho
def Nf(hb:t.all LB): ∀n∈(t.wr 0).map RN.of,n.g.sm:=fun n hn=>by
 obtain⟨m,hm,rfl⟩:=aT.1 hn;exact RN.of_sm (Tr.all_wr 0 hb m hm)
def Tr.all_imp{p q:aa->Prop}(h: ∀l,p l->q l): ∀{t:Tr},t.all p->t.all q
 | .leaf _,_=>trivial
 | .node _ _ _,⟨h0,h1,h2⟩=>⟨h _ h0,Tr.all_imp h h1,Tr.all_imp h h2⟩
def Lv(hs:t.size<=65536):((t.wr 0).map RN.of).length<=65536:=by rw[aX,t.wr_len];exact hs
def ie.red_size(h:ie k t)(hr:t.Red []):t.size<=k*(1+k):=by
 obtain⟨K,h1,h2,h3⟩:=h.am;exact cS (Tr.size_le h2 hr h.gd.ok bD.nil h3) (gX h1 (by omega))
structure fB (k:Nat) (t:Tr):Prop where
 o:ie k t
 s:t.size<=3000
def fB.gd{k:Nat}{t:Tr}(h:fB k t):t.gd:=h.o.gd
def fB.lb{k:Nat}{t:Tr}(h:fB k t):t.all LB:=h.o.gd.lb
def fB.ok{k:Nat}{t:Tr}(h:fB k t):t.all aa.ok:=h.o.gd.ok
def fB.bl{k:Nat}{t:Tr}(h:fB k t):t.all (fun l=>BL l 96):=Tr.all_imp (fun _ h=>h.bl) h.o.gd.lb
def fB.compl{k:Nat}{t:Tr}(h:fB k t):fB k t.compl:=⟨h.o.compl,by rw[t.compl_size];exact h.s⟩
def ie.x(h:ie k t)(hr:t.Red [])(hk:k<=54):fB k t:=
 ⟨h,cS (h.red_size hr) (cS (gX hk (show 1+k<=55 by omega)) (by decide))⟩
def fB.lim{j k:Nat}{op:Int}{t u:Tr}(h:fB j t)(hu:fB k u)(hk:j+k<=200):lG op t u=some (t.mergeQ op u []):=h.o.lim hu.o hk
def D1(rs:List (List ZP))(fill:Int):(fI rs fill).Red []:=Tr.restrict_red _ _
def jd(r:List ZP)(i k:Nat):Bool:=decide (k=i)||decide (k=(i+1)%r.length)||decide (0<nI (r.getD i (0,0)).q (iC r i).q (r.getD k (0,0)).q)
def CY(r:List ZP):Bool:=(List.range r.length).all fun i=>(List.range r.length).all fun k=>jd r i k
def Mc(hi:i<r.length)(hk:k<r.length)(h:jd r i k=false):CY r=false:=by
 rw[Bool.eq_false_iff];intro e;have:=(dK.1 ((dK.1 e) i (kQ.2 hi))) k (kQ.2 hk);rw[h] at this;cases this
def Rs(h: ∀i,i<r.length-> ∀k,k<r.length->jd r i k=true):CY r=true:=
 dK.2 fun i hi=>dK.2 fun k hk=>h i (kQ.1 hi) k (kQ.1 hk)
def Ke(a b c:ZP):nI a.q b.q c.q=(kd (b.1-a.1,b.2-a.2) (c.1-a.1,c.2-a.2)).sign:=by
 have e:ah.cross (cD b.q a.q (-1)) (cD c.q a.q (-1))=((kd (b.1-a.1,b.2-a.2) (c.1-a.1,c.2-a.2):Int):Rat):=by
  unfold ah.cross cD kd ZP.q iP;push_cast;grind
 unfold nI;rw[e,oZ]
def Kv{a:Int}:0<a.sign↔0<a:=by
 rcases qJ a 0 with h|h|h
 .rw[fZ h];omega
 .subst h;simp
 .rw[fS h];omega
def UC{p v:ZP}:CY (gu p u v)=decide (0<kd u v):=by
 obtain⟨p1,p2⟩:=p;obtain⟨u1,u2⟩:=u;obtain⟨v1,v2⟩:=v;have e1:jd (gu (p1,p2) (u1,u2) (v1,v2)) 0 2=decide (0<kd (u1,u2) (v1,v2)):=by
  unfold jd iC gu kC;simp only[bJ,eX,rQ,oR,Nat.reduceAdd,Nat.reduceMod,Ke,Kv];simp[kd];congr 2
  all_goals (first|omega|grind)
 have e2:jd (gu (p1,p2) (u1,u2) (v1,v2)) 1 0=decide (0<kd (u1,u2) (v1,v2)):=by
  unfold jd iC gu kC;simp only[bJ,eX,rQ,oR,Nat.reduceAdd,Nat.reduceMod,Ke,Kv];simp[kd];constructor<;>intro h<;>grind
 have e3:jd (gu (p1,p2) (u1,u2) (v1,v2)) 2 1=decide (0<kd (u1,u2) (v1,v2)):=by
  unfold jd iC gu kC;simp only[bJ,eX,rQ,oR,Nat.reduceAdd,Nat.reduceMod,Ke,Kv];simp[kd];constructor<;>intro h<;>grind
 by_cases h:0<kd (u1,u2) (v1,v2)
 .rw[decide_eq_true h] at e1 e2 e3⊢
  refine Rs fun i hi k hk=>?_;have hl:(gu (p1,p2) (u1,u2) (v1,v2)).length=3:=J;rw[hl] at hi hk;have hs: ∀j,jd (gu (p1,p2) (u1,u2) (v1,v2)) j j=true:=fun j=>by unfold jd;simp
  have hn: ∀j,jd (gu (p1,p2) (u1,u2) (v1,v2)) j ((j+1)%3)=true:=fun j=>by unfold jd;simp[hl]
  have h1:i=0\/i=1\/i=2:=by omega
  have h2:k=0\/k=1\/k=2:=by omega
  rcases h1 with rfl|rfl|rfl<;>rcases h2 with rfl|rfl|rfl<;>first|assumption|exact hs _|exact hn _
 .rw[decide_eq_false h] at e1⊢
  exact Mc (i:=0) (k:=2) (by simp[gu]) (by simp[gu]) e1
def Wt(hle: ∀p∈r,ZP.le 100 p)(h6:r.length<=6):PF GB prog 92 [.sl (r.map pf)] (vB (CY r)):=by
 have hm:=et pf r;refine fn (fu:=⟨9⟩) func92 J J ntmps92 J J (fun C=>?_);refine ak 7 (.d (vI (r.length:Nat))) J (by rw[hm]<;>rfl) ?_;refine gx (fu:=⟨8⟩) J<|?_;refine ak 9 (.d (vI (r.length:Nat))) J (by rw[hm]<;>rfl) ?_;refine gx J<|?_;refine lp (X:=Nat) (fun i=>[(10, .d (vI (i:Nat)))]) (fun i=>[]) (fun i=>i<=r.length/\ ∀j,j<i-> ∀q,q<r.length->jd r j q=true) (fun i=>r.length-i) 0 J ⟨bZ _,fun j hj=>absurd hj (by omega)⟩ (fun _=>J) (fun i hk=>?_);obtain⟨i1,i2⟩:=hk;refine br (fu1:=⟨14⟩) J J J (fun hc11=>?_) (fun hc11=>?_)
 .
  have hir:i<r.length:=by omega
  refine ak 14 (.d (vI (r.length:Nat))) J (by rw[hm]<;>rfl) ?_;refine gx J<|?_;refine lp (X:=Nat) (fun k=>[(15, .d (vI (k:Nat)))]) (fun k=>[]) (fun k=>k<=r.length/\ ∀q,q<k->jd r i q=true) (fun k=>r.length-k) 0 J ⟨bZ _,fun j hj=>absurd hj (by omega)⟩ (fun _=>J) (fun k hk=>?_);obtain⟨k1,k2⟩:=hk;refine br (fu1:=⟨14⟩) J J J (fun hc16=>?_) (fun hc16=>?_)
  .
   have hkr:k<r.length:=by omega
   haveI hvb:aG (r.getD i (0,0)).q 12:=uX (hle _ (uR hir));haveI hwb:aG (iC r i).q 12:=uX (hle _ (y7 hir));haveI hub:aG (r.getD k (0,0)).q 12:=uX (hle _ (uR hkr));refine jr (fu1:=⟨6⟩) (v2:=fun hg20=>by simp only[aj];exact⟨by kernel_rfl,by omega⟩) J J J J (fun hg20=>?_) (fun hg20=>?_)
   .
    refine ak 26 (.d (vI ((i+1)%r.length:Nat))) J (by rfl) ?_;refine gx (fu:=⟨0⟩) J<|?_;refine jr (v2:=fun hg27=>by simp only[aj];exact⟨by kernel_rfl,by omega⟩) J J J J (fun hg27=>?_) (fun hg27=>?_)
    .
     refine ix (fu:=⟨6⟩) _ J (AT hir) J<|?_;refine ak 38 (.d (vI ((i+1)%r.length:Nat))) J (by rfl) ?_;refine gx J<|ix _ J (F3 hir) J<|ix _ J (AT hkr) J<|cl J (Cz (a:=(r.getD i (0,0)).q) (b:=(iC r i).q) (c:=(r.getD k (0,0)).q) (i:=12) (j:=12) (k:=12)) J<|?_;refine br J J J (fun hc47=>?_) (fun hc47=>?_)
     .
      have hcv:jd r i k=false:=by unfold jd;rw[decide_eq_false (show¬k=i by omega),decide_eq_false (show¬k=(i+1)%r.length by omega),decide_eq_false (show¬0<(nI (r.getD i (0,0)).q (iC r i).q (r.getD k (0,0)).q) by omega)];rfl
      exact rz J (by rw[Mc hir hkr hcv];rfl)
     .
      have hcv:jd r i k=true:=by unfold jd;rw[decide_eq_true (show 0<nI _ _ _ by omega)];simp
      exact at_ (k+1) ⟨⟨by omega,fun q hq=>by by_cases e:q=k;(subst e;exact hcv);exact k2 q (by omega)⟩,(by omega)⟩
    .
     have hcv:jd r i k=true:=by unfold jd;rw[decide_eq_true (show k=(i+1)%r.length by omega)];simp
     exact at_ (k+1) ⟨⟨by omega,fun q hq=>by by_cases e:q=k;(subst e;exact hcv);exact k2 q (by omega)⟩,(by omega)⟩
   .
    have hcv:jd r i k=true:=by unfold jd;rw[decide_eq_true (show k=i by omega)];rfl
    exact at_ (k+1) ⟨⟨by omega,fun q hq=>by by_cases e:q=k;(subst e;exact hcv);exact k2 q (by omega)⟩,(by omega)⟩
  .
   obtain rfl:k=r.length:=by omega
   exact at_ (i+1) ⟨⟨by omega,fun j hj q hq=>by by_cases e:j=i;(subst e;exact k2 q (by omega));exact i2 j (by omega) q hq⟩,(by omega)⟩
 .
  obtain rfl:i=r.length:=by omega
  exact rz J (by rw[Rs fun j hj q hq=>i2 j hj q hq];rfl)
def UR{p v:ZP}(h1:ZP.le 40 p)(h2:ZP.le 40 u)(h3:ZP.le 40 v): ∀q∈gu p u v,ZP.le 100 q:=fun q hq=>by
 unfold ZP.le at*;simp only[gu,kC,aW,dR,or_false] at hq;rcases hq with rfl|rfl|rfl<;>((try dsimp only);omega)
def apS{p v:ZP}(h1:ZP.le 40 p)(h2:ZP.le 40 u)(h3:ZP.le 40 v):PF GB prog 92 [.sl ((gu p u v).map pf)] (vB (decide (0<kd u v))):=by
 have:=Wt (GB:=GB) (r:=gu p u v) (UR h1 h2 h3) (by simp[gu]);rw[UC] at this;exact this
def H'{b:Nat}(hes:es.length<=400){a:Nat}(ha:a<=es.length):PM GB prog 29 (lA [none] b) b 107 [.sl (es.map vI), .v (.int .i64 (a:Nat))] (ku (gp es a).1) [.sl (es.map vI), .v (.int .i64 ((gp es a).2:Nat))]:=by
 have hk0:=iw (n:=2) ha;have hx1:=iw (n:=3) hk0;have hy1:=iw (n:=3) hx1;have l1:=dH (es:=es) (n:=3) (a:=(au es 2 a).2);have l2:=dH (es:=es) (n:=3) (a:=(au es 3 (au es 2 a).2).2);refine z' func29 J J ntmps29 J J (fun C b m lo hmb=>?_);refine cm J (fun b=>(oh (n:=2) hes ha)) J<|?_;refine br J J J (fun hc13=>?_) (fun hc13=>?_)
 .
  have hz1:=iw (n:=2) hy1;have l3:=dH (es:=es) (n:=2) (a:=(au es 3 (au es 3 (au es 2 a).2).2).2);have l4:=dH (es:=es) (n:=2) (a:=(au es 2 (au es 3 (au es 3 (au es 2 a).2).2).2).2);refine cm J (fun b=>(oh (n:=3) hes hk0)) J<|cm J (fun b=>(oh (n:=3) hes hx1)) J<|?_;refine cm J (fun b=>(oh (n:=2) hes hy1)) J<|cm J (fun b=>(oh (n:=2) hes hz1)) J<|?_;refine cl J (jk (m:=(((au es 3 (au es 2 a).2).1:Int)-1)) (n:=(((au es 3 (au es 3 (au es 2 a).2).2).1:Int)-1))) J<|?_;refine cl J (jk (m:=(((au es 3 (au es 2 a).2).1:Int)-1+1+((au es 2 (au es 3 (au es 3 (au es 2 a).2).2).2).1:Int))) (n:=(((au es 3 (au es 3 (au es 2 a).2).2).1:Int)-1))) J<|?_;refine cl J (jk (m:=(((au es 3 (au es 2 a).2).1:Int)-1+1+((au es 2 (au es 3 (au es 3 (au es 2 a).2).2).2).1:Int))) (n:=(((au es 3 (au es 3 (au es 2 a).2).2).1:Int)-1+1+((au es 2 (au es 2 (au es 3 (au es 3 (au es 2 a).2).2).2).2).1:Int)))) J<|?_;refine cl J (jk (m:=(((au es 3 (au es 2 a).2).1:Int)-1)) (n:=(((au es 3 (au es 3 (au es 2 a).2).2).1:Int)-1+1+((au es 2 (au es 2 (au es 3 (au es 3 (au es 2 a).2).2).2).2).1:Int)))) J<|?_;refine rf J J<|?_;exact om hmb J J (by rw[show gp es a=_ from if_pos hc13];rfl) (by rw[show gp es a=_ from if_pos hc13];rfl)
 .
  have hu1:=iw (n:=2) hy1;have hu2:=iw (n:=3) hu1;have hv1:=iw (n:=3) hu2;have m1:=dH (es:=es) (n:=2) (a:=(au es 3 (au es 3 (au es 2 a).2).2).2);have m2:=dH (es:=es) (n:=3) (a:=(au es 2 (au es 3 (au es 3 (au es 2 a).2).2).2).2);have m3:=dH (es:=es) (n:=3) (a:=(au es 3 (au es 2 (au es 3 (au es 3 (au es 2 a).2).2).2).2).2);have m4:=dH (es:=es) (n:=2) (a:=(au es 3 (au es 3 (au es 2 (au es 3 (au es 3 (au es 2 a).2).2).2).2).2).2);refine cm J (fun b=>(oh (n:=3) hes hk0)) J<|cm J (fun b=>(oh (n:=3) hes hx1)) J<|?_;refine cl J (jk (m:=(((au es 3 (au es 2 a).2).1:Int)-1)) (n:=(((au es 3 (au es 3 (au es 2 a).2).2).1:Int)-1))) J<|?_;refine cm J (fun b=>(oh (n:=2) hes hy1)) J<|cm J (fun b=>(oh (n:=3) hes hu1)) J<|?_;refine cl J (jk (m:=(1+((au es 2 (au es 3 (au es 3 (au es 2 a).2).2).2).1:Int))) (n:=(((au es 3 (au es 2 (au es 3 (au es 3 (au es 2 a).2).2).2).2).1:Int)-1))) J<|?_;refine cm J (fun b=>(oh (n:=3) hes hu2)) J<|cm J (fun b=>(oh (n:=2) hes hv1)) J<|?_;refine cl J (jk (m:=(((au es 3 (au es 3 (au es 2 (au es 3 (au es 3 (au es 2 a).2).2).2).2).2).1:Int)-1)) (n:=(1+((au es 2 (au es 3 (au es 3 (au es 2 (au es 3 (au es 3 (au es 2 a).2).2).2).2).2).2).1:Int)))) J<|?_;refine cl J (kl (n:=1)) J<|cl J (Dj (m:=(((au es 3 (au es 2 a).2).1:Int)-1)) (n:=(((au es 3 (au es 3 (au es 2 a).2).2).1:Int)-1)) (m':=(1+((au es 2 (au es 3 (au es 3 (au es 2 a).2).2).2).1:Int))) (n':=(((au es 3 (au es 2 (au es 3 (au es 3 (au es 2 a).2).2).2).2).1:Int)-1)) (k:=1) (by omega) (by omega) (by omega) (by omega)) J<|?_
  refine cl J (kl (n:=1)) J<|cl J (Dj (m:=(((au es 3 (au es 2 a).2).1:Int)-1)) (n:=(((au es 3 (au es 3 (au es 2 a).2).2).1:Int)-1)) (m':=(((au es 3 (au es 3 (au es 2 (au es 3 (au es 3 (au es 2 a).2).2).2).2).2).1:Int)-1)) (n':=(1+((au es 2 (au es 3 (au es 3 (au es 2 (au es 3 (au es 3 (au es 2 a).2).2).2).2).2).2).1:Int))) (k:=1) (by omega) (by omega) (by omega) (by omega)) J<|?_;refine rf J J<|cl J (apS (p:=((((au es 3 (au es 2 a).2).1:Int)-1),(((au es 3 (au es 3 (au es 2 a).2).2).1:Int)-1))) (u:=((1+((au es 2 (au es 3 (au es 3 (au es 2 a).2).2).2).1:Int)),(((au es 3 (au es 2 (au es 3 (au es 3 (au es 2 a).2).2).2).2).1:Int)-1))) (v:=((((au es 3 (au es 3 (au es 2 (au es 3 (au es 3 (au es 2 a).2).2).2).2).2).1:Int)-1),(1+((au es 2 (au es 3 (au es 3 (au es 2 (au es 3 (au es 3 (au es 2 a).2).2).2).2).2).2).1:Int)))) ⟨by omega,by omega⟩ ⟨by omega,by omega⟩ ⟨by omega,by omega⟩) J<|?_;refine bb J J J (fun hc76=>?_) (fun hc76=>?_)
  .
   refine cl J (jk (m:=0) (n:=0) (by decide) (by decide)) J<|cl J (jk (m:=1) (n:=0) (by decide) (by decide)) J<|cl J (jk (m:=0) (n:=1) (by decide) (by decide)) J<|?_;refine rf J J<|?_;exact om hmb J J (by rw[show gp es a=_ from(if_neg hc13).trans (congrArg (fun r=>(r,(au es 2 (au es 3 (au es 3 (au es 2 (au es 3 (au es 3 (au es 2 a).2).2).2).2).2).2).2)) (if_neg (by simpa using hc76)))];rfl) (by rw[show gp es a=_ from if_neg hc13])
  .
   exact om hmb J J (by rw[show gp es a=_ from(if_neg hc13).trans (congrArg (fun r=>(r,(au es 2 (au es 3 (au es 3 (au es 2 (au es 3 (au es 3 (au es 2 a).2).2).2).2).2).2).2)) (if_pos (by simpa using hc76)))];rfl) (by rw[show gp es a=_ from if_neg hc13])
section
variable {own:aH}
end
def VP(hb:es0.length<=1125899906842624)(he:es=es0.take 400):PN GB prog 11 [.sl (es0.map vI)] 107 Unit (fun _=>[.sl (es.map vI), .v (.int .i64 (0:Nat))]):=by
 subst he;exact TW hb
def Lf(h:fB k t):PF GB prog 31 [eT t] (eA t):=Vt h.bl (by have:=h.s;omega)
def T9:Option ar->DV
 |some c=> .tp [.sl (c.map c7),vB true]
 |none=> .tp [.sl [],vB false]
def MD{c:ar}(h:ls[k]? =some l):jf (ls.drop k) c=if co c l then jf (ls.drop (k+1)) (bC c l) else none:=by
 obtain⟨hk,rfl⟩:=aY.1 h;rw[bQ hk,jf]
def ek.nil:ek []:=fun s hs=>by cases hs
def Zp(hb: ∀l∈ls,LB l)(ho: ∀l∈ls,l.ok)(hn:ls.length<=10000):PF GB prog 116 [.sl (ls.map cO)] (T9 (jf ls [])):=by
 have hm:=uh cO ls;refine fn (fu:=⟨25⟩) func116 J J ntmps116 J J (fun C=>?_);refine ak 9 (.d (vI (ls.length:Nat))) J (by rw[hm]<;>rfl) ?_;refine gx J<|?_;refine BT 4 J ?_;refine Pb 5 (vB true) J J ?_;refine lp (X:=ar×Nat) (fun⟨c,k⟩=>[(10, .d (vI (k:Nat))),(4, .d (.sl (c.map c7))),(5, .d (vB true))]) (fun⟨c,k⟩=>[]) (fun⟨c,k⟩=>k<=ls.length/\ek c/\c.length<=k/\jf (ls.drop k) c=jf ls []) (fun⟨c,k⟩=>ls.length-k) ([],0) J ⟨bZ _,ek.nil,bX _,J⟩ (fun _=>J) (fun⟨c,k⟩ hk=>?_);obtain⟨h1,h2,h3,h4⟩:=hk;dsimp only at*;refine br J J J (fun hc11=>?_) (fun hc11=>?_)
 .
  obtain⟨l,hx0⟩: ∃s,ls[k]? =some s:=⟨_,aZ (by omega)⟩;haveI:=hb l (aV hx0);have hlo:=ho l (aV hx0);refine ix _ J (cH hx0) J<|cl J (F5 (c:=c) (l:=l) hlo h2 (by omega)) J<|?_;refine bb J J J (fun hc21=>?_) (fun hc21=>?_)
  .
   refine bb J J J (fun hc24=>?_) (fun hc24=>?_)
   .
    exact rz J (by rw[<-h4,MD hx0,if_neg (by simpa using hc21)];rfl)
   .
    exact rz J (by simp only[hc21] at hc24;simp at hc24)
  .
   refine ak 5 (.d (vB true)) J (by rw[show co c l=true by simpa using hc21]) ?_;exact at_ (bC c l,k+1) (by dsimp only;exact⟨⟨by omega,si (ho l (aV hx0)) h2,by have:=tq c l;omega,by rw[<-h4,MD hx0,if_pos (by simpa using hc21)]⟩,(by omega)⟩)
 .
  refine bb J J J (fun hc24=>?_) (fun hc24=>?_)
  .
   exact rz J (absurd hc24 (by decide))
  .
   exact rz J (by rw[<-h4,jJ (by omega)];rfl)
def ayU{c:ar}(hb: ∀l∈ls,LB l)(ho: ∀l∈ls,l.ok)(hn:ls.length<=10000)(h:jf ls []=some c):PF GB prog 116 [.sl (ls.map cO)] (.tp [.sl (c.map c7),vB true]):=by
 have:=Zp (GB:=GB) hb ho hn;rw[h] at this;exact this

section
variable {own:aH}{ops:Array Oper}{r:List Oper}{K:List Kt}
def ZN(k:Nat)(hl:bh fr k=some (.d d))(h: ∀(GB':Gh) (pv:Value),bI GB GB'->Is GB' d pv->aw prog GB' C n Q0 ((k, .d (.v pv))::fr) own (.ops ops r K)):aw prog GB C n Q0 fr own (.ops ops r K):=by
 refine⟨fun ρ G ov a w r0=>?_⟩;obtain⟨y,hy,hy'⟩:=r0.fx k _ hl;refine(h G y r0.gb hy').run ρ G ov a w ⟨bI.refl _,r0.h,r0.sz,r0.df,fun j f e=>?_,r0.bx,r0.dj,r0.fxd⟩;rw[kn] at e;split at e
 .rename_i hj
  cases e;subst hj
  exact⟨y,hy,(aB (G:=G)).2 J⟩
 .exact r0.fx j f e
def P0(fr:aC)(own:aH)(cf:Cf):Option (TypeId×Nat×Nat×List FX×Bool×FX):=match dd fr cf with
 |some ⟨_, .store t x y,_,_,_,_⟩=>match bj (b9 fr cf) x with
  |some (.ov nm 0)=>match jv fr own cf nm with
   |some (.o ty cs lo)=>match bj (b9 fr cf) y with
    |some fv=>some (t,nm,ty,cs,lo,fv)
    |_=>none
   |_=>none
  |_=>none
 |_=>none
def Ip[fu:Fu]{t len e:Nat}{cs:List FX}{fv:FX}{j:TypeInfo}(h:P0 fr own cf=some (t,nm,ty,cs,lo,fv))(hu:prog.underlying t=some (.array len e))(hj:prog.info? t=some j)(hc:fv.okc=true/\fv.cells.length=j.size/\j.size=cs.length)
  (hgo:cI tt n fu.n fr own cf .un [(nm,some (.o ty (wq cs 0 fv.cells) lo))] []=⟨vc,fr',own',cf'⟩)(k:aw prog GB C n Q0 fr' own' cf')
  (hv:autoParam (aj vc) cL._auto_1):aw prog GB C n Q0 fr own cf:=by
 unfold P0 at h;split at h<;>try (cases h;done)
 rename_i hh;split at h<;>try (cases h;done)
 rename_i e1;split at h<;>try (cases h;done)
 rename_i hb;split at h<;>cases h;rename_i e2;obtain⟨c1,c2,c3⟩:=hc;have:lu prog t j.size:=⟨fun w=>Bq hu w,fun w=>vp hj w⟩;refine us hh ?_ hgo hv k;intro hd tl tb K s1 s2 hf hk;refine⟨fun ρ G ov a w r Q=>?_⟩;have r1:=r.mono s1 s2;obtain⟨p,h1,h2⟩:=r1.ev e1;obtain⟨q,h3,h4⟩:=r1.ev e2;obtain⟨b,m,rfl,ha,h5,h6⟩:=r1.own h2 hb;obtain⟨h7,h8⟩:=h4.cells c1;obtain⟨own',u1,u2,u3⟩:=fC.of_mem (cs':=cA m 0 (aE q)) h6;exact Ee h1 h3 u1 (by rw[h7.len,c2]) (by rw[h5.len,c3];omega) (dK.2 h8) hd (fun a' w' rl=>r.wrote (m:=m) (s2 _ _ hb) ha (h5.ov h7) u2 u3 hk rl) a w Q ⟨r.h,r.sz,cC a,r.df⟩
def Ym:TypeDesc->Bool
 | .struct _=>false
 | .array _ _=>false
 |_=>true
end
def GV(a b:Tr):DV:= .ag [eU a,eU b]
def HA(h:fB k t):PF GB prog 103 [eA t] (.tp [eU t,vB true]):=by
 have:=VA (GB:=GB) (rt:=t.num 0) (Nf h.lb) (Lv (by have:=h.s;omega)) (H5 h.ok);rw[<-Nu] at this;exact this
def aCl{v:Bool}(h:Tr.leaf v=a.mergeQ op b []):ml op a b=!v:=by unfold ml;rw[<-h];cases v<;>rfl
def Xg{x:Tr}(h:Tr.node l x y=a.mergeQ op b []):ml op a b=false:=by unfold ml;rw[<-h];simp[Tr.isLeaf]
def WZ(ha:fB j a)(hb:fB k b):PF GB prog 107 [eA a,eA b] (.tp [GV a b, .v .nilIface]):=by
 refine fn func107 J J ntmps107 J J (fun C=>?_);refine cl (fu:=⟨3⟩) J (HA ha) J<|?_;refine kG 14 J ?_;refine gx J<|cl (fu:=⟨3⟩) J (HA hb) J<|?_;refine kG 19 J ?_;refine gx J<|?_;exact rz J J
def aE8(hE:EG GB ai al ae)(ha:fB j a)(hb:fB k b)(hk:j+k<=200):PF GB prog 191 [GV a b,vI op] (.tp [vB (ml op a b), .v .nilIface]):=by
 obtain⟨t,ht⟩: ∃t,t=a.mergeQ op b []:=⟨_,rfl⟩;refine fn func191 J J ntmps191 J J (fun C=>?_);refine cl J (aFo (t:=t) hE ha.gd hb.gd (by have:=ha.s;omega) (by have:=hb.s;omega) (by rw[ht];exact ha.lim hb hk)) J<|?_;rcases t with v|⟨l,x,y⟩
 .
  have hq:=aCl ht;refine cl (fu:=⟨0⟩) J ql J<|?_;refine kG 21 J ?_;refine gx J<|?_;exact rz J (by rw[hq];rfl)
 .
  have hq:=Xg ht;refine cl (fu:=⟨0⟩) J qG J<|?_;refine r5 21 J ?_;refine gx J<|?_;exact rz J (by rw[hq];rfl)
def Zm(hE:EG GB ai al ae)(ha:fB j a)(hb:fB k b)(hk:j+k<=200):PF GB prog 109 [GV a b] (.tp [vB (ml 3 a b), .v .nilIface]):=by
 refine fn func109 J J ntmps109 J J (fun C=>?_);refine cl J (aE8 hE (op:=3) ha hb hk) J<|?_;exact rz J J
def Up(hE:EG GB ai al ae)(ha:fB j a)(hb:fB k b)(hk:j+k<=200):PF GB prog 39 [eA a,eA b] (.tp [vB (ml 3 a b), .v .nilIface]):=by
 refine fn func39 J J ntmps39 J J (fun C=>?_);refine cl J (WZ ha hb) J<|cl J (Zm hE ha hb hk) J<|?_;exact rz J J
end Go.Sx
end
