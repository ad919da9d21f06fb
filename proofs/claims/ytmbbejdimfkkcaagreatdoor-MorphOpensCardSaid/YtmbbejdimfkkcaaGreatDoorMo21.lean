import Derived.Test.YtmbbejdimfkkcaaGreatDoorMo20
set_option linter.all false
set_option maxHeartbeats 2000000
set_option maxRecDepth 100000
section
namespace Go.Sx
open Go Go.Proofs Tryz
variable {GB:Gh}
def Aj(L:List aa):DV:=if gj L=[] then .v (.slice none 0 0) else .sl ((gj L).map eP)
def XP{L:List aa}(hb: ∀l∈L,LB l)(hn:L.length<=100000):PF GB prog 82 [.sl (L.map eL)] (Aj L):=by
 unfold Aj;split
 .rename_i h;exact aBN hb hn h
 .exact aEm hb hn
def Yt{L:List aa}(h:L≠[]):Aj L= .sl ((lx L).map eP)/\lx L≠[]\/Aj L= .v (.slice none 0 0)/\lx L=L.map aa.base/\L≠[]:=by
 unfold Aj lx;by_cases e:gj L=[]
 .rw[if_pos e,e];exact .inr ⟨J,J,h⟩
 .rw[if_neg e,if_neg (fun k=>e (qY.1 k))];exact .inl ⟨J,e⟩
theorem aJJ{L:List aa}(hb: ∀l∈L,LB l): ∀v∈lx L,aD v 1200:=fun v hv=>by
 unfold lx at hv;split at hv
 .obtain⟨l,hl,rfl⟩:=aU.1 hv
  haveI:=hb l hl;exact aD.mono (inferInstance:aD l.base 900) oma
 .exact Sz hb v hv
def Ws(L:List aa):(lx L).length<=L.length:=by
 unfold lx;split
 .rw[aX];exact bV _
 .exact Ll L
def aJn{l:aa}{c:List aa}(h:l5 l c=true):c≠[]:=fun e=>by rw[e] at h;cases h
def lO(c:List aa)(V:List ah)(k:Nat):List aa:=(c.map fun l=>oI l V)++((aC V).take k).filterMap (ui c)
def ZE(c:List aa)(V:List ah):lO c V 0=c.map fun l=>oI l V:=by unfold lO;simp
def VO(c:List aa)(V:List ah):lO c V (aC V).length=HF c V (aC V):=by unfold lO HF;rw[cN]
def To(c:List aa)(V:List ah)(k:Nat):(lO c V k).length<=c.length+V.length:=by
 unfold lO;rw[aY,aX];have h1:=kU (ui c) ((aC V).take k);have h2:((aC V).take k).length<=V.length:=by rw[bL];unfold aC;rw[aX,jY];omega
 omega
def aqQ{c:List aa}{V:List ah}{k:Nat}{f:ah×ah}(h:(aC V)[k]? =some f)(hf:l5 (ew f.1 f.2) c=true):(lO c V k).map eL++[eL (zq (ew f.1 f.2) f.1 c)]=(lO c V (k+1)).map eL:=by
 unfold lO;rw[dJ,h];simp only[lZ,pM,lY,rL];rw[show ui c f=some (zq (ew f.1 f.2) f.1 c) by unfold ui;rw[if_pos hf]];simp
def YW{c:List aa}{V:List ah}{k:Nat}{f:ah×ah}(h:(aC V)[k]? =some f)(hf:l5 (ew f.1 f.2) c=false):lO c V k=lO c V (k+1):=by
 unfold lO;rw[dJ,h];simp only[lZ,pM,lY,rL];rw[show ui c f=none by unfold ui;rw[if_neg (by rw[hf];decide)]];simp
def aw0{c:List aa}{V:List ah}{k:Nat}{p q:ah}(h:(aC V)[k]? =some (p,q))(hf:l5 (ew p q) c=true):(lO c V k).map eL++[eL (zq (ew p q) p c)]=(lO c V (k+1)).map eL:=aqQ (f:=(p,q)) h hf
def aIZ{l:aa}{p:ah}{c:List aa}[hl:LB l](hlo:l.ok)[hp:aD p 900](hne:c≠[])(hb: ∀m∈c,LB m)(hok: ∀m∈c,m.ok)(hn:c.length<=100000):PF GB prog 84 [eL l,eP p,Aj c, .sl (c.map eL)] (eL (zq l p c)):=
 aLs hlo (Yt hne) (aJJ hb) (fun m hm=>⟨hb m hm,hok m hm⟩) oma (cX (Ws c) hn) hn
def Wg{c:List aa}{V:List ah}{k:Nat}{l:aa}(h:c[k]? =some l):((c.take k).map fun l=>oI l V).map eL++[eL (oI l V)]=((c.take (k+1)).map fun l=>oI l V).map eL:=by
 rw[dJ,h,aL,aL];rfl
def aKW{p q:ah}(h: ¬((aB (p,q)).x=0/\(aB (p,q)).y=0)): ¬(p.x=q.x/\p.y=q.y):=fun⟨h1,h2⟩=>h (by
 unfold aB;dsimp only;exact⟨omb,omb⟩)
theorem aIu{c:ao}(h: ∀s∈c,LB s.l): ∀l∈c.map (fun s=>s.l),LB l:=fun l hl=>by
 obtain⟨s,hs,rfl⟩:=aU.1 hl;exact h s hs
def Uj{c:ao}(h:bw c): ∀l∈c.map (fun s=>s.l),l.ok:=fun l hl=>by
 obtain⟨s,hs,rfl⟩:=aU.1 hl;exact h.ok s hs
def awZ{V:List ah}(hV:eO V){cc:ao}{c:List aa}(hce:c=cc.map fun s=>s.l)(hg:bw cc)(ha:fk cc)(hb: ∀l∈c,LB l){kb:Nat}(hkb: ∀s∈cc,BL s.l kb)(h62:2*kb+10<=62)(hn:c.length<=900):PF GB prog 41 [.sl (c.map eL), .sl (V.map eP)] (.sl ((cj (fH cc V (aC V))).map eL)):=by
 have hml:(c.map eL).length=c.length:=aX ..;have hmv:(V.map eP).length=V.length:=aX ..;have hV4:=hV.le;have hVb:=Gv hV.zb;have hok: ∀l∈c,l.ok:=by rw[hce];exact Uj hg
 have hss:=auX hg ha hV.br.vne (E:=aC V) (fun f hf=>hV.br.nz hf);rw[<-hce] at hss;refine fn (fu:=⟨15⟩) func41 J J ntmps41 J J (fun C=>?_);refine aj 14 (.d (vI (c.length:Nat))) J omo<|gx J<|nr 5 5 54 6 J J J<|lp (X:=Nat) (fun k=>[(15, .d (vI (k:Nat))),(5, .rw 5)]) (fun k=>[(5,some (.b 54 6 (((c.take k).map fun l=>oI l V).map eL) true))]) (fun k=>k<=c.length) (fun k=>c.length-k) 0 J (aN _) (fun _=>J) (fun k hk=>?_);have hm3:(((c.take k).map fun l=>oI l V).map eL).length<=k:=by rw[aX,aX,bL];omega
 refine br J J J (fun hc16=>?_) (fun hc16=>?_)
 .
  obtain⟨l,hx⟩: ∃u,c[k]? =some u:=⟨_,aZ we⟩;haveI:=hb l (aK hx);refine ix _ J (cp hx) J<|cl J (aFw (l:=l) (V:=V) (j:=4) (hok l (aK hx)) hV.br.vne hVb oma we) J<|rf J J<|ap (((c.take (k+1)).map fun l=>oI l V).map eL) J (Wg hx) (du [_]) J<|ek 24 5 J<|at_ (k+1) ⟨we,we⟩
 .
  obtain rfl:k=c.length:=by omega
  rw[cN,<-ZE c V];refine cl (fu:=⟨8⟩) J (XP (L:=c) hb we) J<|aj 29 (.d (vI (V.length:Nat))) J (by rw[hmv]<;>rfl)<|gx J<|lp (X:=Nat) (fun k=>[(30, .d (vI (k:Nat))),(5, .rw 5)]) (fun k=>[(5,some (.b 54 6 ((lO c V k).map eL) true))]) (fun k=>k<=V.length) (fun k=>V.length-k) 0 J (aN _) (fun _=>J) (fun k hk=>?_);have hm4:=To c V k;have hm3:((lO c V k).map eL).length<=c.length+V.length:=by rw[aX];exact hm4
  refine br (fu2:=⟨0⟩) J J J (fun hc31=>?_) (fun hc31=>?_)
  .
   obtain⟨p,hx⟩: ∃u,V[k]? =some u:=⟨_,aZ we⟩;obtain⟨q,hw⟩: ∃u,V[(k+1)%V.length]? =some u:=⟨_,aZ (dW _ we)⟩;have hpr:=Pe hx hw;have hnz:=hV.br.nz (aK hpr);haveI hp4:=hVb p (aK hx);haveI hq4:=hVb q (aK hw);haveI hlb:LB (ew p q):=ZL (hp:=hp4.mono oma) (hq:=hq4.mono oma);have htok:(ew p q).ok:=(NS (f:=(p,q)) hnz).1;refine ix (fu:=⟨14⟩) _ J (cp hx) J<|aj 41 (.d (vI (V.length:Nat))) J (by rw[hmv]<;>rfl)<|gx (fu:=⟨1⟩) J<|aj 42 (.d (vI (((k+1)%V.length:Nat):Int))) J J<|gx J<|ix _ J (cp hw) J<|cl J (EC (p:=p) (q:=q) (i:=4) oma (aKW hnz)) J<|cl J (XC (l:=ew p q) (c:=c) hb we) J<|bb J J J (fun hc50=>?_) (fun hc50=>?_)
   .
    refine cl J (aIZ (l:=ew p q) (p:=p) (c:=c) htok (hp:=hp4.mono oma) (aJn hc50) hb hok we) J<|rf J J<|ap ((lO c V (k+1)).map eL) J (aw0 hpr hc50) (du [_]) J<|ek 58 5 J<|at_ (k+1) ⟨we,we⟩
   .
    rw[YW hpr hc50];exact at_ (k+1) ⟨we,we⟩
  .
   obtain rfl:k=V.length:=by omega
   rw[show V.length=(aC V).length by unfold aC;rw[aX,jY],VO,hss];refine nj 5 J<|gx J<|cl J (DL (c:=fH cc V (aC V)) (fun l hl=>⟨(Ah hV.br hV.zb hg ha hkb l hl).mono we⟩) (Fy hV.br hg) (by rw[<-hss,<-VO];have:=To c V (aC V).length;omega)) J<|rz J J
def azk{V:List ah}{E:List (ah×ah)}(hB:gu V E){c:ao}(hc:bw c)(ha:fk c):ql (cj (fH c V E))=dk V E c:=by
 obtain⟨d,d1,d2,d3,d4,d5⟩:=EU hB hc ha;have hL: ∀p,bu d p↔d8 (d.map (·.l)) p:=fun p=>by unfold bu d8;simp
 have hok: ∀l∈d.map (·.l),l.ok:=Uj d2;have e:=Mk hok d2 d3 hL;obtain⟨p,hp⟩:=Uh hB hc ha;unfold ql dk;rw[d5,if_pos ((aun hok).2 ⟨p,(hL p).1 ((d4 p).2 hp)⟩),e]
def aHZ{V:List ah}(hV:eO V){t:Tr}(h:ij t)(k:Nat):gF 54 (jA V (aC V) ((bO (t.restrict [])).take k) (.leaf false)):=by
 obtain⟨K,h1,h2,h3,h4⟩:=h.k;have hE:(aC V).length<=4:=by unfold aC;rw[aX,jY];exact hV.le
 have ho:=h.x.ok;have hcl:(bO (t.restrict [])).length<=t.size+1:=cX (Dy _) (Nat.succ_le_succ (t.restrict_size []));have hKl:(gP V (aC V) K (bO (t.restrict []))).length<=52:=by
  have:=AN (V:=V) (E:=aC V) (K:=K) (cs:=bO (t.restrict []));have:(bO (t.restrict [])).length*(aC V).length<=(t.size+1)*4:=fZ hcl hE;omega
 have hsub: ∀c∈(bO (t.restrict [])).take k,c∈bO (t.restrict []):=fun c hc=>eK hc;have hgd: ∀c∈bO (t.restrict []),(dk V (aC V) c).all aa.ok/\dw (gP V (aC V) K (bO (t.restrict []))) (dk V (aC V) c)/\(dk V (aC V) c).depth<=600/\(dk V (aC V) c).all LB:=fun c hc=>by
  obtain⟨g1,g2⟩:=n7 ho c hc;have hs:=Ac (t.restrict_all LB [] h.x.lb) (t.restrict_all aa.ok [] ho) c hc;have:=t.restrict_depth [];have:=h.dp;have hbk:=tG (P:=fun l=>BL l 8) (fun l h=>h.rev) (t.restrict_all _ [] h.bl) (fun s hs=>by cases hs) (nC.1 hc);exact⟨z' hV.br g1 g2,vw fun l hl=>⟨l,NP hc (Hz (h4.restrict []) hc) l hl, .inl J⟩,cX FC we,vw fun l hl=>⟨(Ah hV.br hV.zb g1 g2 hbk l hl).mono oma⟩⟩
 have a:=(Cx (x8 hV.br h3 (cs:=bO (t.restrict []))) we (op:=1) (us:=((bO (t.restrict [])).take k).map (dk V (aC V))) (t:= .leaf false) (fun u hu=>by
  obtain⟨c,hc,rfl⟩:=aU.1 hu;obtain⟨b1,b2,b3,_⟩:=hgd c (hsub c hc);exact⟨b1,b2,b3⟩) ⟨trivial,trivial,trivial⟩).2
 rw[uT] at a;have hlb: ∀(cs:List ao) (u:Tr),(∀c∈cs,(dk V (aC V) c).all LB)->u.all LB->(jA V (aC V) cs u).all LB:=fun cs=>by
  induction cs with
  |nil=>intro u _ hu;exact hu
  |cons c cs ih=>
   intro u h hu;exact ih _ (fun d hd=>h d (aJ _ hd)) (Tr.mergeQ_all _ 1 (h c aQ) u [] hu)
 obtain⟨b1,b2⟩:=a.size (x8 hV.br h3);have b3:(gP V (aC V) K (bO (t.restrict []))).length*((gP V (aC V) K (bO (t.restrict []))).length+1)<=52*53:=fZ hKl we;unfold jA;exact⟨⟨⟨hlb _ (.leaf false) (fun c hc=>(hgd c (hsub c hc)).2.2.2) trivial,a.ok⟩,we,_,we,x8 hV.br h3,a.am⟩,we⟩
def W0{op:Int}{a b:Tr}(ho:1<=op/\op<=4)(ha:a.gd)(hb:b.gd)(hk:a.depth+b.depth<=900):PF GB prog 39 [vI op,eT a,eT b, .sl []] (eT (a.mergeQ op b [])):=by
 have:=KH (GB:=GB) (op:=op) hb.lb hb.ok (t:=a) (c:=[]) ha.lb ha.ok (fun m h=>by cases h) (fun m h=>by cases h) (by rw[eX];omega);rw[Tr.mergeL_nil ho ha.ok hb.ok] at this;exact this
def WG{c:List aa}(hb: ∀l∈c,LB l)(hok: ∀l∈c,l.ok):(ql c).gd/\(ql c).depth<=c.length:=by
 unfold ql;split
 .have hm: ∀m∈cj c,m∈c:=fun m hm=>(ke.1 hm).1
  exact⟨⟨Ef fun l hl=>hb l (hm l hl),Ef fun l hl=>hok l (hm l hl)⟩,by rw[Md];exact pI c⟩
 .exact⟨⟨trivial,trivial⟩,aN _⟩
def ayz{V:List ah}{E:List (ah×ah)}{cs:List ao}{k:Nat}{c:ao}(h:cs[k]? =some c)(t:Tr):jA V E (cs.take (k+1)) t=(jA V E (cs.take k) t).mergeQ 1 (dk V E c) []:=by
 unfold jA;rw[dJ,h];simp only[lZ,mV,iQ,List.foldl_nil]
def J5{V:List ah}(hV:eO V){t:Tr}(hlb:t.all LB)(hok:t.all aa.ok){kb:Nat}(hbl:t.all fun l=>BL l kb)(h62:2*kb+10<=62)(hdp:t.depth<=150)(hsz:t.size<=60000)(hpt: ∀k,(jA V (aC V) ((bO (t.restrict [])).take k) (.leaf false)).gd/\(jA V (aC V) ((bO (t.restrict [])).take k) (.leaf false)).depth<=400):PF GB prog 14 [eT t, .sl (V.map eP)] (eT (iq V t)):=by
 obtain⟨cs,hcs⟩: ∃cs,cs=bO (t.restrict []):=⟨_,rfl⟩;have hrb:=t.restrict_all LB [] hlb;have hro:=t.restrict_all aa.ok [] hok;have hrk:=t.restrict_all _ [] hbl;have hrd:=t.restrict_depth [];have hrs:=t.restrict_size [];obtain⟨S,hS⟩: ∃S,S=fun k=>jA V (aC V) (cs.take k) (.leaf false):=⟨_,rfl⟩;have hSx: ∀k,(S k).gd/\(S k).depth<=400:=fun k=>by rw[hS,hcs];exact hpt k
 have hS0:S 0= .leaf false:=by rw[hS];rfl
 have hml:(cs.map fun c=>ze (c.map fun s=>s.l)).length=cs.length:=aX ..;have hcl:cs.length<=60001:=by rw[hcs];exact cX (Dy _) we
 refine fn func14 J J ntmps14 J J (fun C=>?_);refine cl (fu:=⟨0⟩) J (oC (p:=false)) J<|aj 8 (.d (eT (S 0))) J (by rw[hS0]<;>rfl)<|gx J<|cl J (JT (t:=t) hlb hok we) J<|cl (fu:=⟨1⟩) J (PF.eq (Zu (t:=t.restrict []) hrb hro we we) (show _=DV.sl (cs.map fun c=>ze (c.map fun s=>s.l)) by rw[axW hro,<-hcs,oU]<;>rfl)) J<|aj 12 (.d (vI (cs.length:Nat))) J omo<|gx J<|lp (X:=Nat) (fun k=>[(13, .d (vI (k:Nat))),(5, .d (eT (S k)))]) (fun k=>[]) (fun k=>k<=cs.length) (fun k=>cs.length-k) 0 J (aN _) (fun _=>J) (fun k hk=>?_);refine br J J J (fun hc14=>?_) (fun hc14=>?_)
 .
  obtain⟨c,hx⟩: ∃u,cs[k]? =some u:=⟨_,aZ we⟩;have hcm:c∈bO (t.restrict []):=by rw[<-hcs];exact aK hx
  obtain⟨g1,g2⟩:=n7 hok c hcm;have hbk:=tG (P:=fun l=>BL l kb) (fun l h=>h.rev) hrk (fun s hs=>by cases hs) (nC.1 hcm);have hsh:=Ac hrb hro c hcm;have hlbc: ∀s∈c,LB s.l:=aBY hrb hro c hcm;have hsb:=Ah hV.br hV.zb g1 g2 hbk;have hle:(cj (fH c V (aC V))).length<=154:=by have h1:=pI (fH c V (aC V));have h2:=Cr c V (aC V).length;rw[Cg] at h2;have:=hV.le;omega
  have hlc: ∀l∈cj (fH c V (aC V)),LB l:=fun l hl=>⟨(hsb l (L4 l hl)).mono we⟩;have hoc: ∀l∈cj (fH c V (aC V)),l.ok:=fun l hl=>Fy hV.br g1 l (L4 l hl);obtain⟨hcg,hcd⟩:=WG hlc hoc;have eS:S (k+1)=(S k).mergeQ 1 (ql (cj (fH c V (aC V)))) []:=by rw[hS,azk hV.br g1 g2];exact ayz hx _
  refine ix _ J (cp hx) J<|cl J (awZ hV (cc:=c) (c:=c.map fun s=>s.l) J g1 g2 (aIu hlbc) (kb:=kb) hbk h62 okF) J<|cl J (aLL (c:=cj (fH c V (aC V))) hlc hoc we) J<|cl (fu:=⟨0⟩) J (W0 (op:=1) (a:=S k) (b:=ql (cj (fH c V (aC V)))) oma (hSx k).1 hcg (by have:=(hSx k).2;omega)) J<|aj 22 (.d (eT (S (k+1)))) J (by rw[eS])<|gx J<|at_ (k+1) ⟨we,we⟩
 .
  obtain rfl:k=cs.length:=by omega
  exact rz J (by rw[hS];dsimp only;rw[cN,hcs]<;>rfl)
def OU{V:List ah}(hV:eO V){t:Tr}(h:ij t):PF GB prog 14 [eT t, .sl (V.map eP)] (eT (iq V t)):=
 J5 hV h.x.lb h.x.ok h.bl oma (by have:=h.dp;omega) (by have:=h.x.s;omega) fun k=>by
  have:=aHZ hV h k;exact⟨this.gd,by have:=this.dp;omega⟩
def axj{l:List ah}{k:Nat}{q:ah}(h:l[k]? =some q):(((l.take k).map aG).map eP)++[eP (aG q)]=((l.take (k+1)).map aG).map eP:=by
 rw[dJ,h,aL,aL];rfl
def S1{V:List ah}(hV:eO V){t:Tr}(hsm:PF GB prog 14 [eT t.compl, .sl ((V.map aG).map eP)] (eT (iq (V.map aG) t.compl))):PF GB prog 15 [eT t, .sl (V.map eP)] (eT (m9 V t)):=by
 have hml:(V.map eP).length=V.length:=aX ..;have hV4:=hV.le;have hVb:=Gv hV.zb;refine fn (fu:=⟨15⟩) func15 J J ntmps15 J J (fun C=>?_);refine aj 9 (.d (vI (V.length:Nat))) J omo<|gx J<|nr 5 5 63 6 J J J<|lp (X:=Nat) (fun k=>[(10, .d (vI (k:Nat))),(5, .rw 5)]) (fun k=>[(5,some (.b 63 6 (((V.take k).map aG).map eP) true))]) (fun k=>k<=V.length) (fun k=>V.length-k) 0 J (aN _) (fun _=>J) (fun k hk=>?_);have hm3:(((V.take k).map aG).map eP).length<=k:=by rw[aX,aX,bL];omega
 refine br (fu2:=⟨0⟩) J J J (fun hc11=>?_) (fun hc11=>?_)
 .
  obtain⟨q,hx⟩: ∃u,V[k]? =some u:=⟨_,aZ we⟩;haveI:=hVb q (aK hx);refine ix _ J (cp hx) J<|cl J (TZ (p:=q)) J<|rf J J<|ap (((V.take (k+1)).map aG).map eP) J (axj hx) (Dv [_]) J<|ek 18 5 J<|at_ (k+1) ⟨we,we⟩
 .
  obtain rfl:k=V.length:=by omega
  rw[cN];refine nj 5 J<|gx J<|cl J (mj (t:=t)) J<|cl J hsm J<|cl J (mj (t:=iq (V.map aG) t.compl)) J<|rz J J
def aJj{V:List ah}(hV:eO V){t:Tr}(h:ij t):PF GB prog 15 [eT t, .sl (V.map eP)] (eT (m9 V t)):=S1 hV (OU hV.neg h.compl)
def Tr.partsF:Tr->ao->List (Bool×ao)
 | .leaf b,c=>[(b,c)]
 | .node l x y,c=>(if cw c l then x.partsF (vu c l) else [])++(if cw c l.rev then y.partsF (vu c l.rev) else [])
def Tr.parts_F: ∀(t:Tr) (c:ao),t.parts c=t.partsF c
 | .leaf _,_=>rfl
 | .node l x y,c=>by rw[Tr.parts,Tr.partsF,A8,A8,x.parts_F,y.parts_F]
def az9(V:List ah)(E:List (ah×ah))(c:ao):jA V E [c] (.leaf false)=(dk V E c).restrict []:=by
 show(Tr.leaf false).mergeQ 1 (dk V E c) []=_;rw[Tr.mergeQ];unfold Tr.chooseQ;rw[if_pos (.inl J),if_neg oma]
def FM:List ah:=(dG 0 0 1 1).map ZP.q
def Lf:List ao:=((((((rx [dG 0 0 1 1] 2).restrictF []).restrictF []).partsF []).filter (·.1)).map (·.2))
def Xe:bO ((dd [dG 0 0 1 1] 2).restrict [])=Lf:=by
 unfold bO dd Lf;rw[Tr.restrict_F,Tr.restrict_F,Tr.parts_F]
def BY:Tr->Tr->Bool
 | .leaf a, .leaf b=>a==b
 | .node l x y, .node m u v=>decide (l=m)&&(BY x u&&BY y v)
 |_,_=>false
def Ip: ∀{t u:Tr},BY t u=true->t=u
 | .leaf a, .leaf b,h=>by rw[eq_of_beq (show(a==b)=true from h)]
 | .node l x y, .node m u v,h=>by
  simp only[BY,bT,decide_eq_true_eq] at h;rw[h.1,Ip h.2.1,Ip h.2.2]
 | .leaf _, .node ..,h=>by cases h
 | .node .., .leaf _,h=>by cases h
def aGh{α:Type}{f:α->Bool}{l:List α}(h:l.map f=[true]): ∃c,l=[c]/\f c=true:=by
 cases l with
 |nil=>cases h
 |cons a t=>
  rw[bY,List.cons.injEq] at h;exact⟨a,by rw[uJ.1 h.2],h.1⟩
def ZV:(Lf.map fun c=>BY ((dk FM (aC FM) c).restrictF []) ((rx [dG 0 0 2 2] 2).restrictF []))=[true]:=by decide+kernel
def aD9:dx FM (aC FM) (dd [dG 0 0 1 1] 2)=dd [dG 0 0 2 2] 2:=by
 obtain⟨c,hc,hr⟩:=aGh ZV;unfold dx;rw[Xe,hc,az9,Tr.restrict_F,Ip hr,<-Tr.restrict_F];rfl
section
variable {a b c:Tr} (ha:a.all aa.ok) (hb:b.all aa.ok) (hc:c.all aa.ok)
include ha hb
end
def aDO{k:Nat}{t:Tr}(h:gF k t):PF GB prog 35 [eA t] (.tp [eT t,vB true]):=aFF h.lb h.ok (by have:=h.s;omega)
def Gj{V:List ah}{E:List (ah×ah)}(hB:gu V E){t:Tr}(ht:t.all aa.ok): ∀l∈ve V E t,l.ok:=fun l hl=>by
 obtain⟨c,hc,hlc⟩:=fJ.1 hl;obtain⟨g,a⟩:=n7 ht c hc;exact pd (z' hB g a) l hlc
abbrev PZ:ah:=⟨0,0⟩
def rB(r:List ah)(i:Nat):ah:=r.getD ((i+1)%r.length) PZ
def Bb(v w:ah):bD:=⟨ew v w,⟨iC (ew v w) v,iC (ew v w) w,false,false⟩⟩
def qG(r:List ah):Nat->List bD
 |0=>[]
 |k+1=>qG r k++[Bb (r.getD k PZ) (rB r k)]
def lj(r:List ah):List bD:=qG r r.length
def CW(v w:ah):Prop:= ¬(v.x=w.x/\v.y=w.y)
structure lc (r:List ah):Prop where
 n3:3<=r.length
 n6:r.length<=6
 bd: ∀p∈r,aD p 7
 ne: ∀i<r.length,CW (r.getD i PZ) (rB r i)
def Gp{r:List ah}{i:Nat}(h:i<r.length):r.getD i PZ∈r:=by
 rw[aV,aZ h];exact dQ h
def Kf{r:List ah}{i:Nat}(h:i<r.length):rB r i∈r:=Gp (dW _ we)
def Jh{a b c:Rat}{i j k:Nat}(ha:BQ a i)(hb:BQ b j)(hc:BQ c k):(a.num*(b.den*c.den:Nat)).natAbs<2^(i+(j+k)):=by
 rw[fU,fT];exact lI ha.hn (lI hb.hd hc.hd)
theorem RM{p q:ah}(hp:aD p 7)(hq:aD q 7):LB (ew p q):=by
 have h1:BQ (p.y-q.y) 15:=inferInstance;have h2:BQ (q.x-p.x) 15:=inferInstance;have h3:BQ (-((p.y-q.y)*p.x+(q.x-p.x)*p.y)) 46:=BQ.mono (inferInstance:BQ (-((p.y-q.y)*p.x+(q.x-p.x)*p.y)) _);unfold ew dE;obtain⟨k1,k2,k3⟩:=xo ((p.y-q.y).num*((q.x-p.x).den*(-((p.y-q.y)*p.x+(q.x-p.x)*p.y)).den:Nat)) ((q.x-p.x).num*((p.y-q.y).den*(-((p.y-q.y)*p.x+(q.x-p.x)*p.y)).den:Nat)) ((-((p.y-q.y)*p.x+(q.x-p.x)*p.y)).num*((p.y-q.y).den*(q.x-p.x).den:Nat));have pw:(2:Nat)^(15+(15+46))<=2^96:=bR oma oma;have EB:(2:Nat)^(46+(15+15))<=2^96:=bR oma oma;exact⟨⟨dR k1 (cS (Jh h1 h2 h3) pw),dR k2 (cS (Jh h2 h1 h3) pw),dR k3 (cS (Jh h3 h1 h2) EB)⟩⟩
def aF9{p q:ah}(h:CW p q): ¬(p.y-q.y=0/\q.x-p.x=0):=fun⟨h1,h2⟩=>h ⟨omb,omb⟩
def Tq{p q:ah}(h:CW p q):(ew p q).ok:=xp (aF9 h)
theorem Ta{l:aa}{p:ah}(hl:LB l)(hp:aD p 7):BQ (iC l p) 1200:=by
 unfold iC ah.dot aa.dir;exact BQ.mono (inferInstance:BQ ((p.x*(l.b:Rat)+p.y*((-l.a:Int):Rat))/((l.b:Rat)*(l.b:Rat)+((-l.a:Int):Rat)*((-l.a:Int):Rat))) _)
def aJk{v w:ah}(hv:aD v 7)(hw:aD w 7)(h:CW v w):ml (Bb v w):=by
 have h1:=RM hv hw;exact⟨h1,Tq h,⟨fun e=>(by cases e),fun e=>(by cases e)⟩,Ta h1 hv,Ta h1 hw⟩
def Jb{r:List ah}(h:lc r): ∀{k:Nat},k<=r.length->(qG r k).length=k/\ ∀f∈qG r k,ml f
 |0,_=>⟨J,fun f hf=>by cases hf⟩
 |k+1,hk=>by
  obtain⟨h1,h2⟩:=Jb h (k:=k) we;rw[qG];refine⟨by simp[h1],fun f hf=>?_⟩;rcases bZ.1 hf with hf|hf
  .exact h2 f hf
  .rw[aT] at hf;subst hf
   exact aJk (h.bd _ (Gp we)) (h.bd _ (Kf we)) (h.ne k we)
def KP{r:List ah}(h:lc r):(lj r).length=r.length/\ ∀f∈lj r,ml f:=Jb h (bV _)
def jt(rs:List (List ah)):List bD:=rs.flatMap lj
def Dm: ∀{rs:List (List ah)},(∀r∈rs,lc r)->(jt rs).length<=6*rs.length/\ ∀f∈jt rs,ml f
 |[],_=>⟨bV _,fun f hf=>by cases hf⟩
 |r::rs,h=>by
  obtain⟨h1,h2⟩:=Dm (rs:=rs) fun q hq=>h q (aJ _ hq);obtain⟨k1,k2⟩:=KP (h r aQ);have:=(h r aQ).n6;unfold jt at*;rw[gJ];refine⟨by rw[aY,k1,aS];omega,fun f hf=>?_⟩;rcases bZ.1 hf with hf|hf
  .exact k2 f hf
  .exact h2 f hf
def px(r:List ah)(p:ah):Nat->Int
 |0=>0
 |k+1=>px r p k+sH (r.getD k PZ) (rB r k) p
def sg(r:List ah)(p:ah):Int:=px r p r.length
def qI(rs:List (List ah))(fill:Int)(p:ah):Bool:=vz fill (rs.foldl (fun n r=>n+sg r p) 0)
def Jz(rs:List (List ah))(fill:Int):Tr:=jD (qI rs fill) (jt rs).length (jt rs) []
def D4(rs:List (List ah))(fill:Int):Tr:=(Jz rs fill).restrict []
def mC(r:List ah):DV:= .sl (r.map eP)
def Ad(r:List ah):DV:= .sl (r.map om)
def aIN(l:List (List ah)):cO 1 (l.map mC):=fun d hd=>by
 obtain⟨u,_,rfl⟩:=aU.1 hd;exact⟨rfl,rfl⟩
def aJF(l:List (List ah)):cO 1 (l.map Ad):=fun d hd=>by
 obtain⟨u,_,rfl⟩:=aU.1 hd;exact⟨rfl,rfl⟩
def J2{r:List ah}{i:Nat}(h:i<r.length):(r.map eP)[((i:Nat):Int).toNat]? =some (eP (r.getD i PZ)):=by
 rw[cK,cJ,aV,aZ h];rfl
def N5{r:List ah}{i:Nat}(h:i<r.length):(r.map eP)[(((i+1)%r.length:Nat):Int).toNat]? =some (eP (rB r i)):=J2 (dW _ we)
def F1(r:List ah)(p:ah): ∀k,(px r p k).natAbs<=k
 |0=>bV _
 |k+1=>by rw[px];have:=F1 r p k;have:=aHV (r.getD k PZ) (rB r k) p;omega
def WD{v w:ah}[hv:aD v 7][hw:aD w 7](h:CW v w):PF GB prog 149 [eP v,eP w] (.tp [fG (Bb v w),vB true]):=by
 have hlo:=Tq h;haveI:=RM hv hw;refine fn func149 J J ntmps149 J J (fun C=>?_);refine cl (fu:=⟨3⟩) J (EC (p:=v) (q:=w) (i:=7) oma h) J<|ld 13 J<|gx J<|cl J (Hk (l:=ew v w) (p:=v) hlo.ne) J<|cl J (Hk (l:=ew v w) (p:=w) hlo.ne) J<|rz J J
def Rd{r:List ah}(h:lc r):PF GB prog 92 [mC r] (.sl ((lj r).map fG)):=by
 have hm:=ez eP r;have h3:=h.n3;have h6:=h.n6;refine fn (fu:=⟨15⟩) func92 J J ntmps92 J J (fun C=>?_);refine aj 8 (.d (vI (r.length:Nat))) J omu<|gx J<|nr 3 3 176 14 J J J<|lp (X:=Nat) (fun k=>[(9, .d (vI (k:Nat))),(3, .rw 3)]) (fun k=>[(3,some (.b 176 14 ((qG r k).map fG) true))]) (fun k=>k<=r.length) (fun k=>r.length-k) 0 J (aN _) (fun _=>J) (fun k hk=>?_);have hel:=fun hh=>(Jb (k:=k) h hh).1;refine br J J J (fun hc10=>?_) (fun hc10=>?_)
 .
  have hkr:k<r.length:=by omega
  have hel:=hel we;have hem:=ez fG (qG r k);haveI:=h.bd _ (Gp hkr);haveI:=h.bd _ (Kf hkr);refine ix (fu:=⟨7⟩) _ J (J2 hkr) J<|aj 22 (.d (vI ((k+1)%r.length:Nat))) J omu<|gx J<|ix _ J (N5 hkr) J<|cl J (WD (v:=r.getD k PZ) (w:=rB r k) (h.ne k hkr)) J<|rf J J<|ap ((qG r (k+1)).map fG) J (by rw[qG,aL];rfl) (AP [Bb (r.getD k PZ) (rB r k)]) J<|ek 31 3 J<|at_ (k+1) ⟨we,we⟩
 .
  obtain rfl:k=r.length:=by omega
  refine gw 3 J<|rz J J
theorem omr{p:Prop}(h:p:=by dsimp only;exact⟨⟨by rw[px,<-h1,<-hv,<-hw];unfold sH;split<;>split<;>omega,we⟩,we⟩):p:=h
def Wv{r:List ah}{p:ah}{i:Nat}[hp:aD p i](h:lc r)(hi:i<=80000:=by decide):PF GB prog 207 [mC r,eP p] (vI (sg r p)):=by
 have hm:=ez eP r;have h3:=h.n3;have h6:=h.n6;refine fn (fu:=⟨16⟩) func207 J J ntmps207 J J (fun C=>?_);refine aj 12 (.d (vI (r.length:Nat))) J omu<|gx J<|lp (X:=Nat×Int) (fun⟨k,c⟩=>[(13, .d (vI (k:Nat))),(5, .d (vI c))]) (fun⟨k,c⟩=>[]) (fun⟨k,c⟩=>c=px r p k/\k<=r.length) (fun⟨k,c⟩=>r.length-k) (0,0) J ⟨J,aN _⟩ (fun _=>J) (fun⟨k,c⟩ hk=>?_);dsimp only at hk⊢;obtain⟨h1,h2⟩:=hk;have hcl:c.natAbs<=k:=by rw[h1];exact F1 r p k
 refine br J J J (fun hc14=>?_) (fun hc14=>?_)
 .
  have hkr:k<r.length:=by omega
  obtain⟨v,hv⟩: ∃v,v=r.getD k PZ:=⟨_,rfl⟩;obtain⟨w,hw⟩: ∃v,v=rB r k:=⟨_,rfl⟩;haveI hvb:aD v 7:=by rw[hv];exact h.bd _ (Gp hkr)
  haveI hwb:aD w 7:=by rw[hw];exact h.bd _ (Kf hkr)
  refine ix (fu:=⟨1⟩) _ J (J2 hkr) J<|aj 19 (.d (eP v)) J (by rw[hv];rfl)<|gx (fu:=⟨6⟩) J<|aj 25 (.d (vI ((k+1)%r.length:Nat))) J omu<|gx J<|ix (fu:=⟨1⟩) _ J (N5 hkr) J<|aj 27 (.d (eP w)) J (by rw[hw];rfl)<|gx J<|cl J (lm (a:=v.y) (b:=p.y) (i:=7) (j:=i) oma we) J<|cl (fu:=⟨8⟩) J (lm (a:=w.y) (b:=p.y) (i:=7) (j:=i) oma we) J<|?_;rcases(show(bE v.y p.y<=0/\bE w.y p.y<=0)\/(bE v.y p.y<=0/\ ¬bE w.y p.y<=0)\/(¬bE v.y p.y<=0/\bE w.y p.y<=0)\/(¬bE v.y p.y<=0/\ ¬bE w.y p.y<=0) by omega) with⟨ca,cb⟩|⟨ca,cb⟩|⟨ca,cb⟩|⟨ca,cb⟩
  .
   refine gx (fu:=⟨1⟩) J<|d7 (fu:=⟨3⟩) J (omg we) J<|cv (fu:=⟨15⟩) J (omh we) J<|cv J (omh we) J<|at_ (k+1,c) omr
  .
   refine gx (fu:=⟨1⟩) J<|d7 (fu:=⟨3⟩) J (omg we) J<|d7 J (omg we) J<|cl J (In (a:=v) (b:=w) (c:=p) (i:=7) (j:=7) (k:=i) oma oma hi) J<|br (fu1:=⟨10⟩) (fu2:=⟨6⟩) J J J (fun hc51=>?_) (fun hc51=>?_)
   .
    refine cv J (omh we) J<|at_ (k+1,c+1) omr
   .
    refine cv J (omh we) J<|at_ (k+1,c) omr
  .
   refine gx (fu:=⟨1⟩) J<|cv (fu:=⟨19⟩) J (omh we) J<|d7 (fu:=⟨2⟩) J (omg we) J<|d7 J (omg we) J<|cl J (In (a:=v) (b:=w) (c:=p) (i:=7) (j:=7) (k:=i) oma oma hi) J<|br J J J (fun hc65=>?_) (fun hc65=>?_)
   .
    exact at_ (k+1,c-1) omr
   .
    exact at_ (k+1,c) omr
  .
   refine gx (fu:=⟨1⟩) J<|cv (fu:=⟨19⟩) J (omh we) J<|d7 (fu:=⟨2⟩) J (omg we) J<|cv J (omh we) J<|at_ (k+1,c) omr
 .
  obtain rfl:k=r.length:=by omega
  have hfin:sg r p=c:=h1.symm;exact rz J oze
def Jf(rs:List (List ah)):List aa:=(jt rs).map bD.l
def x5(rs:List (List ah))(fill:Int):DV:= .ag [.sl (rs.map mC), .v (.int .i64 fill), .sl ((mE (Jf rs)).map eL)]
def aJd{rs:List (List ah)}{p:ah}(h: ∀r∈rs,lc r)(k:Nat):((rs.take k).foldl (fun n r=>n+sg r p) 0).natAbs<=6*k:=by
 induction k with
 |zero=>rw[uU];exact aN _
 |succ k ih=>
  rw[dJ,mV]
  cases e:rs[k]? with
  |none=>exact cX ih we
  |some r=>
   have h1:(sg r p).natAbs<=r.length:=F1 r p r.length;have h2:=(h r (aK e)).n6;show(List.foldl _ 0 (rs.take k)+sg r p).natAbs<=_;omega
def aLY{rs:List (List ah)}{fill:Int}{p:ah}{i:Nat}[hp:aD p i](h: ∀r∈rs,lc r)(hn:rs.length<=100)(hi:i<=80000:=by decide):PF GB prog 150 [x5 rs fill,eP p] (vB (qI rs fill p)):=by
 have hm:=ez mC rs;refine fn (fu:=⟨18⟩) func150 J J ntmps150 J J (fun C=>?_);refine aj 10 (.d (vI (rs.length:Nat))) J omu<|gx J<|lp (X:=Nat×Int) (fun⟨k,c⟩=>[(11, .d (vI (k:Nat))),(5, .d (vI c))]) (fun⟨k,c⟩=>[]) (fun⟨k,c⟩=>c=(rs.take k).foldl (fun n r=>n+sg r p) 0/\k<=rs.length) (fun⟨k,c⟩=>rs.length-k) (0,0) J ⟨by rw[uU];rfl,aN _⟩ (fun _=>J) (fun⟨k,c⟩ hk=>?_);dsimp only at hk⊢;obtain⟨h1,h2⟩:=hk;have hcl:c.natAbs<=6*k:=by rw[h1];exact aJd h k
 refine br J J J (fun hc12=>?_) (fun hc12=>?_)
 .
  obtain⟨r,hz⟩: ∃s,rs[k]? =some s:=⟨_,aZ we⟩;have hr:=h r (aK hz);have hnz:(sg r p).natAbs<=6:=cX (F1 r p r.length) hr.n6;refine ix _ J (cp hz) J<|cl J (Wv (r:=r) (p:=p) hr hi) J<|at_ (k+1,c+sg r p) (by dsimp only;exact⟨⟨by rw[dJ,hz,mV,<-h1];rfl,we⟩,we⟩)
 .
  obtain rfl:k=rs.length:=by omega
  rw[cN] at h1;refine cl J (avZ (fill:=fill) (n:=c) we) J<|rz J (by unfold qI;rw[<-h1];rfl)
theorem U4{r:List ah}(h: ∀p∈r,aD p 7): ∀p∈r,aD p 1200:=fun p hp=>⟨BQ.mono (h p hp).x,BQ.mono (h p hp).y⟩
def T7{rs:List (List ah)}{k:Nat}{r:List ah}(h:rs[k]? =some r):jt (rs.take (k+1))=jt (rs.take k)++lj r:=by
 unfold jt;rw[dJ,h,qN];simp
def P0{rs:List (List ah)}(h: ∀r∈rs,lc r)(k:Nat):(jt (rs.take k)).length<=6*k:=by
 have:=(Dm (rs:=rs.take k) (fun r hr=>h r (eK hr))).1;have h2:(rs.take k).length<=k:=by rw[bL];omega
 omega
def aHm{rs:List (List ah)}{fill:Int}(h: ∀r∈rs,lc r)(hn:rs.length<=100):PF GB prog 48 [.sl (rs.map Ad), .v (.int .i64 fill)] (x5 rs fill):=by
 have hm:=ez Ad rs;refine fn (fu:=⟨8⟩) func48 J J ntmps48 J J (fun C=>?_);refine YF (fu:=⟨14⟩) 27 1 0 [] [.v (.int .i64 fill), .sl []] J J J J J<|aj 15 (.d (vI (rs.length:Nat))) J omu<|gx J<|nr 6 6 54 6 J J J<|lp (X:=Nat) (fun k=>[(16, .d (vI (k:Nat))),(6, .rw 6),(5, .ov 5 0)]) (fun k=>[(5,some (.o 110 [.rw 13, .d (.v (.int .i64 fill)), .d (.sl [])] true)),(13,some (.b 27 1 ((rs.take k).map mC) true)),(6,some (.b 54 6 (((jt (rs.take k)).map bD.l).map eL) true))]) (fun k=>k<=rs.length) (fun k=>rs.length-k) 0 J (aN _) (fun _=>J) (fun k hk=>?_);refine br (fu2:=⟨0⟩) J J J (fun hc17=>?_) (fun hc17=>?_)
 .
  obtain⟨r,hz⟩: ∃s,rs[k]? =some s:=⟨_,aZ we⟩;have hr:=h r (aK hz);have hel:(lj r).length<=6:=by have:=(KP hr).1;have:=hr.n6;omega
  have het:=P0 h k;have hrl:((rs.take k).map mC).length=k:=by rw[aX,bL];omega
  refine ix _ J (cp hz) J<|cl (fu:=⟨0⟩) J (aLS (ps:=r) (U4 hr.bd) (by have:=hr.n6;omega)) J<|aj 21 (.d (mC r)) J J<|gx J<|rf J J<|ap ((rs.take (k+1)).map mC) J (w6 hz) (aIN [r]) J<|cl (fu:=⟨1⟩) J (Rd (r:=r) hr) J<|aj 30 (.d (vI ((lj r).length:Nat))) J (by rw[ez fG (lj r)]<;>rfl)<|gx J<|?_;rw[<-fR (jt (rs.take k)),<-uU (l:=lj r)];refine lp (X:=Nat) (fun j=>[(31, .d (vI (j:Nat))),(6, .rw 6)]) (fun j=>[(6,some (.b 54 6 (((jt (rs.take k)++(lj r).take j).map bD.l).map eL) true))]) (fun j=>j<=(lj r).length) (fun j=>(lj r).length-j) 0 J (aN _) (fun _=>J) (fun j hk=>?_);have hml:(((jt (rs.take k)++(lj r).take j).map bD.l).map eL).length<=6*k+6:=by rw[aX,aX,aY,bL];omega
  refine br J J J (fun hc32=>?_) (fun hc32=>?_)
  .
   obtain⟨e,he⟩: ∃s,(lj r)[j]? =some s:=⟨_,aZ we⟩;refine ix _ J (cp he) J<|rf J J<|ap (((jt (rs.take k)++(lj r).take (j+1)).map bD.l).map eL) J (by rw[dJ,he];simp only[aL,dT];rfl) (du [e.l]) J<|ek 39 6 J<|at_ (j+1) ⟨we,we⟩
  .
   obtain rfl:j=(lj r).length:=by omega
   rw[cN,<-T7 hz];refine ek 26 13 J<|at_ (k+1) ⟨we,we⟩
 .
  obtain rfl:k=rs.length:=by omega
  rw[cN];refine nj 6 rfl<|nj 13 rfl<|gx rfl<|cr rfl (arn (ls:=Jf rs) (fun l hl=>by obtain⟨f,hf,rfl⟩:=aU.1 hl;exact((Dm h).2 f hf).lb) (by unfold Jf;rw[aX];have:=(Dm h).1;omega)) rfl<|gw 43 rfl<|rz J J
def aIi{rs:List (List ah)}(h: ∀r∈rs,lc r)(hn:rs.length<=100):PF GB prog 49 [.sl (rs.map mC)] (.sl (rs.map Ad)):=by
 have hm:=ez mC rs;refine fn (fu:=⟨15⟩) func49 J J ntmps49 J J (fun C=>?_);refine aj 7 (.d (vI (rs.length:Nat))) J omu<|gx J<|nr 3 3 70 1 J J J<|lp (X:=Nat) (fun k=>[(8, .d (vI (k:Nat))),(3, .rw 3)]) (fun k=>[(3,some (.b 70 1 ((rs.take k).map Ad) true))]) (fun k=>k<=rs.length) (fun k=>rs.length-k) 0 J (aN _) (fun _=>J) (fun k hk=>?_);have hml:((rs.take k).map Ad).length<=k:=by rw[aX,bL];omega
 refine br J J J (fun hc9=>?_) (fun hc9=>?_)
 .
  obtain⟨r,hz⟩: ∃s,rs[k]? =some s:=⟨_,aZ we⟩;have hr:=h r (aK hz);refine ix (fu:=⟨1⟩) _ J (cp hz) J<|aj 11 (.d (.sl (r.map eP))) J J<|gx J<|cl J (UZ (ps:=r) (U4 hr.bd) (by have:=hr.n6;omega)) J<|rf J J<|ap ((rs.take (k+1)).map Ad) J (w6 hz) (aJF [r]) J<|ek 16 3 J<|at_ (k+1) ⟨we,we⟩
 .
  obtain rfl:k=rs.length:=by omega
  refine gw 3 J<|rz J (by rw[cN];rfl)
def aup{rs:List (List ah)}{fill:Int}(hrs: ∀r∈rs,lc r)(hrn:rs.length<=100){n:Nat}{c:List aa}(hc: ∀m∈c,LB m)(hok: ∀m∈c,m.ok)(hn:c.length<=900):PF GB prog 93 [x5 rs fill, .sl [], .sl (c.map eL)] (eT (jD (qI rs fill) n [] c)):=by
 haveI hpb:=Qu hc hok (t:=c) (fun _ h=>h);refine fn (fu:=⟨11⟩) func93 J J ntmps93 J J (fun C=>?_);refine d7 J J J<|cl J (Km (c:=c) hc hok we) J<|cl J (aLY (p:=kv c c) (i:=70000) hrs hrn oma) J<|cl J (oC (p:=qI rs fill (kv c c))) J<|rz J (by rw[aBu];rfl)
def at8{rs:List (List ah)}{fill:Int}(hrs: ∀r∈rs,lc r)(hrn:rs.length<=100){n:Nat}{f:bD}{t:List bD}{c:List aa}(hfew:uI (n+1) (f::t))(hfo: ∀g∈f::t,ml g)(hlen:(f::t).length*3^(n+1)<=6973568802)(hc: ∀m∈c,LB m)(hok: ∀m∈c,m.ok)(hn:c.length+(n+1)<=900)(ih: ∀{l:List bD} {c:List aa},uI n l->(∀f∈l,ml f)->l.length*3^n<=6973568802->(∀m∈c,LB m)->(∀m∈c,m.ok)->c.length+n<=900->PF GB prog 93 [x5 rs fill, .sl (l.map fG), .sl (c.map eL)] (eT (jD (qI rs fill) n l c))):PF GB prog 93 [x5 rs fill, .sl ((f::t).map fG), .sl (c.map eL)] (eT (jD (qI rs fill) (n+1) (f::t) c)):=by
 obtain⟨l,hl⟩: ∃l,l=f::t:=⟨_,rfl⟩;have hl0:l[0]? =some f:=by rw[hl];rfl
 rw[<-hl] at hfew hfo hlen⊢;have hm:=ez fG l;have hfl:=hfo f (aK hl0);haveI:=hfl.lb;have hlp:0<l.length:=by rw[hl];simp
 have hlb:l.length<=6973568802:=cX (nZ _ (gU oma)) hlen;refine fn (fu:=⟨11⟩) func93 J J ntmps93 J J (fun C=>?_);refine aj 17 (.d (vI (l.length:Nat))) J omu<|gx (fu:=⟨0⟩) J<|cv J (omh we) J<|ix (fu:=⟨17⟩) _ J (cp (i:=0) hl0) J<|aj 33 (.d (vI (l.length:Nat))) J omu<|gx J<|nr 10 10 176 14 J J J<|nr 11 11 176 14 J J J<|lp (X:=Nat) (fun k=>[(34, .d (vI (k:Nat))),(10, .rw 10),(11, .rw 11)]) (fun k=>[(10,some (.b 176 14 (((l.take k).flatMap fun g=>fE g f.l 1).map fG) true)),(11,some (.b 176 14 (((l.take k).flatMap fun g=>fE g f.l (-1)).map fG) true))]) (fun k=>k<=l.length) (fun k=>l.length-k) 0 J (aN _) (fun _=>J) (fun k hk=>?_);have htk:(l.take k).length<=6973568802:=by rw[bL];omega
 have hb1:(((l.take k).flatMap fun g=>fE g f.l 1).map fG).length<=20920706406:=by rw[aX];have:=GK (l.take k) f.l 1;omega
 have hb2:(((l.take k).flatMap fun g=>fE g f.l (-1)).map fG).length<=20920706406:=by rw[aX];have:=GK (l.take k) f.l (-1);omega
 refine br (fu2:=⟨0⟩) J J J (fun hc35=>?_) (fun hc35=>?_)
 .
  obtain⟨g,hz⟩: ∃s,l[k]? =some s:=⟨_,aZ we⟩;have hg:=hfo g (aK hz);have hs1:((fE g f.l 1).map fG).length<=3:=by rw[aX];exact Jp _ _ _
  have hs2:((fE g f.l (-1)).map fG).length<=3:=by rw[aX];exact Jp _ _ _
  refine ix _ J (cp hz) J<|cl J (aDz (f:=g) (m:=f.l) hg hfl.ok) J<|ap (hbd:=we) (((l.take (k+1)).flatMap fun g=>fE g f.l 1).map fG) J (by rw[Rs hz,aL]) (AP _) J<|ap (hbd:=we) (((l.take (k+1)).flatMap fun g=>fE g f.l (-1)).map fG) J (by rw[Rs hz,aL]) (AP _) J<|ek 46 10 J<|ek 49 11 J<|at_ (k+1) ⟨we,we⟩
 .
  obtain rfl:k=l.length:=by omega
  rw[cN];refine nj 10 rfl<|nj 11 rfl<|gx rfl<|oG J J<|ap (c.map eL) J J (du c) rfl<|rf J J<|kz ((c++[f.l]).map eL) rfl omO (du [f.l]) rfl<|cl rfl (ih (c:=c++[f.l]) (by subst hl;exact uI.split hfew hfo) (fun g hg=>by obtain⟨q,hq,hg⟩:=fJ.1 hg;exact(JJ (hfo q hq) hfl.lb g hg).1) (by have:=GK l f.l 1;rw[iK] at hlen;exact cX (bW _ this) (by rw[cW 3,cR];rw[cW (3^n)] at hlen;exact hlen)) (tF hc hfl.lb) (jp hok hfl.ok) ozm) rfl<|oG J J<|ap (c.map eL) J J (du c) rfl<|cl rfl (ym (l:=f.l)) rfl<|rf J J<|kz ((c++[f.l.rev]).map eL) rfl omO (du [f.l.rev]) rfl<|cl (fu:=⟨1⟩) rfl (ih (c:=c++[f.l.rev]) (by subst hl;exact uI.split hfew hfo) (fun g hg=>by obtain⟨q,hq,hg⟩:=fJ.1 hg;exact(JJ (hfo q hq) hfl.lb g hg).1) (by have:=GK l f.l (-1);rw[iK] at hlen;exact cX (bW _ this) (by rw[cW 3,cR];rw[cW (3^n)] at hlen;exact hlen)) (tF hc hfl.lb.rev) (jp hok hfl.ok.rev) ozm) rfl<|GY J J<|rz rfl (by subst hl;rfl)
def Vq{rs:List (List ah)}{fill:Int}(hrs: ∀r∈rs,lc r)(hrn:rs.length<=100): ∀{n:Nat} {l:List bD} {c:List aa},uI n l->(∀f∈l,ml f)->l.length*3^n<=6973568802->(∀m∈c,LB m)->(∀m∈c,m.ok)->c.length+n<=900->PF GB prog 93 [x5 rs fill, .sl (l.map fG), .sl (c.map eL)] (eT (jD (qI rs fill) n l c))
 |n,[],c,_,_,_,hc,hok,hn=>aup hrs hrn hc hok we
 |0,f::t,c,hf,_,_,_,_,_=>by
  obtain⟨K,h1,h2⟩:=hf;obtain⟨m,hm,_⟩:=h2 f aQ;rw[cY (l:=K) we] at hm
  cases hm
 |n+1,f::t,c,hf,ho,hl,hc,hok,hn=>at8 hrs hrn hf ho hl hc hok hn (fun a1 a2 a3 a4 a5 a6=>Vq hrs hrn a1 a2 a3 a4 a5 a6)
def Xm{rs:List (List ah)}{fill:Int}(hrs: ∀r∈rs,lc r)(hrn:rs.length<=3):PF GB prog 47 [x5 rs fill] (eT (D4 rs fill)):=by
 have hm:=ez mC rs;have hE:=Dm hrs;have hraw:=Ex (acc:=qI rs fill) hE.2 J;refine fn (fu:=⟨17⟩) func47 J J ntmps47 J J (fun C=>?_);refine aj 8 (.d (vI (rs.length:Nat))) J omu<|gx J<|nr 3 3 176 14 J J J<|lp (X:=Nat) (fun k=>[(9, .d (vI (k:Nat))),(3, .rw 3)]) (fun k=>[(3,some (.b 176 14 ((jt (rs.take k)).map fG) true))]) (fun k=>k<=rs.length) (fun k=>rs.length-k) 0 J (aN _) (fun _=>J) (fun k hk=>?_);have het:((jt (rs.take k)).map fG).length<=6*k:=by rw[aX];exact P0 hrs k
 refine br J J J (fun hc10=>?_) (fun hc10=>?_)
 .
  obtain⟨r,hz⟩: ∃s,rs[k]? =some s:=⟨_,aZ we⟩;have hr:=hrs r (aK hz);have hel:((lj r).map fG).length<=6:=by rw[aX];have:=(KP hr).1;have:=hr.n6;omega
  refine ix _ J (cp hz) J<|cl J (Rd (r:=r) hr) J<|ap (hbd:=we) ((jt (rs.take (k+1))).map fG) J (by rw[T7 hz,aL]) (AP _) J<|ek 16 3 J<|at_ (k+1) ⟨we,we⟩
 .
  obtain rfl:k=rs.length:=by omega
  rw[cN];refine fz 3 J J<|cl J (Vq (n:=(jt rs).length) (l:=jt rs) (c:=[]) hrs we (aAN _) hE.2 (aE9 (by have:=hE.1;omega)) (fun m h=>by cases h) (fun m h=>by cases h) (by have:=hE.1;rw[eX];omega)) J<|cl J (JT (t:=Jz rs fill) hraw.gd.lb hraw.gd.ok (by have:=hraw.dp;have:=hE.1;show(jD _ _ _ _).depth<=900;omega)) J<|rz J J
def aJ0(v w:ZP):ew v.q w.q=ji v.1 v.2 w.1 w.2:=by
 unfold ew ji ZP.q iP;rw[<-IB];dsimp only;unfold oD jl jr;have e1:((-(w.2-v.2):Int):Rat)=(v.2:Rat)-(w.2:Rat):=by push_cast;grind
 have e2:((w.1-v.1:Int):Rat)=(w.1:Rat)-(v.1:Rat):=by push_cast;rfl
 have e3:((-(-(w.2-v.2)*v.1+(w.1-v.1)*v.2):Int):Rat)= -(((v.2:Rat)-(w.2:Rat))*(v.1:Rat)+((w.1:Rat)-(v.1:Rat))*(v.2:Rat)):=by push_cast;grind
 rw[e1,e2,e3]
def aIh(v w:ZP):Bb v.q w.q=ph v w:=by unfold Bb ph;rw[aJ0]
def GN(r:List ZP)(k:Nat):(r.map ZP.q).getD k PZ=(r.getD k (0,0)).q:=by
 rw[aV,aV,cJ]
 cases r[k]? with
 |some p=>rfl
 |none=>show PZ=ZP.q (0,0);unfold ZP.q iP;simp
def LX(r:List ZP)(k:Nat):rB (r.map ZP.q) k=(jy r k).q:=by unfold rB jy;rw[GN,aX]
def Un(r:List ZP): ∀k,qG (r.map ZP.q) k=s9 r k
 |0=>rfl
 |k+1=>by rw[qG,s9,Un r k,GN,LX,aIh]
def OM(r:List ZP)(p:ah): ∀k,px (r.map ZP.q) p k=GQ r p k
 |0=>rfl
 |k+1=>by rw[px,GQ,OM r p k,GN,LX]
def Wa(r:List ZP)(fill:Int):D4 [r.map ZP.q] fill=dd [r] fill:=by
 have e1:jt [r.map ZP.q]=qO [r]:=by
  unfold jt qO;rw[gJ,gJ];unfold lj wq;rw[aX,Un];rfl
 have e2:qI [r.map ZP.q] fill=vj [r] fill:=by
  funext p;unfold qI vj;rw[iQ,iQ];unfold sg Qg;rw[aX,OM];rfl
 unfold D4 dd Jz rx;rw[e1,e2]
def aKU{r:List ZP}(h:gE r):lc (r.map ZP.q):=by
 refine⟨by rw[aX];exact h.n3,by rw[aX];exact h.n6,fun q hq=>?_,fun i hi=>?_⟩
 .obtain⟨z,hz,rfl⟩:=aU.1 hq
  have:=h.le z hz;have e7:(2:Nat)^7=128:=by decide
  exact⟨⟨by show((z.1:Int):Rat).num.natAbs<_;rw[lL,e7];have:=this.1;omega,by show((z.1:Int):Rat).den<_;rw[lM,e7];decide⟩,⟨by show((z.2:Int):Rat).num.natAbs<_;rw[lL,e7];have:=this.2;omega,by show((z.2:Int):Rat).den<_;rw[lM,e7];decide⟩⟩
 .rw[aX] at hi
  have hne:=h.ne i hi;rw[GN,LX];rintro ⟨e1,e2⟩;exact hne (Prod.ext (oK.1 e1) (oK.1 e2))
def KL{r:List ah}(h:lc r): ∀q∈[r],lc q:=fun q hq=>by rw[aT.1 hq];exact h
def az2{r:List ah}(h:lc r):PF GB prog 20 [mC r] (eT (D4 [r] 2)):=by
 refine fn func20 J J ntmps20 J J (fun C=>?_);refine rf (fu:=⟨0⟩) J J<|aj 4 (.d (.sl ([r].map mC))) J J<|gx J<|cl J (aIi (rs:=[r]) (KL h) omc) J<|cl J (aHm (rs:=[r]) (fill:=2) (KL h) omc) J<|cl J (Xm (rs:=[r]) (fill:=2) (KL h) omc) J<|rz J J
def aJX(r:List ZP):mC (r.map ZP.q)=nI r:=by unfold mC nI;rw[oU];rfl
def DE{r:List ZP}(h:gE r):PF GB prog 20 [nI r] (eT (dd [r] 2)):=by
 have:=az2 (GB:=GB) (aKU h);rwa [aJX,Wa] at this
def SL{r:List ZP}(h:gE r): ∀q∈[r],gE q:=fun q hq=>by rw[aT.1 hq];exact h
def LG{r:List ZP}(h:gE r):PF GB prog 9 [nI r] (rG r):=by
 have hn:=h.n6;have:=UZ (GB:=GB) (ps:=r.map ZP.q) (fun p hp=>aD.mono (Vd h p hp) oma) okF;rw[CJ] at this;exact this
def aDY{r:List ZP}(hV:eO (r.map ZP.q)){t:Tr}(h:ij t):PF GB prog 14 [eT t,nI r] (eT (iq (r.map ZP.q) t)):=by
 rw[<-CJ];exact OU hV h
def aE7{r:List ZP}(hV:eO (r.map ZP.q)){t:Tr}(h:ij t):PF GB prog 15 [eT t,nI r] (eT (m9 (r.map ZP.q) t)):=by
 rw[<-CJ];exact aJj hV h
def IS{a b:Int}(h1:a.natAbs<=50:=by decide)(h2:b.natAbs<=50:=by decide):PF GB prog 34 [.v (.int .i64 a), .v (.int .i64 b)] (nI (dG a a b b)):=by
 refine fn func34 J J ntmps34 J J (fun C=>?_);refine cl J (jn (m:=a) (n:=a)) J<|cl J (jn (m:=b) (n:=a)) J<|cl J (jn (m:=b) (n:=b)) J<|cl J (jn (m:=a) (n:=b)) J<|rf J J<|rz J J
def CG:gE (dG 0 0 1 1):=Ko
def KO:gE (dG 0 0 2 2):=Ko
def Fj:eO ((dG 0 0 1 1).map ZP.q)/\ln ((dG 0 0 1 1).map ZP.q)=true:=NJ (a:=0) (b:=0) (c:=1) (d:=1)
def E0:ij (dd [dG 0 0 1 1] 2):=by
 have h1: ∀p∈dG 0 0 1 1,p.1.natAbs<=3/\p.2.natAbs<=3:=fun p hp=>by
  simp only[dG,aW,dK,or_false] at hp;rcases hp with rfl|rfl|rfl|rfl<;>exact⟨oma,oma⟩
 have:=V8 CG oma;exact MM CG h1 (by rw[show(dG 0 0 1 1).length=4 from J];omega)
def YP:qk (iq ((dG 0 0 1 1).map ZP.q) (dd [dG 0 0 1 1] 2)) (dd [dG 0 0 2 2] 2):=by
 have h1:=(Bh Fj.1 E0).1;have h2:=IQ (fill:=2) (SL KO) omc;exact⟨h1.gd,h2.gd,h1.s,(h2.x (Ht _ _) oma).s⟩
def aHi:uu (iq ((dG 0 0 1 1).map ZP.q) (dd [dG 0 0 1 1] 2)) (dd [dG 0 0 2 2] 2)=true:=by
 rw[show iq ((dG 0 0 1 1).map ZP.q) (dd [dG 0 0 1 1] 2)=dd [dG 0 0 2 2] 2 from aD9];have h2:=(IQ (fill:=2) (SL KO) omc).gd.ok;exact Y5 h2 h2 (L:=(dd [dG 0 0 2 2] 2).lns) (pd h2) (fun l hl=>hl) (fun l hl=>hl) fun p _=>J
def ayk{ai al ae:Addr}(hE:EG GB ai al ae):PF GB prog 12 [] (.v (.bool true)):=by
 have hx:=(Bh Fj.1 E0).1;refine fn func12 J J ntmps12 J J (fun C=>?_);refine cl J (IS (a:=0) (b:=1)) J<|cl J (DE CG) J<|cl J (S6 E0.x) J<|cl J (IS (a:=0) (b:=1)) J<|cl J (LG CG) J<|cl J (aII hE (SP CG oma oma) Fj.2 Fj.1 E0) J<|cl (fu:=⟨10⟩) J (aDO hx) J<|d7 (fu:=⟨2⟩) J J J<|ld 22 J<|gx J<|cl J (IS (a:=0) (b:=2)) J<|cl J (DE KO) J<|cl (fu:=⟨0⟩) J (Xs YP) J<|aj 28 (.d (.v (.bool true))) J (by rw[aHi]<;>rfl)<|gx J<|rz J J
def axJ{b:Nat}{es:List Int}(hes:es.length<=400){a:Nat}(ha:a<=es.length):PM GB prog 5 (lg [none] b) b 46 [.sl (es.map vI), .v (.int .i64 (a:Nat))] (eT (jj es a).1) [.sl (es.map vI), .v (.int .i64 ((jj es a).2:Nat))]:=by
 have hk0:=im (n:=4) ha;obtain⟨hl,hl2⟩:=I2 hk0;obtain⟨hv,hv2⟩:=xv hk0;refine Au func5 J J ntmps5 J J (fun C b m lo hmb=>?_);refine cm J (fun b=>(nD (n:=4) hes ha)) J<|br J J J (fun hc5=>?_) (fun hc5=>?_)
 .
  refine cm J (fun b=>(aM5 hes hk0)) J<|cl J (oC (p:=true)) J<|cl (fu:=⟨1⟩) J (oC (p:=false)) J<|GY J J<|cl J (JT (t:= .node (lF es (au es 4 a).2).1 (.leaf true) (.leaf false)) ⟨⟨hl.bl⟩,trivial,trivial⟩ ⟨hl.ok,trivial,trivial⟩ (by simp[Tr.depth])) J<|?_;exact oo hmb J J (by rw[show jj es a=_ from if_pos hc5];rfl) (by rw[show jj es a=_ from if_pos hc5])
 .
  refine br J J J (fun hc14=>?_) (fun hc14=>?_)
  .
   refine cm J (fun b=>(M4 hes hk0)) J<|cl J (DE hv) J<|?_;exact oo hmb J J (by rw[show jj es a=_ from(if_neg hc5).trans (if_pos hc14)];rfl) (by rw[show jj es a=_ from(if_neg hc5).trans (if_pos hc14)])
  .
   refine br J J J (fun hc19=>?_) (fun hc19=>?_)
   .
    refine cm J (fun b=>(M4 hes hk0)) J<|cl J (DE hv) J<|cl J (mj (t:=dd [(cg es (au es 4 a).2).1] 2)) J<|?_;exact oo hmb J J (by rw[show jj es a=_ from(if_neg hc5).trans ((if_neg hc14).trans (if_pos hc19))];rfl) (by rw[show jj es a=_ from(if_neg hc5).trans ((if_neg hc14).trans (if_pos hc19))])
   .
    refine cl J (jn (m:=0) (n:=0) oma oma) J<|cl J (jn (m:=3) (n:=0) oma oma) J<|cl J (jn (m:=3) (n:=1) oma oma) J<|cl J (jn (m:=1) (n:=1) oma oma) J<|cl J (jn (m:=1) (n:=3) oma oma) J<|cl J (jn (m:=0) (n:=3) oma oma) J<|rf (fu:=⟨0⟩) J J<|aj 31 (.d (nI jE)) J J<|gx J<|cl J (DE L0) J<|?_;exact oo hmb J J (by rw[show jj es a=_ from(if_neg hc5).trans ((if_neg hc14).trans (if_neg hc19))];rfl) (by rw[show jj es a=_ from(if_neg hc5).trans ((if_neg hc14).trans (if_neg hc19))])
def ZU{b:Nat}{es:List Int}(hes:es.length<=400){a a':Nat}{t:Tr}(ha:a<=es.length)(hr:t=(jj es a).1)(ha':a'=(jj es a).2):PM GB prog 5 (lg [none] b) b 46 [.sl (es.map vI), .v (.int .i64 (a:Nat))] (eT t) [.sl (es.map vI), .v (.int .i64 (a':Nat))]:=by
 subst hr;subst ha';exact axJ hes ha
def WR{b:Nat}{es:List Int}(hes:es.length<=400){a a':Nat}{r:List ZP}(ha:a<=es.length)(hr:r=(cg es a).1)(ha':a'=(cg es a).2):PM GB prog 6 (lg [none] b) b 46 [.sl (es.map vI), .v (.int .i64 (a:Nat))] (nI r) [.sl (es.map vI), .v (.int .i64 (a':Nat))]:=by
 subst hr;subst ha';exact M4 hes ha
def aKN{a b:Tr}(ha:a.gd)(hb:b.gd)(hsa:a.size<=65536)(hsb:b.size<=65536):PF GB prog 31 [eA a,eA b] (.tp [J1 a b, .v .nilIface]):=by
 refine fn func31 J J ntmps31 J J (fun C=>?_);refine cl (fu:=⟨3⟩) J (Je ha.lb ha.ok hsa) J<|ld 14 J<|gx J<|cl (fu:=⟨3⟩) J (Je hb.lb hb.ok hsb) J<|ld 19 J<|gx J<|rz J J
def aEx{ai al ae:Addr}(hE:EG GB ai al ae){op:Int}{a b:Tr}(ha:a.gd)(hb:b.gd)(hsa:a.size<=65536)(hsb:b.size<=65536)(h:jG op a b=some (.leaf false)):PF GB prog 68 [J1 a b,vI op] (.tp [vB true, .v .nilIface]):=by
 refine fn func68 J J ntmps68 J J (fun C=>?_);refine cl J (aGU hE ha hb hsa hsb h) J<|cl (fu:=⟨0⟩) J p6 J<|ld 21 J<|gx J<|rz J J
def aAU{L:List aa}{q:ah}(h:q∈gj L): ∃l∈L,∃m∈L,crossI l m≠0/\q=cx l m:=MJ h
def Ox(f:ah×ah)(m:Rat):aa:=dE (aB f).x (aB f).y (-(m+(aB f).dot f.1))
def fm(n:ah)(l:aa):Bool:=decide (n.dot l.dir=0)
def sk{α:Type}:List α->List (α×α)
 |[]=>[]
 |a::t=>t.map (fun b=>(a,b))++sk t
def PW{α:Type}: ∀l:List α,2*(sk l).length+l.length=l.length*l.length
 |[]=>rfl
 |a::t=>by
  have ih:=PW t;rw[sk,aY,aX,aS];generalize t.length=n at*;have:(n+1)*(n+1)=n*n+2*n+1:=by grind
  omega
def VS{α:Type}{a b:α}(h:a≠b): ∀{l:List α},a∈l->b∈l->(a,b)∈sk l\/(b,a)∈sk l
 |[],ha,_=>by cases ha
 |c::t,ha,hb=>by
  rw[sk];rcases aW.1 ha with e1|ha
  .rcases aW.1 hb with e2|hb
   .exact absurd (e1.trans e2.symm) h
   .exact .inl (bU _ (aU.2 ⟨b,hb,by rw[e1]⟩))
  .rcases aW.1 hb with e2|hb
   .exact .inr (bU _ (aU.2 ⟨a,ha,by rw[e2]⟩))
   .exact(VS h ha hb).imp (bQ _) (bQ _)
def xy(n:ah)(K:List aa):List Rat:=(K.filter (fm n)).map (fun l=>n.dot l.base)++((sk (K.filter fun l=>!fm n l)).filter fun x=>decide (crossI x.1 x.2≠0)).map fun x=>n.dot (cx x.1 x.2)
def Wq{l:aa}(hl:l.ok){n p:ah}(hn:n.dot l.dir=0)(hp:l.value p=0):n.dot p=n.dot l.base:=by
 obtain⟨t,rfl⟩:=AR hl.ne hp;unfold aa.at ah.add ah.scale ah.dot at*;dsimp only at*;grind
def Mt{k l:aa}(h:k.same l){p:ah}:k.value p=0↔l.value p=0:=by
 rcases h with h|h
 .rw[h]
 .rw[h,en];constructor<;>intro h<;>grind
def T8(k l:aa):crossI k.rev l= -crossI k l/\crossI k l.rev= -crossI k l:=by
 unfold crossI aa.rev;dsimp only;rw[uS,tY,tY,uS];constructor<;>omega
def Zs{k l k' l':aa}(h:k.same l)(h':k'.same l')(hc:crossI l l'≠0):crossI k k'≠0:=by
 have r:=T8 k k';have r2:=T8 k k'.rev;rcases h with e|e<;>rcases h' with e'|e'<;>rw[e,e'] at hc<;>omega
def Eb{k l:aa}(h:k.same l){n:ah}:n.dot k.dir=0↔n.dot l.dir=0:=by
 rcases h with rfl|rfl
 .exact Iff.rfl
 .unfold aa.rev aa.dir ah.dot
  simp only[gW];constructor<;>intro h<;>grind
def Yl{l m:aa}(h:crossI l m≠0):cx l m=cx m l:=by
 have e:crossI m l= -crossI l m:=by unfold crossI;omega
 have h2:crossI m l≠0:=by omega
 unfold cx;rw[if_neg h,if_neg h2];have ex:meetX m l= -meetX l m:=by unfold meetX;omega
 have ey:meetY m l= -meetY l m:=by unfold meetY;omega
 rw[e,ex,ey,gW,gW,gW];have h3:((crossI l m:Int):Rat)≠0:=by exact_mod_cast h
 generalize ((crossI l m:Int):Rat)=a at*;generalize ((meetX l m:Int):Rat)=b at*;generalize ((meetY l m:Int):Rat)=c at*;rw[ah.mk.injEq];constructor<;>grind
def axE{l m:aa}(h:crossI l m≠0):l.value (cx l m)=0/\m.value (cx l m)=0:=by
 have h3:((crossI l m:Int):Rat)≠0:=by exact_mod_cast h
 have ed:=u9 l m;have ex:((meetX l m:Int):Rat)=l.b*m.c-m.b*l.c:=by unfold meetX;rw[iX,bS,bS]
 have ey:((meetY l m:Int):Rat)=m.a*l.c-l.a*m.c:=by unfold meetY;rw[iX,bS,bS]
 unfold cx;rw[if_neg h];unfold aa.value aa.nor ah.dot;dsimp only;rw[ex,ey];generalize ((crossI l m:Int):Rat)=d at*;generalize (l.a:Rat)=a at*;generalize (l.b:Rat)=b at*;generalize (l.c:Rat)=c at*;generalize (m.a:Rat)=a' at*;generalize (m.b:Rat)=b' at*;generalize (m.c:Rat)=c' at*;constructor<;>grind
def awY{K:List aa}(hK: ∀l∈K,l.ok){c:ao}(hc:bw c)(ha:fk c)(hs: ∀s∈c,∃m∈K,m.same s.l){n:ah}{m:Rat}(h:fD c n=some m):m∈xy n K:=by
 unfold fD at h;split at h
 .cases h
 rename_i k1;split at h
 .cases h
 rename_i k2
 cases h
 have k1:c.isEmpty=false/\r5 n c=false:=by simpa using k1
 have k2: ∀s∈c,gv n s=false:=fun s hs=>by
  cases q:gv n s with
  |false=>rfl
  |true=>exact absurd (gK.2 ⟨s,hs,q⟩) k2
 have hne:i5 c≠[]:=by
  unfold i5
  cases c with
  |nil=>cases k1.1
  |cons s t=>simp
 obtain⟨l1,q0,hq0,l2⟩:=o9 (n:=n) hne
 -- on a side along the edge
 have par: ∀s∈c,n.dot s.l.dir=0-> ∀q,s.l.value q=0->n.dot q∈xy n K:=fun s hs' hd q hq=>by
  obtain⟨k,hk,e⟩:=hs s hs';have hd':=(Eb e).2 hd;refine bU _ (aU.2 ⟨k,lX.2 ⟨hk,decide_eq_true hd'⟩,?_⟩);exact(Wq (hK k hk) hd' ((Mt e).2 hq)).symm
 -- at a corner
 have ver: ∀q∈gj (c.map (·.l)),n.dot q∈xy n K:=fun q hq=>by
  obtain⟨l,hl,l',hl',hx,rfl⟩:=aAU hq;obtain⟨s,hs1,rfl⟩:=aU.1 hl;obtain⟨u,hu1,rfl⟩:=aU.1 hl';obtain⟨z1,z2⟩:=axE hx;by_cases p1:n.dot s.l.dir=0
  .exact par s hs1 p1 _ z1
  by_cases p2:n.dot u.l.dir=0
  .exact par u hu1 p2 _ z2
  obtain⟨k,hk,e⟩:=hs s hs1;obtain⟨k',hk',e'⟩:=hs u hu1;have hx':=Zs e e' hx;have ne:k≠k':=fun q=>hx' (by rw[q];unfold crossI;omega);have f1:k∈K.filter fun l=>!fm n l:=lX.2 ⟨hk,by unfold fm;rw[decide_eq_false (fun q=>p1 ((Eb e).1 q))];rfl⟩;have f2:k'∈K.filter fun l=>!fm n l:=lX.2 ⟨hk',by unfold fm;rw[decide_eq_false (fun q=>p2 ((Eb e').1 q))];rfl⟩;have ev:cx s.l u.l=cx k k':=IZ hx' ((Mt e).2 z1) ((Mt e').2 z2);rcases VS ne f1 f2 with g|g
  .exact bQ _ (aU.2 ⟨(k,k'),lX.2 ⟨g,decide_eq_true hx'⟩,by dsimp only;rw[ev]⟩)
  .exact bQ _ (aU.2 ⟨(k',k),lX.2 ⟨g,decide_eq_true (p:=crossI k' k≠0) (fun z=>hx' (by unfold crossI at*;omega))⟩,by dsimp only;rw[ev,Yl hx']⟩)
 rw[l2];unfold i5 at hq0;rcases bZ.1 hq0 with hq|hq
 .obtain⟨s,hs1,rfl⟩:=aU.1 hq
  have hz:s.l.value (s.l.at s.v.sample)=0:=ly (hc.ok s hs1).ne _;have f: ∀u,n.dot (s.l.at u)=n.dot (s.l.at 0)+u*n.dot s.l.dir:=fun u=>by rw[JP s.l u,xt]
  have hh:=((hc.edge s hs1).2 _).2 (zo hc hs1).1;have ho:=k2 s hs1;unfold gv at ho;have e1:s.l.dir.dot n=n.dot s.l.dir:=by unfold ah.dot;grind
  rw[kX,e1] at ho;rcases jI (n.dot s.l.dir) with k|k|k
  .exact par s hs1 k _ hz
  .-- the start
   have nl:s.v.nl=false:=by
    have:=ho.2;rw[decide_eq_true k] at this;simpa using this
   have v:=Dg hc ha hs1 nl;have a:=l1 _ (bQ _ v);have b:=hh.1.resolve_left (by rw[nl];simp);rw[l2,f,f s.v.lo] at a;have e:s.v.lo*n.dot s.l.dir=s.v.sample*n.dot s.l.dir:=by
    have:=cI (show 0<=s.v.sample-s.v.lo by grind) (dZ k);grind
   have:=ver _ v;rw[f] at this⊢;rw[e] at this;exact this
  .-- the end
   have nh:s.v.nh=false:=by
    have:=ho.1;rw[decide_eq_true k] at this;simpa using this
   have v:=Ai hc ha hs1 nh;have a:=l1 _ (bQ _ v);have b:=hh.2.resolve_left (by rw[nh];simp);rw[l2,f,f s.v.hi] at a;have e:s.v.hi*n.dot s.l.dir=s.v.sample*n.dot s.l.dir:=by
    have:=cI (show 0<=s.v.hi-s.v.sample by grind) (show 0<= -n.dot s.l.dir by grind);grind
   have:=ver _ v;rw[f] at this⊢;rw[e] at this;exact this
 .exact ver _ hq
def pe(V:List ah)(E:List (ah×ah))(K:List aa):List aa:=(K.flatMap fun l=>[f9 l V,f9 l.rev V])++E.flatMap fun f=>(xy (aB f) K).map (Ox f)
def GG{V:List ah}{E:List (ah×ah)}(hB:gu V E){K:List aa}(hK: ∀l∈K,l.ok): ∀l∈pe V E K,l.ok:=fun l hl=>by
 rcases bZ.1 hl with h|h
 .obtain⟨k,hk,h⟩:=fJ.1 h
  simp only[aW,dK,or_false] at h;rcases h with rfl|rfl
  .exact(vQ (hK k hk) V).1
  .exact(vQ (hK k hk).rev V).1
 .obtain⟨f,hf,h⟩:=fJ.1 h
  obtain⟨m,_,rfl⟩:=aU.1 h;exact xp (hB.nz hf)
def Rn{V:List ah}{E:List (ah×ah)}{K:List aa}(hK: ∀l∈K,l.ok){c:ao}(hc:bw c)(ha:fk c)(hs: ∀s∈c,∃m∈K,m.same s.l): ∀l∈fH c V E,l∈pe V E K:=fun l hl=>by
 unfold fH at hl;rcases bZ.1 hl with h|h
 .obtain⟨s,hs',rfl⟩:=aU.1 h
  obtain⟨m,hm,k⟩:=hs s hs';refine bU _ (fJ.2 ⟨m,hm,?_⟩);rcases k with k|k<;>rw[k]<;>simp
 .obtain⟨f,hf,h⟩:=jU.1 h
  refine bQ _ (fJ.2 ⟨f,hf,?_⟩);unfold gp at h;obtain⟨m,hm,rfl⟩:=Option.map_eq_some_iff.1 h;exact aU.2 ⟨m,awY hK hc ha hs hm,J⟩
def azC{V:List ah}{E:List (ah×ah)}(hB:gu V E){t:Tr}(ht:t.all aa.ok){K:List aa}(hK: ∀l∈K,l.ok)(hA:dw K t)(hs: ∀c∈bO (t.restrict []),c.length+E.length<=600)(hn:(pe V E K).length<=361):
  mP 1 (Tr.leaf false) ((bO (t.restrict [])).map (dk V E))=some (dx V E t)/\rm (pe V E K) (dx V E t):=by
 have h:=Cx (K:=pe V E K) (GG hB hK) hn (op:=1) (us:=(bO (t.restrict [])).map (dk V E)) (t:= .leaf false) (fun u hu=>by
  obtain⟨c,hc,rfl⟩:=aU.1 hu;obtain⟨g1,g2⟩:=n7 ht c hc;exact⟨z' hB g1 g2,vw fun l hl=>⟨l,Rn hK g1 g2 (Hz (hA.restrict []) hc) l hl, .inl J⟩,cX FC (hs c hc)⟩) ⟨trivial,trivial,trivial⟩
 rw[uT] at h;exact h
def aAY{n:ah}{K:List aa}{N Q:Nat}(h1:K.length<=N)(h2:(K.filter fun l=>!fm n l).length<=Q)(hQ:3<=Q)(hQN:Q<=N):2*(xy n K).length<=2*(N-Q)+Q*(Q-1):=by
 unfold xy;rw[aY,aX,aX];have lf:=jV (fun x:aa×aa=>decide (crossI x.1 x.2≠0)) (sk (K.filter fun l=>!fm n l));generalize ((sk (K.filter fun l=>!fm n l)).filter fun x=>decide (crossI x.1 x.2≠0)).length=z at*;have e:=PW (K.filter fun l=>!fm n l);have s:(K.filter (fm n)).length+(K.filter fun l=>!fm n l).length=K.length:=by
  clear h1 h2 e lf
  induction K with
  |nil=>rfl
  |cons a t ih=>
   rw[iY,iY,aS]
   cases fm n a
   .simp only[gR,if_false,Bool.not_false,if_true,aS];omega
   .simp only[rQ,gR,if_false,if_true,aS];omega
 generalize (K.filter fun l=>!fm n l).length=q at*;generalize (K.filter (fm n)).length=p at*;generalize (sk (K.filter fun l=>!fm n l)).length=u at*;obtain⟨d,rfl⟩: ∃d,Q=q+d:=⟨Q-q,we⟩
 cases d with
 |zero=>
  have e5:q*(q-1)+q=q*q:=by
   obtain⟨r,rfl⟩: ∃r,q=r+1:=⟨q-1,we⟩;rw[kN];grind
  rw[gV];omega
 |succ d=>
  have e2:(q+(d+1))*(q+(d+1)-1)+q=q*q+q*(2*(d+1))+d*(d+1):=by
   rw[show q+(d+1)-1=q+d by omega];grind
  by_cases hq:q=0
  .subst hq
   have:2*(d+1)<=d*(d+1):=bW _ we;omega
  .have:1*(2*(d+1))<=q*(2*(d+1)):=bW _ we
   omega
def EK(n:ah)(l:aa):fm n l=true↔n.cross l.nor=0:=by
 unfold fm;rw[decide_eq_true_eq];unfold ah.dot aa.dir ah.cross aa.nor;dsimp only;constructor<;>intro h<;>grind
def XQ{l:aa}{N:ah}{C g:Rat}(h: ∀p,l.value p=g*(N.dot p+C)):l.nor=⟨g*N.x,g*N.y⟩:=by
 have h0:=h ⟨0,0⟩;have h1:=h ⟨1,0⟩;have h2:=h ⟨0,1⟩;unfold aa.value at*;generalize l.nor=w at*;unfold ah.dot at*;dsimp only at*;obtain⟨x,y⟩:=w;simp only[ah.mk.injEq];dsimp only at*;constructor<;>grind
def IP{n:ah}{l:aa}{N:ah}{C g:Rat}(g0:0<g)(h: ∀p,l.value p=g*(N.dot p+C)):fm n l=true↔n.cross N=0:=by
 rw[EK,XQ h];have e:n.cross ⟨g*N.x,g*N.y⟩=g*n.cross N:=by unfold ah.cross;dsimp only;grind
 rw[e];constructor
 .intro k;exact(dY.1 k).resolve_left omb
 .intro k;rw[k];grind
def TS{n:ah}{l:aa}(hl:l.ok)(V:List ah):fm n (f9 l V)=true↔fm n l=true:=by
 obtain⟨_,g,g0,h⟩:=vQ hl V;rw[IP (N:=l.nor) (C:=(l.c:Rat)-jb l.nor V) g0 fun p=>by rw[h,A'];grind,EK]
def YA{n:ah}(l:aa):fm n l.rev=true↔fm n l=true:=by
 unfold fm;rw[decide_eq_true_eq,decide_eq_true_eq];exact Eb (k:=l.rev) (l:=l) (.inr (Ln l).symm)
def XS{n:ah}{c:ao}{f:ah×ah}(hn: ¬((aB f).x=0/\(aB f).y=0)){l:aa}(h:gp c f=some l):fm n l=true↔n.cross (aB f)=0:=by
 obtain⟨m,_,_,g,g0,hv⟩:=Cj hn h;exact IP (C:= -m-(aB f).dot f.1) g0 fun p=>by rw[hv];grind
def ig(n:ah)(L:List aa):Nat:=(L.filter fun l=>!fm n l).length
def MC(n:ah)(L M:List aa):ig n (L++M)=ig n L+ig n M:=by unfold ig;rw[List.filter_append,aY]
def Ik(n:ah)(L:List aa):ig n L<=L.length:=jV _ _
def Ep(n:ah)(l:aa)(L:List aa):ig n (l::L)=(if fm n l then 0 else 1)+ig n L:=by
 unfold ig;rw[iY]
 cases fm n l
 .simp;omega
 .simp
def Tn{n:ah}{V:List ah}: ∀{K:List aa},(∀l∈K,l.ok)->ig n (K.flatMap fun l=>[f9 l V,f9 l.rev V])=2*ig n K
 |[],_=>rfl
 |l::K,h=>by
  have ih:=Tn (n:=n) (V:=V) (K:=K) fun x hx=>h x (aJ _ hx);have hl:=h l aQ;have e1:fm n (f9 l V)=fm n l:=Lh (TS hl V);have e2:fm n (f9 l.rev V)=fm n l:=Lh ((TS hl.rev V).trans (YA l));rw[gJ,MC,ih,Ep,Ep,Ep,e1,e2];show(if fm n l then 0 else 1)+((if fm n l then 0 else 1)+0)+_=_;split<;>omega
def wE(n:ah)(E:List (ah×ah)):Nat:=(E.filter fun e=>decide (n.cross (aB e)≠0)).length
def Q2{n:ah}{c:ao}: ∀{E:List (ah×ah)},(∀e∈E,¬((aB e).x=0/\(aB e).y=0))->ig n (E.filterMap (gp c))<=wE n E
 |[],_=>bV _
 |e::E,h=>by
  have ih:=Q2 (n:=n) (c:=c) (E:=E) fun x hx=>h x (aJ _ hx);have he:=h e aQ;unfold wE at*;rw[iY]
  cases hl:gp c e with
  |none=>
   rw[List.filterMap_cons_none hl];split
   .rw[aS];omega
   .exact ih
  |some l=>
   rw[List.filterMap_cons_some hl,Ep];have k:=XS (n:=n) he hl;by_cases q:n.cross (aB e)=0
   .rw[if_pos (k.2 q),if_neg (by simp[q])];omega
   .rw[if_neg (fun z=>q (k.1 z)),if_pos (by simp[q]),aS];omega
def Af(E:List (ah×ah)):Prop:=E.Pairwise fun e e'=> ¬((aB e).cross (aB e')=0/\0<(aB e).dot (aB e'))
def Qs{N:ah}{c:ao}(hN: ¬(N.x=0/\N.y=0)): ∀{E:List (ah×ah)},Af E->(∀e∈E,¬((aB e).x=0/\(aB e).y=0))->(∀e∈E,∀l,gp c e=some l->N.cross (aB e)=0/\0<=N.dot (aB e))->(E.filterMap (gp c)).length<=1
 |[],_,_,_=>aN _
 |e::E,hd,hn,h=>by
  obtain⟨d1,d2⟩:=cZ.1 hd;have ih:=Qs (c:=c) hN d2 (fun x hx=>hn x (aJ _ hx)) fun x hx=>h x (aJ _ hx)
  cases hl:gp c e with
  |none=>rw[List.filterMap_cons_none hl];exact ih
  |some l=>
   rw[List.filterMap_cons_some hl,aS];have z:E.filterMap (gp c)=[]:=by
    rw[List.filterMap_eq_nil_iff];intro e' he'
    cases hl':gp c e' with
    |none=>rfl
    |some l'=>
     exfalso;obtain⟨a1,a2⟩:=h e aQ l hl;obtain⟨b1,b2⟩:=h e' (aJ _ he') l' hl';have n1:=hn e aQ;have n2:=hn e' (aJ _ he');refine d1 e' he' ?_;generalize aB e=u at*;generalize aB e'=v at*;obtain⟨nx,ny⟩:=N;obtain⟨ux,uy⟩:=u;obtain⟨vx,vy⟩:=v;unfold ah.cross ah.dot at*;dsimp only at*;have sN:=z8 hN;have su:=z8 n1;have sv:=z8 n2
     -- u and v are multiples of N
     obtain⟨S,hS⟩: ∃S,S=nx*nx+ny*ny:=⟨_,rfl⟩;obtain⟨a,ha⟩: ∃a,a=nx*ux+ny*uy:=⟨_,rfl⟩;obtain⟨b,hb⟩: ∃b,b=nx*vx+ny*vy:=⟨_,rfl⟩;rw[<-hS] at sN;rw[<-ha] at a2;rw[<-hb] at b2;have u1:S*ux=a*nx:=by rw[hS,ha];grind
     have u2:S*uy=a*ny:=by rw[hS,ha];grind
     have v1:S*vx=b*nx:=by rw[hS,hb];grind
     have v2:S*vy=b*ny:=by rw[hS,hb];grind
     have ane:a≠0:=fun k=>by
      rw[k] at u1 u2;have x0:ux=0:=(dY.1 (show S*ux=0 by grind)).resolve_left omb;have y0:uy=0:=(dY.1 (show S*uy=0 by grind)).resolve_left omb;exact n1 ⟨x0,y0⟩
     have bne:b≠0:=fun k=>by
      rw[k] at v1 v2;have x0:vx=0:=(dY.1 (show S*vx=0 by grind)).resolve_left omb;have y0:vy=0:=(dY.1 (show S*vy=0 by grind)).resolve_left omb;exact n2 ⟨x0,y0⟩
     have ab:=c9 (show 0<a by grind) (show 0<b by grind);constructor
     .have:S*S*(ux*vy-uy*vx)=0:=by
       have:S*S*(ux*vy-uy*vx)=(S*ux)*(S*vy)-(S*uy)*(S*vx):=by grind
       rw[this,u1,u2,v1,v2];grind
      have s2:=c9 sN sN;exact(dY.1 this).resolve_left omb
     .have e1:S*S*(ux*vx+uy*vy)=a*b*S:=by
       have:S*S*(ux*vx+uy*vy)=(S*ux)*(S*vx)+(S*uy)*(S*vy):=by grind
       rw[this,u1,u2,v1,v2,hS];grind
      have s2:=c9 sN sN;have s3:=c9 ab sN;rw[<-e1] at s3;exact(w7 s2).1 s3
   rw[z];exact bV _
def avA{c:ao}(hc:bw c)(h1:c.length=1){E:List (ah×ah)}(hd:Af E)(hn: ∀e∈E,¬((aB e).x=0/\(aB e).y=0)):(E.filterMap (gp c)).length<=1:=by
 obtain⟨s,rfl⟩: ∃s,c=[s]:=by
  match c,h1 with
  |[s],_=>exact⟨s,J⟩
 have hok:=hc.ok s aQ;have hall: ∀t,s.v.has t:=fun t=>((hc.edge s aQ).2 t).2 fun u hu=>by
  rw[aT.1 hu,ly hok.ne];exact iR
 have nl:s.v.nl=true:=by
  rcases(hall (s.v.lo-1)).1 with k|k
  .exact k
  .grind
 have nh:s.v.nh=true:=by
  rcases(hall (s.v.hi+1)).2 with k|k
  .exact k
  .grind
 refine Qs (N:=s.l.nor) (fun k=>?_) hd hn fun e he l hl=>?_
 .have:=mO hok.ne
  unfold ah.dot at this;rw[k.1,k.2] at this;grind
 .unfold gp at hl
  obtain⟨m,hm,_⟩:=Option.map_eq_some_iff.1 hl;unfold fD at hm;split at hm
  .cases hm
  rename_i k1;split at hm
  .cases hm
  rename_i k2;have k1: ¬s.l.nor.dot (aB e)<0:=fun q=>k1 (by
   show(false||decide (s.l.nor.dot (aB e)<0))=true;rw[decide_eq_true q];rfl)
  have k2:gv (aB e) s=false:=by
   cases q:gv (aB e) s with
   |false=>rfl
   |true=>exact absurd (gK.2 ⟨s,aQ,q⟩) k2
  unfold gv at k2;rw[nl,nh,pS,pS,kX,decide_eq_false_iff_not,decide_eq_false_iff_not] at k2;refine⟨?_,omb⟩;obtain⟨q1,q2⟩:=k2;unfold ah.cross aa.nor;unfold aa.dir ah.dot at q1 q2;dsimp only at*;grind
def J6{f:ao->Nat}{b:Nat}: ∀{cs:List ao},(∀c∈cs,f c<=b)->(∃c∈cs,f c<=1)->(cs.map f).sum<=1+(cs.length-1)*b
 |[],_,h=>by obtain⟨c,hc,_⟩:=h;cases hc
 |c::t,h,hx=>by
  rw[bY,nY,aS,kN];have all: ∀{t:List ao},(∀c∈t,f c<=b)->(t.map f).sum<=t.length*b:=fun{t} h=>by
   induction t with
   |nil=>exact aN _
   |cons a t ih=>
    have i:=ih fun x hx=>h x (aJ _ hx);have j:=h a aQ;rw[bY,nY,aS,fS];omega
  obtain⟨c0,hc0,h0⟩:=hx;rcases aW.1 hc0 with e|hc0
  .rw[e] at h0
   have:=all fun x hx=>h x (aJ _ hx);omega
  .have ih:=J6 (f:=f) (b:=b) (cs:=t) (fun x hx=>h x (aJ _ hx)) ⟨c0,hc0,h0⟩
   have hp:=pY hc0;have j:=h c aQ;obtain⟨d,hd⟩: ∃d,t.length=d+1:=⟨t.length-1,we⟩;rw[hd,kN] at ih;rw[hd,fS];omega
def N2{α:Type}(g:ao->List α): ∀cs:List ao,(cs.flatMap g).length=(cs.map fun c=>(g c).length).sum
 |[]=>rfl
 |c::t=>by rw[gJ,aY,N2 g t,bY,nY]
def OY(n:ah)(g:ao->List aa): ∀cs:List ao,ig n (cs.flatMap g)=(cs.map fun c=>ig n (g c)).sum
 |[]=>rfl
 |c::t=>by rw[gJ,MC,OY n g t,bY,nY]
def aqW{V:List ah}{E:List (ah×ah)}(hn: ∀e∈E,¬((aB e).x=0/\(aB e).y=0))(hd:Af E){K:List aa}(hK: ∀l∈K,l.ok){cs:List ao}(hg: ∀c∈cs,bw c)(h1: ∃c∈cs,c.length=1){k:Nat}(hk:cs.length<=k):
  (gP V E K cs).length<=2*K.length+(1+(k-1)*E.length)/\ ∀n w,wE n E<=w->ig n (gP V E K cs)<=2*ig n K+(1+(k-1)*w):=by
 obtain⟨c0,m0,l0⟩:=h1;have o0:=avA (hg c0 m0) l0 hd hn;have mono: ∀b,(cs.length-1)*b<=(k-1)*b:=fun b=>bW _ we;constructor
 .unfold gP
  rw[aY,N2];have a:=J6 (f:=fun c=>(E.filterMap (gp c)).length) (b:=E.length) (cs:=cs) (fun c _=>kU _ _) ⟨c0,m0,o0⟩;have b:=Cb (f:=fun l=>[f9 l V,f9 l.rev V]) (n:=2) (l:=K) fun x _=>bV _;have:=mono E.length;omega
 .intro n w hw
  unfold gP;rw[MC,Tn hK,OY];have a:=J6 (f:=fun c=>ig n (E.filterMap (gp c))) (b:=w) (cs:=cs) (fun c _=>cX (Q2 hn) hw) ⟨c0,m0,cX (Ik _ _) o0⟩;have:=mono w;omega
def Gl{V:List ah}{E:List (ah×ah)}{K:List aa}{N Q:Nat}(h1:K.length<=N)(h2: ∀e∈E,ig (aB e) K<=Q)(hQ:3<=Q:=by decide)(hQN:Q<=N:=by decide):2*(pe V E K).length<=4*N+E.length*(2*(N-Q)+Q*(Q-1)):=by
 unfold pe;rw[aY];have b:=Cb (f:=fun l=>[f9 l V,f9 l.rev V]) (n:=2) (l:=K) fun x _=>bV _;have c: ∀E':List (ah×ah),(∀e∈E',e∈E)->2*(E'.flatMap fun f=>(xy (aB f) K).map (Ox f)).length<=E'.length*(2*(N-Q)+Q*(Q-1)):=fun E'=>by
  induction E' with
  |nil=>intro _;exact aN _
  |cons e t ih=>
   intro h;have i:=ih fun x hx=>h x (aJ _ hx);have j:=aAY (n:=aB e) h1 (h2 e (h e aQ)) hQ hQN;rw[gJ,aY,aX,aS,dS,mN];omega
 have:=c E fun e h=>h;omega
end Go.Sx
end
