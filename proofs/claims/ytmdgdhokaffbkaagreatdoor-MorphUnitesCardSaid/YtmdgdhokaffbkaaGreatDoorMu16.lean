import Derived.Test.YtmdgdhokaffbkaaGreatDoorMu15
set_option linter.all false
set_option maxHeartbeats 4000000
set_option maxRecDepth 100000
section
namespace Go.Sx
open Go Go.Proofs Tryz
variable {GB G A:Gh}{n k i g:Nat}{l ls c out:List aa}{a b t y:Tr}{v:Value}{ns:List NQ}{x u:Rat}{α β:Type}{qs cuts:List Rat}{p:ah}{m:aa}{e d:ar}{s:bt}
def qt(ns:List NQ):Nat->Tr->Prop
 |_, .leaf _=>True
 |k, .node l x y=>ns[k]? =some ⟨l,x.num (k+1),y.num (k+1+x.size)⟩/\qt ns (k+1) x/\qt ns (k+1+x.size) y
def qt.of: ∀{t:Tr} {ns a b:List NQ} {k:Nat},ns=a++t.wr k++b->a.length=k->qt ns k t
 | .leaf _,_,_,_,_,_,_=>trivial
 | .node l x y,ns,a,b,k,e,ha=>by
  simp only[Tr.wr,dX,gL] at e;refine⟨?_,qt.of (a:=a++[⟨l,x.num (k+1),y.num (k+1+x.size)⟩]) (b:=y.wr (k+1+x.size)++b) (by rw[e];simp) (by simp[ha]),qt.of (a:=a++⟨l,x.num (k+1),y.num (k+1+x.size)⟩::x.wr (k+1)) (b:=b) (by rw[e];simp) (by rw[aY,bQ,Tr.wr_len,ha];omega)⟩;rw[e,jV (by omega),ha,pY];rfl
abbrev Jl (x:SV) (ns:List NQ) (A:Gh):Prop:= ∃es,f7 A 8 x es/\IsLs A (ns.map eN) es
def sK(n k:Nat):List Value:=rH n (fun j=>Nat.blt j k)
def Mn(n k:Nat):(sK n k).length=n:=R3 _ _
def M1(h:k<n):(sK n k)[k]? =some (.bool false):=Iy h (by rw[Bool.eq_false_iff,ne_eq,kS];omega)
def Pt(n k:Nat):(sK n k).set k (.bool true)=sK n (k+1):=by
 refine(SJ n k _).trans (congrArg _ (funext fun j=>?_));unfold yi;rw[qY,gM,kS,kS,Nat.beq_eq];omega
def Kq{l:aa}{a b:Int}(h:Is G (eN ⟨l,a,b⟩) v): ∃x1 x2 x3:SV,v= .agg ⟨[.bool (decide (l.a<0)), .slice x1.a x1.n x1.c, .bool (decide (l.b<0)), .slice x2.a x2.n x2.c, .bool (decide (l.c<0)), .slice x3.a x3.n x3.c, .int .i64 a, .int .i64 b]⟩/\
  Is G (eL l) (.agg ⟨[.bool (decide (l.a<0)), .slice x1.a x1.n x1.c, .bool (decide (l.b<0)), .slice x2.a x2.n x2.c, .bool (decide (l.c<0)), .slice x3.a x3.n x3.c]⟩):=Yw (n:=RN.of ⟨l,a,b⟩) h
def T9{l:aa}(h:Is G (.tp [cB l,vB true]) v): ∃n1 d1 p1 n2 d2 p2 n3 d3 p3,v= .tuple #[.agg ⟨[.int .i64 n1, .int .i64 d1, .pointer p1, .int .i64 n2, .int .i64 d2, .pointer p2, .int .i64 n3, .int .i64 d3, .pointer p3]⟩, .bool true]/\
  Is G (cB l) (.agg ⟨[.int .i64 n1, .int .i64 d1, .pointer p1, .int .i64 n2, .int .i64 d2, .pointer p2, .int .i64 n3, .int .i64 d3, .pointer p3]⟩):=by
 obtain⟨m,rfl,g⟩:=lj.1 h;obtain⟨v1,m,rfl,h1,h⟩:=bi.1 g;obtain⟨v2,m,rfl,h2,h⟩:=bi.1 h;rw[d8] at h;subst h;obtain⟨n1,d1,p1,n2,d2,p2,n3,d3,p3,rfl⟩:=aET h1;rw[aH.1 h2];exact⟨_,_,_,_,_,_,_,_,_,J,h1⟩
def aFK{l:aa}(h:Is G (.tp [eL l,vB true]) v): ∃x1 x2 x3:SV,v= .tuple #[.agg ⟨[.bool (decide (l.a<0)), .slice x1.a x1.n x1.c, .bool (decide (l.b<0)), .slice x2.a x2.n x2.c, .bool (decide (l.c<0)), .slice x3.a x3.n x3.c]⟩, .bool true]/\
  Is G (eL l) (.agg ⟨[.bool (decide (l.a<0)), .slice x1.a x1.n x1.c, .bool (decide (l.b<0)), .slice x2.a x2.n x2.c, .bool (decide (l.c<0)), .slice x3.a x3.n x3.c]⟩):=by
 obtain⟨m,rfl,g⟩:=lj.1 h;obtain⟨v1,m,rfl,h1,h⟩:=bi.1 g;obtain⟨v2,m,rfl,h2,h⟩:=bi.1 h;rw[d8] at h;subst h;obtain⟨x1,x2,x3,rfl⟩:=SO h1;rw[aH.1 h2];exact⟨_,_,_,J,h1⟩
def Xx{l:aa}[hl:LB l](ho:l.ok):PF GB prog 224 [eL l] (.tp [eL l,vB true]):=by
 have hm:(RN.of ⟨l,0,0⟩).g.nm:=⟨Hl _,Hl _,Hl _⟩;refine(aDs (RN.of_sm (n:=⟨l,0,0⟩) hl) hm).to ?_;rw[CU,if_pos hm,RN.of_l,decide_eq_true ⟨hm,ho⟩]
def QO{vs:List Value}(hv:IsLs G [eA t] vs): ∃x:SV,x.n=(t.wr 0).length/\vs=[.agg ⟨[.int .i64 (t.num 0), .slice x.a x.n x.c]⟩]/\Jl x (t.wr 0) G:=by
 obtain⟨v0,m,rfl,h0,hm⟩:=bi.1 hv;rw[d8] at hm;subst hm;obtain⟨m,rfl,g⟩:=d9.1 h0;obtain⟨v1,m,rfl,h1,hm⟩:=bi.1 g;obtain⟨v2,m,rfl,h2,hm⟩:=bi.1 hm;rw[d8] at hm;subst hm;obtain⟨s0,x,es,rfl,hsl,hes⟩:=gp.1 h2;rw[aH.1 h1];have hel:=hes.len;rw[aX] at hel;have hlen:=hsl.len;rw[hel] at hlen;refine⟨x,hlen,J,es,?_,hes⟩;rcases BC (s:=8) hsl hes (fun d hd=>by obtain⟨n,_,rfl⟩:=aR.1 hd;exact⟨rfl,rfl⟩) with e|e
 .exact⟨hsl.len,hsl.cap, .inl e⟩
 .rw[e] at hsl;exact hsl
def YP{x:SV}(hx:Jl x ns A)(hn:ns.length<=1000000): ∀{t:Tr} {k:Nat},qt ns k t->k+t.size<=ns.length->t.all LB->t.all aa.ok-> ∀{G:Gh} {rb sb:Nat} {lo lo2:Bool},[GL A G]->
  jI prog 137 [.pointer (some ⟨rb,0,none⟩), .int .i64 (t.num k)] [⟨rb,[.slice x.a x.n x.c, .slice (some ⟨sb,0,none⟩) ns.length ns.length, .int .i64 k, .bool false],239,lo⟩,⟨sb,sK ns.length k,4,lo2⟩] G
   (fun v css G'=> ∃p,v= .pointer p/\Is G' (eU t) (.pointer p)/\css=[[.slice x.a x.n x.c, .slice (some ⟨sb,0,none⟩) ns.length ns.length, .int .i64 (k+t.size:Nat), .bool false],sK ns.length (k+t.size)]):=by
 obtain⟨es,hx,hes⟩:=hx;have hel:=hes.len;rw[aX] at hel;have hlen:=hx.len;rw[hel] at hlen;obtain⟨xa,xn,xc⟩:=x;simp only[] at hlen;subst hlen;intro t
 induction t with
 |leaf bb=>
  intro k _ _ _ _ G rb sb lo lo2 _;refine jI.intro func137 J J ntmps137 J ?_;intro C _ _;show St C _ _ [⟨rb,_,_,false⟩,⟨sb,_,_,false⟩] _ _
  cases bb
  case true=>
   refine sR<|sa J J<|zE<|eE<|uQ<|sR<|sm J J<|sy (ly J J) J<|sm J J<|ss J J J J<|ss J J J J<|?_;refine sy (De J J) J<|sa J J<|zE<|sC J<|sR<|sm J J<|sy (ly J J) J<|?_;refine sc (zC J J (PF.fn0 (rh (b:=true)) (.cons (aH.2 J) .nil)) J ?_);rintro _ G1 _ hp;obtain⟨p,rfl⟩:=u' hp;refine sa J J<|zE<|kD<|?_;exact rO (css:=[_,_]) (.tmp J .nil) J _ (List.Perm.refl _) (List.Sublist.refl _) ⟨p,J,hp,J⟩
  refine sR<|sa J J<|zE<|eE<|uQ<|sR<|sm J J<|sy (ly J J) J<|sm J J<|fp J J (lf J) J<|fp J J (ly J J) J<|?_;refine sy (qr J J) J<|sa J J<|zE<|sC J<|sR<|sm J J<|sy (ly J J) J<|?_;refine sc (zC J J (PF.fn0 (rh (b:=false)) (.cons (aH.2 J) .nil)) J ?_);rintro _ G1 _ hp;obtain⟨p,rfl⟩:=u' hp;refine sa J J<|zE<|kD<|?_;exact rO (css:=[_,_]) (.tmp J .nil) J _ (List.Perm.refl _) (List.Sublist.refl _) ⟨p,J,hp,J⟩
 |node l tx ty ih1 ih2=>
  intro k ⟨h0,h1,h2⟩ hk ⟨hb,hb1,hb2⟩ ⟨ho,ho1,ho2⟩ G rb sb lo lo2 _;haveI:=hb;have hsz:k+(Tr.node l tx ty).size=k+1+tx.size+ty.size:=by simp only[Tr.size];omega
  rw[hsz] at hk⊢;have hbn:k<ns.length:=by omega
  obtain⟨z,hzi,hz⟩:=hes.get (i:=k) (by rw[cY,h0];rfl);obtain⟨x1,x2,x3,rfl,hzg⟩:=Kq hz;refine jI.intro func137 J J ntmps137 J ?_;intro C _ _;show St C _ [(0, .pointer (some ⟨rb,0,none⟩)),(1, .int .i64 (k:Int))] [⟨rb,[.slice xa ns.length xc, .slice (some ⟨sb,0,none⟩) ns.length ns.length, .int .i64 k, .bool false],_,false⟩,⟨sb,sK ns.length k,_,false⟩] _ _;refine sR<|sa J J<|zE<|eE<|uQ<|sR<|sm J J<|sy (ly J J) J<|sm J J<|?_;refine zi 12 J (fun hg=>absurd hg (by omega)) (fun hg=>?_);refine fp J J (lf J) J<|fp J J (ly J J) J<|sy (qr J J) J<|sa J J<|zE<|?_;refine uB J (fun hc=>absurd hc (by omega)) (fun _=>?_);refine sR<|sm J J<|sy (E7 J J) J<|sm J J<|?_;refine zi 22 J (fun hg=>absurd hg (by omega)) (fun hg=>?_);refine fp J J (lf J) J<|fp J J (lf J) J<|fp J J (mI J) J<|fp J J (ri J) J<|fp J J (nn J J) J<|fp J J (tE J) J<|fp J J (Ht J J) J<|sy (qr J J) J<|sm J J<|?_;refine zi 31 J (fun hg=>absurd hg (by omega)) (fun hg=>?_);refine fp J J (lf J) J<|fp J J (mI J) J<|fp J J (ri J) J<|fp J J (nn J J) J<|fp J J (lf J) J<|fp J J (tn J J) J<|?_;refine fp J J (nn (v:= .bool false) J (by rw[cK,iN];exact M1 hbn)) J<|sy (qr J J) J<|sa J J<|zE<|qD J<|zK<|?_;refine sR<|sm J J<|sn J J<|sf J J<|mz J J J<|sm J J<|sy (tn J J) J<|?_;refine sc (uH J J (.tl _ _ _ _ _ _ _ _ (.hd ..)) (by rw[Mn,cK,iN];exact hbn) J J ?_);rw[cK,iN,Pt];refine zE<|sR<|sm J J<|sn J J<|sf J J<|mz J J J<|sy (u9 J J) J<|sn J J<|sf J J<|?_;refine sc (ym J J J (by repeat (first|exact .hd .. |apply gP.tl)) (nb J) J J ?_)
  rw[show(k:Int)+1=((k+1:Nat):Int) by omega];refine zE<|sR<|sm J J<|sn J J<|sf J J<|mz J J J<|sm J J<|sy (Yi (z:=⟨xa,ns.length,xc⟩) hx J J (by omega) (by show(k:Int)<(ns.length:Int);omega)) J<|?_;rw[cK];refine sy (Y6 (i:=k) hx J (by rw[hel];exact hbn) hzi) J<|?_;refine sc (ug J ?_);intro b5;refine sc (DY J J J (by repeat (first|exact .hd .. |apply gP.tl)) J (nb J) J J ?_);refine zE<|sR<|sf J J<|B9 J J J<|?_;refine sc (zC J J (PF.fn0 (VZ ho) (.cons (hzg.up GL.le) .nil)) J ?_);rintro _ G6 _ hw;obtain⟨n1,d1,p1,n2,d2,p2,n3,d3,p3,rfl,hwl⟩:=T9 hw;refine sm J J<|sx J J J<|sx J J J<|?_;refine sc (ug J ?_);intro b6;refine sc (DY J J J (by repeat (first|exact .hd .. |apply gP.tl)) J (nb J) J J ?_);refine sa J J<|zE<|eE<|sR<|sm J J<|sy (r4 J) J<|zE<|qD J<|zK<|?_;refine sR<|sm J J<|sf J J<|mz J J J<|?_;have hrp:=ih1 h1 (by omega) hb1 ho1 (G:=G6) (rb:=rb) (sb:=sb) (lo:=false) (lo2:=false);refine sc (vM J J (iT (l₁:=[_,_]) (l₂:=[_,_])) hrp J ?_);rintro _ css G7 _ _ ⟨q1,rfl,hp1,rfl⟩;show St C _ _ [⟨rb,[.slice xa ns.length xc, .slice (some ⟨sb,0,none⟩) ns.length ns.length, .int .i64 (k+1+tx.size:Nat), .bool false],239,false⟩,⟨sb,sK ns.length (k+1+tx.size),4,false⟩,⟨b6,[.int .i64 n1, .int .i64 d1, .pointer p1, .int .i64 n2, .int .i64 d2, .pointer p2, .int .i64 n3, .int .i64 d3, .pointer p3],243,true⟩,⟨b5,[.bool (decide (l.a<0)), .slice x1.a x1.n x1.c, .bool (decide (l.b<0)), .slice x2.a x2.n x2.c, .bool (decide (l.c<0)), .slice x3.a x3.n x3.c, .int .i64 (tx.num (k+1)), .int .i64 (ty.num (k+1+tx.size))],233,true⟩] _ _
  refine sa J J<|zE<|eE<|?_;refine tF [⟨b6,[.int .i64 n1, .int .i64 d1, .pointer p1, .int .i64 n2, .int .i64 d2, .pointer p2, .int .i64 n3, .int .i64 d3, .pointer p3],243,true⟩,⟨b5,[.bool (decide (l.a<0)), .slice x1.a x1.n x1.c, .bool (decide (l.b<0)), .slice x2.a x2.n x2.c, .bool (decide (l.c<0)), .slice x3.a x3.n x3.c, .int .i64 (tx.num (k+1)), .int .i64 (ty.num (k+1+tx.size))],233,true⟩] (fun _=>false) [(0,true),(1,true),(2,true),(3,true),(4,true),(5,false),(6,false),(7,true)] follows (by kernel_rfl)<|?_;refine dL J J J J<|dM J J J<|dM J J J<|dF J J J<|pH J J J J<|?_;have hrp:=ih2 h2 hk hb2 ho2 (G:=G7) (rb:=rb) (sb:=sb) (lo:=false) (lo2:=false);refine dc J J (vM J J (M:=[_,_]) (rest:=[_,_]) (List.Perm.refl _) hrp J ?_);rintro _ css G8 _ _ ⟨q2,rfl,hp2,rfl⟩;show St C _ _ [⟨rb,[.slice xa ns.length xc, .slice (some ⟨sb,0,none⟩) ns.length ns.length, .int .i64 (k+1+tx.size+ty.size:Nat), .bool false],239,false⟩,⟨sb,sK ns.length (k+1+tx.size+ty.size),4,false⟩,⟨b6,[.int .i64 n1, .int .i64 d1, .pointer p1, .int .i64 n2, .int .i64 d2, .pointer p2, .int .i64 n3, .int .i64 d3, .pointer p3],243,true⟩,⟨b5,[.bool (decide (l.a<0)), .slice x1.a x1.n x1.c, .bool (decide (l.b<0)), .slice x2.a x2.n x2.c, .bool (decide (l.c<0)), .slice x3.a x3.n x3.c, .int .i64 (tx.num (k+1)), .int .i64 (ty.num (k+1+tx.size))],233,true⟩] _ _;refine ln<|?_;refine dc J J (zC J J (PF.fn0 (wc (l:=l) (x:=tx) (y:=ty)) (.cons (hwl.up GL.le) (.cons (hp1.up GL.le) (.cons hp2 .nil)))) J ?_);rintro _ G9 _ hp;obtain⟨p,rfl⟩:=u' hp
  refine ln<|dA J J J<|dn<|kD<|?_;exact rO (css:=[_,_]) (.tmp J .nil) J _ (List.Perm.refl _) (.cons_cons _ (.cons_cons _ (jK _))) ⟨p,J,hp,J⟩
def Aw(hb:t.all LB)(ho:t.all aa.ok)(hs:t.size<=65536):PF GB prog 73 [eA t] (.tp [eU t,vB true]):=by
 intro G vs _ hv;obtain⟨⟨xa,xn,xc⟩,rfl,rfl,hx⟩:=QO hv;have hn:=t.wr_len 0;show Fn _ _ [.agg ⟨[.int .i64 (t.num 0), .slice xa (t.wr 0).length xc]⟩] _ _;refine Fn.intro func73 J J ntmps73 J ?_;intro C _ _;refine sR<|?_;refine sc (si J J ?_);intro b1;refine sa J J<|sa J J<|zE<|eE<|sR<|sf J J<|mz J J J<|rF J J<|sy (Bs J J) J<|zE<|?_;refine uB J (fun hc=>absurd hc (by omega)) (fun _=>?_);refine zK<|eE<|dr (fun _=>false) [(0,true),(1,true),(2,true),(3,true),(4,true),(5,false),(6,true),(7,false),(8,true)] follows (by kernel_rfl)<|dF J J J<|?_;refine pH J J J J<|dF J J J<|pH J J J J<|dy J (fun _=>tE J) J J<|?_;refine dc J J (HQ J J (by omega) (by omega) (by omega) (by rfl) J ?_);intro b2;rw[cK,Kz];refine ln<|dy J (fun _=>vk J) J J<|?_;refine dc J J (si J J ?_);intro b3;refine ln<|dA J J J<|dn<|sR<|sm J J<|sf J J<|mz J J J<|?_;refine sc (vM J J (M:=[_,_]) (rest:=[_]) (List.Perm.refl _) (YP hx (by omega) (qt.of (a:=[]) (b:=[]) (k:=0) (by simp) J) (by omega) hb ho (G:=G) (rb:=b3) (sb:=b2) (lo:=true) (lo2:=true)) J ?_);rintro _ css G4 _ _ ⟨p,rfl,hp,rfl⟩;show St C _ _ [⟨b3,[.slice xa (t.wr 0).length xc, .slice (some ⟨b2,0,none⟩) (t.wr 0).length (t.wr 0).length, .int .i64 (0+t.size:Nat), .bool false],239,true⟩,⟨b2,sK (t.wr 0).length (0+t.size),4,true⟩,⟨b1,[.int .i64 (t.num 0), .slice xa (t.wr 0).length xc],69,true⟩] _ _;refine sa J J<|zE<|eE<|eE<|dr (fun _=>false) [(0,true),(1,true),(2,true),(3,true),(4,true),(5,true),(6,true),(7,true),(8,true),(9,true),(10,true),(11,true),(12,true),(13,true)] follows (by kernel_rfl)<|?_
 refine dM J J J<|dy J (fun _=>mI J) J J<|dF J J J<|pH J J J J<|dM J J J<|?_;refine uC J J J J (fun _=>lf J) J<|uC J J J J (fun _=>mI J) J<|uC J J J J (fun _=>ri J) J<|uC J J J J (fun _=>nn J J) J<|?_;refine uC J J J J (fun _=>ri J) J<|uC J J J J (fun _=>nn J J) J<|uC J J J J (fun _=>tE J) J<|uC J J J J (fun _=>MC J J) J<|?_;refine dy J (fun _=>qr J J) J J<|dn<|?_;refine uB J (fun hc=>absurd hc (by omega)) (fun _=>?_);refine zK<|sR<|sm J J<|sa J J<|sa J J<|zE<|kD<|?_;refine zD (.tmp J (.tmp J .nil)) ?_;exact lj.2 ⟨_,J, .cons hp (.cons (aH.2 J) .nil)⟩
def aHx{x:SV}{r0:Int}(hx:Jl x ns A)(hn:ns.length<=1000000): ∀{t:Tr} {k:Nat},qt ns k t->k+t.size<=ns.length->t.all LB->t.all aa.ok-> ∀{G:Gh} {sb:Nat} {lo2:Bool},[GL A G]->
  jI prog 151 [.agg ⟨[.int .i64 r0, .slice x.a x.n x.c]⟩, .int .i64 (t.num k), .slice (some ⟨sb,0,none⟩) ns.length ns.length] [⟨sb,sK ns.length k,4,lo2⟩] G
   (fun v css G'=> ∃q,v= .tuple #[.pointer q, .bool true]/\Is G' (eT t) (.pointer q)/\css=[sK ns.length (k+t.size)]):=by
 obtain⟨es,hx,hes⟩:=hx;have hel:=hes.len;rw[aX] at hel;have hlen:=hx.len;rw[hel] at hlen;obtain⟨xa,xn,xc⟩:=x;simp only[] at hlen;subst hlen;intro t
 induction t with
 |leaf bb=>
  intro k _ _ _ _ G sb lo2 _;refine jI.intro func151 J J ntmps151 J ?_;intro C _ _;show St C _ [(0, .agg ⟨[.int .i64 r0, .slice xa ns.length xc]⟩),(1, .int .i64 (KK bb)),(2, .slice (some ⟨sb,0,none⟩) ns.length ns.length)] [⟨sb,sK ns.length k,_,false⟩] _ _;refine sR<|?_;refine sc (si J J ?_);intro b1;refine sa J J<|sa J J<|zE<|eE<|sR<|sm J J<|sy (ly J J) J<|sm J J<|?_
  cases bb
  case true=>
   refine ss J J J J<|ss J J J J<|sy (De J J) J<|?_;refine zE<|sC J<|sR<|sm J J<|sy (ly J J) J<|sy (vk J) J<|?_;refine sc (si J J ?_);intro b2;refine sa J J<|sa J J<|zE<|kD<|?_;refine BD b2 (.hd ..) ?_;intro G9 _ hfz;exact rO (css:=[_]) (.tmp J (.tmp J .nil)) J (_::[_]) (iT (l₁:=[_]) (l₂:=[_])) (.cons_cons _ (jK _)) ⟨_,J,lm.2 ⟨b2,_,J,hfz.h,Qw⟩,J⟩
  refine fp J J (lf J) J<|fp J J (ly J J) J<|sy (qr J J) J<|?_;refine zE<|sC J<|sR<|sm J J<|sy (ly J J) J<|sy (vk J) J<|?_;refine sc (si J J ?_);intro b2;refine sa J J<|sa J J<|zE<|kD<|?_;refine BD b2 (.hd ..) ?_;intro G9 _ hfz;exact rO (css:=[_]) (.tmp J (.tmp J .nil)) J (_::[_]) (iT (l₁:=[_]) (l₂:=[_])) (.cons_cons _ (jK _)) ⟨_,J,lm.2 ⟨b2,_,J,hfz.h,Qw⟩,J⟩
 |node l tx ty ih1 ih2=>
  intro k ⟨h0,h1,h2⟩ hk ⟨hb,hb1,hb2⟩ ⟨ho,ho1,ho2⟩ G sb lo2 _;haveI:=hb;have hsz:k+(Tr.node l tx ty).size=k+1+tx.size+ty.size:=by simp only[Tr.size];omega
  rw[hsz] at hk⊢;have hbn:k<ns.length:=by omega
  obtain⟨z,hzi,hz⟩:=hes.get (i:=k) (by rw[cY,h0];rfl);obtain⟨x1,x2,x3,rfl,hzg⟩:=Kq hz;obtain⟨ab,aoff,acs,ha,hga,hca⟩:=hx.mem.resolve_left (fun e=>by rw[e] at hel;simp at hel;omega);simp only at ha;subst ha;haveI:s8 A ab acs:=⟨hga⟩;obtain⟨hk0,hk6,hk7⟩:=asj (by
   have h9:=hca k (by rw[hel];exact hbn);rw[show es[k]'(by rw[hel];exact hbn)=_ from Option.some.inj ((aZ (by rw[hel];exact hbn)).symm.trans hzi)] at h9;exact h9)
  refine jI.intro func151 J J ntmps151 J ?_;intro C _ _;show St C _ [(0, .agg ⟨[.int .i64 r0, .slice (some ⟨ab,aoff,none⟩) ns.length xc]⟩),(1, .int .i64 (k:Int)),(2, .slice (some ⟨sb,0,none⟩) ns.length ns.length)] [⟨sb,sK ns.length k,_,false⟩] _ _;refine sR<|?_;refine sc (si J J ?_);intro b1;refine sa J J<|sa J J<|zE<|eE<|sR<|sm J J<|sy (ly J J) J<|sm J J<|?_;refine zi 14 J (fun hg=>absurd hg (by omega)) (fun hg=>?_);refine fp J J (lf J) J<|fp J J (ly J J) J<|sy (qr J J) J<|zE<|?_;refine uB J (fun hc=>absurd hc (by omega)) (fun _=>?_);refine zK<|eE<|sR<|sm J J<|sy (E7 J J) J<|sm J J<|?_;refine zi 24 J (fun hg=>absurd hg (by omega)) (fun hg=>?_);refine fp J J (lf J) J<|fp J J (ri J) J<|fp J J (nn J J) J<|fp J J (tE J) J<|fp J J (Ht J J) J<|sy (qr J J) J<|sm J J<|?_;refine zi 31 J (fun hg=>absurd hg (by omega)) (fun hg=>?_);refine fp J J (lf J) J<|fp J J (lf J) J<|fp J J (tn J J) J<|?_;refine fp J J (nn (v:= .bool false) J (by rw[cK,iN];exact M1 hbn)) J<|sy (qr J J) J<|zE<|qD J<|?_;refine zK<|sR<|sm J J<|sm J J<|sy (tn J J) J<|?_;refine sc (uH J J (.tl _ _ _ _ _ _ _ _ (.hd ..)) (by rw[Mn,cK,iN];exact hbn) J J ?_);rw[cK,iN,Pt];refine zE<|sR<|sf J J<|mz J J J<|sm J J<|sy (vG J J) J<|?_;rw[cK];refine sf J J<|Tt J hk0 J<|?_;refine sc (zC J J (PF.fn0 (Xx ho) (.cons (hzg.up GL.le) .nil)) J ?_);rintro _ G6 _ hw;obtain⟨y1,y2,y3,rfl,hw'⟩:=aFK hw;refine sm J J<|sx J J J<|sx J J J<|?_;refine sc (ug J ?_);intro b3;refine sc (DY J J J (by repeat (first|exact .hd .. |apply gP.tl)) J (nb J) J J ?_)
  refine sa J J<|zE<|eE<|sR<|sm J J<|sy (r4 J) J<|zE<|?_;refine qD J<|zK<|?_;show St C _ _ [⟨b3,[.bool (decide (l.a<0)), .slice y1.a y1.n y1.c, .bool (decide (l.b<0)), .slice y2.a y2.n y2.c, .bool (decide (l.c<0)), .slice y3.a y3.n y3.c],136,true⟩,⟨b1,[.int .i64 r0, .slice (some ⟨ab,aoff,none⟩) ns.length xc],69,true⟩,⟨sb,sK ns.length (k+1),4,false⟩] _ _;refine eE<|tF [⟨b1,[.int .i64 r0, .slice (some ⟨ab,aoff,none⟩) ns.length xc],69,true⟩] (fun _=>false) [(0,true),(1,true),(2,true),(3,true),(4,true),(5,true),(6,true),(7,true),(8,false),(9,true),(10,true),(11,true),(12,true),(13,true)] follows (by kernel_rfl)<|?_;refine dL J J J J<|dF J J J<|pH J J J J<|dM J J J<|?_;refine dy J (fun _=>vG J J) J J<|dF J J J<|?_;refine dy J (fun _=>qv J tw (by rw[cK];exact hk6)) J J<|dM J J J<|?_;have hrp:=ih1 h1 (by omega) hb1 ho1 (G:=G6) (sb:=sb) (lo2:=false);refine dc J J (vM J J (M:=[_]) (rest:=[_,_]) (iT (l₁:=[_,_]) (l₂:=[_])) hrp J ?_);rintro _ css G7 _ _ ⟨a1,rfl,hq1,rfl⟩;show St C _ _ [⟨sb,sK ns.length (k+1+tx.size),4,false⟩,⟨b3,[.bool (decide (l.a<0)), .slice y1.a y1.n y1.c, .bool (decide (l.b<0)), .slice y2.a y2.n y2.c, .bool (decide (l.c<0)), .slice y3.a y3.n y3.c],136,true⟩,⟨b1,[.int .i64 r0, .slice (some ⟨ab,aoff,none⟩) ns.length xc],69,true⟩] _ _;refine ln<|dM J J J<|dy J (fun _=>vD J J) J J<|dy J (fun _=>vD J J) J J<|dA J J J<|?_;refine dA J J J<|dn<|?_;refine eE<|sR<|sm J J<|sy (r4 J) J<|zE<|qD J<|zK<|?_;refine eE<|tF [⟨b1,[.int .i64 r0, .slice (some ⟨ab,aoff,none⟩) ns.length xc],69,true⟩] (fun _=>false) [(0,true),(1,true),(2,true),(3,true),(4,true),(5,true),(6,true),(7,true),(8,false),(9,true),(10,true),(11,true),(12,true),(13,true)] follows (by kernel_rfl)<|?_
  refine dL J J J J<|dF J J J<|pH J J J J<|dM J J J<|?_;refine dy J (fun _=>vG J J) J J<|dF J J J<|?_;refine dy J (fun _=>qv J tw (by rw[cK];exact hk7)) J J<|dM J J J<|?_;have hrp:=ih2 h2 hk hb2 ho2 (G:=G7) (sb:=sb) (lo2:=false);refine dc J J (vM J J (M:=[_]) (rest:=[_,_]) (List.Perm.refl _) hrp J ?_);rintro _ css G8 _ _ ⟨a2,rfl,hq2,rfl⟩;show St C _ _ [⟨sb,sK ns.length (k+1+tx.size+ty.size),4,false⟩,⟨b3,[.bool (decide (l.a<0)), .slice y1.a y1.n y1.c, .bool (decide (l.b<0)), .slice y2.a y2.n y2.c, .bool (decide (l.c<0)), .slice y3.a y3.n y3.c],136,true⟩,⟨b1,[.int .i64 r0, .slice (some ⟨ab,aoff,none⟩) ns.length xc],69,true⟩] _ _;refine ln<|dM J J J<|dy J (fun _=>vD J J) J J<|dy J (fun _=>vD J J) J J<|dA J J J<|?_;refine dA J J J<|dn<|?_;refine sR<|B9 J J J<|sm J J<|sm J J<|sy (vk J) J<|?_;refine sc (si J J ?_);intro b6;refine sm J J<|sa J J<|sa J J<|zE<|kD<|?_;refine BD b6 (.hd ..) ?_;intro G9 _ hfz;exact rO (css:=[_]) (.tmp J (.tmp J .nil)) J (_::[_,_]) (List.Perm.refl _) (.cons_cons _ (jK _)) ⟨_,J,lm.2 ⟨b6,_,J,hfz.h,aDp (hw'.up GL.le) (hq1.up GL.le) (hq2.up GL.le)⟩,J⟩
def aCf(hb:t.all LB)(ho:t.all aa.ok)(hs:t.size<=65536):PF GB prog 82 [eA t] (.tp [eT t,vB true]):=by
 intro G vs _ hv;obtain⟨⟨xa,xn,xc⟩,rfl,rfl,hx⟩:=QO hv;have hn:=t.wr_len 0;show Fn _ _ [.agg ⟨[.int .i64 (t.num 0), .slice xa (t.wr 0).length xc]⟩] _ _;refine Fn.intro func82 J J ntmps82 J ?_;intro C _ _;refine sR<|?_;refine sc (si J J ?_);intro b1;refine sa J J<|sa J J<|zE<|eE<|sR<|sf J J<|mz J J J<|rF J J<|sy (Bs J J) J<|zE<|?_;refine uB J (fun hc=>absurd hc (by omega)) (fun _=>?_);refine zK<|sR<|sf J J<|mz J J J<|rF J J<|?_;refine sc (HQ J J (by omega) (by omega) (by omega) (by rfl) J ?_);intro b2;rw[cK,Kz];refine sa J J<|zE<|sR<|B9 J J J<|sf J J<|mz J J J<|sm J J<|?_;refine sc (vM J J (M:=[_]) (rest:=[_]) (List.Perm.refl _) (aHx (r0:=t.num 0) hx (by omega) (qt.of (a:=[]) (b:=[]) (k:=0) (by simp) J) (by omega) hb ho (G:=G) (sb:=b2) (lo2:=true)) J ?_);rintro _ css G3 _ _ ⟨q,rfl,hq,rfl⟩;show St C _ _ [⟨b2,sK (t.wr 0).length (0+t.size),4,true⟩,⟨b1,[.int .i64 (t.num 0), .slice xa (t.wr 0).length xc],69,true⟩] _ _;refine sm J J<|sx J J J<|sx J J J<|sa J J<|sa J J<|zE<|eE<|sR<|sm J J<|rF J J<|sm J J<|zE<|uQ<|?_;refine Nn (X:=Nat) (fun i=>[(27, .int .i64 (i:Nat)),(26, .int .i64 (t.wr 0).length),(25, .slice (some ⟨b2,0,none⟩) (t.wr 0).length (t.wr 0).length),(6, .bool true),(5, .pointer q)]) (fun _=>[⟨b2,sK (t.wr 0).length (0+t.size),4,true⟩,⟨b1,[.int .i64 (t.num 0), .slice xa (t.wr 0).length xc],69,true⟩]) (fun i _=>i<=(t.wr 0).length) (fun i=>(t.wr 0).length-i) 0 (bJ _) (.cons J (.cons J (.cons J (.cons J (.cons J .nil))))) J ?_;rintro i Gx _ hi;refine sR<|sy (E7 J J) J<|zE<|eE<|?_
 refine P' J (fun hc=>?_) (fun hc=>?_)
 .refine Kv<|D4<|D4<|Lk<|sR<|sm J J<|sm J J<|sa J J<|sa J J<|zE<|kD<|?_
  exact zD (.tmp J (.tmp J .nil)) (lj.2 ⟨_,J, .cons (hq.up GL.le) (.cons (aH.2 J) .nil)⟩)
 have hi':i<(t.wr 0).length:=by omega
 refine zK<|eE<|uQ<|sR<|sy (tn J J) J<|?_;refine sy (nn (v:= .bool true) J (by rw[cK,iN];exact Iy hi' (by rw[kS];omega))) J<|sa J J<|zE<|EF<|sm J J<|sm J J<|?_;refine fp J J (lf J) J<|sy (De J J) J<|sa J J<|zE<|EF<|sy (u9 J J) J<|sm J J<|zE<|?_;exact Fi (i+1) hi' (by omega) (.cons (by show some (Value.int _ _)=some (.int _ _);congr 2) (.cons J (.cons J (.cons J (.cons J .nil))))) J
def Jb(a b:Tr):DV:= .ag [eU a,eU b]
def TS(h:fA k t):PF GB prog 73 [eA t] (.tp [eU t,vB true]):=Aw h.lb h.ok (by have:=h.s;omega)
def Pa(l:List Rat):fk l=sg bA l:=by
 unfold fk sg;have key: ∀(l o:List Rat),l.foldl (fun out x=>kd x out) o=l.foldl (fun out x=>ez bA x out) o:=by
  intro l
  induction l with
  |nil=>intro o;rfl
  |cons a t ih=>intro o;rw[kY,kY,wj,ih]
 exact key l []
def EJ(l:List Rat):(fk l).length<=l.length:=by
 have:=Dj bA l [];rw[Pa];simpa[sg] using this
theorem FO{l:List Rat}(h: ∀q∈l,BQ q k): ∀g∈cd l,BQ g (2*k+100):=fun g hg=>by
 cases l with
 |nil=>
  rw[cd,aU] at hg;subst hg;exact BQ.mono (k:=1) ⟨by decide,by decide⟩ (by omega)
 |cons a t=>
  rw[cd] at hg;rcases aK.1 hg with rfl|hg
  .haveI:=h a aQ
   exact BQ.mono (inferInstance:BQ (a-1) _) (by omega)
  .rcases aM.1 hg with hg|hg
   .obtain⟨c,hc,d,hd,rfl⟩:=IT hg
    haveI:=h c hc;haveI:=h d hd;exact BQ.mono (inferInstance:BQ ((c+d)/2) _) (by omega)
   .rw[aU] at hg
    haveI:=h _ (List.getLast_mem (l:=a::t) (by simp));subst hg;exact BQ.mono (inferInstance:BQ ((a::t).getLast (by simp)+1) _) (by omega)
def uu(a:aa)(t:List aa):List Rat:=t.filterMap fun b=>if crossI a b=0 then none else some (c7 a b).x
def I8(a:aa)(t:List aa):dw (a::t)=(if a.b=0 then [a.base.x] else [])++(uu a t++dw t):=rfl
def Ua(a:aa)(t:List aa):(uu a t).length<=t.length:=mX _ _
def Gw: ∀l:List aa,(dw l).length<=l.length*(l.length+1)
 |[]=>bW _
 |a::t=>by
  have h1:=Gw t;have h2:=Ua a t;have h3:(if a.b=0 then [a.base.x] else []).length<=1:=by split<;>simp
  rw[I8,aY,aY,bQ];have e:(t.length+1)*(t.length+1+1)=t.length*(t.length+1)+2*t.length+2:=by simp only[dV,fQ];omega
  rw[e];omega
theorem Bi: ∀{l:List aa},(∀a∈l,LB a)-> ∀x∈dw l,BQ x 900
 |[],_,x,h=>by cases h
 |a::t,hl,x,h=>by
  haveI:=hl a aQ;have ht: ∀b∈t,LB b:=fun b hb=>hl b (aJ _ hb);rw[I8] at h;rcases aM.1 h with h|h
  .split at h
   .rw[aU] at h;subst h;infer_instance
   .cases h
  .rcases aM.1 h with h|h
   .obtain⟨b,hb,e⟩:=jS.1 h
    haveI:=ht b hb;split at e
    .cases e
    .cases e;exact BQ.mono (inferInstance:BQ (c7 a b).x 772)
   .exact Bi ht x h
def Pz(l:List aa)(x:Rat):(gi l x).length<=l.length:=mX _ _
theorem RF(hl: ∀a∈l,LB a)(hx:BQ x 1900): ∀y∈gi l x,BQ y 2400:=fun y hy=>by
 obtain⟨a,ha,hb,rfl⟩:=NI hy;haveI:=hl a ha;unfold yA;exact BQ.mono (inferInstance:BQ (-(((a.a:Rat)*x+(a.c:Rat))/(a.b:Rat))) _) (by omega)
def Qa{a:aa}(h:l[k]? =some a):gi (l.drop k) x=(if a.b=0 then [] else [yA a x])++gi (l.drop (k+1)) x:=by
 obtain⟨hk,rfl⟩:=aT.1 h;rw[bK hk];unfold gi;rw[qX];split<;>(rename_i e;split at e<;>simp_all)
def RZ{t:List aa}{a b:aa}(h:t[k]? =some b):uu a (t.drop k)=(if crossI a b=0 then [] else [(c7 a b).x])++uu a (t.drop (k+1)):=by
 obtain⟨hk,rfl⟩:=aT.1 h;rw[bK hk];unfold uu;rw[qX];split<;>(rename_i e;split at e<;>simp_all)
def MB{a:aa}(h:l[k]? =some a):dw (l.drop k)=(if a.b=0 then [a.base.x] else [])++(uu a (l.drop (k+1))++dw (l.drop (k+1))):=by
 obtain⟨hk,rfl⟩:=aT.1 h;rw[bK hk,I8]
def xm{a b c:List α}(h:a++b=c):a.length<=c.length:=by rw[<-h,aY];omega
def vv(l:List aa)(x:Rat):List ah:=(cd (fk (gi l x))).map fun y=>⟨x,y⟩
def ash(l:List aa):oz l=(cd (fk (dw l))).flatMap (vv l):=rfl
def Mh(l:List aa)(x:Rat):(vv l x).length<=l.length+1:=by
 unfold vv;rw[aX,x5];have:=EJ (gi l x);have:=Pz l x;omega
def M6{α β:Type}(f:α->List β)(m:Nat): ∀l:List α,(∀x,(f x).length<=m)->(l.flatMap f).length<=l.length*m
 |[],_=>by simp
 |a::t,h=>by
  have:=M6 f m t h;have:=h a;rw[lS,aY,bQ,fS];omega
def MR(h:l.length<=6000):(cd (fk (dw l))).length<=36006001:=by
 have h1:=Gw l;have h2:=EJ (dw l);have h3:l.length*(l.length+1)<=6000*6001:=fJ h (by omega);rw[x5];omega
def Lo(h:l.length<=6000):(oz l).length<=216072012001:=by
 have h1:=M6 (vv l) 6001 (cd (fk (dw l))) (fun x=>by have:=Mh l x;omega);have h2:(cd (fk (dw l))).length*6001<=36006001*6001:=bT _ (MR h);rw[ash];omega
def UH{f:α->List β}{l:List α}{x:α}(h:l[k]? =some x):(l.drop k).flatMap f=f x++(l.drop (k+1)).flatMap f:=by
 obtain⟨hk,rfl⟩:=aT.1 h;rw[bK hk,lS]
def U5{f:α->β}{l:List α}{x:α}(h:l[k]? =some x):(l.drop k).map f=f x::(l.drop (k+1)).map f:=by
 obtain⟨hk,rfl⟩:=aT.1 h;rw[bK hk,bY]
def zp(l:List α):l.drop l.length=[]:=by simp
def P9(hb: ∀q∈qs,BQ q k)(hk:k<=100000)(hn:qs.length<=40000000:=by omega):PF GB prog 159 [.sl (qs.map eQ)] (.sl ((fk qs).map eQ)):=by
 have hm':=d7 eQ qs;refine fn (fu:=⟨15⟩) func159 J J ntmps159 J J (fun C=>?_);refine aj 8 (.d (vI (qs.length:Nat))) J (by rw[hm']<;>rfl)<|gx J<|Bp 3 J<|lp (X:=List Rat×Nat) (fun⟨xs,i⟩=>[(9, .d (vI (i:Nat))),(3, .d (.sl (xs.map eQ)))]) (fun⟨xs,i⟩=>[]) (fun⟨xs,i⟩=>xs=ql bA id qs i/\i<=qs.length) (fun⟨xs,i⟩=>qs.length-i) ⟨[],0⟩ J ⟨J,bJ _⟩ (fun _=>J) (fun⟨xs,i⟩ hk=>?_)
 try dsimp only at hk⊢
 obtain⟨h1,h2⟩:=hk;refine br J J J (fun hc10=>?_) (fun hc10=>?_)
 .
  obtain⟨q,hz⟩: ∃s,qs[i]? =some s:=⟨_,aZ (by omega)⟩;haveI hqb:=hb q (aV hz);have hxl:=d7 eQ xs;have hxn:xs.length<=i:=by rw[h1];exact Mk
  have hxb: ∀u∈xs,BQ u k:=fun u hu=>by rw[h1] at hu;obtain⟨z,hz,he⟩:=Qf hu;rw[he];exact hb z hz
  refine ix (fu:=⟨11⟩) _ J (cO hz) J<|mg (fu:=⟨5⟩) (X:=Nat) (fun n=>[(6, .d (vI (n:Nat)))]) (fun n=>[]) (fun n=>lC bA q xs=n) [6] [] rfl ?_ (fun _=>J) (fun n hnx=>?_)
  .
   refine gx J<|lp (fu:=⟨6⟩) (X:=Nat) (fun n=>[(6, .d (vI (n:Nat)))]) (fun n=>[]) (fun n=>n<=xs.length/\ ∀j (h:j<xs.length),j<n->bA xs[j] q<0) (fun n=>xs.length-n) 0 J ⟨bJ _,fun j _ hj=>absurd hj (by omega)⟩ (fun _=>J) (fun n hk=>?_);obtain⟨n1,n2⟩:=hk;refine i7 (v2:=fun hg16=>by simp only[ak];kernel_rfl) J J J J (fun hg16=>?_) (fun hg16=>?_)
   .
    refine ix _ J (sH) J<|cl J (ld (a:=xs[n]'(by omega)) (b:=q) (ha:=hxb _ (cN (by omega))) (hb:=hqb) (by omega) (by omega)) J<|br J J J (fun hc25=>?_) (fun hc25=>?_)
    .
     exact at_ (n+1) ⟨⟨by omega,fun j h hj=>by by_cases q:j=n;(subst q;exact hc25);exact n2 j h (by omega)⟩,(by omega)⟩
    .
     exact at_ n (uI bA n1 n2 (fun h=>hc25))
   .
    exact at_ n (uI bA n1 n2 (fun h=>absurd h (by omega)))
  .
   have hnl:n<=xs.length:=by rw[<-hnx];exact DA _ _ _
   refine i7 (v1:=fun hg31=>by simp only[ak];kernel_rfl) J J J J (fun hg31=>?_) (fun hg31=>?_)
   .
    have hnew: ∀h:n<xs.length,bA xs[n] q≠0:=fun h=>absurd h (by omega);obtain⟨ys,hys⟩: ∃ys,ys=xs.take n++q::xs.drop n:=⟨_,rfl⟩;have hin:ez bA q xs=ys:=by rw[hys];exact sh bA hnx hnew
    have hyl:ys.length<=xs.length+1:=by rw[hys];simp;omega
    refine s3 n _ J J J J (ef _) (by rw[hxl];exact hnl) J<|ro J J<|km n xs.length _ J J (by rw[hxl]) J (ef _) hnl (by omega) J<|ap _ J J (sI ef _ _ _) J<|kI (hv:=by simp only[ak];exact⟨by kernel_rfl,by omega⟩) (ho:=fun _=>⟨uK ef _ _,by simp⟩) (ys.map eQ) J (by rw[hys,bX,bY,iW,iR,cZ (l:=xs.map eQ) (i:=xs.length) (by simp)];rfl) (uD ef _ _ _ _) J<|at_ ⟨ys,i+1⟩ (by dsimp only;exact⟨⟨by rw[yp hz,<-h1];exact hin.symm,by omega⟩,(by omega)⟩)
   .
    refine ix _ J (sH) J<|cl J (ld (a:=xs[n]'(by omega)) (b:=q) (ha:=hxb _ (cN (by omega))) (hb:=hqb) (by omega) (by omega)) J<|br J J J (fun hc40=>?_) (fun hc40=>?_)
    .
     have hnew: ∀h:n<xs.length,bA xs[n] q≠0:=fun h=>hc40;obtain⟨ys,hys⟩: ∃ys,ys=xs.take n++q::xs.drop n:=⟨_,rfl⟩;have hin:ez bA q xs=ys:=by rw[hys];exact sh bA hnx hnew
     have hyl:ys.length<=xs.length+1:=by rw[hys];simp;omega
     refine s3 n _ J J J J (ef _) (by rw[hxl];exact hnl) J<|ro J J<|km n xs.length _ J J (by rw[hxl]) J (ef _) hnl (by omega) J<|ap _ J J (sI ef _ _ _) J<|kI (hv:=by simp only[ak];exact⟨by kernel_rfl,by omega⟩) (ho:=fun _=>⟨uK ef _ _,by simp⟩) (ys.map eQ) J (by rw[hys,bX,bY,iW,iR,cZ (l:=xs.map eQ) (i:=xs.length) (by simp)];rfl) (uD ef _ _ _ _) J<|at_ ⟨ys,i+1⟩ (by dsimp only;exact⟨⟨by rw[yp hz,<-h1];exact hin.symm,by omega⟩,(by omega)⟩)
    .
     have hin:ez bA q xs=xs:=Bg bA hnx (by omega) (Decidable.not_not.1 hc40);exact at_ ⟨xs,i+1⟩ (by dsimp only;exact⟨⟨by rw[yp hz,<-h1];exact hin.symm,by omega⟩,(by omega)⟩)
 .
  have hfin:fk qs=xs:=by rw[Pa,h1,N0,List.map_id]
  exact rz J (by rw[hfin];rfl)
def Ms(hb: ∀q∈cuts,BQ q k)(hk':k<=100000)(hn:cuts.length<=40000000):PF GB prog 158 [.sl (cuts.map eQ)] (.sl ((cd cuts).map eQ)):=by
 have hm:=d7 eQ cuts;refine fn (fu:=⟨10⟩) func158 J J ntmps158 J J (fun C=>?_);refine aj 6 (.d (vI (cuts.length:Nat))) J (by rw[hm]<;>rfl)<|gx J<|br J J J (fun hc7=>?_) (fun hc7=>?_)
 .
  obtain rfl:cuts=[]:=cR (by omega);refine rf J J<|rz J (by rw[cd];show DV.sl [_]=DV.sl [_];rw[GN])
 .
  obtain⟨a,ct,rfl⟩: ∃a t,cuts=a::t:=by cases cuts with|nil=>exact absurd rfl hc7|cons a t=>exact⟨a,t,rfl⟩
  haveI hab:=hb a aQ;have hcl:ct.length+1<=40000000:=hn;refine ix _ J J J<|cl J (jE (n:=1)) J<|cl (fu:=⟨0⟩) J (qh (a:=a) (b:=((1:Int):Rat)) (by omega) (by omega)) J<|aj 14 (.d (eQ (a-1))) J J<|gx J<|ro J J<|lp (fu:=⟨6⟩) (X:=Nat) (fun i=>[(4, .d (vI ((i+1:Nat):Int))),(3, .rw 15)]) (fun i=>[(15,some (.b 34 3 (((a-1)::iu ((a::ct).take (i+1))).map eQ) true))]) (fun i=>i<=ct.length) (fun i=>ct.length-i) 0 J (bJ _) (fun _=>J) (fun i hk=>?_);have hm2:=d7 eQ (a::ct);have hml:=Bd (a::ct.take i);rw[bQ,bL] at hml;have hml2:=Bd (a::ct);rw[bQ] at hml2;refine aj 18 (.d (vI ((ct.length+1:Nat):Int))) J (by rw[hm2]<;>rfl)<|gx J<|br (fu2:=⟨11⟩) J J J (fun hc19=>?_) (fun hc19=>?_)
  .
   obtain⟨u,hu⟩: ∃s,(a::ct)[i]? =some s:=⟨_,aZ (by simp;omega)⟩;obtain⟨w,hw⟩: ∃s,(a::ct)[i+1]? =some s:=⟨_,aZ (by simp;omega)⟩;haveI:=hb u (aV hu);haveI:=hb w (aV hw);refine ix _ J (by rw[show((((i+1:Nat):Int))-1).toNat=i by omega,cY,hu];rfl) J<|ix _ J (by rw[cK,cY,hw];rfl) J<|?_;refine cl J (D8 (a:=u) (b:=w) (by omega) (by omega)) J<|rf J J<|ap (hv:=by simp only[ak];exact⟨by kernel_rfl,by omega⟩) (((a-1)::iu ((a::ct).take (i+1+1))).map eQ) J (by rw[Fh hu hw,<-gL,bX];rfl) (ef [(u+w)/2]) J<|fm 34 15 J<|at_ (i+1) ⟨(by omega),(by omega)⟩
  .
   obtain rfl:i=ct.length:=by omega
   obtain⟨z,hz⟩: ∃s,(a::ct)[ct.length]? =some s:=⟨_,aZ (by simp)⟩;haveI:=hb z (aV hz);rw[show(a::ct).take (ct.length+1)=a::ct from dQ (l:=a::ct)];refine aj 38 (.d (vI ((ct.length+1:Nat):Int))) J (by rw[hm2]<;>rfl)<|gx J<|ix _ J (by rw[show((((ct.length+1:Nat):Int))-1).toNat=ct.length by omega,cY,hz];rfl) J<|cl J (jE (n:=1)) J<|?_;refine cl J (my (a:=z) (b:=((1:Int):Rat)) (by omega) (by omega)) J<|rf J J<|ap ((cd (a::ct)).map eQ) J (by rw[Q6 hz,<-gL,bX];rfl) (ef [z+1]) J<|ik 45 J<|rz J J
def aCq(hb: ∀a∈l,LB a)(ho: ∀a∈l,a.Ne)(hn:l.length<=6000):PF GB prog 85 [.sl (l.map eL)] (.sl ((oz l).map eP)):=by
 have hbl:=hb;have hml:=d7 eL l;have htot:=Lo hn;have hgl:=MR hn;have hxl:=Gw l;have hxl2:l.length*(l.length+1)<=6000*6001:=fJ hn (by omega);refine fn (fu:=⟨15⟩) func85 J J ntmps85 J J (fun C=>?_);refine aj 19 (.d (vI (l.length:Nat))) J (by rw[aX]<;>rfl)<|gx J<|nr 3 3 34 3 J J J<|lp (X:=List Rat×Nat) (fun⟨cur,i⟩=>[(20, .d (vI (i:Nat))),(3, .rw 3)]) (fun⟨cur,i⟩=>[(3,some (.b 34 3 (cur.map eQ) true))]) (fun⟨cur,i⟩=>cur++dw (l.drop i)=dw l/\i<=l.length) (fun⟨cur,i⟩=>l.length-i) ⟨[],0⟩ J ⟨by simp,bJ _⟩ (fun _=>J) (fun⟨cur,i⟩ hk=>?_)
 try dsimp only at hk⊢
 obtain⟨h1,h2⟩:=hk;have hcl:=xm h1;have hcm:=d7 eQ cur;refine br (fu2:=⟨0⟩) J J J (fun hc21=>?_) (fun hc21=>?_)
 .
  obtain⟨a,ha⟩: ∃s,l[i]? =some s:=⟨_,aZ (by omega)⟩;haveI hab:=hb a (aV ha);have hao:=ho a (aV ha);refine ix (fu:=⟨7⟩) _ J (cO ha) J<|mg (X:=List Rat) (fun cur1=>[(3, .rw 3)]) (fun cur1=>[(3,some (.b 34 3 (cur1.map eQ) true))]) (fun cur1=>cur1++(uu a ((l.drop (i+1)).drop 0)++dw (l.drop (i+1)))=dw l) [3] [3] rfl ?_ (fun _=>J) (fun cur1 hc1=>?_)
  .
   refine gx J<|cl J (zm (z:=a.b)) J<|br J J J (fun hc28=>?_) (fun hc28=>?_)
   .
    refine cl J (DO (l:=a) hao) J<|rf J J<|ap ((cur++[a.base.x]).map eQ) J (by rw[bX];rfl) (ef [_]) J<|fm 34 3 J<|at_ (cur++[a.base.x]) (by rw[<-h1,MB ha,if_pos (gS.1 hc28)];simp)
   .
    exact at_ cur (by rw[<-h1,MB ha,if_neg (fun e=>hc28 (gS.2 e))];simp)
  .
   have hcl1:=xm hc1;have hdl:(l.drop (i+1)).length<=6000:=by rw[gK];omega
   have hcm1:=d7 eQ cur1;refine km (fu:=⟨1⟩) (i+1) l.length ((l.drop (i+1)).map eL) J J (by rw[hml]) (by rw[cZ (by rw[hml];exact bW _),iR]) (fw l) (by omega) (by rw[hml];exact bW _) J<|aj 39 (.d (vI ((l.drop (i+1)).length:Nat))) J (by rw[aX]<;>rfl)<|gx J<|lp (X:=List Rat×Nat) (fun⟨cur2,j⟩=>[(40, .d (vI (j:Nat))),(3, .rw 3)]) (fun⟨cur2,j⟩=>[(3,some (.b 34 3 (cur2.map eQ) true))]) (fun⟨cur2,j⟩=>cur2++(uu a ((l.drop (i+1)).drop j)++dw (l.drop (i+1)))=dw l/\j<=(l.drop (i+1)).length) (fun⟨cur2,j⟩=>(l.drop (i+1)).length-j) ⟨cur1,0⟩ J ⟨hc1,bJ _⟩ (fun _=>J) (fun⟨cur2,j⟩ hk=>?_)
   try dsimp only at hk⊢
   obtain⟨j1,j2⟩:=hk;have hcl2:=xm j1;have hcm2:=d7 eQ cur2;refine br J J J (fun hc41=>?_) (fun hc41=>?_)
   .
    obtain⟨b,hb⟩: ∃s,(l.drop (i+1))[j]? =some s:=⟨_,aZ (by omega)⟩;haveI hbb:=hbl b (gU (aV hb));refine ix _ J (cO hb) J<|cl J (HP (l:=a) (m:=b)) J<|bd J J J (fun hc50=>?_) (fun hc50=>?_)
    .
     refine rf J J<|ap ((cur2++[(c7 a b).x]).map eQ) J (by rw[bX];rfl) (ef [_]) J<|fm 55 3 J<|at_ ⟨cur2++[(c7 a b).x],j+1⟩ (by dsimp only;exact⟨⟨by rw[<-j1,RZ hb,if_neg hc50];simp,by omega⟩,(by omega)⟩)
    .
     exact at_ ⟨cur2,j+1⟩ (by dsimp only;exact⟨⟨by rw[<-j1,RZ hb,if_pos (Decidable.not_not.1 hc50)];simp,by omega⟩,(by omega)⟩)
   .
    obtain rfl:j=(l.drop (i+1)).length:=by omega
    exact at_ ⟨cur2,i+1⟩ (by dsimp only;exact⟨⟨by rw[zp] at j1;exact j1,by omega⟩,(by omega)⟩)
 .
  obtain rfl:i=l.length:=by omega
  obtain rfl:cur=dw l:=by rw[zp] at h1;simpa[dw] using h1
  refine pO 3 J<|gx J<|cl J (P9 (qs:=dw l) (k:=900) (Bi hb) (by decide)) J<|cl (fu:=⟨1⟩) J (Ms (cuts:=fk (dw l)) (k:=900) (fun q hq=>Bi hb q (oP.1 hq)) (by decide) (by have:=EJ (dw l);omega)) J<|aj 61 (.d (vI ((cd (fk (dw l))).length:Nat))) J (by rw[aX]<;>rfl)<|gx J<|nr 10 10 36 6 J J J<|lp (X:=List ah×Nat) (fun⟨pts,g⟩=>[(62, .d (vI (g:Nat))),(10, .rw 10)]) (fun⟨pts,g⟩=>[(10,some (.b 36 6 (pts.map eP) true))]) (fun⟨pts,g⟩=>pts++((cd (fk (dw l))).drop g).flatMap (vv l)=oz l/\g<=(cd (fk (dw l))).length) (fun⟨pts,g⟩=>(cd (fk (dw l))).length-g) ⟨[],0⟩ J ⟨J,bJ _⟩ (fun _=>J) (fun⟨pts,g⟩ hk=>?_)
  try dsimp only at hk⊢
  obtain⟨g1,g2⟩:=hk;have hpl:=xm g1;have hpm:=d7 eP pts;refine br J J J (fun hc63=>?_) (fun hc63=>?_)
  .
   obtain⟨x,hx⟩: ∃s,(cd (fk (dw l)))[g]? =some s:=⟨_,aZ (by omega)⟩;haveI hxb:BQ x 1900:=FO (k:=900) (fun q hq=>Bi hb q (oP.1 hq)) x (aV hx);refine ix (fu:=⟨15⟩) _ J (cO hx) J<|aj 67 (.d (vI (l.length:Nat))) J (by rw[aX]<;>rfl)<|gx J<|nr 13 13 34 3 J J J<|lp (X:=List Rat×Nat) (fun⟨ys,j⟩=>[(68, .d (vI (j:Nat))),(13, .rw 13)]) (fun⟨ys,j⟩=>[(13,some (.b 34 3 (ys.map eQ) true))]) (fun⟨ys,j⟩=>ys++gi (l.drop j) x=gi l x/\j<=l.length) (fun⟨ys,j⟩=>l.length-j) ⟨[],0⟩ J ⟨J,bJ _⟩ (fun _=>J) (fun⟨ys,j⟩ hk=>?_)
   try dsimp only at hk⊢
   obtain⟨y1,y2⟩:=hk;have hyl:=xm y1;have hym:=d7 eQ ys;have hyt:=Pz l x;refine br (fu2:=⟨0⟩) J J J (fun hc69=>?_) (fun hc69=>?_)
   .
    obtain⟨a,ha⟩: ∃s,l[j]? =some s:=⟨_,aZ (by omega)⟩;haveI hala:=hb a (aV ha);refine ix _ J (cO ha) J<|cl J (zm (z:=a.b)) J<|br J J J (fun hc75=>?_) (fun hc75=>?_)
    .
     have hab: ¬a.b=0:=fun e=>hc75 (gS.2 e);have habR:((a.b:Int):Rat)≠0:=fun e=>hab (cW.1 e);refine cl J (iv (z:=a.a)) J<|cl J (iG (a:=(a.a:Rat)) (b:=x)) J<|cl J (iv (z:=a.c)) J<|cl J (my (a:=(a.a:Rat)*x) (b:=(a.c:Rat))) J<|cl J (iv (z:=a.b)) J<|cl J (vp (a:=(a.a:Rat)*x+(a.c:Rat)) (b:=(a.b:Rat)) habR) J<|cl J (tP (q:=((a.a:Rat)*x+(a.c:Rat))/(a.b:Rat))) J<|rf J J<|ap (hv:=by simp only[ak];exact⟨by kernel_rfl,by omega⟩) ((ys++[yA a x]).map eQ) J (by rw[bX];rfl) (ef [_]) J<|fm 92 13 J<|at_ ⟨ys++[yA a x],j+1⟩ (by dsimp only;exact⟨⟨by rw[<-y1,Qa ha,if_neg hab];simp,by omega⟩,(by omega)⟩)
    .
     have hab:a.b=0:=gS.1 (Decidable.not_not.1 hc75);exact at_ ⟨ys,j+1⟩ (by dsimp only;exact⟨⟨by rw[<-y1,Qa ha,if_pos hab];simp,by omega⟩,(by omega)⟩)
   .
    obtain rfl:j=l.length:=by omega
    obtain rfl:ys=gi l x:=by rw[zp] at y1;simpa[gi] using y1
    have hyb:=RF hb hxb;have hgy:(cd (fk (gi l x))).length<=6001:=by have:=Mh l x;unfold vv at this;rw[aX] at this;omega
    refine pO 13 J<|gx J<|cl J (P9 (qs:=gi l x) (k:=2400) hyb (by decide)) J<|cl (fu:=⟨1⟩) J (Ms (cuts:=fk (gi l x)) (k:=2400) (fun q hq=>hyb q (oP.1 hq)) (by decide) (by have:=EJ (gi l x);omega)) J<|aj 97 (.d (vI ((cd (fk (gi l x))).length:Nat))) J (by rw[aX]<;>rfl)<|gx J<|lp (X:=List ah×Nat) (fun⟨pts2,j⟩=>[(98, .d (vI (j:Nat))),(10, .rw 10)]) (fun⟨pts2,j⟩=>[(10,some (.b 36 6 (pts2.map eP) true))]) (fun⟨pts2,j⟩=>pts2++(((cd (fk (gi l x))).drop j).map (fun y=>(⟨x,y⟩:ah))++((cd (fk (dw l))).drop (g+1)).flatMap (vv l))=oz l/\j<=(cd (fk (gi l x))).length) (fun⟨pts2,j⟩=>(cd (fk (gi l x))).length-j) ⟨pts,0⟩ J ⟨by rw[UH hx] at g1;exact g1,bJ _⟩ (fun _=>J) (fun⟨pts2,j⟩ hk=>?_)
    try dsimp only at hk⊢
    obtain⟨w1,w2⟩:=hk;have hpl2:=xm w1;have hpm2:=d7 eP pts2;refine br J J J (fun hc99=>?_) (fun hc99=>?_)
    .
     obtain⟨y,hy⟩: ∃s,(cd (fk (gi l x)))[j]? =some s:=⟨_,aZ (by omega)⟩;refine ix _ J (cO hy) J<|rf J J<|ap ((pts2++[(⟨x,y⟩:ah)]).map eP) J (by rw[bX];rfl) (M2 [(⟨x,y⟩:ah)]) J<|fm 107 10 J<|at_ ⟨pts2++[⟨x,y⟩],j+1⟩ (by dsimp only;exact⟨⟨by rw[<-w1,U5 hy];simp,by omega⟩,(by omega)⟩)
    .
     obtain rfl:j=(cd (fk (gi l x))).length:=by omega
     exact at_ ⟨pts2,g+1⟩ (by dsimp only;exact⟨⟨by rw[zp] at w1;exact w1,by omega⟩,(by omega)⟩)
  .
   obtain rfl:g=(cd (fk (dw l))).length:=by omega
   obtain rfl:pts=oz l:=by rw[zp] at g1;simpa using g1
   refine ik 10 J<|rz J J
def SZ{b:Bool}:PR GB prog 87 [eT (Tr.leaf b)] 6 136 ((Tr.leaf b).lns.map eL):=by
 refine FG (fu:=⟨11⟩) func87 J J ntmps87 J J (fun C hmb=>?_);refine dm J J J<|?_;exact TN J J J
def aot{l:aa}{x:Tr}(hs:(Tr.node l x y).size<=100000)(ihx:PR GB prog 87 [eT x] 6 136 (x.lns.map eL))(ihy:PR GB prog 87 [eT y] 6 136 (y.lns.map eL)):PR GB prog 87 [eT (Tr.node l x y)] 6 136 ((Tr.node l x y).lns.map eL):=by
 have hsx:=sj x;have hsy:=sj y;have hsz:(Tr.node l x y).size=1+x.size+y.size:=J;refine FG (fu:=⟨11⟩) func87 J J ntmps87 J J (fun C hmb=>?_);refine cF J J J<|ro J J<|cr J ihx J<|ap (hbd:=by simp only[aX,bQ,eY];omega) ((l::x.lns).map eL) J (by rw[bY];rfl) (fw _) J<|cr J ihy J<|ap (hbd:=by simp only[aX,bQ,eY];omega) ((l::(x.lns++y.lns)).map eL) J (by rw[bY,bY,bX];rfl) (fw _) J<|?_;exact QT J J J J
def CK: ∀{t:Tr},t.size<=100000->PR GB prog 87 [eT t] 6 136 (t.lns.map eL)
 | .leaf _,_=>SZ
 | .node l x y,h=>aot h (CK (by have:(Tr.node l x y).size=1+x.size+y.size:=J;omega)) (CK (by have:(Tr.node l x y).size=1+x.size+y.size:=J;omega))
def vq:Tr->ah->Bool
 | .leaf _,_=>true
 | .node l x y,p=>if(l.value p).num.sign=1 then vq x p else if(l.value p).num.sign= -1 then vq y p else false
def Qy[hp:aI p i](hb:t.all LB)(hi:i<=400000:=by decide):PF GB prog 88 [eT t,eP p] (.tp [vB (jA t p),vB (vq t p)]):=by
 refine fn func88 J J ntmps88 J J (fun C=>?_);refine lp (fu:=⟨3⟩) (X:=Tr) (fun s=>[(0, .d (eT s))]) (fun s=>[]) (fun s=>jA s p=jA t p/\vq s p=vq t p/\s.all LB) (fun s=>s.size) t J ⟨J,J,hb⟩ (fun _=>J) (fun s hk=>?_);obtain⟨h1,h2,hb2⟩:=hk;rcases s with b|⟨l,x,y⟩
 .
  have hA:jA t p=b:=h1.symm;have hO:vq t p=true:=h2.symm;refine gx (fu:=⟨3⟩) J<|dm J J J<|rz J (by rw[hA,hO];rfl)
 .
  have hAn:=h1.symm;have hOn:=h2.symm;rw[jA] at hAn;rw[vq] at hOn;haveI:=hb2.1;refine gx (fu:=⟨3⟩) J<|cF J J J<|cl J (Bc (l:=l) (p:=p) (i:=i) hi) J<|br J J J (fun hc17=>?_) (fun hc17=>?_)
  .
   exact at_ x ⟨⟨by rw[hAn,if_pos hc17],by rw[hOn,if_pos hc17],hb2.2.1⟩,(by simp only[Tr.size];omega)⟩
  .
   refine br J J J (fun hc23=>?_) (fun hc23=>?_)
   .
    exact at_ y ⟨⟨by rw[hAn,if_neg hc17,if_pos hc23],by rw[hOn,if_neg hc17,if_pos hc23],hb2.2.2⟩,(by simp only[Tr.size];omega)⟩
   .
    exact rz J (by rw[hAn,hOn,if_neg hc17,if_neg hc23,if_neg hc17,if_neg hc23];rfl)
def Lp(ls:List aa):(mO ls).length<=ls.length:=by
 have:=Dj gI (ls.map aa.canon) [];unfold mO sg;rw[aX,eY] at this;omega
theorem ayk(hl: ∀a∈l,LB a): ∀p∈oz l,aI p 4900:=fun p hp=>by
 obtain⟨h1,h2⟩:=Fa.1 hp;have hx:BQ p.x 1900:=FO (k:=900) (fun q hq=>Bi hl q (oP.1 hq)) _ h1;have hy:BQ p.y 4900:=FO (k:=2400) (fun q hq=>RF hl hx q (oP.1 hq)) _ h2;exact⟨hx.mono (by decide),hy⟩
theorem Rs(h: ∀l∈ls,LB l): ∀l∈mO ls,LB l:=fun l hl=>by
 obtain⟨x,hx,rfl⟩:=Di hl;haveI:=h x hx
 infer_instance
def Yv(h: ∀l∈ls,l.ok): ∀l∈mO ls,l.Ne:=fun l hl=>by
 obtain⟨x,hx,rfl⟩:=Di hl;exact(Oj (h x hx)).ne
structure oC (a b:Tr):Prop where
 ga:a.gd
 gb:b.gd
 sa:a.size<=3000
 sb:b.size<=3000
theorem oC.lb{a b:Tr}(h:oC a b): ∀l∈a.lns++b.lns,LB l:=fun l hl=>(aM.1 hl).elim (j'.1 h.ga.lb l) (j'.1 h.gb.lb l)
def oC.ok{a b:Tr}(h:oC a b): ∀l∈a.lns++b.lns,l.ok:=fun l hl=>(aM.1 hl).elim (nP h.ga.ok l) (nP h.gb.ok l)
def oC.len(h:oC a b):(a.lns++b.lns).length<=6000:=by rw[aY,sj,sj];have:=h.sa;have:=h.sb;omega
def oC.fl(h:oC a b):(nj a b).length<=216072012001:=Lo (cS (Lp _) h.len)
theorem oC.fb(h:oC a b): ∀p∈nj a b,aI p 4900:=ayk (Rs h.lb)
def XO(hz:(nj a b)[k]? =some p)(h:jA a p≠jA b p):rD a b=false:=by
 rw[rD,List.all_eq_false];exact⟨p,aV hz,by simpa using h⟩
def Ug(h: ∀j p,(nj a b)[j]? =some p->j<(nj a b).length->jA a p=jA b p):rD a b=true:=by
 rw[rD,dJ];intro p hp;obtain⟨j,hj,rfl⟩:=List.getElem_of_mem hp;simpa using h j _ (aZ hj) hj
def Y5(h:oC a b):PF GB prog 83 [eT a,eT b] (vB (rD a b)):=by
 have hsa:=h.sa;have hsb:=h.sb;have hll:=h.len;have hfl:=h.fl;have hla:=sj a;have hlb:=sj b;refine fn func83 J J ntmps83 J J (fun C=>?_);refine cr J (CK (t:=a) (by omega)) J<|cr J (CK (t:=b) (by omega)) J<|ap (hbd:=by simp only[aX];omega) ((a.lns++b.lns).map eL) J (by rw[bX]) (fw _) J<|fz 15 J J<|cl J (Ol (ls:=a.lns++b.lns) h.lb (by omega)) J<|cl (fu:=⟨1⟩) J (aCq (l:=mO (a.lns++b.lns)) (Rs h.lb) (Yv h.ok) (cS (Lp _) hll)) J<|aj 18 (.d (vI ((nj a b).length:Nat))) J (by rw[aX];rfl)<|gx J<|lp (X:=Nat) (fun k=>[(19, .d (vI (k:Nat)))]) (fun k=>[]) (fun k=>k<=(nj a b).length/\ ∀j q,(nj a b)[j]? =some q->j<k->jA a q=jA b q) (fun k=>(nj a b).length-k) 0 J ⟨bJ _,fun j q _ hj=>absurd hj (by omega)⟩ (fun _=>J) (fun k hk=>?_);obtain⟨k1,k2⟩:=hk;refine br J J J (fun hc20=>?_) (fun hc20=>?_)
 .
  obtain⟨p,hz⟩: ∃s,(nj a b)[k]? =some s:=⟨_,aZ (by omega)⟩;haveI hpb:=h.fb p (aV hz);refine ix _ J (cO (l:=nj a b) hz) J<|cl J (Qy (t:=a) (p:=p) (i:=4900) h.ga.lb) J<|cl J (Qy (t:=b) (p:=p) (i:=4900) h.gb.lb) J<|bb J J J (fun hc37=>?_) (fun hc37=>?_)
  .
   exact rz J (by rw[XO hz (by simpa using hc37)];rfl)
  .
   exact at_ (k+1) ⟨⟨by omega,fun j q hq hj=>by by_cases e:j=k;(subst e;rw[hz] at hq;cases hq;simpa using hc37);exact k2 j q hq (by omega)⟩,(by omega)⟩
 .
  exact rz J (by rw[Ug fun j q hq hj=>k2 j q hq (by omega)];rfl)

def Ti{l:aa}(hl:l.ok)(hm:m.ok)(h:fG l.dir m.dir=0): ∃k e:Rat,0<k/\ ∀p,m.value p=k*l.value p+e:=by
 obtain⟨h1,h2⟩:=Xj.1 h;have z1:=Du hl;have key: ∃k:Rat,0<k/\m.dir.x=k*l.dir.x/\m.dir.y=k*l.dir.y:=by
  unfold ah.cross at h2;rcases tT l.dir with⟨e,k⟩|⟨e,k⟩|⟨e,k⟩
  .rw[e] at h1
   have k2:=ow.1 h1.symm;rcases k with k|⟨k,k'⟩
   .have y2:0<m.dir.y:=by
     rcases k2 with k2|⟨k2,k3⟩
     .exact k2
     .exfalso
      rw[k2] at h2;have:=dd k k3;grind
    refine⟨m.dir.y/l.dir.y,?_,by grind,by grind⟩;have:0<m.dir.y/l.dir.y:=(fC k).1 (by rw[show m.dir.y/l.dir.y*l.dir.y=m.dir.y by grind];exact y2);exact this
   .rw[k] at h2
    have y2:m.dir.y=0:=by
     rcases fZ.1 (show l.dir.x*m.dir.y=0 by grind) with q|q
     .rw[q] at k';exact absurd k' (by decide)
     .exact q
    have x2:0<m.dir.x:=by
     rcases k2 with k2|⟨_,k3⟩
     .rw[y2] at k2;exact absurd k2 (by decide)
     .exact k3
    refine⟨m.dir.x/l.dir.x,(fC k').1 (by rw[show m.dir.x/l.dir.x*l.dir.x=m.dir.x by grind];exact x2),by grind,by rw[y2,k];grind⟩
  .rw[e] at h1
   have k2:=ti.1 h1.symm;rcases k with k|⟨k,k'⟩
   .have y2:m.dir.y<0:=by
     rcases k2 with k2|⟨k2,k3⟩
     .exact k2
     .exfalso
      rw[k2] at h2;have:=dd (show 0< -l.dir.y by grind) (show 0< -m.dir.x by grind);grind
    refine⟨m.dir.y/l.dir.y,(fC (show 0< -l.dir.y by grind)).1 (by rw[show m.dir.y/l.dir.y* -l.dir.y= -m.dir.y by grind];grind),by grind,by grind⟩
   .rw[k] at h2
    have y2:m.dir.y=0:=by
     rcases fZ.1 (show l.dir.x*m.dir.y=0 by grind) with q|q
     .rw[q] at k';exact absurd k' (by decide)
     .exact q
    have x2:m.dir.x<0:=by
     rcases k2 with k2|⟨_,k3⟩
     .rw[y2] at k2;exact absurd k2 (by decide)
     .exact k3
    refine⟨m.dir.x/l.dir.x,(fC (show 0< -l.dir.x by grind)).1 (by rw[show m.dir.x/l.dir.x* -l.dir.x= -m.dir.x by grind];grind),by grind,by rw[y2,k];grind⟩
  .exact absurd e z1
 obtain⟨k,k0,kx,ky⟩:=key;simp only[aa.dir] at kx ky;refine⟨k,(m.c:Rat)-k*(l.c:Rat),k0,fun p=>?_⟩;rw[i6,i6,kx];have:(m.a:Rat)=k*(l.a:Rat):=by grind
 rw[this];grind
def Oo(hne: ∃q,bm e q){l:aa}(hl:l.ok)(hm:m.ok)(pl: ∀p,bm e p->0<l.value p)(pm: ∀p,bm e p->0<m.value p)(tl: ∃p,gH e p/\l.value p=0)(tm: ∃p,gH e p/\m.value p=0)(ha:fG l.dir m.dir=0):l=m:=by
 obtain⟨k,c,k0,hk⟩:=Ti hl hm ha;obtain⟨p,p1,p2⟩:=tl;obtain⟨q,q1,q2⟩:=tm;have g1:=rI hne pm p1;rw[hk,p2] at g1;have g2:=rI hne pl q1;have g3:=cC (cM k0) g2;rw[hk] at q2;have c0:c=0:=by grind
 have hz: ∀t,m.value (l.at t)=0:=fun t=>by rw[hk,lg hl.ne,c0];grind
 rcases x6 hm hl hz with h|h
 .exact h.symm
 .exfalso
  obtain⟨u,hu⟩:=hne;have a:=pl u hu;have b:=pm u hu;rw[h,en] at b;grind
def xo{c:ar}(hc:bu c)(hs:s∈c):gH c (s.l.at s.v.sample)/\s.l.value (s.l.at s.v.sample)=0:=
 ⟨((hc.edge s hs).2 _).1 (nf (hc.edge s hs).1).has,lg (hc.ok s hs).ne _⟩
def gg(c:ar):Prop:=(c.map fun s=>s.l.dir).Pairwise d6
def Gy{p:Nat->Bool}{N:Nat}(hm: ∀i j,i<=j->j<N->p j=true->p i=true): ∀(d i j:Nat),j-i<=d->i<=j->j<=N->(∀k,k<i->p k=true)->(∀k,j<=k->k<N->p k=false)->(∀k,k<fy p i j->p k=true)/\ ∀k,fy p i j<=k->k<N->p k=false
 |0,i,j,h,hij,hN,h1,h2=>by
  obtain rfl:i=j:=by omega
  rw[fy,dif_neg (by omega)];exact⟨h1,h2⟩
 |d+1,i,j,h,hij,hN,h1,h2=>by
  by_cases q:i<j
  .rw[fy,dif_pos q]
   by_cases r:p ((i+j)/2)=true
   .rw[if_pos r]
    exact Gy hm d _ _ (by omega) (by omega) hN (fun k hk=>hm k ((i+j)/2) (by omega) (by omega) r) h2
   .rw[if_neg r]
    refine Gy hm d _ _ (by omega) (by omega) (by omega) h1 fun k hk hkN=>?_
    cases hp:p k with
    |false=>rfl
    |true=>exact absurd (hm _ k hk hkN hp) r
  .obtain rfl:i=j:=by omega
   rw[fy,dif_neg q];exact⟨h1,h2⟩
def QM{ds:List ah}{d:ah}(h:ds.Pairwise d6)(h1: ∀x∈ds.take n,d6 x d)(h2: ∀x∈ds.drop n,d6 d x):(ds.take n++d::ds.drop n).Pairwise d6:=by
 have hs:=h;rw[<-kQ n ds,gW] at hs;obtain⟨a,b,c⟩:=hs;rw[gW];refine⟨a,bS.2 ⟨h2,b⟩,fun x hx y hy=>?_⟩;rcases aK.1 hy with rfl|hy
 .exact h1 x hx
 .exact c x hx y hy
def Hq(l:aa): ∀c:ar,((dC l c).map fun s=>s.l.dir).Sublist (c.map fun s=>s.l.dir)
 |[]=>List.Sublist.refl _
 |s::c=>by
  rw[dC];split
  .exact(Hq l c).cons_cons _
  .exact(Hq l c).cons _
def Na{l:List α}{x:α}(h:x∈l.take n): ∃i,i<n/\l[i]? =some x:=by
 obtain⟨i,hi,e⟩:=nM.1 h;rw[bL] at hi;exact⟨i,by omega,by rw[List.getElem_take] at e;rw[aZ (by omega),e]⟩
def OA{l:List α}{x:α}(h:x∈l.drop n): ∃i,n<=i/\i<l.length/\l[i]? =some x:=by
 obtain⟨i,hi,e⟩:=nM.1 h;rw[gK] at hi;exact⟨n+i,by omega,by omega,by rw[List.getElem_drop] at e;rw[aZ (by omega),e]⟩
def Ib{c:ar}{l:aa}(hc:bu c)(hl:l.ok)(ha:gg c)(hb:cg c l=true):gg (bz c l):=by
 have hg:=(gk hc hl hb).1;unfold bz at hg⊢
 cases hp:jC c l with
 |none=>exact ha
 |some v=>
  simp only[hp] at hg⊢;have hs:gg (dC l c):=ha.sublist (Hq l c);have nt: ∀s∈dC l c,fG s.l.dir l.dir≠0:=fun s h e=>by
   have m1:s∈kO (dC l c) l v:=p6.2 (.inr h);have m2:(⟨l,v⟩:bt)∈kO (dC l c) l v:=p6.2 (.inl J);have ee:=Oo hg.ne (hg.ok s m1) hl (fun p hp=>hp s m1) (fun p hp=>hp ⟨l,v⟩ m2) ⟨_,xo hg m1⟩ ⟨_,xo hg m2⟩ e;obtain⟨s0,g1,_,rfl⟩:=q8.1 h;obtain⟨_,q,q1,q2⟩:=F7 hl.ne hp;have h5:=q1 s0 g1;have e5:s0.l=l:=ee;rw[e5] at h5;grind
  generalize dC l c=d at*;have hmo: ∀i j,i<=j->j<d.length->iO d l j=true->iO d l i=true:=fun i j hij hj h=>by
   unfold iO at h⊢;rw[aZ hj] at h;rw[aZ (by omega)];simp only[decide_eq_true_eq,zh] at h⊢;by_cases q:i=j
   .subst q;exact h
   .have:=pL.1 hs i j (by simp;omega) (by simp;omega) (by omega)
    simp only[pU] at this;exact Bu this h
  obtain⟨k1,k2⟩:=Gy hmo d.length 0 d.length (by omega) (by omega) (bW _) (fun k h=>absurd h (by omega)) (fun k h h'=>absurd h' (by omega));unfold kO gg;generalize fy (iO d l) 0 d.length=n at*;rw[bX,bY,iW,iR];refine QM hs (fun x hx=>?_) (fun x hx=>?_)
  .rw[<-iW] at hx
   obtain⟨s,h1,rfl⟩:=aR.1 hx;obtain⟨i,hi,e⟩:=Na h1;have:=k1 i hi;unfold iO at this;rw[e] at this;simpa[zh] using this
  .rw[<-iR] at hx
   obtain⟨s,h1,rfl⟩:=aR.1 hx;obtain⟨i,hi,hi2,e⟩:=OA h1;have:=k2 i hi hi2;unfold iO at this;rw[e] at this;have h3: ¬d6 s.l.dir l.dir:=by simpa[zh] using this
   by_cases q:d6 l.dir s.l.dir
   .exact q
   .exact absurd (Rn h3 q) (nt s (gU h1))
def H9: ∀{t:Tr} {c:ar},t.all aa.ok->bu c->gg c-> ∀x∈t.parts c,gg x.2
 | .leaf b,c,_,_,ha,x,h=>by
  rw[Tr.parts,aU] at h;subst h;exact ha
 | .node l u v,c,ht,hc,ha,x,h=>by
  rw[Tr.parts] at h;rcases aM.1 h with h|h
  .split at h
   .rename_i hb
    exact H9 ht.2.1 (gk hc ht.1 hb).1 (Ib hc ht.1 ha hb) x h
   .cases h
  .split at h
   .rename_i hb
    exact H9 ht.2.2 (gk hc ht.1.rev hb).1 (Ib hc ht.1.rev ha hb) x h
   .cases h
def sD(c:List aa):Prop:=(c.map aa.dir).Pairwise d6
def HW(hs: ∀s∈e,s.l∈c){l:aa}(hl:l.ok)(he:(fD l c ao.all).isSome=true): ∃w:ao,w.Pos/\ ∀t,w.ins t->gH e (l.at t)/\l.value (l.at t)=0/\ ∀m∈c,m≠l->0<m.value (l.at t):=by
 obtain⟨w,hw⟩:=qJ.1 he;obtain⟨h1,h2⟩:=Cr l c _ w xi hw;refine⟨w,h1,fun t ht=>?_⟩;have h3:=((h2 t).1 ht).2;refine⟨fun s hs'=>?_,lg hl.ne t,h3⟩;by_cases q:s.l=l
 .rw[q,lg hl.ne];exact iV
 .exact cM (h3 _ (hs s hs') q)
def MU{α:Type}{p:α->Bool}: ∀(l:List α),(∀i x,i<(l.takeWhile p).length->l[i]? =some x->p x=true)/\ ∀x,l[(l.takeWhile p).length]? =some x->p x=false
 |[]=>⟨fun i x h _=>by simp at h,fun x h=>by simp at h⟩
 |a::l=>by
  obtain⟨h1,h2⟩:=MU (p:=p) l;rw[oK]
  cases ha:p a with
  |false=>
   refine⟨fun i x h _=>by simp at h,fun x h=>?_⟩;simp at h;rw[<-h];exact ha
  |true=>
   simp only[if_true,bQ];refine⟨fun i x h e=>?_,fun x h=>h2 x (by simpa using h)⟩
   cases i with
   |zero=>simp at e;rw[<-e];exact ha
   |succ i=>exact h1 i x (by omega) (by simpa using e)
def an7{l:aa}(ha:sD out)(ht: ∀m∈out,fG m.dir l.dir=0->m=l):sD (oF out l):=by
 unfold oF;split
 .exact ha
 .rename_i hne
  obtain⟨k1,k2⟩:=MU (p:=fun x:aa=>decide (fG x.dir l.dir<0)) out;have e0:mF out l=(out.takeWhile fun x=>decide (fG x.dir l.dir<0)).length:=J;rw[<-e0] at k1 k2;generalize mF out l=n at*;unfold sD;rw[bX,bY,iW,iR];refine QM ha (fun x hx=>?_) (fun x hx=>?_)
  .rw[<-iW] at hx
   obtain⟨m,h1,rfl⟩:=aR.1 hx;obtain⟨i,hi,e⟩:=Na h1;simpa[zh] using k1 i m hi e
  .rw[<-iR] at hx
   obtain⟨m,h1,rfl⟩:=aR.1 hx;obtain⟨i,hi,hi2,e⟩:=OA h1;have hn:n<out.length:=by omega
   have h3: ¬d6 (out[n]).dir l.dir:=by simpa[zh] using k2 _ (aZ hn)
   have h4:d6 l.dir (out[n]).dir:=by
    by_cases q:d6 l.dir (out[n]).dir
    .exact q
    .exact absurd (by rw[aZ hn,ht _ (cN hn) (Rn h3 q)]) hne
   by_cases q:i=n
   .subst q
    rw[aZ hn] at e
    cases e
    exact h4
   .have:=pL.1 ha n i (by simp;omega) (by simp;omega) (by omega)
    simp only[pU] at this;rw[aZ hi2] at e
    cases e
    exact Bu h4 this
def Hp{c:List aa}(ht: ∀l∈c,∀m∈c,(fD l c ao.all).isSome=true->(fD m c ao.all).isSome=true->fG m.dir l.dir=0->m=l): ∀{t out:List aa},(∀l∈t,l∈c)->(∀m∈out,m∈c/\(fD m c ao.all).isSome=true)->sD out->sD (me c t out)
 |[],out,_,_,ha=>ha
 |l::t,out,hc,ho,ha=>by
  have hl:=hc l aQ;rw[me];by_cases q:(fD l c ao.all).isSome=true
  .rw[if_pos q]
   refine Hp ht (fun l h=>hc l (aJ _ h)) (fun m hm=>?_) (an7 ha fun m hm e=>ht l hl m (ho m hm).1 q (ho m hm).2 e);rcases Gi.1 hm with rfl|h
   .exact⟨hl,q⟩
   .exact ho m h
  .rw[if_neg q]
   exact Hp ht (fun l h=>hc l (aJ _ h)) ho ha
def arU(hok: ∀l∈c,l.ok)(hne: ∃p,fH c p):sD (ij c):=by
 obtain⟨e,_,hg,hi,hs⟩:=Cj hok hne;refine Hp (fun l hl m hm el em h=>?_) (fun l h=>h) (fun m h=>by cases h) .nil;obtain⟨w1,p1,k1⟩:=HW (fun s h=>(hs s h).1) (hok l hl) el;obtain⟨w2,p2,k2⟩:=HW (fun s h=>(hs s h).1) (hok m hm) em;obtain⟨a1,a2,_⟩:=k1 _ (nf p1);obtain⟨b1,b2,_⟩:=k2 _ (nf p2);exact Oo hg.ne (hok m hm) (hok l hl) (fun p hp=>(hi p).1 hp m hm) (fun p hp=>(hi p).1 hp l hl) ⟨_,b1,b2⟩ ⟨_,a1,a2⟩ h
def RS{v:ao}{t:Rat}(h:v.ins t)(k:v.has u):v.ins ((t+u)*(1/2)):=by
 obtain⟨lo,hi,nl,nh⟩:=v;unfold ao.ins at*;unfold ao.has at k
 cases nl<;>cases nh<;>simp at* <;>grind
def DE{c:ar}(hc: ∃q,bm c q)(h: ∀p,bm c p↔bm d p)(hp:gH c p):gH d p:=fun s hs=>rI hc (fun q hq=>(h q).1 hq s hs) hp
def Zy(hok: ∀l∈c,l.ok)(hd:bu d)(h: ∀p,bm d p↔fH c p)(l:aa):l∈d.map (·.l)↔l∈ij c:=by
 have hne: ∃p,fH c p:=hd.ne.elim fun q hq=>⟨q,(h q).1 hq⟩;obtain⟨e,_,hg,hi,hs⟩:=Cj hok hne;have hde: ∀p,bm d p↔bm e p:=fun p=>by rw[h,hi]
 constructor
 .intro hl
  obtain⟨s,k,rfl⟩:=aR.1 hl;obtain⟨t1,t2⟩:=xo hd k;have t3:=DE hd.ne hde t1;have: ¬bm e (s.l.at s.v.sample):=fun q=>by
   have:=(hde _).2 q s k;rw[t2] at this;exact absurd this (by decide)
  obtain⟨u,hu,hz⟩: ∃u∈e,u.l.value (s.l.at s.v.sample)=0:=by
   by_cases q: ∃u∈e,u.l.value (s.l.at s.v.sample)=0
   .exact q
   .exfalso
    refine this fun u hu=>?_;have g1:=t3 u hu;have g2:u.l.value (s.l.at s.v.sample)≠0:=fun e=>q ⟨u,hu,e⟩;grind
  have:=Lc hd k (hg.ok u hu) (fun p hp=>(hde p).1 hp u hu) hz;rw[<-this];exact td.2 (hs u hu)
 .intro hl
  obtain⟨l1,l2⟩:=td.1 hl;obtain⟨w,p1,k1⟩:=HW (fun s h=>(hs s h).1) (hok l l1) l2;have hed: ∀p,bm e p↔bm d p:=fun p=>(hde p).symm;have hi1:=nf p1;obtain⟨⟨u1,m1,n1⟩,⟨u2,m2,n2⟩⟩:=IH hi1;have g1:=RS hi1 n1;have g2:=RS hi1 n2;obtain⟨c0,c1,_⟩:=k1 _ hi1;have c2:=DE hg.ne hed c0;have: ¬bm d (l.at w.sample):=fun q=>by
   have:=(h _).1 q l l1;rw[c1] at this;exact absurd this (by decide)
  obtain⟨s,hsd,hz⟩: ∃s∈d,s.l.value (l.at w.sample)=0:=by
   by_cases q: ∃u∈d,u.l.value (l.at w.sample)=0
   .exact q
   .exfalso
    refine this fun u hu=>?_;have g1:=c2 u hu;have g2:u.l.value (l.at w.sample)≠0:=fun e=>q ⟨u,hu,e⟩;grind
  have e1:=DE hg.ne hed (k1 _ g1).1 s hsd;have e2:=DE hg.ne hed (k1 _ g2).1 s hsd;rw[lh] at hz e1 e2;have hK:l.cutK s.l=0:=by
   rcases jz (l.cutK s.l) with h|h|h
   .exact h
   .exfalso
    have:=dd (a:=w.sample-u1) (b:=l.cutK s.l) (by grind) h;grind
   .exfalso
    have:=dd (a:=u2-w.sample) (b:= -l.cutK s.l) (by grind) (by grind);grind
  have hz2: ∀t,s.l.value (l.at t)=0:=fun t=>by rw[lh,hK];rw[hK] at hz;grind
  rcases x6 (hd.ok s hsd) (hok l l1) hz2 with q|q
  .rw[<-q];exact dY hsd
  .exfalso
   obtain⟨u,hu⟩:=hd.ne;have a:=hu s hsd;have b:=(h u).1 hu l l1;rw[q,en] at a;grind
def Qg: ∀{l m:List aa},sD l->sD m->(∀x,x∈l↔x∈m)->l=m
 |[],[],_,_,_=>rfl
 |[],b::m,_,_,h=>absurd ((h b).2 aQ) (by simp)
 |a::l,[],_,_,h=>absurd ((h a).1 aQ) (by simp)
 |a::l,b::m,h1,h2,h=>by
  obtain⟨p1,p2⟩:=bS.1 h1;obtain⟨q1,q2⟩:=bS.1 h2;have p1': ∀x∈l,d6 a.dir x.dir:=fun x hx=>p1 _ (dY hx);have q1': ∀x∈m,d6 b.dir x.dir:=fun x hx=>q1 _ (dY hx);have e:a=b:=by
   rcases aK.1 ((h a).1 aQ) with e|e
   .exact e
   .rcases aK.1 ((h b).2 aQ) with f|f
    .exact f.symm
    .exact(BA (q1' a e) (p1' b f)).elim
  subst e;congr 1;refine Qg p2 q2 fun x=>⟨fun hx=>?_,fun hx=>?_⟩
  .rcases aK.1 ((h x).1 (aJ _ hx)) with e|e
   .subst e;exact(vN _ (p1' _ hx)).elim
   .exact e
  .rcases aK.1 ((h x).2 (aJ _ hx)) with e|e
   .subst e;exact(vN _ (q1' _ hx)).elim
   .exact e
def VW(hok: ∀l∈c,l.ok)(hd:bu d)(ha:gg d)(h: ∀p,bm d p↔fH c p):ij c=d.map (·.l):=by
 refine Qg (arU hok (hd.ne.elim fun q hq=>⟨q,(h q).1 hq⟩)) ?_ fun x=>(Zy hok hd h x).symm;unfold sD;rw[List.map_map];exact ha
def Qe{c:ar}(hc:bu c)(hs:s∈c)(h:s.v.nh=true): ∀u∈c,0<=u.l.nor.dot s.l.dir:=fun u hu=>by
 obtain⟨p1,p2⟩:=hc.edge s hs;have hi:=(nf p1).has;have key: ∀n:Rat,0<=n->0<=u.l.value (s.l.at (s.v.sample+n)):=fun n hn=>((p2 _).1 ⟨hi.1.imp id fun q=>by grind, .inl h⟩) u hu;have h0:=key 0 (by decide);rw[lh] at h0;by_cases q:0<=u.l.nor.dot s.l.dir
 .exact q
 .exfalso
  have q':0< -(s.l.cutK u.l):=by unfold aa.cutK;grind
  have h1:=key ((s.l.cutC u.l+s.v.sample*s.l.cutK u.l+1)/ -(s.l.cutK u.l)) (by
   have:=(fC (s:=(s.l.cutC u.l+s.v.sample*s.l.cutK u.l+1)/ -(s.l.cutK u.l)) q').1 (by rw[show(s.l.cutC u.l+s.v.sample*s.l.cutK u.l+1)/ -(s.l.cutK u.l)* -(s.l.cutK u.l)=s.l.cutC u.l+s.v.sample*s.l.cutK u.l+1 by grind];grind);grind)
  rw[lh] at h1;have:(s.l.cutC u.l+s.v.sample*s.l.cutK u.l+1)/ -(s.l.cutK u.l)*s.l.cutK u.l= -(s.l.cutC u.l+s.v.sample*s.l.cutK u.l+1):=by grind
  grind
def TP{c:ar}(hc:bu c)(hs:s∈c)(h:s.v.nl=true): ∀u∈c,u.l.nor.dot s.l.dir<=0:=fun u hu=>by
 obtain⟨p1,p2⟩:=hc.edge s hs;have hi:=(nf p1).has;have key: ∀n:Rat,0<=n->0<=u.l.value (s.l.at (s.v.sample-n)):=fun n hn=>((p2 _).1 ⟨.inl h,hi.2.imp id fun q=>by grind⟩) u hu;have h0:=key 0 (by decide);rw[lh] at h0;by_cases q:u.l.nor.dot s.l.dir<=0
 .exact q
 .exfalso
  have q':0<s.l.cutK u.l:=by unfold aa.cutK;grind
  have h1:=key ((s.l.cutC u.l+s.v.sample*s.l.cutK u.l+1)/s.l.cutK u.l) (by
   have:=(fC (s:=(s.l.cutC u.l+s.v.sample*s.l.cutK u.l+1)/s.l.cutK u.l) q').1 (by rw[show(s.l.cutC u.l+s.v.sample*s.l.cutK u.l+1)/s.l.cutK u.l*s.l.cutK u.l=s.l.cutC u.l+s.v.sample*s.l.cutK u.l+1 by grind];grind);grind)
  rw[lh] at h1;have:(s.l.cutC u.l+s.v.sample*s.l.cutK u.l+1)/s.l.cutK u.l*s.l.cutK u.l=s.l.cutC u.l+s.v.sample*s.l.cutK u.l+1:=by grind
  grind
def Eo:aa:=⟨1,0,0⟩
def qk(c:List aa)(i:Nat):List ah:=
 if 0<Int.sign ((c.getD i Eo).dir.cross (c.getD ((i+1)%c.length) Eo).dir).num then [c7 (c.getD i Eo) (c.getD ((i+1)%c.length) Eo)] else []
def jj(c:List aa):List ah:=(List.range c.length).flatMap (qk c)
def vx{l:aa}(h1:c[i]? =some l)(h2:c[(i+1)%c.length]? =some m):qk c i=if 0<Int.sign (l.dir.cross m.dir).num then [c7 l m] else []:=by
 unfold qk;rw[aW,aW,h1,h2];rfl
def JC(c:List aa)(k:Nat):(List.range (k+1)).flatMap (qk c)=(List.range k).flatMap (qk c)++qk c k:=by
 rw[qL,sN];simp
def IY(c:List aa): ∀k,((List.range k).flatMap (qk c)).length<=k
 |0=>bW _
 |k+1=>by
  have:=IY c k;have h2:(qk c k).length<=1:=by unfold qk;split<;>simp
  rw[JC,aY];omega
def axY(h:p∈jj c): ∃l∈c,∃m∈c,p=c7 l m:=by
 obtain⟨i,hi,hp⟩:=iX.1 h;have hi':=kV.1 hi;have e1:=aZ hi';have e2:=aZ (l:=c) (dK (i+1) (show 0<c.length by omega));rw[vx e1 e2] at hp;split at hp
 .exact⟨_,cN _,_,cN _,aU.1 hp⟩
 .cases hp
def V3(ht:t.all aa.ok): ∀c∈de t,bu c:=fun c hc=>(Bm ht bu.nil (q9.1 hc)).1
def fH.open{c:List aa}{q:ah}(u:ah)(h:fH c q): ∃e:Rat,0<e/\ ∀d,0<=d->d<=e->fH c (cG q u d):=by
 have hd:bm (c.map fun m=>(⟨m,ao.all⟩:bt)) q:=fun s hs=>by
  obtain⟨m,hm,rfl⟩:=aR.1 hs;exact h m hm
 obtain⟨e,he,ho⟩:=hd.open u;exact⟨e,he,fun d d0 d1 m hm=>ho d d0 d1 ⟨m,ao.all⟩ (dY hm)⟩
def Cu(l:aa)(t u:Rat):l.at (t+u)=cG (l.at t) l.dir u:=by
 rw[<-yz,<-yz];unfold cG;simp only[ah.mk.injEq];constructor<;>grind
def H4(a:Int)(h:g∣a.natAbs):(g:Int)*zv (decide (a<0)) (a.natAbs/g)=a:=by
 obtain⟨k,hk⟩:=h;by_cases g0:g=0
 .subst g0;simp at hk⊢;omega
 have e:a.natAbs/g=k:=by rw[hk];exact rZ k (iK g0)
 rw[e];unfold zv;have hc:((g*k:Nat):Int)=(g:Int)*(k:Int):=by push_cast;rfl
 by_cases n:a<0
 .simp only[n,decide_true,if_true];rw[Int.mul_neg];omega
 .simp only[n,decide_false];show(g:Int)*(k:Int)=a;omega
def aAw{a b c:Int}(h: ¬(a=0/\b=0)): ∃g:Int,0<g/\g*(nD a b c).a=a/\g*(nD a b c).b=b/\g*(nD a b c).c=c:=by
 have hg:0<Nat.gcd (Nat.gcd a.natAbs b.natAbs) c.natAbs:=mW _ (iK fun e=>h ⟨kW.1 (lM e),kW.1 (lR e)⟩);refine⟨(Nat.gcd (Nat.gcd a.natAbs b.natAbs) c.natAbs:Nat),by omega,?_,?_,?_⟩
 .exact H4 a (qW (kR _ _) (kR _ _))
 .exact H4 b (qW (kR _ _) (lU _ _))
 .exact H4 c (lU _ _)
end Go.Sx
end
