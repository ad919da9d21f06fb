import Derived.Test.YtjpdfobnjmflkaaGreatDoorMp16
set_option linter.all false
set_option maxHeartbeats 4000000
set_option maxRecDepth 100000
section
namespace Go.Sx
open Go Go.Proofs Tryz
variable {GB G A:Gh}{n k i g:Nat}{l ls c out:List ah}{a b t y:Tr}{v:Value}{ns:List NQ}{x u:Rat}{α β:Type}{qs cuts:List Rat}{p:aa}{m:ah}{e d:ar}{s:bu}
def sD(ns:List NQ):Nat->Tr->Prop
 |_, .leaf _=>True
 |k, .node l x y=>ns[k]? =some ⟨l,x.num (k+1),y.num (k+1+x.size)⟩/\sD ns (k+1) x/\sD ns (k+1+x.size) y
def sD.of: ∀{t:Tr} {ns a b:List NQ} {k:Nat},ns=a++t.wr k++b->a.length=k->sD ns k t
 | .leaf _,_,_,_,_,_,_=>trivial
 | .node l x y,ns,a,b,k,e,ha=>by
  simp only[Tr.wr,dX,iX] at e;refine⟨?_,sD.of (a:=a++[⟨l,x.num (k+1),y.num (k+1+x.size)⟩]) (b:=y.wr (k+1+x.size)++b) (by rw[e];simp) (by simp[ha]),sD.of (a:=a++⟨l,x.num (k+1),y.num (k+1+x.size)⟩::x.wr (k+1)) (b:=b) (by rw[e];simp) (by rw[aY,aN,Tr.wr_len,ha];omega)⟩;rw[e,gV (by omega),ha,qW];rfl
abbrev Jo (x:SV) (ns:List NQ) (A:Gh):Prop:= ∃es,gk A 8 x es/\IsLs A (ns.map eN) es
def sK(n k:Nat):List Value:=tv n (fun j=>Nat.blt j k)
def Ll(n k:Nat):(sK n k).length=n:=Ru _ _
def PL(h:k<n):(sK n k)[k]? =some (.bool false):=HR h (by rw[Bool.eq_false_iff,ne_eq,lK];omega)
def QK(n k:Nat):(sK n k).set k (.bool true)=sK n (k+1):=by
 refine(avb n k _).trans (congrArg _ (funext fun j=>?_));unfold yh;rw[oJ,iK,lK,lK,Nat.beq_eq];omega
def OF{l:ah}{a b:Int}(h:Is G (eN ⟨l,a,b⟩) v): ∃x1 x2 x3:SV,v= .agg ⟨[.bool (decide (l.a<0)), .slice x1.a x1.n x1.c, .bool (decide (l.b<0)), .slice x2.a x2.n x2.c, .bool (decide (l.c<0)), .slice x3.a x3.n x3.c, .int .i64 a, .int .i64 b]⟩/\
  Is G (eL l) (.agg ⟨[.bool (decide (l.a<0)), .slice x1.a x1.n x1.c, .bool (decide (l.b<0)), .slice x2.a x2.n x2.c, .bool (decide (l.c<0)), .slice x3.a x3.n x3.c]⟩):=Z6 (n:=RN.of ⟨l,a,b⟩) h
def aGn{l:ah}(h:Is G (.tp [c8 l,vB true]) v): ∃n1 d1 p1 n2 d2 p2 n3 d3 p3,v= .tuple #[.agg ⟨[.int .i64 n1, .int .i64 d1, .pointer p1, .int .i64 n2, .int .i64 d2, .pointer p2, .int .i64 n3, .int .i64 d3, .pointer p3]⟩, .bool true]/\
  Is G (c8 l) (.agg ⟨[.int .i64 n1, .int .i64 d1, .pointer p1, .int .i64 n2, .int .i64 d2, .pointer p2, .int .i64 n3, .int .i64 d3, .pointer p3]⟩):=by
 obtain⟨m,rfl,g⟩:=kh.1 h;obtain⟨v1,m,rfl,h1,h⟩:=bj.1 g;obtain⟨v2,m,rfl,h2,h⟩:=bj.1 h;rw[et] at h;subst h;obtain⟨n1,d1,p1,n2,d2,p2,n3,d3,p3,rfl⟩:=Zt h1;rw[aI.1 h2];exact⟨_,_,_,_,_,_,_,_,_,J,h1⟩
def aGa{l:ah}(h:Is G (.tp [eL l,vB true]) v): ∃x1 x2 x3:SV,v= .tuple #[.agg ⟨[.bool (decide (l.a<0)), .slice x1.a x1.n x1.c, .bool (decide (l.b<0)), .slice x2.a x2.n x2.c, .bool (decide (l.c<0)), .slice x3.a x3.n x3.c]⟩, .bool true]/\
  Is G (eL l) (.agg ⟨[.bool (decide (l.a<0)), .slice x1.a x1.n x1.c, .bool (decide (l.b<0)), .slice x2.a x2.n x2.c, .bool (decide (l.c<0)), .slice x3.a x3.n x3.c]⟩):=by
 obtain⟨m,rfl,g⟩:=kh.1 h;obtain⟨v1,m,rfl,h1,h⟩:=bj.1 g;obtain⟨v2,m,rfl,h2,h⟩:=bj.1 h;rw[et] at h;subst h;obtain⟨x1,x2,x3,rfl⟩:=aJ3 h1;rw[aI.1 h2];exact⟨_,_,_,J,h1⟩
def aJg{l:ah}[hl:LB l](ho:l.ok):PF GB prog 169 [eL l] (.tp [eL l,vB true]):=by
 have hm:(RN.of ⟨l,0,0⟩).g.nm:=⟨JK _,JK _,JK _⟩;refine(WF (RN.of_sm (n:=⟨l,0,0⟩) hl) hm).to ?_;rw[DW,if_pos hm,RN.of_l,decide_eq_true ⟨hm,ho⟩]
def Oq{vs:List Value}(hv:IsLs G [eA t] vs): ∃x:SV,x.n=(t.wr 0).length/\vs=[.agg ⟨[.int .i64 (t.num 0), .slice x.a x.n x.c]⟩]/\Jo x (t.wr 0) G:=by
 obtain⟨v0,m,rfl,h0,hm⟩:=bj.1 hv;rw[et] at hm;subst hm;obtain⟨m,rfl,g⟩:=dO.1 h0;obtain⟨v1,m,rfl,h1,hm⟩:=bj.1 g;obtain⟨v2,m,rfl,h2,hm⟩:=bj.1 hm;rw[et] at hm;subst hm;obtain⟨s0,x,es,rfl,hsl,hes⟩:=gt.1 h2;rw[aI.1 h1];have hel:=hes.len;rw[aX] at hel;have hlen:=hsl.len;rw[hel] at hlen;refine⟨x,hlen,J,es,?_,hes⟩;rcases A8 (s:=8) hsl hes (fun d hd=>by obtain⟨n,_,rfl⟩:=aU.1 hd;exact⟨rfl,rfl⟩) with e|e
 .exact⟨hsl.len,hsl.cap, .inl e⟩
 .rw[e] at hsl;exact hsl
def UU{x:SV}(hx:Jo x ns A)(hn:ns.length<=1000000): ∀{t:Tr} {k:Nat},sD ns k t->k+t.size<=ns.length->t.all LB->t.all ah.ok-> ∀{G:Gh} {rb sb:Nat} {lo lo2:Bool},[GL A G]->
  ki prog 147 [.pointer (some ⟨rb,0,none⟩), .int .i64 (t.num k)] [⟨rb,[.slice x.a x.n x.c, .slice (some ⟨sb,0,none⟩) ns.length ns.length, .int .i64 k, .bool false],258,lo⟩,⟨sb,sK ns.length k,4,lo2⟩] G
   (fun v css G'=> ∃p,v= .pointer p/\Is G' (eU t) (.pointer p)/\css=[[.slice x.a x.n x.c, .slice (some ⟨sb,0,none⟩) ns.length ns.length, .int .i64 (k+t.size:Nat), .bool false],sK ns.length (k+t.size)]):=by
 obtain⟨es,hx,hes⟩:=hx;have hel:=hes.len;rw[aX] at hel;have hlen:=hx.len;rw[hel] at hlen;obtain⟨xa,xn,xc⟩:=x;simp only[] at hlen;subst hlen;intro t
 induction t with
 |leaf bb=>
  intro k _ _ _ _ G rb sb lo lo2 _;refine ki.intro func147 J J ntmps147 J ?_;intro C _ _;show St C _ _ [⟨rb,_,_,false⟩,⟨sb,_,_,false⟩] _ _
  cases bb
  case true=>
   refine sR<|sa J J<|zE<|fm<|wz<|sR<|sm J J<|sy (mr J J) J<|sm J J<|ss J J J J<|ss J J J J<|?_;refine sy (Eo J J) J<|sa J J<|zE<|ti J<|sR<|sm J J<|sy (mr J J) J<|?_;refine sc (zC J J (PF.fn0 (sE (b:=true)) (.cons (aI.2 J) .nil)) J ?_);rintro _ G1 _ hp;obtain⟨p,rfl⟩:=wY hp;refine sa J J<|zE<|lx<|?_;exact tz (css:=[_,_]) (.tmp J .nil) J _ (List.Perm.refl _) (List.Sublist.refl _) ⟨p,J,hp,J⟩
  refine sR<|sa J J<|zE<|fm<|wz<|sR<|sm J J<|sy (mr J J) J<|sm J J<|fI J J (ma J) J<|fI J J (mr J J) J<|?_;refine sy (sk J J) J<|sa J J<|zE<|ti J<|sR<|sm J J<|sy (mr J J) J<|?_;refine sc (zC J J (PF.fn0 (sE (b:=false)) (.cons (aI.2 J) .nil)) J ?_);rintro _ G1 _ hp;obtain⟨p,rfl⟩:=wY hp;refine sa J J<|zE<|lx<|?_;exact tz (css:=[_,_]) (.tmp J .nil) J _ (List.Perm.refl _) (List.Sublist.refl _) ⟨p,J,hp,J⟩
 |node l tx ty ih1 ih2=>
  intro k ⟨h0,h1,h2⟩ hk ⟨hb,hb1,hb2⟩ ⟨ho,ho1,ho2⟩ G rb sb lo lo2 _;haveI:=hb;have hsz:k+(Tr.node l tx ty).size=k+1+tx.size+ty.size:=by simp only[Tr.size];omega
  rw[hsz] at hk⊢;have hbn:k<ns.length:=by omega
  obtain⟨z,hzi,hz⟩:=hes.get (i:=k) (by rw[cV,h0];rfl);obtain⟨x1,x2,x3,rfl,hzg⟩:=OF hz;refine ki.intro func147 J J ntmps147 J ?_;intro C _ _;show St C _ [(0, .pointer (some ⟨rb,0,none⟩)),(1, .int .i64 (k:Int))] [⟨rb,[.slice xa ns.length xc, .slice (some ⟨sb,0,none⟩) ns.length ns.length, .int .i64 k, .bool false],_,false⟩,⟨sb,sK ns.length k,_,false⟩] _ _;refine sR<|sa J J<|zE<|fm<|wz<|sR<|sm J J<|sy (mr J J) J<|sm J J<|?_;refine zj 12 J (fun hg=>absurd hg (by omega)) (fun hg=>?_);refine fI J J (ma J) J<|fI J J (mr J J) J<|sy (sk J J) J<|sa J J<|zE<|?_;refine uI J (fun hc=>absurd hc (by omega)) (fun _=>?_);refine sR<|sm J J<|sy (DG J J) J<|sm J J<|?_;refine zj 22 J (fun hg=>absurd hg (by omega)) (fun hg=>?_);refine fI J J (ma J) J<|fI J J (ma J) J<|fI J J (nH J) J<|fI J J (rk J) J<|fI J J (oA J J) J<|fI J J (um J) J<|fI J J (Iu J J) J<|sy (sk J J) J<|sm J J<|?_;refine zj 31 J (fun hg=>absurd hg (by omega)) (fun hg=>?_);refine fI J J (ma J) J<|fI J J (nH J) J<|fI J J (rk J) J<|fI J J (oA J J) J<|fI J J (ma J) J<|fI J J (uQ J J) J<|?_;refine fI J J (oA (v:= .bool false) J (by rw[cZ,jL];exact PL hbn)) J<|sy (sk J J) J<|sa J J<|zE<|r4 J<|zK<|?_;refine sR<|sm J J<|sn J J<|sf J J<|nB J J J<|sm J J<|sy (uQ J J) J<|?_;refine sc (vW J J (.tl _ _ _ _ _ _ _ _ (.hd ..)) (by rw[Ll,cZ,jL];exact hbn) J J ?_);rw[cZ,jL,QK];refine zE<|sR<|sm J J<|sn J J<|sf J J<|nB J J J<|sy (wL J J) J<|sn J J<|sf J J<|?_;refine sc (yn J J J (by repeat (first|exact .hd .. |apply ik.tl)) (nb J) J J ?_)
  rw[show(k:Int)+1=((k+1:Nat):Int) by omega];refine zE<|sR<|sm J J<|sn J J<|sf J J<|nB J J J<|sm J J<|sy (aJI (z:=⟨xa,ns.length,xc⟩) hx J J (by omega) (by show(k:Int)<(ns.length:Int);omega)) J<|?_;rw[cZ];refine sy (Vd (i:=k) hx J (by rw[hel];exact hbn) hzi) J<|?_;refine sc (uL J ?_);intro b5;refine sc (Eu J J J (by repeat (first|exact .hd .. |apply ik.tl)) J (nb J) J J ?_);refine zE<|sR<|sf J J<|CM J J J<|?_;refine sc (zC J J (PF.fn0 (U8 ho) (.cons (hzg.up GL.le) .nil)) J ?_);rintro _ G6 _ hw;obtain⟨n1,d1,p1,n2,d2,p2,n3,d3,p3,rfl,hwl⟩:=aGn hw;refine sm J J<|sx J J J<|sx J J J<|?_;refine sc (uL J ?_);intro b6;refine sc (Eu J J J (by repeat (first|exact .hd .. |apply ik.tl)) J (nb J) J J ?_);refine sa J J<|zE<|fm<|sR<|sm J J<|sy (ut J) J<|zE<|r4 J<|zK<|?_;refine sR<|sm J J<|sf J J<|nB J J J<|?_;have hrp:=ih1 h1 (by omega) hb1 ho1 (G:=G6) (rb:=rb) (sb:=sb) (lo:=false) (lo2:=false);refine sc (wA J J (jJ (l₁:=[_,_]) (l₂:=[_,_])) hrp J ?_);rintro _ css G7 _ _ ⟨q1,rfl,hp1,rfl⟩;show St C _ _ [⟨rb,[.slice xa ns.length xc, .slice (some ⟨sb,0,none⟩) ns.length ns.length, .int .i64 (k+1+tx.size:Nat), .bool false],258,false⟩,⟨sb,sK ns.length (k+1+tx.size),4,false⟩,⟨b6,[.int .i64 n1, .int .i64 d1, .pointer p1, .int .i64 n2, .int .i64 d2, .pointer p2, .int .i64 n3, .int .i64 d3, .pointer p3],213,true⟩,⟨b5,[.bool (decide (l.a<0)), .slice x1.a x1.n x1.c, .bool (decide (l.b<0)), .slice x2.a x2.n x2.c, .bool (decide (l.c<0)), .slice x3.a x3.n x3.c, .int .i64 (tx.num (k+1)), .int .i64 (ty.num (k+1+tx.size))],105,true⟩] _ _
  refine sa J J<|zE<|fm<|?_;refine u6 [⟨b6,[.int .i64 n1, .int .i64 d1, .pointer p1, .int .i64 n2, .int .i64 d2, .pointer p2, .int .i64 n3, .int .i64 d3, .pointer p3],213,true⟩,⟨b5,[.bool (decide (l.a<0)), .slice x1.a x1.n x1.c, .bool (decide (l.b<0)), .slice x2.a x2.n x2.c, .bool (decide (l.c<0)), .slice x3.a x3.n x3.c, .int .i64 (tx.num (k+1)), .int .i64 (ty.num (k+1+tx.size))],105,true⟩] (fun _=>false) [(0,true),(1,true),(2,true),(3,true),(4,true),(5,false),(6,false),(7,true)] follows (by kernel_rfl)<|?_;refine dL J J J J<|dM J J J<|dM J J J<|dF J J J<|qv J J J J<|?_;have hrp:=ih2 h2 hk hb2 ho2 (G:=G7) (rb:=rb) (sb:=sb) (lo:=false) (lo2:=false);refine dc J J (wA J J (M:=[_,_]) (rest:=[_,_]) (List.Perm.refl _) hrp J ?_);rintro _ css G8 _ _ ⟨q2,rfl,hp2,rfl⟩;show St C _ _ [⟨rb,[.slice xa ns.length xc, .slice (some ⟨sb,0,none⟩) ns.length ns.length, .int .i64 (k+1+tx.size+ty.size:Nat), .bool false],258,false⟩,⟨sb,sK ns.length (k+1+tx.size+ty.size),4,false⟩,⟨b6,[.int .i64 n1, .int .i64 d1, .pointer p1, .int .i64 n2, .int .i64 d2, .pointer p2, .int .i64 n3, .int .i64 d3, .pointer p3],213,true⟩,⟨b5,[.bool (decide (l.a<0)), .slice x1.a x1.n x1.c, .bool (decide (l.b<0)), .slice x2.a x2.n x2.c, .bool (decide (l.c<0)), .slice x3.a x3.n x3.c, .int .i64 (tx.num (k+1)), .int .i64 (ty.num (k+1+tx.size))],105,true⟩] _ _;refine mi<|?_;refine dc J J (zC J J (PF.fn0 (yc (l:=l) (x:=tx) (y:=ty)) (.cons (hwl.up GL.le) (.cons (hp1.up GL.le) (.cons hp2 .nil)))) J ?_);rintro _ G9 _ hp;obtain⟨p,rfl⟩:=wY hp
  refine mi<|dA J J J<|dn<|lx<|?_;exact tz (css:=[_,_]) (.tmp J .nil) J _ (List.Perm.refl _) (.cons_cons _ (.cons_cons _ (kX _))) ⟨p,J,hp,J⟩
def Wd(hb:t.all LB)(ho:t.all ah.ok)(hs:t.size<=65536):PF GB prog 77 [eA t] (.tp [eU t,vB true]):=by
 intro G vs _ hv;obtain⟨⟨xa,xn,xc⟩,rfl,rfl,hx⟩:=Oq hv;have hn:=t.wr_len 0;show Fn _ _ [.agg ⟨[.int .i64 (t.num 0), .slice xa (t.wr 0).length xc]⟩] _ _;refine Fn.intro func77 J J ntmps77 J ?_;intro C _ _;refine sR<|?_;refine sc (tr J J ?_);intro b1;refine sa J J<|sa J J<|zE<|fm<|sR<|sf J J<|nB J J J<|uh J J<|sy (BJ J J) J<|zE<|?_;refine uI J (fun hc=>absurd hc (by omega)) (fun _=>?_);refine zK<|fm<|dr (fun _=>false) [(0,true),(1,true),(2,true),(3,true),(4,true),(5,false),(6,true),(7,false),(8,true)] follows (by kernel_rfl)<|dF J J J<|?_;refine qv J J J J<|dF J J J<|qv J J J J<|dy J (fun _=>um J) J J<|?_;refine dc J J (KX J J (by omega) (by omega) (by omega) (by rfl) J ?_);intro b2;rw[cZ,NY];refine mi<|dy J (fun _=>wl J) J J<|?_;refine dc J J (tr J J ?_);intro b3;refine mi<|dA J J J<|dn<|sR<|sm J J<|sf J J<|nB J J J<|?_;refine sc (wA J J (M:=[_,_]) (rest:=[_]) (List.Perm.refl _) (UU hx (by omega) (sD.of (a:=[]) (b:=[]) (k:=0) (by simp) J) (by omega) hb ho (G:=G) (rb:=b3) (sb:=b2) (lo:=true) (lo2:=true)) J ?_);rintro _ css G4 _ _ ⟨p,rfl,hp,rfl⟩;show St C _ _ [⟨b3,[.slice xa (t.wr 0).length xc, .slice (some ⟨b2,0,none⟩) (t.wr 0).length (t.wr 0).length, .int .i64 (0+t.size:Nat), .bool false],258,true⟩,⟨b2,sK (t.wr 0).length (0+t.size),4,true⟩,⟨b1,[.int .i64 (t.num 0), .slice xa (t.wr 0).length xc],31,true⟩] _ _;refine sa J J<|zE<|fm<|fm<|dr (fun _=>false) [(0,true),(1,true),(2,true),(3,true),(4,true),(5,true),(6,true),(7,true),(8,true),(9,true),(10,true),(11,true),(12,true),(13,true)] follows (by kernel_rfl)<|?_
 refine dM J J J<|dy J (fun _=>nH J) J J<|dF J J J<|qv J J J J<|dM J J J<|?_;refine vD J J J J (fun _=>ma J) J<|vD J J J J (fun _=>nH J) J<|vD J J J J (fun _=>rk J) J<|vD J J J J (fun _=>oA J J) J<|?_;refine vD J J J J (fun _=>rk J) J<|vD J J J J (fun _=>oA J J) J<|vD J J J J (fun _=>um J) J<|vD J J J J (fun _=>T7 J J) J<|?_;refine dy J (fun _=>sk J J) J J<|dn<|?_;refine uI J (fun hc=>absurd hc (by omega)) (fun _=>?_);refine zK<|sR<|sm J J<|sa J J<|sa J J<|zE<|lx<|?_;refine zD (.tmp J (.tmp J .nil)) ?_;exact kh.2 ⟨_,J, .cons hp (.cons (aI.2 J) .nil)⟩
def Y6{x:SV}{r0:Int}(hx:Jo x ns A)(hn:ns.length<=1000000): ∀{t:Tr} {k:Nat},sD ns k t->k+t.size<=ns.length->t.all LB->t.all ah.ok-> ∀{G:Gh} {sb:Nat} {lo2:Bool},[GL A G]->
  ki prog 100 [.agg ⟨[.int .i64 r0, .slice x.a x.n x.c]⟩, .int .i64 (t.num k), .slice (some ⟨sb,0,none⟩) ns.length ns.length] [⟨sb,sK ns.length k,4,lo2⟩] G
   (fun v css G'=> ∃q,v= .tuple #[.pointer q, .bool true]/\Is G' (eT t) (.pointer q)/\css=[sK ns.length (k+t.size)]):=by
 obtain⟨es,hx,hes⟩:=hx;have hel:=hes.len;rw[aX] at hel;have hlen:=hx.len;rw[hel] at hlen;obtain⟨xa,xn,xc⟩:=x;simp only[] at hlen;subst hlen;intro t
 induction t with
 |leaf bb=>
  intro k _ _ _ _ G sb lo2 _;refine ki.intro func100 J J ntmps100 J ?_;intro C _ _;show St C _ [(0, .agg ⟨[.int .i64 r0, .slice xa ns.length xc]⟩),(1, .int .i64 (Nl bb)),(2, .slice (some ⟨sb,0,none⟩) ns.length ns.length)] [⟨sb,sK ns.length k,_,false⟩] _ _;refine sR<|?_;refine sc (tr J J ?_);intro b1;refine sa J J<|sa J J<|zE<|fm<|sR<|sm J J<|sy (mr J J) J<|sm J J<|?_
  cases bb
  case true=>
   refine ss J J J J<|ss J J J J<|sy (Eo J J) J<|?_;refine zE<|ti J<|sR<|sm J J<|sy (mr J J) J<|sy (wl J) J<|?_;refine sc (tr J J ?_);intro b2;refine sa J J<|sa J J<|zE<|lx<|?_;refine Cu b2 (.hd ..) ?_;intro G9 _ hfz;exact tz (css:=[_]) (.tmp J (.tmp J .nil)) J (_::[_]) (jJ (l₁:=[_]) (l₂:=[_])) (.cons_cons _ (kX _)) ⟨_,J,mo.2 ⟨b2,_,J,hfz.h,QI⟩,J⟩
  refine fI J J (ma J) J<|fI J J (mr J J) J<|sy (sk J J) J<|?_;refine zE<|ti J<|sR<|sm J J<|sy (mr J J) J<|sy (wl J) J<|?_;refine sc (tr J J ?_);intro b2;refine sa J J<|sa J J<|zE<|lx<|?_;refine Cu b2 (.hd ..) ?_;intro G9 _ hfz;exact tz (css:=[_]) (.tmp J (.tmp J .nil)) J (_::[_]) (jJ (l₁:=[_]) (l₂:=[_])) (.cons_cons _ (kX _)) ⟨_,J,mo.2 ⟨b2,_,J,hfz.h,QI⟩,J⟩
 |node l tx ty ih1 ih2=>
  intro k ⟨h0,h1,h2⟩ hk ⟨hb,hb1,hb2⟩ ⟨ho,ho1,ho2⟩ G sb lo2 _;haveI:=hb;have hsz:k+(Tr.node l tx ty).size=k+1+tx.size+ty.size:=by simp only[Tr.size];omega
  rw[hsz] at hk⊢;have hbn:k<ns.length:=by omega
  obtain⟨z,hzi,hz⟩:=hes.get (i:=k) (by rw[cV,h0];rfl);obtain⟨x1,x2,x3,rfl,hzg⟩:=OF hz;obtain⟨ab,aoff,acs,ha,hga,hca⟩:=hx.mem.resolve_left (fun e=>by rw[e] at hel;simp at hel;omega);simp only at ha;subst ha;haveI:t8 A ab acs:=⟨hga⟩;obtain⟨hk0,hk6,hk7⟩:=Vo (by
   have h9:=hca k (by rw[hel];exact hbn);rw[show es[k]'(by rw[hel];exact hbn)=_ from Option.some.inj ((aZ (by rw[hel];exact hbn)).symm.trans hzi)] at h9;exact h9)
  refine ki.intro func100 J J ntmps100 J ?_;intro C _ _;show St C _ [(0, .agg ⟨[.int .i64 r0, .slice (some ⟨ab,aoff,none⟩) ns.length xc]⟩),(1, .int .i64 (k:Int)),(2, .slice (some ⟨sb,0,none⟩) ns.length ns.length)] [⟨sb,sK ns.length k,_,false⟩] _ _;refine sR<|?_;refine sc (tr J J ?_);intro b1;refine sa J J<|sa J J<|zE<|fm<|sR<|sm J J<|sy (mr J J) J<|sm J J<|?_;refine zj 14 J (fun hg=>absurd hg (by omega)) (fun hg=>?_);refine fI J J (ma J) J<|fI J J (mr J J) J<|sy (sk J J) J<|zE<|?_;refine uI J (fun hc=>absurd hc (by omega)) (fun _=>?_);refine zK<|fm<|sR<|sm J J<|sy (DG J J) J<|sm J J<|?_;refine zj 24 J (fun hg=>absurd hg (by omega)) (fun hg=>?_);refine fI J J (ma J) J<|fI J J (rk J) J<|fI J J (oA J J) J<|fI J J (um J) J<|fI J J (Iu J J) J<|sy (sk J J) J<|sm J J<|?_;refine zj 31 J (fun hg=>absurd hg (by omega)) (fun hg=>?_);refine fI J J (ma J) J<|fI J J (ma J) J<|fI J J (uQ J J) J<|?_;refine fI J J (oA (v:= .bool false) J (by rw[cZ,jL];exact PL hbn)) J<|sy (sk J J) J<|zE<|r4 J<|?_;refine zK<|sR<|sm J J<|sm J J<|sy (uQ J J) J<|?_;refine sc (vW J J (.tl _ _ _ _ _ _ _ _ (.hd ..)) (by rw[Ll,cZ,jL];exact hbn) J J ?_);rw[cZ,jL,QK];refine zE<|sR<|sf J J<|nB J J J<|sm J J<|sy (vH J J) J<|?_;rw[cZ];refine sf J J<|YP J hk0 J<|?_;refine sc (zC J J (PF.fn0 (aJg ho) (.cons (hzg.up GL.le) .nil)) J ?_);rintro _ G6 _ hw;obtain⟨y1,y2,y3,rfl,hw'⟩:=aGa hw;refine sm J J<|sx J J J<|sx J J J<|?_;refine sc (uL J ?_);intro b3;refine sc (Eu J J J (by repeat (first|exact .hd .. |apply ik.tl)) J (nb J) J J ?_)
  refine sa J J<|zE<|fm<|sR<|sm J J<|sy (ut J) J<|zE<|?_;refine r4 J<|zK<|?_;show St C _ _ [⟨b3,[.bool (decide (l.a<0)), .slice y1.a y1.n y1.c, .bool (decide (l.b<0)), .slice y2.a y2.n y2.c, .bool (decide (l.c<0)), .slice y3.a y3.n y3.c],55,true⟩,⟨b1,[.int .i64 r0, .slice (some ⟨ab,aoff,none⟩) ns.length xc],31,true⟩,⟨sb,sK ns.length (k+1),4,false⟩] _ _;refine fm<|u6 [⟨b1,[.int .i64 r0, .slice (some ⟨ab,aoff,none⟩) ns.length xc],31,true⟩] (fun _=>false) [(0,true),(1,true),(2,true),(3,true),(4,true),(5,true),(6,true),(7,true),(8,false),(9,true),(10,true),(11,true),(12,true),(13,true)] follows (by kernel_rfl)<|?_;refine dL J J J J<|dF J J J<|qv J J J J<|dM J J J<|?_;refine dy J (fun _=>vH J J) J J<|dF J J J<|?_;refine dy J (fun _=>r9 J vM (by rw[cZ];exact hk6)) J J<|dM J J J<|?_;have hrp:=ih1 h1 (by omega) hb1 ho1 (G:=G6) (sb:=sb) (lo2:=false);refine dc J J (wA J J (M:=[_]) (rest:=[_,_]) (jJ (l₁:=[_,_]) (l₂:=[_])) hrp J ?_);rintro _ css G7 _ _ ⟨a1,rfl,hq1,rfl⟩;show St C _ _ [⟨sb,sK ns.length (k+1+tx.size),4,false⟩,⟨b3,[.bool (decide (l.a<0)), .slice y1.a y1.n y1.c, .bool (decide (l.b<0)), .slice y2.a y2.n y2.c, .bool (decide (l.c<0)), .slice y3.a y3.n y3.c],55,true⟩,⟨b1,[.int .i64 r0, .slice (some ⟨ab,aoff,none⟩) ns.length xc],31,true⟩] _ _;refine mi<|dM J J J<|dy J (fun _=>xv J J) J J<|dy J (fun _=>xv J J) J J<|dA J J J<|?_;refine dA J J J<|dn<|?_;refine fm<|sR<|sm J J<|sy (ut J) J<|zE<|r4 J<|zK<|?_;refine fm<|u6 [⟨b1,[.int .i64 r0, .slice (some ⟨ab,aoff,none⟩) ns.length xc],31,true⟩] (fun _=>false) [(0,true),(1,true),(2,true),(3,true),(4,true),(5,true),(6,true),(7,true),(8,false),(9,true),(10,true),(11,true),(12,true),(13,true)] follows (by kernel_rfl)<|?_
  refine dL J J J J<|dF J J J<|qv J J J J<|dM J J J<|?_;refine dy J (fun _=>vH J J) J J<|dF J J J<|?_;refine dy J (fun _=>r9 J vM (by rw[cZ];exact hk7)) J J<|dM J J J<|?_;have hrp:=ih2 h2 hk hb2 ho2 (G:=G7) (sb:=sb) (lo2:=false);refine dc J J (wA J J (M:=[_]) (rest:=[_,_]) (List.Perm.refl _) hrp J ?_);rintro _ css G8 _ _ ⟨a2,rfl,hq2,rfl⟩;show St C _ _ [⟨sb,sK ns.length (k+1+tx.size+ty.size),4,false⟩,⟨b3,[.bool (decide (l.a<0)), .slice y1.a y1.n y1.c, .bool (decide (l.b<0)), .slice y2.a y2.n y2.c, .bool (decide (l.c<0)), .slice y3.a y3.n y3.c],55,true⟩,⟨b1,[.int .i64 r0, .slice (some ⟨ab,aoff,none⟩) ns.length xc],31,true⟩] _ _;refine mi<|dM J J J<|dy J (fun _=>xv J J) J J<|dy J (fun _=>xv J J) J J<|dA J J J<|?_;refine dA J J J<|dn<|?_;refine sR<|CM J J J<|sm J J<|sm J J<|sy (wl J) J<|?_;refine sc (tr J J ?_);intro b6;refine sm J J<|sa J J<|sa J J<|zE<|lx<|?_;refine Cu b6 (.hd ..) ?_;intro G9 _ hfz;exact tz (css:=[_]) (.tmp J (.tmp J .nil)) J (_::[_,_]) (List.Perm.refl _) (.cons_cons _ (kX _)) ⟨_,J,mo.2 ⟨b6,_,J,hfz.h,Uw (hw'.up GL.le) (hq1.up GL.le) (hq2.up GL.le)⟩,J⟩
def XA(hb:t.all LB)(ho:t.all ah.ok)(hs:t.size<=65536):PF GB prog 45 [eA t] (.tp [eT t,vB true]):=by
 intro G vs _ hv;obtain⟨⟨xa,xn,xc⟩,rfl,rfl,hx⟩:=Oq hv;have hn:=t.wr_len 0;show Fn _ _ [.agg ⟨[.int .i64 (t.num 0), .slice xa (t.wr 0).length xc]⟩] _ _;refine Fn.intro func45 J J ntmps45 J ?_;intro C _ _;refine sR<|?_;refine sc (tr J J ?_);intro b1;refine sa J J<|sa J J<|zE<|fm<|sR<|sf J J<|nB J J J<|uh J J<|sy (BJ J J) J<|zE<|?_;refine uI J (fun hc=>absurd hc (by omega)) (fun _=>?_);refine zK<|sR<|sf J J<|nB J J J<|uh J J<|?_;refine sc (KX J J (by omega) (by omega) (by omega) (by rfl) J ?_);intro b2;rw[cZ,NY];refine sa J J<|zE<|sR<|CM J J J<|sf J J<|nB J J J<|sm J J<|?_;refine sc (wA J J (M:=[_]) (rest:=[_]) (List.Perm.refl _) (Y6 (r0:=t.num 0) hx (by omega) (sD.of (a:=[]) (b:=[]) (k:=0) (by simp) J) (by omega) hb ho (G:=G) (sb:=b2) (lo2:=true)) J ?_);rintro _ css G3 _ _ ⟨q,rfl,hq,rfl⟩;show St C _ _ [⟨b2,sK (t.wr 0).length (0+t.size),4,true⟩,⟨b1,[.int .i64 (t.num 0), .slice xa (t.wr 0).length xc],31,true⟩] _ _;refine sm J J<|sx J J J<|sx J J J<|sa J J<|sa J J<|zE<|fm<|sR<|sm J J<|uh J J<|sm J J<|zE<|wz<|?_;refine QL (X:=Nat) (fun i=>[(27, .int .i64 (i:Nat)),(26, .int .i64 (t.wr 0).length),(25, .slice (some ⟨b2,0,none⟩) (t.wr 0).length (t.wr 0).length),(6, .bool true),(5, .pointer q)]) (fun _=>[⟨b2,sK (t.wr 0).length (0+t.size),4,true⟩,⟨b1,[.int .i64 (t.num 0), .slice xa (t.wr 0).length xc],31,true⟩]) (fun i _=>i<=(t.wr 0).length) (fun i=>(t.wr 0).length-i) 0 (bV _) (.cons J (.cons J (.cons J (.cons J (.cons J .nil))))) J ?_;rintro i Gx _ hi;refine sR<|sy (DG J J) J<|zE<|fm<|?_
 refine Sm J (fun hc=>?_) (fun hc=>?_)
 .refine NB<|EO<|EO<|Nj<|sR<|sm J J<|sm J J<|sa J J<|sa J J<|zE<|lx<|?_
  exact zD (.tmp J (.tmp J .nil)) (kh.2 ⟨_,J, .cons (hq.up GL.le) (.cons (aI.2 J) .nil)⟩)
 have hi':i<(t.wr 0).length:=by omega
 refine zK<|fm<|wz<|sR<|sy (uQ J J) J<|?_;refine sy (oA (v:= .bool true) J (by rw[cZ,jL];exact HR hi' (by rw[lK];omega))) J<|sa J J<|zE<|Ex<|sm J J<|sm J J<|?_;refine fI J J (ma J) J<|sy (Eo J J) J<|sa J J<|zE<|Ex<|sy (wL J J) J<|sm J J<|zE<|?_;exact HX (i+1) hi' (by omega) (.cons (by show some (Value.int _ _)=some (.int _ _);congr 2) (.cons J (.cons J (.cons J (.cons J .nil))))) J
def M4(h:i7 k t):PF GB prog 77 [eA t] (.tp [eU t,vB true]):=Wd h.lb h.ok (by have:=h.s;omega)
def TJ(l:List Rat):fD l=rF bz l:=by
 unfold fD rF;have key: ∀(l o:List Rat),l.foldl (fun out x=>kE x out) o=l.foldl (fun out x=>dw bz x out) o:=by
  intro l
  induction l with
  |nil=>intro o;rfl
  |cons a t ih=>intro o;rw[kN,kN,Ac,ih]
 exact key l []
def Dr(l:List Rat):(fD l).length<=l.length:=by
 have:=Dh bz l [];rw[TJ];simpa[rF] using this
theorem J'{l:List Rat}(h: ∀q∈l,BQ q k): ∀g∈cp l,BQ g (2*k+100):=fun g hg=>by
 cases l with
 |nil=>
  rw[cp,aT] at hg;subst hg;exact BQ.mono (k:=1) ⟨by decide,by decide⟩ (by omega)
 |cons a t=>
  rw[cp] at hg;rcases aK.1 hg with rfl|hg
  .haveI:=h a aQ
   exact BQ.mono (inferInstance:BQ (a-1) _) (by omega)
  .rcases aL.1 hg with hg|hg
   .obtain⟨c,hc,d,hd,rfl⟩:=Kz hg
    haveI:=h c hc;haveI:=h d hd;exact BQ.mono (inferInstance:BQ ((c+d)/2) _) (by omega)
   .rw[aT] at hg
    haveI:=h _ (List.getLast_mem (l:=a::t) (by simp));subst hg;exact BQ.mono (inferInstance:BQ ((a::t).getLast (by simp)+1) _) (by omega)
def uW(a:ah)(t:List ah):List Rat:=t.filterMap fun b=>if crossI a b=0 then none else some (dm a b).x
def Gv(a:ah)(t:List ah):d9 (a::t)=(if a.b=0 then [a.base.x] else [])++(uW a t++d9 t):=rfl
def W8(a:ah)(t:List ah):(uW a t).length<=t.length:=mR _ _
def H2: ∀l:List ah,(d9 l).length<=l.length*(l.length+1)
 |[]=>bW _
 |a::t=>by
  have h1:=H2 t;have h2:=W8 a t;have h3:(if a.b=0 then [a.base.x] else []).length<=1:=by split<;>simp
  rw[Gv,aY,aY,aN];have e:(t.length+1)*(t.length+1+1)=t.length*(t.length+1)+2*t.length+2:=by simp only[dV,fJ];omega
  rw[e];omega
theorem BR: ∀{l:List ah},(∀a∈l,LB a)-> ∀x∈d9 l,BQ x 900
 |[],_,x,h=>by cases h
 |a::t,hl,x,h=>by
  haveI:=hl a aQ;have ht: ∀b∈t,LB b:=fun b hb=>hl b (aJ _ hb);rw[Gv] at h;rcases aL.1 h with h|h
  .split at h
   .rw[aT] at h;subst h;infer_instance
   .cases h
  .rcases aL.1 h with h|h
   .obtain⟨b,hb,e⟩:=jS.1 h
    haveI:=ht b hb;split at e
    .cases e
    .cases e;exact BQ.mono (inferInstance:BQ (dm a b).x 772)
   .exact BR ht x h
def RH(l:List ah)(x:Rat):(gG l x).length<=l.length:=mR _ _
theorem NL(hl: ∀a∈l,LB a)(hx:BQ x 1900): ∀y∈gG l x,BQ y 2400:=fun y hy=>by
 obtain⟨a,ha,hb,rfl⟩:=N4 hy;haveI:=hl a ha;unfold yA;exact BQ.mono (inferInstance:BQ (-(((a.a:Rat)*x+(a.c:Rat))/(a.b:Rat))) _) (by omega)
def Ly{a:ah}(h:l[k]? =some a):gG (l.drop k) x=(if a.b=0 then [] else [yA a x])++gG (l.drop (k+1)) x:=by
 obtain⟨hk,rfl⟩:=aS.1 h;rw[bJ hk];unfold gG;rw[rQ];split<;>(rename_i e;split at e<;>simp_all)
def Q7{t:List ah}{a b:ah}(h:t[k]? =some b):uW a (t.drop k)=(if crossI a b=0 then [] else [(dm a b).x])++uW a (t.drop (k+1)):=by
 obtain⟨hk,rfl⟩:=aS.1 h;rw[bJ hk];unfold uW;rw[rQ];split<;>(rename_i e;split at e<;>simp_all)
def Og{a:ah}(h:l[k]? =some a):d9 (l.drop k)=(if a.b=0 then [a.base.x] else [])++(uW a (l.drop (k+1))++d9 (l.drop (k+1))):=by
 obtain⟨hk,rfl⟩:=aS.1 h;rw[bJ hk,Gv]
def xY{a b c:List α}(h:a++b=c):a.length<=c.length:=by rw[<-h,aY];omega
def xp(l:List ah)(x:Rat):List aa:=(cp (fD (gG l x))).map fun y=>⟨x,y⟩
def auc(l:List ah):pI l=(cp (fD (d9 l))).flatMap (xp l):=rfl
def Mg(l:List ah)(x:Rat):(xp l x).length<=l.length+1:=by
 unfold xp;rw[aX,y6];have:=Dr (gG l x);have:=RH l x;omega
def Pf{α β:Type}(f:α->List β)(m:Nat): ∀l:List α,(∀x,(f x).length<=m)->(l.flatMap f).length<=l.length*m
 |[],_=>by simp
 |a::t,h=>by
  have:=Pf f m t h;have:=h a;rw[mJ,aY,aN,gX];omega
def Rj(h:l.length<=6000):(cp (fD (d9 l))).length<=36006001:=by
 have h1:=H2 l;have h2:=Dr (d9 l);have h3:l.length*(l.length+1)<=6000*6001:=iW h (by omega);rw[y6];omega
def SF(h:l.length<=6000):(pI l).length<=216072012001:=by
 have h1:=Pf (xp l) 6001 (cp (fD (d9 l))) (fun x=>by have:=Mg l x;omega);have h2:(cp (fD (d9 l))).length*6001<=36006001*6001:=bS _ (Rj h);rw[auc];omega
def avQ{f:α->List β}{l:List α}{x:α}(h:l[k]? =some x):(l.drop k).flatMap f=f x++(l.drop (k+1)).flatMap f:=by
 obtain⟨hk,rfl⟩:=aS.1 h;rw[bJ hk,mJ]
def Wf{f:α->β}{l:List α}{x:α}(h:l[k]? =some x):(l.drop k).map f=f x::(l.drop (k+1)).map f:=by
 obtain⟨hk,rfl⟩:=aS.1 h;rw[bJ hk,bU]
def AL(l:List α):l.drop l.length=[]:=by simp
def QE(hb: ∀q∈qs,BQ q k)(hk:k<=100000)(hn:qs.length<=40000000:=by omega):PF GB prog 171 [.sl (qs.map eQ)] (.sl ((fD qs).map eQ)):=by
 have hm':=eO eQ qs;refine fn (fu:=⟨15⟩) func171 J J ntmps171 J J (fun C=>?_);refine aj 8 (.d (vI (qs.length:Nat))) J (by rw[hm']<;>rfl)<|gx J<|CC 3 J<|lp (X:=List Rat×Nat) (fun⟨xs,i⟩=>[(9, .d (vI (i:Nat))),(3, .d (.sl (xs.map eQ)))]) (fun⟨xs,i⟩=>[]) (fun⟨xs,i⟩=>xs=rp bz id qs i/\i<=qs.length) (fun⟨xs,i⟩=>qs.length-i) ⟨[],0⟩ J ⟨J,bV _⟩ (fun _=>J) (fun⟨xs,i⟩ hk=>?_)
 try dsimp only at hk⊢
 obtain⟨h1,h2⟩:=hk;refine br J J J (fun hc10=>?_) (fun hc10=>?_)
 .
  obtain⟨q,hz⟩: ∃s,qs[i]? =some s:=⟨_,aZ (by omega)⟩;haveI hqb:=hb q (aV hz);have hxl:=eO eQ xs;have hxn:xs.length<=i:=by rw[h1];exact Ld
  have hxb: ∀u∈xs,BQ u k:=fun u hu=>by rw[h1] at hu;obtain⟨z,hz,he⟩:=QF hu;rw[he];exact hb z hz
  refine ix (fu:=⟨11⟩) _ J (cD hz) J<|mg (fu:=⟨5⟩) (X:=Nat) (fun n=>[(6, .d (vI (n:Nat)))]) (fun n=>[]) (fun n=>mn bz q xs=n) [6] [] rfl ?_ (fun _=>J) (fun n hnx=>?_)
  .
   refine gx J<|lp (fu:=⟨6⟩) (X:=Nat) (fun n=>[(6, .d (vI (n:Nat)))]) (fun n=>[]) (fun n=>n<=xs.length/\ ∀j (h:j<xs.length),j<n->bz xs[j] q<0) (fun n=>xs.length-n) 0 J ⟨bV _,fun j _ hj=>absurd hj (by omega)⟩ (fun _=>J) (fun n hk=>?_);obtain⟨n1,n2⟩:=hk;refine kj (v2:=fun hg16=>by simp only[ak];kernel_rfl) J J J J (fun hg16=>?_) (fun hg16=>?_)
   .
    refine ix _ J (uu) J<|cl J (mp (a:=xs[n]'(by omega)) (b:=q) (ha:=hxb _ (cN (by omega))) (hb:=hqb) (by omega) (by omega)) J<|br J J J (fun hc25=>?_) (fun hc25=>?_)
    .
     exact at_ (n+1) ⟨⟨by omega,fun j h hj=>by by_cases q:j=n;(subst q;exact hc25);exact n2 j h (by omega)⟩,(by omega)⟩
    .
     exact at_ n (vG bz n1 n2 (fun h=>hc25))
   .
    exact at_ n (vG bz n1 n2 (fun h=>absurd h (by omega)))
  .
   have hnl:n<=xs.length:=by rw[<-hnx];exact Ep _ _ _
   refine kj (v1:=fun hg31=>by simp only[ak];kernel_rfl) J J J J (fun hg31=>?_) (fun hg31=>?_)
   .
    have hnew: ∀h:n<xs.length,bz xs[n] q≠0:=fun h=>absurd h (by omega);obtain⟨ys,hys⟩: ∃ys,ys=xs.take n++q::xs.drop n:=⟨_,rfl⟩;have hin:dw bz q xs=ys:=by rw[hys];exact tq bz hnx hnew
    have hyl:ys.length<=xs.length+1:=by rw[hys];simp;omega
    refine s3 n _ J J J J (e7 _) (by rw[hxl];exact hnl) J<|ro J J<|kI n xs.length _ J J (by rw[hxl]) J (e7 _) hnl (by omega) J<|ap _ J J (tI e7 _ _ _) J<|lP (hv:=by simp only[ak];exact⟨by kernel_rfl,by omega⟩) (ho:=fun _=>⟨uE e7 _ _,by simp⟩) (ys.map eQ) J (by rw[hys,bX,bU,iT,jV,bM (l:=xs.map eQ) (i:=xs.length) (by simp)];rfl) (vK e7 _ _ _ _) J<|at_ ⟨ys,i+1⟩ (by dsimp only;exact⟨⟨by rw[Am hz,<-h1];exact hin.symm,by omega⟩,(by omega)⟩)
   .
    refine ix _ J (uu) J<|cl J (mp (a:=xs[n]'(by omega)) (b:=q) (ha:=hxb _ (cN (by omega))) (hb:=hqb) (by omega) (by omega)) J<|br J J J (fun hc40=>?_) (fun hc40=>?_)
    .
     have hnew: ∀h:n<xs.length,bz xs[n] q≠0:=fun h=>hc40;obtain⟨ys,hys⟩: ∃ys,ys=xs.take n++q::xs.drop n:=⟨_,rfl⟩;have hin:dw bz q xs=ys:=by rw[hys];exact tq bz hnx hnew
     have hyl:ys.length<=xs.length+1:=by rw[hys];simp;omega
     refine s3 n _ J J J J (e7 _) (by rw[hxl];exact hnl) J<|ro J J<|kI n xs.length _ J J (by rw[hxl]) J (e7 _) hnl (by omega) J<|ap _ J J (tI e7 _ _ _) J<|lP (hv:=by simp only[ak];exact⟨by kernel_rfl,by omega⟩) (ho:=fun _=>⟨uE e7 _ _,by simp⟩) (ys.map eQ) J (by rw[hys,bX,bU,iT,jV,bM (l:=xs.map eQ) (i:=xs.length) (by simp)];rfl) (vK e7 _ _ _ _) J<|at_ ⟨ys,i+1⟩ (by dsimp only;exact⟨⟨by rw[Am hz,<-h1];exact hin.symm,by omega⟩,(by omega)⟩)
    .
     have hin:dw bz q xs=xs:=Bw bz hnx (by omega) (Decidable.not_not.1 hc40);exact at_ ⟨xs,i+1⟩ (by dsimp only;exact⟨⟨by rw[Am hz,<-h1];exact hin.symm,by omega⟩,(by omega)⟩)
 .
  have hfin:fD qs=xs:=by rw[TJ,h1,Ty,List.map_id]
  exact rz J (by rw[hfin];rfl)
def Si(hb: ∀q∈cuts,BQ q k)(hk':k<=100000)(hn:cuts.length<=40000000):PF GB prog 170 [.sl (cuts.map eQ)] (.sl ((cp cuts).map eQ)):=by
 have hm:=eO eQ cuts;refine fn (fu:=⟨10⟩) func170 J J ntmps170 J J (fun C=>?_);refine aj 6 (.d (vI (cuts.length:Nat))) J (by rw[hm]<;>rfl)<|gx J<|br J J J (fun hc7=>?_) (fun hc7=>?_)
 .
  obtain rfl:cuts=[]:=cW (by omega);refine rf J J<|rz J (by rw[cp];show DV.sl [_]=DV.sl [_];rw[GN])
 .
  obtain⟨a,ct,rfl⟩: ∃a t,cuts=a::t:=by cases cuts with|nil=>exact absurd rfl hc7|cons a t=>exact⟨a,t,rfl⟩
  haveI hab:=hb a aQ;have hcl:ct.length+1<=40000000:=hn;refine ix _ J J J<|cl J (jl (n:=1)) J<|cl (fu:=⟨0⟩) J (rB (a:=a) (b:=((1:Int):Rat)) (by omega) (by omega)) J<|aj 14 (.d (eQ (a-1))) J J<|gx J<|ro J J<|lp (fu:=⟨6⟩) (X:=Nat) (fun i=>[(4, .d (vI ((i+1:Nat):Int))),(3, .rw 15)]) (fun i=>[(15,some (.b 50 3 (((a-1)::i9 ((a::ct).take (i+1))).map eQ) true))]) (fun i=>i<=ct.length) (fun i=>ct.length-i) 0 J (bV _) (fun _=>J) (fun i hk=>?_);have hm2:=eO eQ (a::ct);have hml:=Cn (a::ct.take i);rw[aN,bR] at hml;have hml2:=Cn (a::ct);rw[aN] at hml2;refine aj 18 (.d (vI ((ct.length+1:Nat):Int))) J (by rw[hm2]<;>rfl)<|gx J<|br (fu2:=⟨11⟩) J J J (fun hc19=>?_) (fun hc19=>?_)
  .
   obtain⟨u,hu⟩: ∃s,(a::ct)[i]? =some s:=⟨_,aZ (by simp;omega)⟩;obtain⟨w,hw⟩: ∃s,(a::ct)[i+1]? =some s:=⟨_,aZ (by simp;omega)⟩;haveI:=hb u (aV hu);haveI:=hb w (aV hw);refine ix _ J (by rw[show((((i+1:Nat):Int))-1).toNat=i by omega,cV,hu];rfl) J<|ix _ J (by rw[cZ,cV,hw];rfl) J<|?_;refine cl J (EM (a:=u) (b:=w) (by omega) (by omega)) J<|rf J J<|ap (hv:=by simp only[ak];exact⟨by kernel_rfl,by omega⟩) (((a-1)::i9 ((a::ct).take (i+1+1))).map eQ) J (by rw[J0 hu hw,<-iX,bX];rfl) (e7 [(u+w)/2]) J<|fw 34 15 J<|at_ (i+1) ⟨(by omega),(by omega)⟩
  .
   obtain rfl:i=ct.length:=by omega
   obtain⟨z,hz⟩: ∃s,(a::ct)[ct.length]? =some s:=⟨_,aZ (by simp)⟩;haveI:=hb z (aV hz);rw[show(a::ct).take (ct.length+1)=a::ct from dQ (l:=a::ct)];refine aj 38 (.d (vI ((ct.length+1:Nat):Int))) J (by rw[hm2]<;>rfl)<|gx J<|ix _ J (by rw[show((((ct.length+1:Nat):Int))-1).toNat=ct.length by omega,cV,hz];rfl) J<|cl J (jl (n:=1)) J<|?_;refine cl J (nE (a:=z) (b:=((1:Int):Rat)) (by omega) (by omega)) J<|rf J J<|ap ((cp (a::ct)).map eQ) J (by rw[Py hz,<-iX,bX];rfl) (e7 [z+1]) J<|iu 45 J<|rz J J
def aDs(hb: ∀a∈l,LB a)(ho: ∀a∈l,a.Ne)(hn:l.length<=6000):PF GB prog 101 [.sl (l.map eL)] (.sl ((pI l).map eP)):=by
 have hbl:=hb;have hml:=eO eL l;have htot:=SF hn;have hgl:=Rj hn;have hxl:=H2 l;have hxl2:l.length*(l.length+1)<=6000*6001:=iW hn (by omega);refine fn (fu:=⟨15⟩) func101 J J ntmps101 J J (fun C=>?_);refine aj 19 (.d (vI (l.length:Nat))) J (by rw[aX]<;>rfl)<|gx J<|nr 3 3 50 3 J J J<|lp (X:=List Rat×Nat) (fun⟨cur,i⟩=>[(20, .d (vI (i:Nat))),(3, .rw 3)]) (fun⟨cur,i⟩=>[(3,some (.b 50 3 (cur.map eQ) true))]) (fun⟨cur,i⟩=>cur++d9 (l.drop i)=d9 l/\i<=l.length) (fun⟨cur,i⟩=>l.length-i) ⟨[],0⟩ J ⟨by simp,bV _⟩ (fun _=>J) (fun⟨cur,i⟩ hk=>?_)
 try dsimp only at hk⊢
 obtain⟨h1,h2⟩:=hk;have hcl:=xY h1;have hcm:=eO eQ cur;refine br (fu2:=⟨0⟩) J J J (fun hc21=>?_) (fun hc21=>?_)
 .
  obtain⟨a,ha⟩: ∃s,l[i]? =some s:=⟨_,aZ (by omega)⟩;haveI hab:=hb a (aV ha);have hao:=ho a (aV ha);refine ix (fu:=⟨7⟩) _ J (cD ha) J<|mg (X:=List Rat) (fun cur1=>[(3, .rw 3)]) (fun cur1=>[(3,some (.b 50 3 (cur1.map eQ) true))]) (fun cur1=>cur1++(uW a ((l.drop (i+1)).drop 0)++d9 (l.drop (i+1)))=d9 l) [3] [3] rfl ?_ (fun _=>J) (fun cur1 hc1=>?_)
  .
   refine gx J<|cl J (zh (z:=a.b)) J<|br J J J (fun hc28=>?_) (fun hc28=>?_)
   .
    refine cl J (Fi (l:=a) hao) J<|rf J J<|ap ((cur++[a.base.x]).map eQ) J (by rw[bX];rfl) (e7 [_]) J<|fw 34 3 J<|at_ (cur++[a.base.x]) (by rw[<-h1,Og ha,if_pos (iZ.1 hc28)];simp)
   .
    exact at_ cur (by rw[<-h1,Og ha,if_neg (fun e=>hc28 (iZ.2 e))];simp)
  .
   have hcl1:=xY hc1;have hdl:(l.drop (i+1)).length<=6000:=by rw[gU];omega
   have hcm1:=eO eQ cur1;refine kI (fu:=⟨1⟩) (i+1) l.length ((l.drop (i+1)).map eL) J J (by rw[hml]) (by rw[bM (by rw[hml];exact bW _),jV]) (fP l) (by omega) (by rw[hml];exact bW _) J<|aj 39 (.d (vI ((l.drop (i+1)).length:Nat))) J (by rw[aX]<;>rfl)<|gx J<|lp (X:=List Rat×Nat) (fun⟨cur2,j⟩=>[(40, .d (vI (j:Nat))),(3, .rw 3)]) (fun⟨cur2,j⟩=>[(3,some (.b 50 3 (cur2.map eQ) true))]) (fun⟨cur2,j⟩=>cur2++(uW a ((l.drop (i+1)).drop j)++d9 (l.drop (i+1)))=d9 l/\j<=(l.drop (i+1)).length) (fun⟨cur2,j⟩=>(l.drop (i+1)).length-j) ⟨cur1,0⟩ J ⟨hc1,bV _⟩ (fun _=>J) (fun⟨cur2,j⟩ hk=>?_)
   try dsimp only at hk⊢
   obtain⟨j1,j2⟩:=hk;have hcl2:=xY j1;have hcm2:=eO eQ cur2;refine br J J J (fun hc41=>?_) (fun hc41=>?_)
   .
    obtain⟨b,hb⟩: ∃s,(l.drop (i+1))[j]? =some s:=⟨_,aZ (by omega)⟩;haveI hbb:=hbl b (gR (aV hb));refine ix _ J (cD hb) J<|cl J (K3 (l:=a) (m:=b)) J<|bd J J J (fun hc50=>?_) (fun hc50=>?_)
    .
     refine rf J J<|ap ((cur2++[(dm a b).x]).map eQ) J (by rw[bX];rfl) (e7 [_]) J<|fw 55 3 J<|at_ ⟨cur2++[(dm a b).x],j+1⟩ (by dsimp only;exact⟨⟨by rw[<-j1,Q7 hb,if_neg hc50];simp,by omega⟩,(by omega)⟩)
    .
     exact at_ ⟨cur2,j+1⟩ (by dsimp only;exact⟨⟨by rw[<-j1,Q7 hb,if_pos (Decidable.not_not.1 hc50)];simp,by omega⟩,(by omega)⟩)
   .
    obtain rfl:j=(l.drop (i+1)).length:=by omega
    exact at_ ⟨cur2,i+1⟩ (by dsimp only;exact⟨⟨by rw[AL] at j1;exact j1,by omega⟩,(by omega)⟩)
 .
  obtain rfl:i=l.length:=by omega
  obtain rfl:cur=d9 l:=by rw[AL] at h1;simpa[d9] using h1
  refine qf 3 J<|gx J<|cl J (QE (qs:=d9 l) (k:=900) (BR hb) (by decide)) J<|cl (fu:=⟨1⟩) J (Si (cuts:=fD (d9 l)) (k:=900) (fun q hq=>BR hb q (pE.1 hq)) (by decide) (by have:=Dr (d9 l);omega)) J<|aj 61 (.d (vI ((cp (fD (d9 l))).length:Nat))) J (by rw[aX]<;>rfl)<|gx J<|nr 10 10 53 6 J J J<|lp (X:=List aa×Nat) (fun⟨pts,g⟩=>[(62, .d (vI (g:Nat))),(10, .rw 10)]) (fun⟨pts,g⟩=>[(10,some (.b 53 6 (pts.map eP) true))]) (fun⟨pts,g⟩=>pts++((cp (fD (d9 l))).drop g).flatMap (xp l)=pI l/\g<=(cp (fD (d9 l))).length) (fun⟨pts,g⟩=>(cp (fD (d9 l))).length-g) ⟨[],0⟩ J ⟨J,bV _⟩ (fun _=>J) (fun⟨pts,g⟩ hk=>?_)
  try dsimp only at hk⊢
  obtain⟨g1,g2⟩:=hk;have hpl:=xY g1;have hpm:=eO eP pts;refine br J J J (fun hc63=>?_) (fun hc63=>?_)
  .
   obtain⟨x,hx⟩: ∃s,(cp (fD (d9 l)))[g]? =some s:=⟨_,aZ (by omega)⟩;haveI hxb:BQ x 1900:=J' (k:=900) (fun q hq=>BR hb q (pE.1 hq)) x (aV hx);refine ix (fu:=⟨15⟩) _ J (cD hx) J<|aj 67 (.d (vI (l.length:Nat))) J (by rw[aX]<;>rfl)<|gx J<|nr 13 13 50 3 J J J<|lp (X:=List Rat×Nat) (fun⟨ys,j⟩=>[(68, .d (vI (j:Nat))),(13, .rw 13)]) (fun⟨ys,j⟩=>[(13,some (.b 50 3 (ys.map eQ) true))]) (fun⟨ys,j⟩=>ys++gG (l.drop j) x=gG l x/\j<=l.length) (fun⟨ys,j⟩=>l.length-j) ⟨[],0⟩ J ⟨J,bV _⟩ (fun _=>J) (fun⟨ys,j⟩ hk=>?_)
   try dsimp only at hk⊢
   obtain⟨y1,y2⟩:=hk;have hyl:=xY y1;have hym:=eO eQ ys;have hyt:=RH l x;refine br (fu2:=⟨0⟩) J J J (fun hc69=>?_) (fun hc69=>?_)
   .
    obtain⟨a,ha⟩: ∃s,l[j]? =some s:=⟨_,aZ (by omega)⟩;haveI hala:=hb a (aV ha);refine ix _ J (cD ha) J<|cl J (zh (z:=a.b)) J<|br J J J (fun hc75=>?_) (fun hc75=>?_)
    .
     have hab: ¬a.b=0:=fun e=>hc75 (iZ.2 e);have habR:((a.b:Int):Rat)≠0:=fun e=>hab (cR.1 e);refine cl J (iO (z:=a.a)) J<|cl J (jh (a:=(a.a:Rat)) (b:=x)) J<|cl J (iO (z:=a.c)) J<|cl J (nE (a:=(a.a:Rat)*x) (b:=(a.c:Rat))) J<|cl J (iO (z:=a.b)) J<|cl J (w8 (a:=(a.a:Rat)*x+(a.c:Rat)) (b:=(a.b:Rat)) habR) J<|cl J (vN (q:=((a.a:Rat)*x+(a.c:Rat))/(a.b:Rat))) J<|rf J J<|ap (hv:=by simp only[ak];exact⟨by kernel_rfl,by omega⟩) ((ys++[yA a x]).map eQ) J (by rw[bX];rfl) (e7 [_]) J<|fw 92 13 J<|at_ ⟨ys++[yA a x],j+1⟩ (by dsimp only;exact⟨⟨by rw[<-y1,Ly ha,if_neg hab];simp,by omega⟩,(by omega)⟩)
    .
     have hab:a.b=0:=iZ.1 (Decidable.not_not.1 hc75);exact at_ ⟨ys,j+1⟩ (by dsimp only;exact⟨⟨by rw[<-y1,Ly ha,if_pos hab];simp,by omega⟩,(by omega)⟩)
   .
    obtain rfl:j=l.length:=by omega
    obtain rfl:ys=gG l x:=by rw[AL] at y1;simpa[gG] using y1
    have hyb:=NL hb hxb;have hgy:(cp (fD (gG l x))).length<=6001:=by have:=Mg l x;unfold xp at this;rw[aX] at this;omega
    refine qf 13 J<|gx J<|cl J (QE (qs:=gG l x) (k:=2400) hyb (by decide)) J<|cl (fu:=⟨1⟩) J (Si (cuts:=fD (gG l x)) (k:=2400) (fun q hq=>hyb q (pE.1 hq)) (by decide) (by have:=Dr (gG l x);omega)) J<|aj 97 (.d (vI ((cp (fD (gG l x))).length:Nat))) J (by rw[aX]<;>rfl)<|gx J<|lp (X:=List aa×Nat) (fun⟨pts2,j⟩=>[(98, .d (vI (j:Nat))),(10, .rw 10)]) (fun⟨pts2,j⟩=>[(10,some (.b 53 6 (pts2.map eP) true))]) (fun⟨pts2,j⟩=>pts2++(((cp (fD (gG l x))).drop j).map (fun y=>(⟨x,y⟩:aa))++((cp (fD (d9 l))).drop (g+1)).flatMap (xp l))=pI l/\j<=(cp (fD (gG l x))).length) (fun⟨pts2,j⟩=>(cp (fD (gG l x))).length-j) ⟨pts,0⟩ J ⟨by rw[avQ hx] at g1;exact g1,bV _⟩ (fun _=>J) (fun⟨pts2,j⟩ hk=>?_)
    try dsimp only at hk⊢
    obtain⟨w1,w2⟩:=hk;have hpl2:=xY w1;have hpm2:=eO eP pts2;refine br J J J (fun hc99=>?_) (fun hc99=>?_)
    .
     obtain⟨y,hy⟩: ∃s,(cp (fD (gG l x)))[j]? =some s:=⟨_,aZ (by omega)⟩;refine ix _ J (cD hy) J<|rf J J<|ap ((pts2++[(⟨x,y⟩:aa)]).map eP) J (by rw[bX];rfl) (Nz [(⟨x,y⟩:aa)]) J<|fw 107 10 J<|at_ ⟨pts2++[⟨x,y⟩],j+1⟩ (by dsimp only;exact⟨⟨by rw[<-w1,Wf hy];simp,by omega⟩,(by omega)⟩)
    .
     obtain rfl:j=(cp (fD (gG l x))).length:=by omega
     exact at_ ⟨pts2,g+1⟩ (by dsimp only;exact⟨⟨by rw[AL] at w1;exact w1,by omega⟩,(by omega)⟩)
  .
   obtain rfl:g=(cp (fD (d9 l))).length:=by omega
   obtain rfl:pts=pI l:=by rw[AL] at g1;simpa using g1
   refine iu 10 J<|rz J J
def aoM{b:Bool}:PR GB prog 103 [eT (Tr.leaf b)] 6 55 ((Tr.leaf b).lns.map eL):=by
 refine I6 (fu:=⟨11⟩) func103 J J ntmps103 J J (fun C hmb=>?_);refine dP J J J<|?_;exact Wg J J J
def Va{l:ah}{x:Tr}(hs:(Tr.node l x y).size<=100000)(ihx:PR GB prog 103 [eT x] 6 55 (x.lns.map eL))(ihy:PR GB prog 103 [eT y] 6 55 (y.lns.map eL)):PR GB prog 103 [eT (Tr.node l x y)] 6 55 ((Tr.node l x y).lns.map eL):=by
 have hsx:=th x;have hsy:=th y;have hsz:(Tr.node l x y).size=1+x.size+y.size:=J;refine I6 (fu:=⟨11⟩) func103 J J ntmps103 J J (fun C hmb=>?_);refine cg J J J<|ro J J<|cr J ihx J<|ap (hbd:=by simp only[aX,aN,dT];omega) ((l::x.lns).map eL) J (by rw[bU];rfl) (fP _) J<|cr J ihy J<|ap (hbd:=by simp only[aX,aN,dT];omega) ((l::(x.lns++y.lns)).map eL) J (by rw[bU,bU,bX];rfl) (fP _) J<|?_;exact QM J J J J
def Df: ∀{t:Tr},t.size<=100000->PR GB prog 103 [eT t] 6 55 (t.lns.map eL)
 | .leaf _,_=>aoM
 | .node l x y,h=>Va h (Df (by have:(Tr.node l x y).size=1+x.size+y.size:=J;omega)) (Df (by have:(Tr.node l x y).size=1+x.size+y.size:=J;omega))
def xh:Tr->aa->Bool
 | .leaf _,_=>true
 | .node l x y,p=>if(l.value p).num.sign=1 then xh x p else if(l.value p).num.sign= -1 then xh y p else false
def Ou[hp:aE p i](hb:t.all LB)(hi:i<=400000:=by decide):PF GB prog 104 [eT t,eP p] (.tp [vB (ks t p),vB (xh t p)]):=by
 refine fn func104 J J ntmps104 J J (fun C=>?_);refine lp (fu:=⟨3⟩) (X:=Tr) (fun s=>[(0, .d (eT s))]) (fun s=>[]) (fun s=>ks s p=ks t p/\xh s p=xh t p/\s.all LB) (fun s=>s.size) t J ⟨J,J,hb⟩ (fun _=>J) (fun s hk=>?_);obtain⟨h1,h2,hb2⟩:=hk;rcases s with b|⟨l,x,y⟩
 .
  have hA:ks t p=b:=h1.symm;have hO:xh t p=true:=h2.symm;refine gx (fu:=⟨3⟩) J<|dP J J J<|rz J (by rw[hA,hO];rfl)
 .
  have hAn:=h1.symm;have hOn:=h2.symm;rw[ks] at hAn;rw[xh] at hOn;haveI:=hb2.1;refine gx (fu:=⟨3⟩) J<|cg J J J<|cl J (B6 (l:=l) (p:=p) (i:=i) hi) J<|br J J J (fun hc17=>?_) (fun hc17=>?_)
  .
   exact at_ x ⟨⟨by rw[hAn,if_pos hc17],by rw[hOn,if_pos hc17],hb2.2.1⟩,(by simp only[Tr.size];omega)⟩
  .
   refine br J J J (fun hc23=>?_) (fun hc23=>?_)
   .
    exact at_ y ⟨⟨by rw[hAn,if_neg hc17,if_pos hc23],by rw[hOn,if_neg hc17,if_pos hc23],hb2.2.2⟩,(by simp only[Tr.size];omega)⟩
   .
    exact rz J (by rw[hAn,hOn,if_neg hc17,if_neg hc23,if_neg hc17,if_neg hc23];rfl)
def OI(ls:List ah):(n9 ls).length<=ls.length:=by
 have:=Dh iz (ls.map ah.canon) [];unfold n9 rF;rw[aX,dT] at this;omega
theorem Y8(hl: ∀a∈l,LB a): ∀p∈pI l,aE p 4900:=fun p hp=>by
 obtain⟨h1,h2⟩:=Kf.1 hp;have hx:BQ p.x 1900:=J' (k:=900) (fun q hq=>BR hl q (pE.1 hq)) _ h1;have hy:BQ p.y 4900:=J' (k:=2400) (fun q hq=>NL hl hx q (pE.1 hq)) _ h2;exact⟨hx.mono (by decide),hy⟩
theorem Mk(h: ∀l∈ls,LB l): ∀l∈n9 ls,LB l:=fun l hl=>by
 obtain⟨x,hx,rfl⟩:=CX hl;haveI:=h x hx
 infer_instance
def VH(h: ∀l∈ls,l.ok): ∀l∈n9 ls,l.Ne:=fun l hl=>by
 obtain⟨x,hx,rfl⟩:=CX hl;exact(Ma (h x hx)).ne
structure p9 (a b:Tr):Prop where
 ga:a.gd
 gb:b.gd
 sa:a.size<=3000
 sb:b.size<=3000
theorem p9.lb{a b:Tr}(h:p9 a b): ∀l∈a.lns++b.lns,LB l:=fun l hl=>(aL.1 hl).elim (nf.1 h.ga.lb l) (nf.1 h.gb.lb l)
def p9.ok{a b:Tr}(h:p9 a b): ∀l∈a.lns++b.lns,l.ok:=fun l hl=>(aL.1 hl).elim (gF h.ga.ok l) (gF h.gb.ok l)
def p9.len(h:p9 a b):(a.lns++b.lns).length<=6000:=by rw[aY,th,th];have:=h.sa;have:=h.sb;omega
def p9.fl(h:p9 a b):(oB a b).length<=216072012001:=SF (cS (OI _) h.len)
theorem p9.fb(h:p9 a b): ∀p∈oB a b,aE p 4900:=Y8 (Mk h.lb)
def Yl(hz:(oB a b)[k]? =some p)(h:ks a p≠ks b p):tP a b=false:=by
 rw[tP,List.all_eq_false];exact⟨p,aV hz,by simpa using h⟩
def ZR(h: ∀j p,(oB a b)[j]? =some p->j<(oB a b).length->ks a p=ks b p):tP a b=true:=by
 rw[tP,dW];intro p hp;obtain⟨j,hj,rfl⟩:=nJ hp;simpa using h j _ (aZ hj) hj
def UI(h:p9 a b):PF GB prog 46 [eT a,eT b] (vB (tP a b)):=by
 have hsa:=h.sa;have hsb:=h.sb;have hll:=h.len;have hfl:=h.fl;have hla:=th a;have hlb:=th b;refine fn func46 J J ntmps46 J J (fun C=>?_);refine cr J (Df (t:=a) (by omega)) J<|cr J (Df (t:=b) (by omega)) J<|ap (hbd:=by simp only[aX];omega) ((a.lns++b.lns).map eL) J (by rw[bX]) (fP _) J<|fz 15 J J<|cl J (Oi (ls:=a.lns++b.lns) h.lb (by omega)) J<|cl (fu:=⟨1⟩) J (aDs (l:=n9 (a.lns++b.lns)) (Mk h.lb) (VH h.ok) (cS (OI _) hll)) J<|aj 18 (.d (vI ((oB a b).length:Nat))) J (by rw[aX];rfl)<|gx J<|lp (X:=Nat) (fun k=>[(19, .d (vI (k:Nat)))]) (fun k=>[]) (fun k=>k<=(oB a b).length/\ ∀j q,(oB a b)[j]? =some q->j<k->ks a q=ks b q) (fun k=>(oB a b).length-k) 0 J ⟨bV _,fun j q _ hj=>absurd hj (by omega)⟩ (fun _=>J) (fun k hk=>?_);obtain⟨k1,k2⟩:=hk;refine br J J J (fun hc20=>?_) (fun hc20=>?_)
 .
  obtain⟨p,hz⟩: ∃s,(oB a b)[k]? =some s:=⟨_,aZ (by omega)⟩;haveI hpb:=h.fb p (aV hz);refine ix _ J (cD (l:=oB a b) hz) J<|cl J (Ou (t:=a) (p:=p) (i:=4900) h.ga.lb) J<|cl J (Ou (t:=b) (p:=p) (i:=4900) h.gb.lb) J<|bb J J J (fun hc37=>?_) (fun hc37=>?_)
  .
   exact rz J (by rw[Yl hz (by simpa using hc37)];rfl)
  .
   exact at_ (k+1) ⟨⟨by omega,fun j q hq hj=>by by_cases e:j=k;(subst e;rw[hz] at hq;cases hq;simpa using hc37);exact k2 j q hq (by omega)⟩,(by omega)⟩
 .
  exact rz J (by rw[ZR fun j q hq hj=>k2 j q hq (by omega)];rfl)

def ZI{l:ah}(hl:l.ok)(hm:m.ok)(h:co l.dir m.dir=0): ∃k e:Rat,0<k/\ ∀p,m.value p=k*l.value p+e:=by
 obtain⟨h1,h2⟩:=Nk.1 h;have z1:=tA hl;have key: ∃k:Rat,0<k/\m.dir.x=k*l.dir.x/\m.dir.y=k*l.dir.y:=by
  unfold aa.cross at h2;rcases ld l.dir with⟨e,k⟩|⟨e,k⟩|⟨e,k⟩
  .rw[e] at h1
   have k2:=mj.1 h1.symm;rcases k with k|⟨k,k'⟩
   .have y2:0<m.dir.y:=by
     rcases k2 with k2|⟨k2,k3⟩
     .exact k2
     .exfalso
      rw[k2] at h2;have:=bD k k3;grind
    refine⟨m.dir.y/l.dir.y,?_,by grind,by grind⟩;have:0<m.dir.y/l.dir.y:=(eD k).1 (by rw[show m.dir.y/l.dir.y*l.dir.y=m.dir.y by grind];exact y2);exact this
   .rw[k] at h2
    have y2:m.dir.y=0:=by
     rcases fV.1 (show l.dir.x*m.dir.y=0 by grind) with q|q
     .rw[q] at k';exact absurd k' (by decide)
     .exact q
    have x2:0<m.dir.x:=by
     rcases k2 with k2|⟨_,k3⟩
     .rw[y2] at k2;exact absurd k2 (by decide)
     .exact k3
    refine⟨m.dir.x/l.dir.x,(eD k').1 (by rw[show m.dir.x/l.dir.x*l.dir.x=m.dir.x by grind];exact x2),by grind,by rw[y2,k];grind⟩
  .rw[e] at h1
   have k2:=p7.1 h1.symm;rcases k with k|⟨k,k'⟩
   .have y2:m.dir.y<0:=by
     rcases k2 with k2|⟨k2,k3⟩
     .exact k2
     .exfalso
      rw[k2] at h2;have:=bD (show 0< -l.dir.y by grind) (show 0< -m.dir.x by grind);grind
    refine⟨m.dir.y/l.dir.y,(eD (show 0< -l.dir.y by grind)).1 (by rw[show m.dir.y/l.dir.y* -l.dir.y= -m.dir.y by grind];grind),by grind,by grind⟩
   .rw[k] at h2
    have y2:m.dir.y=0:=by
     rcases fV.1 (show l.dir.x*m.dir.y=0 by grind) with q|q
     .rw[q] at k';exact absurd k' (by decide)
     .exact q
    have x2:m.dir.x<0:=by
     rcases k2 with k2|⟨_,k3⟩
     .rw[y2] at k2;exact absurd k2 (by decide)
     .exact k3
    refine⟨m.dir.x/l.dir.x,(eD (show 0< -l.dir.x by grind)).1 (by rw[show m.dir.x/l.dir.x* -l.dir.x= -m.dir.x by grind];grind),by grind,by rw[y2,k];grind⟩
  .exact absurd e z1
 obtain⟨k,k0,kx,ky⟩:=key;simp only[ah.dir] at kx ky;refine⟨k,(m.c:Rat)-k*(l.c:Rat),k0,fun p=>?_⟩;rw[jb,jb,kx];have:(m.a:Rat)=k*(l.a:Rat):=by grind
 rw[this];grind
def Sg(hne: ∃q,bm e q){l:ah}(hl:l.ok)(hm:m.ok)(pl: ∀p,bm e p->0<l.value p)(pm: ∀p,bm e p->0<m.value p)(tl: ∃p,gv e p/\l.value p=0)(tm: ∃p,gv e p/\m.value p=0)(ha:co l.dir m.dir=0):l=m:=by
 obtain⟨k,c,k0,hk⟩:=ZI hl hm ha;obtain⟨p,p1,p2⟩:=tl;obtain⟨q,q1,q2⟩:=tm;have g1:=ug hne pm p1;rw[hk,p2] at g1;have g2:=ug hne pl q1;have g3:=cA (cM k0) g2;rw[hk] at q2;have c0:c=0:=by grind
 have hz: ∀t,m.value (l.at t)=0:=fun t=>by rw[hk,mv hl.ne,c0];grind
 rcases w5 hm hl hz with h|h
 .exact h.symm
 .exfalso
  obtain⟨u,hu⟩:=hne;have a:=pl u hu;have b:=pm u hu;rw[h,dE] at b;grind
def x6{c:ar}(hc:bC c)(hs:s∈c):gv c (s.l.at s.v.sample)/\s.l.value (s.l.at s.v.sample)=0:=
 ⟨((hc.edge s hs).2 _).1 (oy (hc.edge s hs).1).has,mv (hc.ok s hs).ne _⟩
def gq(c:ar):Prop:=(c.map fun s=>s.l.dir).Pairwise ce
def H6{p:Nat->Bool}{N:Nat}(hm: ∀i j,i<=j->j<N->p j=true->p i=true): ∀(d i j:Nat),j-i<=d->i<=j->j<=N->(∀k,k<i->p k=true)->(∀k,j<=k->k<N->p k=false)->(∀k,k<gh p i j->p k=true)/\ ∀k,gh p i j<=k->k<N->p k=false
 |0,i,j,h,hij,hN,h1,h2=>by
  obtain rfl:i=j:=by omega
  rw[gh,dif_neg (by omega)];exact⟨h1,h2⟩
 |d+1,i,j,h,hij,hN,h1,h2=>by
  by_cases q:i<j
  .rw[gh,dif_pos q]
   by_cases r:p ((i+j)/2)=true
   .rw[if_pos r]
    exact H6 hm d _ _ (by omega) (by omega) hN (fun k hk=>hm k ((i+j)/2) (by omega) (by omega) r) h2
   .rw[if_neg r]
    refine H6 hm d _ _ (by omega) (by omega) (by omega) h1 fun k hk hkN=>?_
    cases hp:p k with
    |false=>rfl
    |true=>exact absurd (hm _ k hk hkN hp) r
  .obtain rfl:i=j:=by omega
   rw[gh,dif_neg q];exact⟨h1,h2⟩
def Pz{ds:List aa}{d:aa}(h:ds.Pairwise ce)(h1: ∀x∈ds.take n,ce x d)(h2: ∀x∈ds.drop n,ce d x):(ds.take n++d::ds.drop n).Pairwise ce:=by
 have hs:=h;rw[<-kV n ds,gT] at hs;obtain⟨a,b,c⟩:=hs;rw[gT];refine⟨a,bY.2 ⟨h2,b⟩,fun x hx y hy=>?_⟩;rcases aK.1 hy with rfl|hy
 .exact h1 x hx
 .exact c x hx y hy
def KM(l:ah): ∀c:ar,((ek l c).map fun s=>s.l.dir).Sublist (c.map fun s=>s.l.dir)
 |[]=>List.Sublist.refl _
 |s::c=>by
  rw[ek];split
  .exact(KM l c).cons_cons _
  .exact(KM l c).cons _
def Tu{l:List α}{x:α}(h:x∈l.take n): ∃i,i<n/\l[i]? =some x:=by
 obtain⟨i,hi,e⟩:=oR.1 h;rw[bR] at hi;exact⟨i,by omega,by rw[List.getElem_take] at e;rw[aZ (by omega),e]⟩
def Qb{l:List α}{x:α}(h:x∈l.drop n): ∃i,n<=i/\i<l.length/\l[i]? =some x:=by
 obtain⟨i,hi,e⟩:=oR.1 h;rw[gU] at hi;exact⟨n+i,by omega,by omega,by rw[List.getElem_drop] at e;rw[aZ (by omega),e]⟩
def Ki{c:ar}{l:ah}(hc:bC c)(hl:l.ok)(ha:gq c)(hb:cx c l=true):gq (bB c l):=by
 have hg:=(gH hc hl hb).1;unfold bB at hg⊢
 cases hp:kd c l with
 |none=>exact ha
 |some v=>
  simp only[hp] at hg⊢;have hs:gq (ek l c):=ha.sublist (KM l c);have nt: ∀s∈ek l c,co s.l.dir l.dir≠0:=fun s h e=>by
   have m1:s∈lI (ek l c) l v:=qr.2 (.inr h);have m2:(⟨l,v⟩:bu)∈lI (ek l c) l v:=qr.2 (.inl J);have ee:=Sg hg.ne (hg.ok s m1) hl (fun p hp=>hp s m1) (fun p hp=>hp ⟨l,v⟩ m2) ⟨_,x6 hg m1⟩ ⟨_,x6 hg m2⟩ e;obtain⟨s0,g1,_,rfl⟩:=sr.1 h;obtain⟨_,q,q1,q2⟩:=GR hl.ne hp;have h5:=q1 s0 g1;have e5:s0.l=l:=ee;rw[e5] at h5;grind
  generalize ek l c=d at*;have hmo: ∀i j,i<=j->j<d.length->jj d l j=true->jj d l i=true:=fun i j hij hj h=>by
   unfold jj at h⊢;rw[aZ hj] at h;rw[aZ (by omega)];simp only[decide_eq_true_eq,mE] at h⊢;by_cases q:i=j
   .subst q;exact h
   .have:=mW.1 hs i j (by simp;omega) (by simp;omega) (by omega)
    simp only[qY] at this;exact uH this h
  obtain⟨k1,k2⟩:=H6 hmo d.length 0 d.length (by omega) (by omega) (bW _) (fun k h=>absurd h (by omega)) (fun k h h'=>absurd h' (by omega));unfold lI gq;generalize gh (jj d l) 0 d.length=n at*;rw[bX,bU,iT,jV];refine Pz hs (fun x hx=>?_) (fun x hx=>?_)
  .rw[<-iT] at hx
   obtain⟨s,h1,rfl⟩:=aU.1 hx;obtain⟨i,hi,e⟩:=Tu h1;have:=k1 i hi;unfold jj at this;rw[e] at this;simpa[mE] using this
  .rw[<-jV] at hx
   obtain⟨s,h1,rfl⟩:=aU.1 hx;obtain⟨i,hi,hi2,e⟩:=Qb h1;have:=k2 i hi hi2;unfold jj at this;rw[e] at this;have h3: ¬ce s.l.dir l.dir:=by simpa[mE] using this
   by_cases q:ce l.dir s.l.dir
   .exact q
   .exact absurd (Eb h3 q) (nt s (gR h1))
def HN: ∀{t:Tr} {c:ar},t.all ah.ok->bC c->gq c-> ∀x∈t.parts c,gq x.2
 | .leaf b,c,_,_,ha,x,h=>by
  rw[Tr.parts,aT] at h;subst h;exact ha
 | .node l u v,c,ht,hc,ha,x,h=>by
  rw[Tr.parts] at h;rcases aL.1 h with h|h
  .split at h
   .rename_i hb
    exact HN ht.2.1 (gH hc ht.1 hb).1 (Ki hc ht.1 ha hb) x h
   .cases h
  .split at h
   .rename_i hb
    exact HN ht.2.2 (gH hc ht.1.rev hb).1 (Ki hc ht.1.rev ha hb) x h
   .cases h
def ui(c:List ah):Prop:=(c.map ah.dir).Pairwise ce
def HZ(hs: ∀s∈e,s.l∈c){l:ah}(hl:l.ok)(he:(ge l c ao.all).isSome=true): ∃w:ao,w.Pos/\ ∀t,w.ins t->gv e (l.at t)/\l.value (l.at t)=0/\ ∀m∈c,m≠l->0<m.value (l.at t):=by
 obtain⟨w,hw⟩:=rZ.1 he;obtain⟨h1,h2⟩:=F4 l c _ w As hw;refine⟨w,h1,fun t ht=>?_⟩;have h3:=((h2 t).1 ht).2;refine⟨fun s hs'=>?_,mv hl.ne t,h3⟩;by_cases q:s.l=l
 .rw[q,mv hl.ne];exact gS
 .exact cM (h3 _ (hs s hs') q)
def ME{α:Type}{p:α->Bool}: ∀(l:List α),(∀i x,i<(l.takeWhile p).length->l[i]? =some x->p x=true)/\ ∀x,l[(l.takeWhile p).length]? =some x->p x=false
 |[]=>⟨fun i x h _=>by simp at h,fun x h=>by simp at h⟩
 |a::l=>by
  obtain⟨h1,h2⟩:=ME (p:=p) l;rw[pX]
  cases ha:p a with
  |false=>
   refine⟨fun i x h _=>by simp at h,fun x h=>?_⟩;simp at h;rw[<-h];exact ha
  |true=>
   simp only[if_true,aN];refine⟨fun i x h e=>?_,fun x h=>h2 x (by simpa using h)⟩
   cases i with
   |zero=>simp at e;rw[<-e];exact ha
   |succ i=>exact h1 i x (by omega) (by simpa using e)
def aoL{l:ah}(ha:ui out)(ht: ∀m∈out,co m.dir l.dir=0->m=l):ui (pO out l):=by
 unfold pO;split
 .exact ha
 .rename_i hne
  obtain⟨k1,k2⟩:=ME (p:=fun x:ah=>decide (co x.dir l.dir<0)) out;have e0:n7 out l=(out.takeWhile fun x=>decide (co x.dir l.dir<0)).length:=J;rw[<-e0] at k1 k2;generalize n7 out l=n at*;unfold ui;rw[bX,bU,iT,jV];refine Pz ha (fun x hx=>?_) (fun x hx=>?_)
  .rw[<-iT] at hx
   obtain⟨m,h1,rfl⟩:=aU.1 hx;obtain⟨i,hi,e⟩:=Tu h1;simpa[mE] using k1 i m hi e
  .rw[<-jV] at hx
   obtain⟨m,h1,rfl⟩:=aU.1 hx;obtain⟨i,hi,hi2,e⟩:=Qb h1;have hn:n<out.length:=by omega
   have h3: ¬ce (out[n]).dir l.dir:=by simpa[mE] using k2 _ (aZ hn)
   have h4:ce l.dir (out[n]).dir:=by
    by_cases q:ce l.dir (out[n]).dir
    .exact q
    .exact absurd (by rw[aZ hn,ht _ (cN hn) (Eb h3 q)]) hne
   by_cases q:i=n
   .subst q
    rw[aZ hn] at e
    cases e
    exact h4
   .have:=mW.1 ha n i (by simp;omega) (by simp;omega) (by omega)
    simp only[qY] at this;rw[aZ hi2] at e
    cases e
    exact uH h4 this
def KI{c:List ah}(ht: ∀l∈c,∀m∈c,(ge l c ao.all).isSome=true->(ge m c ao.all).isSome=true->co m.dir l.dir=0->m=l): ∀{t out:List ah},(∀l∈t,l∈c)->(∀m∈out,m∈c/\(ge m c ao.all).isSome=true)->ui out->ui (nO c t out)
 |[],out,_,_,ha=>ha
 |l::t,out,hc,ho,ha=>by
  have hl:=hc l aQ;rw[nO];by_cases q:(ge l c ao.all).isSome=true
  .rw[if_pos q]
   refine KI ht (fun l h=>hc l (aJ _ h)) (fun m hm=>?_) (aoL ha fun m hm e=>ht l hl m (ho m hm).1 q (ho m hm).2 e);rcases GX.1 hm with rfl|h
   .exact⟨hl,q⟩
   .exact ho m h
  .rw[if_neg q]
   exact KI ht (fun l h=>hc l (aJ _ h)) ho ha
def WM(hok: ∀l∈c,l.ok)(hne: ∃p,f9 c p):ui (iH c):=by
 obtain⟨e,_,hg,hi,hs⟩:=Cx hok hne;refine KI (fun l hl m hm el em h=>?_) (fun l h=>h) (fun m h=>by cases h) .nil;obtain⟨w1,p1,k1⟩:=HZ (fun s h=>(hs s h).1) (hok l hl) el;obtain⟨w2,p2,k2⟩:=HZ (fun s h=>(hs s h).1) (hok m hm) em;obtain⟨a1,a2,_⟩:=k1 _ (oy p1);obtain⟨b1,b2,_⟩:=k2 _ (oy p2);exact Sg hg.ne (hok m hm) (hok l hl) (fun p hp=>(hi p).1 hp m hm) (fun p hp=>(hi p).1 hp l hl) ⟨_,b1,b2⟩ ⟨_,a1,a2⟩ h
def LE{v:ao}{t:Rat}(h:v.ins t)(k:v.has u):v.ins ((t+u)*(1/2)):=by
 obtain⟨lo,hi,nl,nh⟩:=v;unfold ao.ins at*;unfold ao.has at k
 cases nl<;>cases nh<;>simp at* <;>grind
def CP{c:ar}(hc: ∃q,bm c q)(h: ∀p,bm c p↔bm d p)(hp:gv c p):gv d p:=fun s hs=>ug hc (fun q hq=>(h q).1 hq s hs) hp
def Wa(hok: ∀l∈c,l.ok)(hd:bC d)(h: ∀p,bm d p↔f9 c p)(l:ah):l∈d.map (·.l)↔l∈iH c:=by
 have hne: ∃p,f9 c p:=hd.ne.elim fun q hq=>⟨q,(h q).1 hq⟩;obtain⟨e,_,hg,hi,hs⟩:=Cx hok hne;have hde: ∀p,bm d p↔bm e p:=fun p=>by rw[h,hi]
 constructor
 .intro hl
  obtain⟨s,k,rfl⟩:=aU.1 hl;obtain⟨t1,t2⟩:=x6 hd k;have t3:=CP hd.ne hde t1;have: ¬bm e (s.l.at s.v.sample):=fun q=>by
   have:=(hde _).2 q s k;rw[t2] at this;exact absurd this (by decide)
  obtain⟨u,hu,hz⟩: ∃u∈e,u.l.value (s.l.at s.v.sample)=0:=by
   by_cases q: ∃u∈e,u.l.value (s.l.at s.v.sample)=0
   .exact q
   .exfalso
    refine this fun u hu=>?_;have g1:=t3 u hu;have g2:u.l.value (s.l.at s.v.sample)≠0:=fun e=>q ⟨u,hu,e⟩;grind
  have:=MH hd k (hg.ok u hu) (fun p hp=>(hde p).1 hp u hu) hz;rw[<-this];exact tH.2 (hs u hu)
 .intro hl
  obtain⟨l1,l2⟩:=tH.1 hl;obtain⟨w,p1,k1⟩:=HZ (fun s h=>(hs s h).1) (hok l l1) l2;have hed: ∀p,bm e p↔bm d p:=fun p=>(hde p).symm;have hi1:=oy p1;obtain⟨⟨u1,m1,n1⟩,⟨u2,m2,n2⟩⟩:=H8 hi1;have g1:=LE hi1 n1;have g2:=LE hi1 n2;obtain⟨c0,c1,_⟩:=k1 _ hi1;have c2:=CP hg.ne hed c0;have: ¬bm d (l.at w.sample):=fun q=>by
   have:=(h _).1 q l l1;rw[c1] at this;exact absurd this (by decide)
  obtain⟨s,hsd,hz⟩: ∃s∈d,s.l.value (l.at w.sample)=0:=by
   by_cases q: ∃u∈d,u.l.value (l.at w.sample)=0
   .exact q
   .exfalso
    refine this fun u hu=>?_;have g1:=c2 u hu;have g2:u.l.value (l.at w.sample)≠0:=fun e=>q ⟨u,hu,e⟩;grind
  have e1:=CP hg.ne hed (k1 _ g1).1 s hsd;have e2:=CP hg.ne hed (k1 _ g2).1 s hsd;rw[ly] at hz e1 e2;have hK:l.cutK s.l=0:=by
   rcases fg (l.cutK s.l) with h|h|h
   .exact h
   .exfalso
    have:=bD (a:=w.sample-u1) (b:=l.cutK s.l) (by grind) h;grind
   .exfalso
    have:=bD (a:=u2-w.sample) (b:= -l.cutK s.l) (by grind) (by grind);grind
  have hz2: ∀t,s.l.value (l.at t)=0:=fun t=>by rw[ly,hK];rw[hK] at hz;grind
  rcases w5 (hd.ok s hsd) (hok l l1) hz2 with q|q
  .rw[<-q];exact dZ hsd
  .exfalso
   obtain⟨u,hu⟩:=hd.ne;have a:=hu s hsd;have b:=(h u).1 hu l l1;rw[q,dE] at a;grind
def Uc: ∀{l m:List ah},ui l->ui m->(∀x,x∈l↔x∈m)->l=m
 |[],[],_,_,_=>rfl
 |[],b::m,_,_,h=>absurd ((h b).2 aQ) (by simp)
 |a::l,[],_,_,h=>absurd ((h a).1 aQ) (by simp)
 |a::l,b::m,h1,h2,h=>by
  obtain⟨p1,p2⟩:=bY.1 h1;obtain⟨q1,q2⟩:=bY.1 h2;have p1': ∀x∈l,ce a.dir x.dir:=fun x hx=>p1 _ (dZ hx);have q1': ∀x∈m,ce b.dir x.dir:=fun x hx=>q1 _ (dZ hx);have e:a=b:=by
   rcases aK.1 ((h a).1 aQ) with e|e
   .exact e
   .rcases aK.1 ((h b).2 aQ) with f|f
    .exact f.symm
    .exact(zt (q1' a e) (p1' b f)).elim
  subst e;congr 1;refine Uc p2 q2 fun x=>⟨fun hx=>?_,fun hx=>?_⟩
  .rcases aK.1 ((h x).1 (aJ _ hx)) with e|e
   .subst e;exact(ry _ (p1' _ hx)).elim
   .exact e
  .rcases aK.1 ((h x).2 (aJ _ hx)) with e|e
   .subst e;exact(ry _ (q1' _ hx)).elim
   .exact e
def V0(hok: ∀l∈c,l.ok)(hd:bC d)(ha:gq d)(h: ∀p,bm d p↔f9 c p):iH c=d.map (·.l):=by
 refine Uc (WM hok (hd.ne.elim fun q hq=>⟨q,(h q).1 hq⟩)) ?_ fun x=>(Wa hok hd h x).symm;unfold ui;rw[List.map_map];exact ha
def TF{c:ar}(hc:bC c)(hs:s∈c)(h:s.v.nh=true): ∀u∈c,0<=u.l.nor.dot s.l.dir:=fun u hu=>by
 obtain⟨p1,p2⟩:=hc.edge s hs;have hi:=(oy p1).has;have key: ∀n:Rat,0<=n->0<=u.l.value (s.l.at (s.v.sample+n)):=fun n hn=>((p2 _).1 ⟨hi.1.imp id fun q=>by grind, .inl h⟩) u hu;have h0:=key 0 (by decide);rw[ly] at h0;by_cases q:0<=u.l.nor.dot s.l.dir
 .exact q
 .exfalso
  have q':0< -(s.l.cutK u.l):=by unfold ah.cutK;grind
  have h1:=key ((s.l.cutC u.l+s.v.sample*s.l.cutK u.l+1)/ -(s.l.cutK u.l)) (by
   have:=(eD (s:=(s.l.cutC u.l+s.v.sample*s.l.cutK u.l+1)/ -(s.l.cutK u.l)) q').1 (by rw[show(s.l.cutC u.l+s.v.sample*s.l.cutK u.l+1)/ -(s.l.cutK u.l)* -(s.l.cutK u.l)=s.l.cutC u.l+s.v.sample*s.l.cutK u.l+1 by grind];grind);grind)
  rw[ly] at h1;have:(s.l.cutC u.l+s.v.sample*s.l.cutK u.l+1)/ -(s.l.cutK u.l)*s.l.cutK u.l= -(s.l.cutC u.l+s.v.sample*s.l.cutK u.l+1):=by grind
  grind
def XP{c:ar}(hc:bC c)(hs:s∈c)(h:s.v.nl=true): ∀u∈c,u.l.nor.dot s.l.dir<=0:=fun u hu=>by
 obtain⟨p1,p2⟩:=hc.edge s hs;have hi:=(oy p1).has;have key: ∀n:Rat,0<=n->0<=u.l.value (s.l.at (s.v.sample-n)):=fun n hn=>((p2 _).1 ⟨.inl h,hi.2.imp id fun q=>by grind⟩) u hu;have h0:=key 0 (by decide);rw[ly] at h0;by_cases q:u.l.nor.dot s.l.dir<=0
 .exact q
 .exfalso
  have q':0<s.l.cutK u.l:=by unfold ah.cutK;grind
  have h1:=key ((s.l.cutC u.l+s.v.sample*s.l.cutK u.l+1)/s.l.cutK u.l) (by
   have:=(eD (s:=(s.l.cutC u.l+s.v.sample*s.l.cutK u.l+1)/s.l.cutK u.l) q').1 (by rw[show(s.l.cutC u.l+s.v.sample*s.l.cutK u.l+1)/s.l.cutK u.l*s.l.cutK u.l=s.l.cutC u.l+s.v.sample*s.l.cutK u.l+1 by grind];grind);grind)
  rw[ly] at h1;have:(s.l.cutC u.l+s.v.sample*s.l.cutK u.l+1)/s.l.cutK u.l*s.l.cutK u.l=s.l.cutC u.l+s.v.sample*s.l.cutK u.l+1:=by grind
  grind
def Dw:ah:=⟨1,0,0⟩
def rj(c:List ah)(i:Nat):List aa:=
 if 0<Int.sign ((c.getD i Dw).dir.cross (c.getD ((i+1)%c.length) Dw).dir).num then [dm (c.getD i Dw) (c.getD ((i+1)%c.length) Dw)] else []
def jH(c:List ah):List aa:=(List.range c.length).flatMap (rj c)
def xy{l:ah}(h1:c[i]? =some l)(h2:c[(i+1)%c.length]? =some m):rj c i=if 0<Int.sign (l.dir.cross m.dir).num then [dm l m] else []:=by
 unfold rj;rw[aW,aW,h1,h2];rfl
def Ge(c:List ah)(k:Nat):(List.range (k+1)).flatMap (rj c)=(List.range k).flatMap (rj c)++rj c k:=by
 rw[pN,pJ];simp
def KC(c:List ah): ∀k,((List.range k).flatMap (rj c)).length<=k
 |0=>bW _
 |k+1=>by
  have:=KC c k;have h2:(rj c k).length<=1:=by unfold rj;split<;>simp
  rw[Ge,aY];omega
def Zj(h:p∈jH c): ∃l∈c,∃m∈c,p=dm l m:=by
 obtain⟨i,hi,hp⟩:=iJ.1 h;have hi':=jR.1 hi;have e1:=aZ hi';have e2:=aZ (l:=c) (dK (i+1) (show 0<c.length by omega));rw[xy e1 e2] at hp;split at hp
 .exact⟨_,cN _,_,cN _,aT.1 hp⟩
 .cases hp
def aqq(ht:t.all ah.ok): ∀c∈eH t,bC c:=fun c hc=>(Fd ht bC.nil (tc.1 hc)).1
def f9.open{c:List ah}{q:aa}(u:aa)(h:f9 c q): ∃e:Rat,0<e/\ ∀d,0<=d->d<=e->f9 c (b8 q u d):=by
 have hd:bm (c.map fun m=>(⟨m,ao.all⟩:bu)) q:=fun s hs=>by
  obtain⟨m,hm,rfl⟩:=aU.1 hs;exact h m hm
 obtain⟨e,he,ho⟩:=hd.open u;exact⟨e,he,fun d d0 d1 m hm=>ho d d0 d1 ⟨m,ao.all⟩ (dZ hm)⟩
def FC(l:ah)(t u:Rat):l.at (t+u)=b8 (l.at t) l.dir u:=by
 rw[<-An,<-An];unfold b8;simp only[aa.mk.injEq];constructor<;>grind
def I5(a:Int)(h:g∣a.natAbs):(g:Int)*zv (decide (a<0)) (a.natAbs/g)=a:=by
 obtain⟨k,hk⟩:=h;by_cases g0:g=0
 .subst g0;simp at hk⊢;omega
 have e:a.natAbs/g=k:=by rw[hk];exact rL k (iS g0)
 rw[e];unfold zv;have hc:((g*k:Nat):Int)=(g:Int)*(k:Int):=by push_cast;rfl
 by_cases n:a<0
 .simp only[n,decide_true,if_true];rw[Int.mul_neg];omega
 .simp only[n,decide_false];show(g:Int)*(k:Int)=a;omega
def aC4{a b c:Int}(h: ¬(a=0/\b=0)): ∃g:Int,0<g/\g*(oG a b c).a=a/\g*(oG a b c).b=b/\g*(oG a b c).c=c:=by
 have hg:0<Nat.gcd (Nat.gcd a.natAbs b.natAbs) c.natAbs:=lN _ (iS fun e=>h ⟨kM.1 (mV e),kM.1 (mX e)⟩);refine⟨(Nat.gcd (Nat.gcd a.natAbs b.natAbs) c.natAbs:Nat),by omega,?_,?_,?_⟩
 .exact I5 a (rJ (lJ _ _) (lJ _ _))
 .exact I5 b (rJ (lJ _ _) (mZ _ _))
 .exact I5 c (mZ _ _)
end Go.Sx
end
