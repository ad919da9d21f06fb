import Derived.Test.YtmdgdhokaffbkaaGreatDoorTf16
set_option linter.all false
set_option maxHeartbeats 2000000
set_option maxRecDepth 100000
section
namespace Go.Sx
open Go Go.Proofs Tryz
variable {n k i g j:Nat}{G GB:Gh}{l m m':aa}{a b fill side:Int}{v:ak}{t:Tr}{c:List aa}{e d:az}{s f:bi}{ds:List ab}{α:Type}{out cuts:List Rat}{u p q w:ab}{rs:List (List ZP)}{y x:Rat}
def rB(ns:List NQ):Nat->Tr->Prop
 |_, .leaf _=>True
 |k, .node l x y=>ns[k]? =some ⟨l,x.num (k+1),y.num (k+1+x.size)⟩/\rB ns (k+1) x/\rB ns (k+1+x.size) y
def rB.of: ∀{t:Tr} {ns a b:List NQ} {k:Nat},ns=a++t.wr k++b->a.length=k->rB ns k t
 | .leaf _,_,_,_,_,_,_=>trivial
 | .node l x y,ns,a,b,k,e,ha=>by
  simp only[Tr.wr,fK,iT] at e;refine⟨?_,rB.of (a:=a++[⟨l,x.num (k+1),y.num (k+1+x.size)⟩]) (b:=y.wr (k+1+x.size)++b) (by rw[e];simp) (by simp[ha]),rB.of (a:=a++⟨l,x.num (k+1),y.num (k+1+x.size)⟩::x.wr (k+1)) (b:=b) (by rw[e];simp) (by rw[aU,bY,Tr.wr_len,ha];omega)⟩;rw[e,jU pb,ha,Nat.sub_self];rfl
abbrev OK (x:SV) (ns:List NQ) (A:Gh):Prop:= ∃es,gy A 8 x es/\IsLs A (ns.map eN) es
def sK(n k:Nat):List Value:=qE n (fun j=>Nat.blt j k)
def YK(n k:Nat):(sK n k).length=n:=MH _ _
def Zy(h:k<n):(sK n k)[k]? =some (.bool false):=Nn h (by rw[Bool.eq_false_iff,ne_eq,jN];omega)
def W8(n k:Nat):(sK n k).set k (.bool true)=sK n (k+1):=by
 refine(ZN n k _).trans (congrArg _ (funext fun j=>?_));unfold uX;rw[Bool.eq_iff_iff,gR,jN,jN,Nat.beq_eq];omega
def Y6{v:Value}(h:Is G (eN ⟨l,a,b⟩) v): ∃x1 x2 x3:SV,v= .agg ⟨[.bool (decide (l.a<0)), .slice x1.a x1.n x1.c, .bool (decide (l.b<0)), .slice x2.a x2.n x2.c, .bool (decide (l.c<0)), .slice x3.a x3.n x3.c, .int .i64 a, .int .i64 b]⟩/\
  Is G (eL l) (.agg ⟨[.bool (decide (l.a<0)), .slice x1.a x1.n x1.c, .bool (decide (l.b<0)), .slice x2.a x2.n x2.c, .bool (decide (l.c<0)), .slice x3.a x3.n x3.c]⟩):=Qt (n:=RN.of ⟨l,a,b⟩) h
def aEu{v:Value}(h:Is G (.tp [fj l,vB true]) v): ∃n1 d1 p1 n2 d2 p2 n3 d3 p3,v= .tuple #[.agg ⟨[.int .i64 n1, .int .i64 d1, .pointer p1, .int .i64 n2, .int .i64 d2, .pointer p2, .int .i64 n3, .int .i64 d3, .pointer p3]⟩, .bool true]/\
  Is G (fj l) (.agg ⟨[.int .i64 n1, .int .i64 d1, .pointer p1, .int .i64 n2, .int .i64 d2, .pointer p2, .int .i64 n3, .int .i64 d3, .pointer p3]⟩):=by
 obtain⟨m,rfl,g⟩:=mj.1 h;obtain⟨v1,m,rfl,h1,h⟩:=bE.1 g;obtain⟨v2,m,rfl,h2,h⟩:=bE.1 h;rw[eD] at h;subst h;obtain⟨n1,d1,p1,n2,d2,p2,n3,d3,p3,rfl⟩:=VX h1;rw[bh.1 h2];exact⟨_,_,_,_,_,_,_,_,_,J,h1⟩
def SW{vs:List Value}(hv:IsLs G [eA t] vs): ∃x:SV,x.n=(t.wr 0).length/\vs=[.agg ⟨[.int .i64 (t.num 0), .slice x.a x.n x.c]⟩]/\OK x (t.wr 0) G:=by
 obtain⟨v0,m,rfl,h0,hm⟩:=bE.1 hv;rw[eD] at hm;subst hm;obtain⟨m,rfl,g⟩:=eO.1 h0;obtain⟨v1,m,rfl,h1,hm⟩:=bE.1 g;obtain⟨v2,m,rfl,h2,hm⟩:=bE.1 hm;rw[eD] at hm;subst hm;obtain⟨s0,x,es,rfl,hsl,hes⟩:=ie.1 h2;rw[bh.1 h1];have hel:=hes.len;rw[aX] at hel;have hlen:=hsl.len;rw[hel] at hlen;refine⟨x,hlen,J,es,?_,hes⟩;rcases xp (s:=8) hsl hes (fun d hd=>by obtain⟨n,_,rfl⟩:=aN.1 hd;exact⟨rfl,rfl⟩) with e|e
 .exact⟨hsl.len,hsl.cap, .inl e⟩
 .rw[e] at hsl;exact hsl
theorem oks{p:Prop}(h:p:=by repeat (first|exact .hd .. |apply gv.tl)):p:=h
def Za{A:Gh}{ns:List NQ}{x:SV}(hx:OK x ns A)(hn:ns.length<=1000000): ∀{t:Tr} {k:Nat},rB ns k t->k+t.size<=ns.length->t.all LB->t.all aa.ok-> ∀{G:Gh} {rb sb:Nat} {lo lo2:Bool},[GL A G]->
  kl prog 137 [.pointer (some ⟨rb,0,none⟩), .int .i64 (t.num k)] [⟨rb,[.slice x.a x.n x.c, .slice (some ⟨sb,0,none⟩) ns.length ns.length, .int .i64 k, .bool false],239,lo⟩,⟨sb,sK ns.length k,4,lo2⟩] G
   (fun v css G'=> ∃p,v= .pointer p/\Is G' (eU t) (.pointer p)/\css=[[.slice x.a x.n x.c, .slice (some ⟨sb,0,none⟩) ns.length ns.length, .int .i64 (k+t.size:Nat), .bool false],sK ns.length (k+t.size)]):=by
 obtain⟨es,hx,hes⟩:=hx;have hel:=hes.len;rw[aX] at hel;have hlen:=hx.len;rw[hel] at hlen;obtain⟨xa,xn,xc⟩:=x;simp only[] at hlen;subst hlen;intro t
 induction t with
 |leaf bb=>
  intro k _ _ _ _ G rb sb lo lo2 _;refine kl.intro func137 J J ntmps137 J ?_;intro C _ _;show St C _ _ [⟨rb,_,_,false⟩,⟨sb,_,_,false⟩] _ _
  cases bb
  case true=>
   refine sR<|sa J J<|zE<|kg<|Gx<|sR<|sm J J<|sy (py J J) J<|sm J J<|ss J J J J<|ss J J J J<|?_;refine sy (IZ J J) J<|sa J J<|zE<|Fw J<|sR<|sm J J<|sy (py J J) J<|?_;refine sc (zC J J (PF.fn0 (Ou (b:=true)) (.cons (bh.2 J) .nil)) J ?_);rintro _ G1 _ hp;obtain⟨p,rfl⟩:=D5 hp;refine sa J J<|zE<|s8<|?_;exact wh (css:=[_,_]) (.tmp J .nil) J _ (List.Perm.refl _) (List.Sublist.refl _) ⟨p,J,hp,J⟩
  refine sR<|sa J J<|zE<|kg<|Gx<|sR<|sm J J<|sy (py J J) J<|sm J J<|jt J J (pA J) J<|jt J J (py J J) J<|?_;refine sy (vy J J) J<|sa J J<|zE<|Fw J<|sR<|sm J J<|sy (py J J) J<|?_;refine sc (zC J J (PF.fn0 (Ou (b:=false)) (.cons (bh.2 J) .nil)) J ?_);rintro _ G1 _ hp;obtain⟨p,rfl⟩:=D5 hp;refine sa J J<|zE<|s8<|?_;exact wh (css:=[_,_]) (.tmp J .nil) J _ (List.Perm.refl _) (List.Sublist.refl _) ⟨p,J,hp,J⟩
 |node l tx ty ih1 ih2=>
  intro k ⟨h0,h1,h2⟩ hk ⟨hb,hb1,hb2⟩ ⟨ho,ho1,ho2⟩ G rb sb lo lo2 _;haveI:=hb;have hsz:k+(Tr.node l tx ty).size=k+1+tx.size+ty.size:=by simp only[Tr.size];omega
  rw[hsz] at hk⊢;have hbn:k<ns.length:=by omega
  obtain⟨z,hzi,hz⟩:=hes.get (i:=k) (by rw[cY,h0];rfl);obtain⟨x1,x2,x3,rfl,hzg⟩:=Y6 hz;refine kl.intro func137 J J ntmps137 J ?_;intro C _ _;show St C _ [(0, .pointer (some ⟨rb,0,none⟩)),(1, .int .i64 (k:Int))] [⟨rb,[.slice xa ns.length xc, .slice (some ⟨sb,0,none⟩) ns.length ns.length, .int .i64 k, .bool false],_,false⟩,⟨sb,sK ns.length k,_,false⟩] _ _;refine sR<|sa J J<|zE<|kg<|Gx<|sR<|sm J J<|sy (py J J) J<|sm J J<|?_;refine FU 12 J (fun hg=>absurd hg pb) (fun hg=>?_);refine jt J J (pA J) J<|jt J J (py J J) J<|sy (vy J J) J<|sa J J<|zE<|?_;refine yg J (fun hc=>absurd hc pb) (fun _=>?_);refine sR<|sm J J<|sy (K6 J J) J<|sm J J<|?_;refine FU 22 J (fun hg=>absurd hg pb) (fun hg=>?_);refine jt J J (pA J) J<|jt J J (pA J) J<|jt J J (qD J) J<|jt J J (qC J) J<|jt J J (rh J J) J<|jt J J (ue J) J<|jt J J (Pi J J) J<|sy (vy J J) J<|sm J J<|?_;refine FU 31 J (fun hg=>absurd hg pb) (fun hg=>?_);refine jt J J (pA J) J<|jt J J (qD J) J<|jt J J (qC J) J<|jt J J (rh J J) J<|jt J J (pA J) J<|jt J J (M2 J J) J<|?_;refine jt J J (rh (v:= .bool false) J (by rw[dQ,kY];exact Zy hbn)) J<|sy (vy J J) J<|sa J J<|zE<|Ej J<|zK<|?_;refine sR<|sm J J<|sn J J<|sf J J<|ve J J J<|sm J J<|sy (M2 J J) J<|?_;refine sc (xW J J (.tl _ _ _ _ _ _ _ _ (.hd ..)) (by rw[YK,dQ,kY];exact hbn) J J ?_);rw[dQ,kY,W8];refine zE<|sR<|sm J J<|sn J J<|sf J J<|ve J J J<|sy (wS J J) J<|sn J J<|sf J J<|?_;refine sc (Z7 J J J oks (nb J) J J ?_)
  rw[show(k:Int)+1=((k+1:Nat):Int) by omega];refine zE<|sR<|sm J J<|sn J J<|sf J J<|ve J J J<|sm J J<|sy (P3 (z:=⟨xa,ns.length,xc⟩) hx J J pb (by show(k:Int)<(ns.length:Int);omega)) J<|?_;rw[dQ];refine sy (Xp (i:=k) hx J (by rw[hel];exact hbn) hzi) J<|?_;refine sc (EI J ?_);intro b5;refine sc (I4 J J J oks J (nb J) J J ?_);refine zE<|sR<|sf J J<|XD J J J<|?_;refine sc (zC J J (PF.fn0 (T2 ho) (.cons (hzg.up GL.le) .nil)) J ?_);rintro _ G6 _ hw;obtain⟨n1,d1,p1,n2,d2,p2,n3,d3,p3,rfl,hwl⟩:=aEu hw;refine sm J J<|sx J J J<|sx J J J<|?_;refine sc (EI J ?_);intro b6;refine sc (I4 J J J oks J (nb J) J J ?_);refine sa J J<|zE<|kg<|sR<|sm J J<|sy (EH J) J<|zE<|Ej J<|zK<|?_;refine sR<|sm J J<|sf J J<|ve J J J<|?_;have hrp:=ih1 h1 pb hb1 ho1 (G:=G6) (rb:=rb) (sb:=sb) (lo:=false) (lo2:=false);refine sc (Dg J J (List.perm_append_comm (l₁:=[_,_]) (l₂:=[_,_])) hrp J ?_);rintro _ css G7 _ _ ⟨q1,rfl,hp1,rfl⟩;show St C _ _ [⟨rb,[.slice xa ns.length xc, .slice (some ⟨sb,0,none⟩) ns.length ns.length, .int .i64 (k+1+tx.size:Nat), .bool false],239,false⟩,⟨sb,sK ns.length (k+1+tx.size),4,false⟩,⟨b6,[.int .i64 n1, .int .i64 d1, .pointer p1, .int .i64 n2, .int .i64 d2, .pointer p2, .int .i64 n3, .int .i64 d3, .pointer p3],243,true⟩,⟨b5,[.bool (decide (l.a<0)), .slice x1.a x1.n x1.c, .bool (decide (l.b<0)), .slice x2.a x2.n x2.c, .bool (decide (l.c<0)), .slice x3.a x3.n x3.c, .int .i64 (tx.num (k+1)), .int .i64 (ty.num (k+1+tx.size))],233,true⟩] _ _
  refine sa J J<|zE<|kg<|?_;refine Ud [⟨b6,[.int .i64 n1, .int .i64 d1, .pointer p1, .int .i64 n2, .int .i64 d2, .pointer p2, .int .i64 n3, .int .i64 d3, .pointer p3],243,true⟩,⟨b5,[.bool (decide (l.a<0)), .slice x1.a x1.n x1.c, .bool (decide (l.b<0)), .slice x2.a x2.n x2.c, .bool (decide (l.c<0)), .slice x3.a x3.n x3.c, .int .i64 (tx.num (k+1)), .int .i64 (ty.num (k+1+tx.size))],233,true⟩] (fun _=>false) [(0,true),(1,true),(2,true),(3,true),(4,true),(5,false),(6,false),(7,true)] follows we<|?_;refine dL J J J J<|dM J J J<|dM J J J<|dF J J J<|Au J J J J<|?_;have hrp:=ih2 h2 hk hb2 ho2 (G:=G7) (rb:=rb) (sb:=sb) (lo:=false) (lo2:=false);refine dc J J (Dg J J (M:=[_,_]) (rest:=[_,_]) (List.Perm.refl _) hrp J ?_);rintro _ css G8 _ _ ⟨q2,rfl,hp2,rfl⟩;show St C _ _ [⟨rb,[.slice xa ns.length xc, .slice (some ⟨sb,0,none⟩) ns.length ns.length, .int .i64 (k+1+tx.size+ty.size:Nat), .bool false],239,false⟩,⟨sb,sK ns.length (k+1+tx.size+ty.size),4,false⟩,⟨b6,[.int .i64 n1, .int .i64 d1, .pointer p1, .int .i64 n2, .int .i64 d2, .pointer p2, .int .i64 n3, .int .i64 d3, .pointer p3],243,true⟩,⟨b5,[.bool (decide (l.a<0)), .slice x1.a x1.n x1.c, .bool (decide (l.b<0)), .slice x2.a x2.n x2.c, .bool (decide (l.c<0)), .slice x3.a x3.n x3.c, .int .i64 (tx.num (k+1)), .int .i64 (ty.num (k+1+tx.size))],233,true⟩] _ _;refine xe<|?_;refine dc J J (zC J J (PF.fn0 (Cy (l:=l) (x:=tx) (y:=ty)) (.cons (hwl.up GL.le) (.cons (hp1.up GL.le) (.cons hp2 .nil)))) J ?_);rintro _ G9 _ hp;obtain⟨p,rfl⟩:=D5 hp
  refine xe<|dA J J J<|dn<|s8<|?_;exact wh (css:=[_,_]) (.tmp J .nil) J _ (List.Perm.refl _) (.cons_cons _ (.cons_cons _ (kW _))) ⟨p,J,hp,J⟩
def VG(hb:t.all LB)(ho:t.all aa.ok)(hs:t.size<=65536):PF GB prog 73 [eA t] (.tp [eU t,vB true]):=by
 intro G vs _ hv;obtain⟨⟨xa,xn,xc⟩,rfl,rfl,hx⟩:=SW hv;have hn:=t.wr_len 0;show Fn _ _ [.agg ⟨[.int .i64 (t.num 0), .slice xa (t.wr 0).length xc]⟩] _ _;refine Fn.intro func73 J J ntmps73 J ?_;intro C _ _;refine sR<|?_;refine sc (DY J J ?_);intro b1;refine sa J J<|sa J J<|zE<|kg<|sR<|sf J J<|ve J J J<|Ft J J<|sy (Ef J J) J<|zE<|?_;refine yg J (fun hc=>absurd hc pb) (fun _=>?_);refine zK<|kg<|dr (fun _=>false) [(0,true),(1,true),(2,true),(3,true),(4,true),(5,false),(6,true),(7,false),(8,true)] follows we<|dF J J J<|?_;refine Au J J J J<|dF J J J<|Au J J J J<|dy J (fun _=>ue J) J J<|?_;refine dc J J (I7 J J pb pb pb (by rfl) J ?_);intro b2;rw[dQ,We];refine xe<|dy J (fun _=>EX J) J J<|?_;refine dc J J (DY J J ?_);intro b3;refine xe<|dA J J J<|dn<|sR<|sm J J<|sf J J<|ve J J J<|?_;refine sc (Dg J J (M:=[_,_]) (rest:=[_]) (List.Perm.refl _) (Za hx pb (rB.of (a:=[]) (b:=[]) (k:=0) v8 J) pb hb ho (G:=G) (rb:=b3) (sb:=b2) (lo:=true) (lo2:=true)) J ?_);rintro _ css G4 _ _ ⟨p,rfl,hp,rfl⟩;show St C _ _ [⟨b3,[.slice xa (t.wr 0).length xc, .slice (some ⟨b2,0,none⟩) (t.wr 0).length (t.wr 0).length, .int .i64 (0+t.size:Nat), .bool false],239,true⟩,⟨b2,sK (t.wr 0).length (0+t.size),4,true⟩,⟨b1,[.int .i64 (t.num 0), .slice xa (t.wr 0).length xc],69,true⟩] _ _;refine sa J J<|zE<|kg<|kg<|dr (fun _=>false) [(0,true),(1,true),(2,true),(3,true),(4,true),(5,true),(6,true),(7,true),(8,true),(9,true),(10,true),(11,true),(12,true),(13,true)] follows we<|?_
 refine dM J J J<|dy J (fun _=>qD J) J J<|dF J J J<|Au J J J J<|dM J J J<|?_;refine sH J J J J (fun _=>pA J) J<|sH J J J J (fun _=>qD J) J<|sH J J J J (fun _=>qC J) J<|sH J J J J (fun _=>rh J J) J<|?_;refine sH J J J J (fun _=>qC J) J<|sH J J J J (fun _=>rh J J) J<|sH J J J J (fun _=>ue J) J<|sH J J J J (fun _=>MW J J) J<|?_;refine dy J (fun _=>vy J J) J J<|dn<|?_;refine yg J (fun hc=>absurd hc pb) (fun _=>?_);refine zK<|sR<|sm J J<|sa J J<|sa J J<|zE<|s8<|?_;refine zD (.tmp J (.tmp J .nil)) ?_;exact mj.2 ⟨_,J, .cons hp (.cons (bh.2 J) .nil)⟩
def XN(h:gj k t):PF GB prog 73 [eA t] (.tp [eU t,vB true]):=VG h.lb h.ok (by have:=h.s;omega)


def DZ(hok: ∀l∈c,l.ok):pd c=true↔ ∃p,cw c p:=by
 rw[<-vj hok];unfold pd gG
 cases c with
 |nil=>simp
 |cons a b=>
  rw[if_neg omk];simp only[decide_eq_true_eq,aX,List.isEmpty_cons,Bool.false_or,jX];constructor
  .intro h
   obtain⟨m,hm⟩:=List.exists_mem_of_length_pos (l:=c7 (a::b)) pb;exact⟨m,lF.1 hm⟩
  .rintro ⟨m,hm⟩
   have:=List.length_pos_of_mem (lF.2 hm);omega
def ez:Tr->List aa->List (List aa×Bool)
 | .leaf b,c=>if pd c then [(c7 c,b)] else []
 | .node l x y,c=>if pd c then ez x (c7 c++[l])++ez y (c7 c++[l.rev]) else []
def zc: ∀(t:Tr) (c:List aa),(ez t c).length<=t.size+1
 | .leaf _,c=>by rw[ez];split<;>simp[Tr.size]
 | .node l x y,c=>by
  have h1:=zc x (c7 c++[l]);have h2:=zc y (c7 c++[l.rev]);rw[ez,Tr.size];split
  .rw[aU];omega
  .simp
def U3(hl:l.ok)(hm:m.ok)(h:fq l.dir m.dir=0): ∃k e:Rat,0<k/\ ∀p,m.value p=k*l.value p+e:=by
 obtain⟨h1,h2⟩:=QN.1 h;have z1:=E9 hl;have key: ∃k:Rat,0<k/\m.dir.x=k*l.dir.x/\m.dir.y=k*l.dir.y:=by
  unfold ab.cross at h2;rcases rG l.dir with⟨e,k⟩|⟨e,k⟩|⟨e,k⟩
  .rw[e] at h1
   have k2:=mr.1 h1.symm;rcases k with k|⟨k,k'⟩
   .have y2:0<m.dir.y:=by
     rcases k2 with k2|⟨k2,k3⟩
     .exact k2
     .exfalso
      rw[k2] at h2;have:=eE k k3;grind
    refine⟨m.dir.y/l.dir.y,?_,v7,v7⟩;have:0<m.dir.y/l.dir.y:=(im k).1 (by rw[show m.dir.y/l.dir.y*l.dir.y=m.dir.y by grind];exact y2);exact this
   .rw[k] at h2
    have y2:m.dir.y=0:=by
     rcases fS.1 (show l.dir.x*m.dir.y=0 by grind) with q|q
     .rw[q] at k';exact absurd k' v6
     .exact q
    have x2:0<m.dir.x:=by
     rcases k2 with k2|⟨_,k3⟩
     .rw[y2] at k2;exact absurd k2 v6
     .exact k3
    refine⟨m.dir.x/l.dir.x,(im k').1 (by rw[show m.dir.x/l.dir.x*l.dir.x=m.dir.x by grind];exact x2),v7,by rw[y2,k];grind⟩
  .rw[e] at h1
   have k2:=rC.1 h1.symm;rcases k with k|⟨k,k'⟩
   .have y2:m.dir.y<0:=by
     rcases k2 with k2|⟨k2,k3⟩
     .exact k2
     .exfalso
      rw[k2] at h2;have:=eE (show 0< -l.dir.y by grind) (show 0< -m.dir.x by grind);grind
    refine⟨m.dir.y/l.dir.y,(im (show 0< -l.dir.y by grind)).1 (by rw[show m.dir.y/l.dir.y* -l.dir.y= -m.dir.y by grind];grind),v7,v7⟩
   .rw[k] at h2
    have y2:m.dir.y=0:=by
     rcases fS.1 (show l.dir.x*m.dir.y=0 by grind) with q|q
     .rw[q] at k';exact absurd k' v6
     .exact q
    have x2:m.dir.x<0:=by
     rcases k2 with k2|⟨_,k3⟩
     .rw[y2] at k2;exact absurd k2 v6
     .exact k3
    refine⟨m.dir.x/l.dir.x,(im (show 0< -l.dir.x by grind)).1 (by rw[show m.dir.x/l.dir.x* -l.dir.x= -m.dir.x by grind];grind),v7,by rw[y2,k];grind⟩
  .exact absurd e z1
 obtain⟨k,k0,kx,ky⟩:=key;simp only[aa.dir] at kx ky;refine⟨k,(m.c:Rat)-k*(l.c:Rat),k0,fun p=>?_⟩;rw[iF,iF,kx];have:(m.a:Rat)=k*(l.a:Rat):=by grind
 rw[this];grind
def Mr(hne: ∃q,bw e q)(hl:l.ok)(hm:m.ok)(pl: ∀p,bw e p->0<l.value p)(pm: ∀p,bw e p->0<m.value p)(tl: ∃p,lH e p/\l.value p=0)(tm: ∃p,lH e p/\m.value p=0)(ha:fq l.dir m.dir=0):l=m:=by
 obtain⟨k,c,k0,hk⟩:=U3 hl hm ha;obtain⟨p,p1,p2⟩:=tl;obtain⟨q,q1,q2⟩:=tm;have g1:=qn hne pm p1;rw[hk,p2] at g1;have g2:=qn hne pl q1;have g3:=cB (cM k0) g2;rw[hk] at q2;have c0:c=0:=by grind
 have hz: ∀t,m.value (l.at t)=0:=fun t=>by rw[hk,kC hl.ne,c0];grind
 rcases wD hm hl hz with h|h
 .exact h.symm
 .exfalso
  obtain⟨u,hu⟩:=hne;have a:=pl u hu;have b:=pm u hu;rw[h,fE] at b;grind
def xS{c:az}(hc:bO c)(hs:s∈c):lH c (s.l.at s.v.sample)/\s.l.value (s.l.at s.v.sample)=0:=
 ⟨((hc.edge s hs).2 _).1 (m9 (hc.edge s hs).1).has,kC (hc.ok s hs).ne _⟩
def jO(c:az):Prop:=(c.map fun s=>s.l.dir).Pairwise dC
def FQ{p:Nat->Bool}{N:Nat}(hm: ∀i j,i<=j->j<N->p j=true->p i=true): ∀(d i j:Nat),j-i<=d->i<=j->j<=N->(∀k,k<i->p k=true)->(∀k,j<=k->k<N->p k=false)->(∀k,k<fG p i j->p k=true)/\ ∀k,fG p i j<=k->k<N->p k=false
 |0,i,j,h,hij,hN,h1,h2=>by
  obtain rfl:i=j:=by omega
  rw[fG,dif_neg pb];exact⟨h1,h2⟩
 |d+1,i,j,h,hij,hN,h1,h2=>by
  by_cases q:i<j
  .rw[fG,dif_pos q]
   by_cases r:p ((i+j)/2)=true
   .rw[if_pos r]
    exact FQ hm d _ _ pb pb hN (fun k hk=>hm k ((i+j)/2) pb pb r) h2
   .rw[if_neg r]
    refine FQ hm d _ _ pb pb pb h1 fun k hk hkN=>?_
    cases hp:p k with
    |false=>rfl
    |true=>exact absurd (hm _ k hk hkN hp) r
  .obtain rfl:i=j:=by omega
   rw[fG,dif_neg q];exact⟨h1,h2⟩
def NF{d:ab}(h:ds.Pairwise dC)(h1: ∀x∈ds.take n,dC x d)(h2: ∀x∈ds.drop n,dC d x):(ds.take n++d::ds.drop n).Pairwise dC:=by
 have hs:=h;rw[<-jK n ds,eY] at hs;obtain⟨a,b,c⟩:=hs;rw[eY];refine⟨a,bN.2 ⟨h2,b⟩,fun x hx y hy=>?_⟩;rcases aT.1 hy with rfl|hy
 .exact h1 x hx
 .exact c x hx y hy
def D8(l:aa): ∀c:az,((dO l c).map fun s=>s.l.dir).Sublist (c.map fun s=>s.l.dir)
 |[]=>List.Sublist.refl _
 |s::c=>by
  rw[dO];split
  .exact(D8 l c).cons_cons _
  .exact(D8 l c).cons _
def JF{l:List α}{x:α}(h:x∈l.take n): ∃i,i<n/\l[i]? =some x:=by
 obtain⟨i,hi,e⟩:=lT.1 h;rw[bR] at hi;exact⟨i,pb,by rw[List.getElem_take] at e;rw[aQ pb,e]⟩
def Ik{l:List α}{x:α}(h:x∈l.drop n): ∃i,n<=i/\i<l.length/\l[i]? =some x:=by
 obtain⟨i,hi,e⟩:=lT.1 h;rw[gU] at hi;exact⟨n+i,pb,pb,by rw[List.getElem_drop] at e;rw[aQ pb,e]⟩
def HA{c:az}(hc:bO c)(hl:l.ok)(ha:jO c)(hb:c6 c l=true):jO (b4 c l):=by
 have hg:=(jp hc hl hb).1;unfold b4 at hg⊢
 cases hp:jP c l with
 |none=>exact ha
 |some v=>
  simp only[hp] at hg⊢;have hs:jO (dO l c):=ha.sublist (D8 l c);have nt: ∀s∈dO l c,fq s.l.dir l.dir≠0:=fun s h e=>by
   have m1:s∈kG (dO l c) l v:=oH.2 (.inr h);have m2:(⟨l,v⟩:bi)∈kG (dO l c) l v:=oH.2 (.inl J);have ee:=Mr hg.ne (hg.ok s m1) hl (fun p hp=>hp s m1) (fun p hp=>hp ⟨l,v⟩ m2) ⟨_,xS hg m1⟩ ⟨_,xS hg m2⟩ e;obtain⟨s0,g1,_,rfl⟩:=p6.1 h;obtain⟨_,q,q1,q2⟩:=DM hl.ne hp;have h5:=q1 s0 g1;have e5:s0.l=l:=ee;rw[e5] at h5;grind
  generalize dO l c=d at*;have hmo: ∀i j,i<=j->j<d.length->iI d l j=true->iI d l i=true:=fun i j hij hj h=>by
   unfold iI at h⊢;rw[aQ hj] at h;rw[aQ pb];simp only[decide_eq_true_eq,vH] at h⊢;by_cases q:i=j
   .subst q;exact h
   .have:=lZ.1 hs i j omk omk pb
    simp only[kU] at this;exact yw this h
  obtain⟨k1,k2⟩:=FQ hmo d.length 0 d.length pb pb (bZ _) (fun k h=>absurd h pb) (fun k h h'=>absurd h' pb);unfold kG jO;generalize fG (iI d l) 0 d.length=n at*;rw[bQ,cZ,gT,iW];refine NF hs (fun x hx=>?_) (fun x hx=>?_)
  .rw[<-gT] at hx
   obtain⟨s,h1,rfl⟩:=aN.1 hx;obtain⟨i,hi,e⟩:=JF h1;have:=k1 i hi;unfold iI at this;rw[e] at this;simpa[vH] using this
  .rw[<-iW] at hx
   obtain⟨s,h1,rfl⟩:=aN.1 hx;obtain⟨i,hi,hi2,e⟩:=Ik h1;have:=k2 i hi hi2;unfold iI at this;rw[e] at this;have h3: ¬dC s.l.dir l.dir:=by simpa[vH] using this
   by_cases q:dC l.dir s.l.dir
   .exact q
   .exact absurd (OM h3 q) (nt s (gK h1))
def Gq: ∀{t:Tr} {c:az},t.all aa.ok->bO c->jO c-> ∀x∈t.parts c,jO x.2
 | .leaf b,c,_,_,ha,x,h=>by
  rw[Tr.parts,aW] at h;subst h;exact ha
 | .node l u v,c,ht,hc,ha,x,h=>by
  rw[Tr.parts] at h;rcases bJ.1 h with h|h
  .split at h
   .rename_i hb
    exact Gq ht.2.1 (jp hc ht.1 hb).1 (HA hc ht.1 ha hb) x h
   .cases h
  .split at h
   .rename_i hb
    exact Gq ht.2.2 (jp hc ht.1.rev hb).1 (HA hc ht.1.rev ha hb) x h
   .cases h
def qz(c:List aa):Prop:=(c.map aa.dir).Pairwise dC
def Hj(hs: ∀s∈e,s.l∈c)(hl:l.ok)(he:(et l c ak.all).isSome=true): ∃w:ak,w.Pos/\ ∀t,w.ins t->lH e (l.at t)/\l.value (l.at t)=0/\ ∀m∈c,m≠l->0<m.value (l.at t):=by
 obtain⟨w,hw⟩:=pM.1 he;obtain⟨h1,h2⟩:=x5 l c _ w uu hw;refine⟨w,h1,fun t ht=>?_⟩;have h3:=((h2 t).1 ht).2;refine⟨fun s hs'=>?_,kC hl.ne t,h3⟩;by_cases q:s.l=l
 .rw[q,kC hl.ne];exact fR
 .exact cM (h3 _ (hs s hs') q)
def LE{α:Type}{p:α->Bool}: ∀(l:List α),(∀i x,i<(l.takeWhile p).length->l[i]? =some x->p x=true)/\ ∀x,l[(l.takeWhile p).length]? =some x->p x=false
 |[]=>⟨fun i x h _=>by simp at h,fun x h=>by simp at h⟩
 |a::l=>by
  obtain⟨h1,h2⟩:=LE (p:=p) l;rw[nT]
  cases ha:p a with
  |false=>
   refine⟨fun i x h _=>by simp at h,fun x h=>?_⟩;simp at h;rw[<-h];exact ha
  |true=>
   simp only[if_true,bY];refine⟨fun i x h e=>?_,fun x h=>h2 x omu⟩
   cases i with
   |zero=>simp at e;rw[<-e];exact ha
   |succ i=>exact h1 i x pb (by simpa using e)
def Ve{out:List aa}(ha:qz out)(ht: ∀m∈out,fq m.dir l.dir=0->m=l):qz (ng out l):=by
 unfold ng;split
 .exact ha
 .rename_i hne
  obtain⟨k1,k2⟩:=LE (p:=fun x:aa=>decide (fq x.dir l.dir<0)) out;have e0:mi out l=(out.takeWhile fun x=>decide (fq x.dir l.dir<0)).length:=J;rw[<-e0] at k1 k2;generalize mi out l=n at*;unfold qz;rw[bQ,cZ,gT,iW];refine NF ha (fun x hx=>?_) (fun x hx=>?_)
  .rw[<-gT] at hx
   obtain⟨m,h1,rfl⟩:=aN.1 hx;obtain⟨i,hi,e⟩:=JF h1;simpa[vH] using k1 i m hi e
  .rw[<-iW] at hx
   obtain⟨m,h1,rfl⟩:=aN.1 hx;obtain⟨i,hi,hi2,e⟩:=Ik h1;have hn:n<out.length:=by omega
   have h3: ¬dC (out[n]).dir l.dir:=by simpa[vH] using k2 _ (aQ hn)
   have h4:dC l.dir (out[n]).dir:=by
    by_cases q:dC l.dir (out[n]).dir
    .exact q
    .exact absurd (by rw[aQ hn,ht _ (bL hn) (OM h3 q)]) hne
   by_cases q:i=n
   .subst q
    rw[aQ hn] at e
    cases e
    exact h4
   .have:=lZ.1 ha n i omk omk pb
    simp only[kU] at this;rw[aQ hi2] at e
    cases e
    exact yw h4 this
def FH{c:List aa}(ht: ∀l∈c,∀m∈c,(et l c ak.all).isSome=true->(et m c ak.all).isSome=true->fq m.dir l.dir=0->m=l): ∀{t out:List aa},(∀l∈t,l∈c)->(∀m∈out,m∈c/\(et m c ak.all).isSome=true)->qz out->qz (mf c t out)
 |[],out,_,_,ha=>ha
 |l::t,out,hc,ho,ha=>by
  have hl:=hc l aZ;rw[mf];by_cases q:(et l c ak.all).isSome=true
  .rw[if_pos q]
   refine FH ht (fun l h=>hc l (aK _ h)) (fun m hm=>?_) (Ve ha fun m hm e=>ht l hl m (ho m hm).1 q (ho m hm).2 e);rcases Hd.1 hm with rfl|h
   .exact⟨hl,q⟩
   .exact ho m h
  .rw[if_neg q]
   exact FH ht (fun l h=>hc l (aK _ h)) ho ha
def W9(hok: ∀l∈c,l.ok)(hne: ∃p,cw c p):qz (c7 c):=by
 obtain⟨e,_,hg,hi,hs⟩:=BU hok hne;refine FH (fun l hl m hm el em h=>?_) (fun l h=>h) (fun m h=>by cases h) .nil;obtain⟨w1,p1,k1⟩:=Hj (fun s h=>(hs s h).1) (hok l hl) el;obtain⟨w2,p2,k2⟩:=Hj (fun s h=>(hs s h).1) (hok m hm) em;obtain⟨a1,a2,_⟩:=k1 _ (m9 p1);obtain⟨b1,b2,_⟩:=k2 _ (m9 p2);exact Mr hg.ne (hok m hm) (hok l hl) (fun p hp=>(hi p).1 hp m hm) (fun p hp=>(hi p).1 hp l hl) ⟨_,b1,b2⟩ ⟨_,a1,a2⟩ h
def NP{t u:Rat}(h:v.ins t)(k:v.has u):v.ins ((t+u)*(1/2)):=by
 obtain⟨lo,hi,nl,nh⟩:=v;unfold ak.ins at*;unfold ak.has at k
 cases nl<;>cases nh<;>simp at* <;>grind
def A2{c:az}(hc: ∃q,bw c q)(h: ∀p,bw c p↔bw d p)(hp:lH c p):lH d p:=fun s hs=>qn hc (fun q hq=>(h q).1 hq s hs) hp
def Sm(hok: ∀l∈c,l.ok)(hd:bO d)(h: ∀p,bw d p↔cw c p)(l:aa):l∈d.map (·.l)↔l∈c7 c:=by
 have hne: ∃p,cw c p:=hd.ne.elim fun q hq=>⟨q,(h q).1 hq⟩;obtain⟨e,_,hg,hi,hs⟩:=BU hok hne;have hde: ∀p,bw d p↔bw e p:=fun p=>by rw[h,hi]
 constructor
 .intro hl
  obtain⟨s,k,rfl⟩:=aN.1 hl;obtain⟨t1,t2⟩:=xS hd k;have t3:=A2 hd.ne hde t1;have: ¬bw e (s.l.at s.v.sample):=fun q=>by
   have:=(hde _).2 q s k;rw[t2] at this;exact absurd this v6
  obtain⟨u,hu,hz⟩: ∃u∈e,u.l.value (s.l.at s.v.sample)=0:=by
   by_cases q: ∃u∈e,u.l.value (s.l.at s.v.sample)=0
   .exact q
   .exfalso
    refine this fun u hu=>?_;have g1:=t3 u hu;have g2:u.l.value (s.l.at s.v.sample)≠0:=fun e=>q ⟨u,hu,e⟩;grind
  have:=Np hd k (hg.ok u hu) (fun p hp=>(hde p).1 hp u hu) hz;rw[<-this];exact lF.2 (hs u hu)
 .intro hl
  obtain⟨l1,l2⟩:=lF.1 hl;obtain⟨w,p1,k1⟩:=Hj (fun s h=>(hs s h).1) (hok l l1) l2;have hed: ∀p,bw e p↔bw d p:=fun p=>(hde p).symm;have hi1:=m9 p1;obtain⟨⟨u1,m1,n1⟩,⟨u2,m2,n2⟩⟩:=Ez hi1;have g1:=NP hi1 n1;have g2:=NP hi1 n2;obtain⟨c0,c1,_⟩:=k1 _ hi1;have c2:=A2 hg.ne hed c0;have: ¬bw d (l.at w.sample):=fun q=>by
   have:=(h _).1 q l l1;rw[c1] at this;exact absurd this v6
  obtain⟨s,hsd,hz⟩: ∃s∈d,s.l.value (l.at w.sample)=0:=by
   by_cases q: ∃u∈d,u.l.value (l.at w.sample)=0
   .exact q
   .exfalso
    refine this fun u hu=>?_;have g1:=c2 u hu;have g2:u.l.value (l.at w.sample)≠0:=fun e=>q ⟨u,hu,e⟩;grind
  have e1:=A2 hg.ne hed (k1 _ g1).1 s hsd;have e2:=A2 hg.ne hed (k1 _ g2).1 s hsd;rw[jq] at hz e1 e2;have hK:l.cutK s.l=0:=by
   rcases mn (l.cutK s.l) with h|h|h
   .exact h
   .exfalso
    have:=eE (a:=w.sample-u1) (b:=l.cutK s.l) v7 h;grind
   .exfalso
    have:=eE (a:=u2-w.sample) (b:= -l.cutK s.l) v7 v7;grind
  have hz2: ∀t,s.l.value (l.at t)=0:=fun t=>by rw[jq,hK];rw[hK] at hz;grind
  rcases wD (hd.ok s hsd) (hok l l1) hz2 with q|q
  .rw[<-q];exact eK hsd
  .exfalso
   obtain⟨u,hu⟩:=hd.ne;have a:=hu s hsd;have b:=(h u).1 hu l l1;rw[q,fE] at a;grind
def OZ: ∀{l m:List aa},qz l->qz m->(∀x,x∈l↔x∈m)->l=m
 |[],[],_,_,_=>rfl
 |[],b::m,_,_,h=>absurd ((h b).2 aZ) v8
 |a::l,[],_,_,h=>absurd ((h a).1 aZ) v8
 |a::l,b::m,h1,h2,h=>by
  obtain⟨p1,p2⟩:=bN.1 h1;obtain⟨q1,q2⟩:=bN.1 h2;have p1': ∀x∈l,dC a.dir x.dir:=fun x hx=>p1 _ (eK hx);have q1': ∀x∈m,dC b.dir x.dir:=fun x hx=>q1 _ (eK hx);have e:a=b:=by
   rcases aT.1 ((h a).1 aZ) with e|e
   .exact e
   .rcases aT.1 ((h b).2 aZ) with f|f
    .exact f.symm
    .exact(y7 (q1' a e) (p1' b f)).elim
  subst e;congr 1;refine OZ p2 q2 fun x=>⟨fun hx=>?_,fun hx=>?_⟩
  .rcases aT.1 ((h x).1 (aK _ hx)) with e|e
   .subst e;exact(uO _ (p1' _ hx)).elim
   .exact e
  .rcases aT.1 ((h x).2 (aK _ hx)) with e|e
   .subst e;exact(uO _ (q1' _ hx)).elim
   .exact e
def U1(hok: ∀l∈c,l.ok)(hd:bO d)(ha:jO d)(h: ∀p,bw d p↔cw c p):c7 c=d.map (·.l):=by
 refine OZ (W9 hok (hd.ne.elim fun q hq=>⟨q,(h q).1 hq⟩)) ?_ fun x=>(Sm hok hd h x).symm;unfold qz;rw[sN];exact ha
def W7(h:pd c≠true)(t:Tr):ez t c=[]:=by
 cases t<;>rw[ez,if_neg h]
def Ep: ∀{t:Tr} {c:List aa} {d:az},t.all aa.ok->(∀l∈c,l.ok)->bO d->jO d->(∀p,bw d p↔cw c p)->ez t c=(t.parts d).map fun x=>(x.2.map (·.l),x.1)
 | .leaf b,c,d,_,hok,hd,ha,h=>by
  have hb:pd c=true:=(DZ hok).2 (hd.ne.elim fun q hq=>⟨q,(h q).1 hq⟩);rw[ez,if_pos hb,Tr.parts,U1 hok hd ha h];rfl
 | .node l x y,c,d,ht,hok,hd,ha,h=>by
  have hne: ∃p,cw c p:=hd.ne.elim fun q hq=>⟨q,(h q).1 hq⟩;have hb:pd c=true:=(DZ hok).2 hne;have hck: ∀m∈c7 c,m.ok:=fun m hm=>hok m (lF.1 hm).1;have go: ∀(k:aa) (u:Tr),k.ok->u.all aa.ok->(∀{c:List aa} {d:az},(∀l∈c,l.ok)->bO d->jO d->(∀p,bw d p↔cw c p)->ez u c=(u.parts d).map fun x=>(x.2.map (·.l),x.1))->ez u (c7 c++[k])=(if c6 d k then u.parts (b4 d k) else []).map fun x=>(x.2.map (·.l),x.1):=fun k u hk hu ih=>by
   have hok2:=gu hck hk;have hin: ∀p,cw (c7 c++[k]) p↔bw d p/\0<k.value p:=fun p=>by rw[i5,wH hok hne,h]
   by_cases q:c6 d k=true
   .rw[if_pos q]
    obtain⟨g1,g2⟩:=jp hd hk q;exact ih hok2 g1 (HA hd hk ha q) fun p=>by rw[g2,hin]
   .rw[if_neg q]
    refine W7 (fun e=>q ((r7 hd hk).2 ?_)) u;obtain⟨p,hp⟩:=(DZ hok2).1 e;exact⟨p,(hin p).1 hp⟩
  rw[ez,if_pos hb,Tr.parts,bQ,go l x ht.1 ht.2.1 (fun a b c d=>Ep ht.2.1 a b c d),go l.rev y ht.1.rev ht.2.2 fun a b c d=>Ep ht.2.2 a b c d]
def ek(c:az):Bool:=!c.isEmpty&&c.all fun s=>!s.v.nl&&!s.v.nh
def TS{c:az}(hc:bO c)(hs:s∈c)(h:s.v.nh=true): ∀u∈c,0<=u.l.nor.dot s.l.dir:=fun u hu=>by
 obtain⟨p1,p2⟩:=hc.edge s hs;have hi:=(m9 p1).has;have key: ∀n:Rat,0<=n->0<=u.l.value (s.l.at (s.v.sample+n)):=fun n hn=>((p2 _).1 ⟨hi.1.imp id fun q=>by grind, .inl h⟩) u hu;have h0:=key 0 v6;rw[jq] at h0;by_cases q:0<=u.l.nor.dot s.l.dir
 .exact q
 .exfalso
  have q':0< -(s.l.cutK u.l):=by unfold aa.cutK;grind
  have h1:=key ((s.l.cutC u.l+s.v.sample*s.l.cutK u.l+1)/ -(s.l.cutK u.l)) (by
   have:=(im (s:=(s.l.cutC u.l+s.v.sample*s.l.cutK u.l+1)/ -(s.l.cutK u.l)) q').1 (by rw[show(s.l.cutC u.l+s.v.sample*s.l.cutK u.l+1)/ -(s.l.cutK u.l)* -(s.l.cutK u.l)=s.l.cutC u.l+s.v.sample*s.l.cutK u.l+1 by grind];grind);grind)
  rw[jq] at h1;have:(s.l.cutC u.l+s.v.sample*s.l.cutK u.l+1)/ -(s.l.cutK u.l)*s.l.cutK u.l= -(s.l.cutC u.l+s.v.sample*s.l.cutK u.l+1):=by grind
  grind
def Vm{c:az}(hc:bO c)(hs:s∈c)(h:s.v.nl=true): ∀u∈c,u.l.nor.dot s.l.dir<=0:=fun u hu=>by
 obtain⟨p1,p2⟩:=hc.edge s hs;have hi:=(m9 p1).has;have key: ∀n:Rat,0<=n->0<=u.l.value (s.l.at (s.v.sample-n)):=fun n hn=>((p2 _).1 ⟨.inl h,hi.2.imp id fun q=>by grind⟩) u hu;have h0:=key 0 v6;rw[jq] at h0;by_cases q:u.l.nor.dot s.l.dir<=0
 .exact q
 .exfalso
  have q':0<s.l.cutK u.l:=by unfold aa.cutK;grind
  have h1:=key ((s.l.cutC u.l+s.v.sample*s.l.cutK u.l+1)/s.l.cutK u.l) (by
   have:=(im (s:=(s.l.cutC u.l+s.v.sample*s.l.cutK u.l+1)/s.l.cutK u.l) q').1 (by rw[show(s.l.cutC u.l+s.v.sample*s.l.cutK u.l+1)/s.l.cutK u.l*s.l.cutK u.l=s.l.cutC u.l+s.v.sample*s.l.cutK u.l+1 by grind];grind);grind)
  rw[jq] at h1;have:(s.l.cutC u.l+s.v.sample*s.l.cutK u.l+1)/s.l.cutK u.l*s.l.cutK u.l=s.l.cutC u.l+s.v.sample*s.l.cutK u.l+1:=by grind
  grind
def AB:aa:=⟨1,0,0⟩
def nG(c:List aa)(i:Nat):List ab:=
 if 0<Int.sign ((c.getD i AB).dir.cross (c.getD ((i+1)%c.length) AB).dir).num then [du (c.getD i AB) (c.getD ((i+1)%c.length) AB)] else []
def fA(c:List aa):List ab:=(List.range c.length).flatMap (nG c)
def oe(v:List ab)(i:Nat):List ab:=[v.getD 0 ⟨0,0⟩,v.getD (i+1) ⟨0,0⟩,v.getD (i+2) ⟨0,0⟩]
def mp(v:List ab):List (List ab):=(List.range (v.length-2)).map (oe v)
def CP(cs:List (List aa)):List (List ab):=cs.flatMap fun c=>mp (fA c)
def uz(h1:c[i]? =some l)(h2:c[(i+1)%c.length]? =some m):nG c i=if 0<Int.sign (l.dir.cross m.dir).num then [du l m] else []:=by
 unfold nG;rw[aJ,aJ,h1,h2];rfl
def xk(c:List aa)(k:Nat):(List.range (k+1)).flatMap (nG c)=(List.range k).flatMap (nG c)++nG c k:=by
 rw[sJ,nR];simp
def BG(c:List aa): ∀k,((List.range k).flatMap (nG c)).length<=k
 |0=>bZ _
 |k+1=>by
  have:=BG c k;have h2:(nG c k).length<=1:=by unfold nG;split<;>simp
  rw[xk,aU];omega
def Sy(h:p∈fA c): ∃l∈c,∃m∈c,p=du l m:=by
 obtain⟨i,hi,hp⟩:=fQ.1 h;have hi':=lU.1 hi;have e1:=aQ hi';have e2:=aQ (l:=c) (cR (i+1) (show 0<c.length by omega));rw[uz e1 e2] at hp;split at hp
 .exact⟨_,bL _,_,bL _,aW.1 hp⟩
 .cases hp
def L0(v:List ab)(k:Nat):(List.range (k+1)).map (oe v)=(List.range k).map (oe v)++[oe v k]:=by
 rw[sJ,bQ];rfl
def Z'(ht:t.all aa.ok):((ez t []).filter (·.2)).map (·.1)=(b7 t).map fun c=>c.map (·.l):=by
 rw[Ep (d:=[]) ht (fun l h=>by cases h) bO.nil .nil (fun p=>⟨fun _ _ h=>okh,fun _ _ h=>okh⟩)];unfold b7;rw[List.filter_map,sN,sN];rfl
def EV{l:aa}: ∀{c:List aa} {v:ak},(eB l c v).2=true->et l c v=some (eB l c v).1
 |[],v,_=>rfl
 |m::t,v,h=>by
  rw[eB] at h⊢;rw[et];split
  .rename_i e;rw[if_pos e] at h;exact EV h
  .rename_i e
   rw[if_neg e] at h;split
   .rename_i k;rw[if_pos k] at h;exact EV h
   .rename_i k;rw[if_neg k] at h;cases h
def Sv(h:v.Pos):v.ins (iH v):=by
 obtain⟨lo,hi,nl,nh⟩:=v;unfold ak.Pos at h;unfold iH ak.ins
 cases nl<;>cases nh<;>simp at* <;>grind
def OI{p v:ab}: ∀{c:List aa} {s:Rat},0<s->0<kH p v c s/\kH p v c s<=s/\ ∀m∈c,0<m.value p->m.nor.dot v<0->kH p v c s<= -(m.value p/m.nor.dot v)/2
 |[],s,h=>⟨h,fR,fun m hm=>by cases hm⟩
 |m::t,s,h=>by
  have hk:m.value (ce p v ((1:Int):Rat))-m.value p=m.nor.dot v:=by rw[gD];grind
  have key:0<ml p v m s/\ml p v m s<=s/\(0<m.value p->m.nor.dot v<0->ml p v m s<= -(m.value p/m.nor.dot v)/2):=by
   unfold ml qI;simp only[hk,lC,mc,yq];split
   .rename_i e;exact⟨h,fR,fun _ k=>by rw[e] at k;exact absurd k v6⟩
   .split
    .rename_i e;exact⟨h,fR,fun k=>by rw[e] at k;exact absurd k v6⟩
    .split
     .rename_i e
      split
      .exact⟨v7,v7,fun _ _=>fR⟩
      .exact⟨h,fR,fun _ _=>by grind⟩
     .rename_i e
      exact⟨h,fR,fun k1 k2=>absurd (Pq k2 k1) e⟩
  obtain⟨a1,a2,a3⟩:=key;obtain⟨b1,b2,b3⟩:=OI (p:=p) (v:=v) (c:=t) a1;rw[kH];refine⟨b1,v7,fun u hu k1 k2=>?_⟩;rcases aT.1 hu with rfl|hu
  .have:=a3 k1 k2;grind
  .exact b3 u hu k1 k2
def Yc{v:ab}(h: ∀m∈c,0<m.value p\/(m.value p=0/\0<m.nor.dot v)):cw c (vT c p v):=fun m hm=>by
 obtain⟨s0,_,s2⟩:=OI (p:=p) (v:=v) (c:=c) (s:=((1:Int):Rat)) v6;unfold vT;generalize kH p v c ((1:Int):Rat)=s at*;rw[gD];rcases h m hm with k|⟨k,k2⟩
 .by_cases q:m.nor.dot v<0
  .have h3:=s2 m hm k q
   have h4:=Pq q k;have e:m.value p/m.nor.dot v*m.nor.dot v=m.value p:=by grind
   generalize m.value p/m.nor.dot v=z at*;have h5:=cB (a:= -z/2-s) (b:= -m.nor.dot v) v7 v7;grind
  .have:=cB (cM s0) (show 0<=m.nor.dot v by grind)
   grind
 .have:=eE s0 k2
  grind
def Uf(h:m.Ne):0<m.nor.dot (oO m.dir):=by
 have:=o8 h;have e:m.nor.dot (oO m.dir)=m.nor.dot m.nor:=by unfold oO aa.dir aa.nor ab.dot;grind
 rw[e];exact this
def Yy(hok: ∀m∈c,m.ok)(hb:gG c=true):cw c (gI c c):=by
 have key: ∀t:List aa,(∀m∈t,m∈c)->(∃m∈t,(et m c ak.all).isSome=true)->cw c (gI c t):=by
  intro t
  induction t with
  |nil=>rintro _ ⟨m,hm,_⟩;cases hm
  |cons m t ih=>
   intro hs hx;rw[gI];split
   .rename_i e
    obtain⟨h1,h2⟩:=x5 m c _ _ uu (EV e);have h3:=((h2 _).1 (Sv h1)).2;have hmo:=(hok m (hs m aZ)).ne;refine Yc fun u hu=>?_;by_cases q:u=m
    .subst q;exact .inr ⟨kC hmo _,Uf hmo⟩
    .exact .inl (h3 u hu q)
   .rename_i e
    refine ih (fun u hu=>hs u (aK _ hu)) ?_;obtain⟨u,hu,h⟩:=hx;rcases aT.1 hu with rfl|hu
    .rw[t8] at e;exact absurd h e
    .exact⟨u,hu,h⟩
 unfold gG at hb;rw[gR,List.isEmpty_iff,jX] at hb;rcases hb with rfl|⟨m,hm,h⟩
 .exact fun m hm=>by cases hm
 .exact key c (fun _ h=>h) ⟨m,hm,h⟩
def cw.seg{e:Rat}(hq:cw c q)(hp:cw c p)(h0:0<=e)(h1:e<=1):cw c (bj q p e):=fun m hm=>by
 rw[lD];have a:=hq m hm;have b:=hp m hm;by_cases z:e=0
 .subst z;grind
 .have k1:=eE (show 0<e by grind) b
  have k2:=cB (show 0<=1-e by grind) (cM a);grind
def cw.open{c:List aa}{q:ab}(u:ab)(h:cw c q): ∃e:Rat,0<e/\ ∀d,0<=d->d<=e->cw c (ce q u d):=by
 have hd:bw (c.map fun m=>(⟨m,ak.all⟩:bi)) q:=fun s hs=>by
  obtain⟨m,hm,rfl⟩:=aN.1 hs;exact h m hm
 obtain⟨e,he,ho⟩:=hd.open u;exact⟨e,he,fun d d0 d1 m hm=>ho d d0 d1 ⟨m,ak.all⟩ (eK hm)⟩
def xF(l:aa)(t u:Rat):l.at (t+u)=ce (l.at t) l.dir u:=by
 rw[<-qx,<-qx];unfold ce;simp only[ab.mk.injEq];constructor<;>grind
def Xc(l:aa)(a b s:Rat):bj (l.at a) (l.at b) s=l.at (a+s*(b-a)):=by
 rw[<-qx,<-qx,<-qx];unfold bj ce;simp only[ab.mk.injEq];constructor<;>grind
def MZ(h:l.Ne)(t:Rat):fH l (l.at t)=t:=by
 obtain⟨q,_,hq⟩:=zd h;have h2:=o8 h;have e0:l.dir.dot l.dir=l.nor.dot l.nor:=by unfold aa.dir aa.nor ab.dot;grind
 have e1:(l.at t).dot l.dir=t*l.dir.dot l.dir:=by
  rw[<-qx,hq];unfold ce aa.dir ab.dot;grind
 unfold fH;rw[e1];rw[<-e0] at h2;generalize l.dir.dot l.dir=d at*;have:d≠0:=by grind
 grind
def M5(h:l.Ne)(hp:l.value p=0):l.at (fH l p)=p:=by
 obtain⟨t,rfl⟩:=CE h hp;rw[MZ h]
def GA(a:Int)(h:g∣a.natAbs):(g:Int)*zv (decide (a<0)) (a.natAbs/g)=a:=by
 obtain⟨k,hk⟩:=h;by_cases g0:g=0
 .subst g0;simp at hk⊢;omega
 have e:a.natAbs/g=k:=by rw[hk];exact Nat.mul_div_cancel_left k (iV g0)
 rw[e];unfold zv;have hc:((g*k:Nat):Int)=(g:Int)*(k:Int):=by push_cast;rfl
 by_cases n:a<0
 .simp only[n,decide_true,if_true];rw[rN];omega
 .simp only[n,decide_false];show(g:Int)*(k:Int)=a;omega
def R6{c:Int}(h: ¬(a=0/\b=0)): ∃g:Int,0<g/\g*(oD a b c).a=a/\g*(oD a b c).b=b/\g*(oD a b c).c=c:=by
 have hg:0<Nat.gcd (Nat.gcd a.natAbs b.natAbs) c.natAbs:=nM _ (iV fun e=>h ⟨mY.1 (nV e),mY.1 (nX e)⟩);refine⟨(Nat.gcd (Nat.gcd a.natAbs b.natAbs) c.natAbs:Nat),pb,?_,?_,?_⟩
 .exact GA a (rL (mK _ _) (mK _ _))
 .exact GA b (rL (mK _ _) (nQ _ _))
 .exact GA c (nQ _ _)
def QD{v w:ZP}(h:v≠w): ∃g:Rat,0<g/\(lh v.1 v.2 w.1 w.2).value v.q=0/\(lh v.1 v.2 w.1 w.2).value w.q=0/\w.q=ce v.q (lh v.1 v.2 w.1 w.2).dir g:=by
 obtain⟨m,n⟩:=v;obtain⟨p,q⟩:=w;have hne: ¬(m8 n q=0/\m6 m p=0):=fun e=>h (by unfold m8 m6 at e;rw[Prod.mk.injEq];omega);obtain⟨g,g0,ga,gb,gc⟩:=R6 (c:=uh m n p q) hne;dsimp only;unfold lh;generalize oD (m8 n q) (m6 m p) (uh m n p q)=l at*;have g0':(0:Rat)<(g:Rat):=by exact_mod_cast g0
 have ra:(g:Rat)*(l.a:Rat)= -((q:Rat)-(n:Rat)):=by rw[<-cK,ga];unfold m8;push_cast;grind
 have rb:(g:Rat)*(l.b:Rat)=(p:Rat)-(m:Rat):=by rw[<-cK,gb];unfold m6;push_cast;grind
 have rc:(g:Rat)*(l.c:Rat)= -(-((q:Rat)-(n:Rat))*(m:Rat)+((p:Rat)-(m:Rat))*(n:Rat)):=by rw[<-cK,gc];unfold uh m8 m6;push_cast;grind
 have z: ∀x:Rat,(g:Rat)*x=0->x=0:=fun x hx=>by
  rcases fS.1 hx with e|e
  .rw[e] at g0';exact absurd g0' v6
  .exact e
 refine⟨g,g0',z _ ?_,z _ ?_,?_⟩
 .rw[iF];unfold ZP.q iP;dsimp only;grind
 .rw[iF];unfold ZP.q iP;dsimp only;grind
 .unfold ZP.q iP ce aa.dir;simp only[ab.mk.injEq];constructor<;>grind
def YP{v w:ZP}(h:v≠w)(ho:(jx v w).l.ok):(jx v w).l.at (jx v w).v.lo=v.q/\(jx v w).l.at (jx v w).v.hi=w.q/\(jx v w).v.lo<(jx v w).v.hi:=by
 obtain⟨g,g0,h1,h2,h3⟩:=QD h;unfold jx at ho⊢;dsimp only at ho⊢;generalize lh v.1 v.2 w.1 w.2=l at*;have e1:=M5 ho.ne h1;have e2:=M5 ho.ne h2;refine⟨e1,e2,?_⟩;have:fH l w.q=fH l v.q+g:=by
  have e3:=xF l (fH l v.q) g;rw[e1,<-h3] at e3;rw[<-e3,MZ ho.ne]
 rw[this];grind
def IC{r:List ZP}{k:Nat}: ∀{n:Nat},k<n->jx (r.getD k (0,0)) (f5 r k)∈o4 r n
 |n+1,h=>by
  rw[o4];by_cases e:k=n
  .subst e;exact cW _ (aW.2 J)
  .exact bS _ (IC pb)
def YL{r:List ZP}(hr:dl r)(hc: ∀e∈jg r,∀t,e.v.ins t-> ¬cw c (e.l.at t))(hq:cw c q)(hp:cw c p):vG r q p:=fun k hk s t s0 s1 t0 t1 he=>by
 have hm:jx (r.getD k (0,0)) (f5 r k)∈jg r:=IC hk;have ho:=((Ce hr).2 _ hm).ok;obtain⟨e1,e2,e3⟩:=YP (hr.ne k hk) ho;have hno:=hc _ hm;have hx:=hq.seg hp t0 t1;rw[<-he,<-e1,<-e2,Xc] at hx;have hv: ∀u,(jx (r.getD k (0,0)) (f5 r k)).v.lo<u->u<(jx (r.getD k (0,0)) (f5 r k)).v.hi-> ¬cw c ((jx (r.getD k (0,0)) (f5 r k)).l.at u):=fun u h1 h2=>hno u ⟨.inr h1, .inr h2⟩;generalize jx (r.getD k (0,0)) (f5 r k)=e at*;have hb:=EK s0 s1 (fR) (cM e3) (cM e3) (fR);generalize e.v.lo+s*(e.v.hi-e.v.lo)=u at*;obtain⟨d,d0,hd⟩:=hx.open e.l.dir;obtain⟨d',d0',hd'⟩:=hx.open (kO e.l.dir);by_cases h1:e.v.lo<u
 .by_cases h2:u<e.v.hi
  .exact hv u h1 h2 hx
  .have eu:u=e.v.hi:=by grind
   obtain⟨z,z0,z1,z2⟩: ∃z:Rat,0<z/\z<=d'/\z<e.v.hi-e.v.lo:=by
    by_cases k:d'<(e.v.hi-e.v.lo)/2
    .exact⟨d',d0',fR,v7⟩
    .exact⟨(e.v.hi-e.v.lo)/2,v7,v7,v7⟩
   refine hv (u+ -z) v7 v7 ?_;rw[xF];have:=hd' z (cM z0) z1;have e5:ce (e.l.at u) (kO e.l.dir) z=ce (e.l.at u) e.l.dir (-z):=by unfold ce kO;simp only[ab.mk.injEq];constructor<;>grind
   rw[e5] at this;exact this
 .have eu:u=e.v.lo:=by grind
  obtain⟨z,z0,z1,z2⟩: ∃z:Rat,0<z/\z<=d/\z<e.v.hi-e.v.lo:=by
   by_cases k:d<(e.v.hi-e.v.lo)/2
   .exact⟨d,d0,fR,v7⟩
   .exact⟨(e.v.hi-e.v.lo)/2,v7,v7,v7⟩
  refine hv (u+z) v7 v7 ?_;rw[xF];exact hd z (cM z0) z1
def YY(hr: ∀r∈rs,dl r)(hc: ∀e∈gr rs,∀t,e.v.ins t-> ¬cw c (e.l.at t))(hq:cw c q)(hp:cw c p):jA rs fill q=jA rs fill p:=by
 have key: ∀(rs:List (List ZP)),(∀r∈rs,dl r)->(∀e∈gr rs,∀t,e.v.ins t-> ¬cw c (e.l.at t))-> ∀n:Int,rs.foldl (fun n r=>n+i0 r q) n=rs.foldl (fun n r=>n+i0 r p) n:=by
  intro rs
  induction rs with
  |nil=>intro _ _ n;rfl
  |cons r t ih=>
   intro hr hc n;rw[iM,iM,<-TE (YL (hr r aZ) (fun e he=>hc e (fQ.2 ⟨r,aZ,he⟩)) hq hp)];exact ih (fun r h=>hr r (aK _ h)) (fun e he=>hc e (by obtain⟨r,h1,h2⟩:=fQ.1 he;exact fQ.2 ⟨r,aK _ h1,h2⟩)) _
 unfold jA;rw[key rs hr hc]
def xm(h:cuts.Pairwise (· < ·))(hij:i<j)(hj:j<cuts.length):cuts.getD i 0<cuts.getD j 0:=by
 rw[aJ,aJ,aQ hj,aQ pb];exact lZ.1 h i j pb hj hij
def EQ{cuts:List Rat}{marks:List Bool}(h:cuts.Pairwise (· < ·)): ∀{k:Nat},∀v∈eH cuts marks (k+1),k<cuts.length->(v.nh=false/\v.hi<=cuts.getD k 0)/\(v.nl=true\/v.lo<cuts.getD k 0)
 |k,v,hv,hk=>by
  have hg:((c8 cuts k).nh=false/\(c8 cuts k).hi<=cuts.getD k 0)/\((c8 cuts k).nl=true\/(c8 cuts k).lo<cuts.getD k 0):=by
   unfold c8;dsimp only;refine⟨⟨by simp;omega,by rw[if_pos hk];exact fR⟩,?_⟩;by_cases z:k=0
   .left;simp[z]
   .right;rw[if_neg z];exact xm h pb hk
  have hold: ∀v∈eH cuts marks k,(v.nh=false/\v.hi<=cuts.getD k 0)/\(v.nl=true\/v.lo<cuts.getD k 0):=fun v hv=>by
   cases k with
   |zero=>cases hv
   |succ k=>
    have ih:=EQ h v hv pb;have:=xm h (Nat.lt_succ_self k) hk;exact⟨⟨ih.1.1,by have:=ih.1.2;grind⟩,ih.2.imp id fun z=>by grind⟩
  rw[eH] at hv;split at hv
  .split at hv
   .split at hv
    .rename_i w hw
     rcases bJ.1 hv with q|q
     .exact hold v ((oS _).subset q)
     .rw[aW] at q;subst q
      exact⟨hg.1,(hold w (nZ hw)).2⟩
    .rcases bJ.1 hv with q|q
     .exact hold v q
     .rw[aW] at q;subst q;exact hg
   .rcases bJ.1 hv with q|q
    .exact hold v q
    .rw[aW] at q;subst q;exact hg
  .exact hold v hv
def I1{cuts:List Rat}{marks:List Bool}(h:cuts.Pairwise (· < ·)){x:Rat}{i:Nat}(hm:marks.getD i false=true)(hx:(c8 cuts i).ins x): ∀{k:Nat},k<=cuts.length+1->i<k-> ∃v∈eH cuts marks k,v.ins x
 |k+1,hk,hi=>by
  by_cases e:i=k
  .subst e
   rw[eH,if_pos hm];split
   .rename_i h0
    split
    .rename_i w hw
     refine⟨_,cW _ (aW.2 J),?_,hx.2⟩;obtain⟨j,rfl⟩: ∃j,i=j+1:=⟨i-1,pb⟩;have:=(EQ h w (nZ hw) pb).2;have hl:=hx.1;unfold c8 at hl;dsimp only at hl;rw[if_neg pb,show j+1-1=j by omega] at hl;have hl':cuts.getD j 0<x:=hl.resolve_left v8;exact this.imp id fun z=>by show w.lo<x;grind
    .exact⟨_,cW _ (aW.2 J),hx⟩
   .exact⟨_,cW _ (aW.2 J),hx⟩
  .obtain⟨v,hv,hvx⟩:=I1 h hm hx (k:=k) pb pb
   rw[eH];split
   .split
    .split
     .rename_i w hw
      by_cases q:v=w
      .subst q
       refine⟨_,cW _ (aW.2 J),hvx.1,?_⟩;show(c8 cuts k).nh=true\/x<(c8 cuts k).hi;obtain⟨j,rfl⟩: ∃j,k=j+1:=⟨k-1,pb⟩;obtain⟨⟨b1,b2⟩,_⟩:=EQ h v hv pb;have hh:=hvx.2.resolve_left (by rw[b1];decide);unfold c8;dsimp only;by_cases z:j+1<cuts.length
       .right;rw[if_pos z];have:=xm h (Nat.lt_succ_self j) z;grind
       .left;simp;omega
      .refine⟨v,bS _ ?_,hvx⟩
       obtain⟨l,hl⟩:=List.getLast?_eq_some_iff.1 hw;rw[hl] at hv⊢;rw[List.dropLast_concat];rcases bJ.1 hv with z|z
       .exact z
       .rw[aW] at z;exact absurd z q
     .exact⟨v,bS _ hv,hvx⟩
    .exact⟨v,bS _ hv,hvx⟩
   .exact⟨v,hv,hvx⟩
def Ni: ∀{l:List Rat} {i:Nat},i+1<l.length->(gF l).getD i 0=(l.getD i 0+l.getD (i+1) 0)/2
 |[],_,h=>by simp at h
 |[_],_,h=>by simp at h
 |a::b::t,0,_=>by simp[gF]
 |a::b::t,i+1,h=>by
  have:=Ni (l:=b::t) (i:=i) (by simp at h⊢;omega);rw[gF,kM,this];simp only[kM]
def A9: ∀(l:List Rat) (a:Rat),(gF (a::l)).length=l.length
 |[],_=>rfl
 |b::t,a=>by rw[gF,bY,A9 t b,bY]
def Va(h:cuts.Pairwise (· < ·))(hi:i<=cuts.length)(hj:j<cuts.length):(cuts.getD j 0<(fg cuts).getD i 0↔j<i)/\cuts.getD j 0≠(fg cuts).getD i 0:=by
 have mono: ∀{a b:Nat},a<=b->b<cuts.length->cuts.getD a 0<=cuts.getD b 0:=fun{a b} hab hb=>by
  by_cases e:a=b
  .subst e;exact fR
  .exact cM (xm h pb hb)
 cases cuts with
 |nil=>simp at hj
 |cons a t=>
  have hl:(a::t).length=t.length+1:=J;rw[fg]
  cases i with
  |zero=>
   rw[sU];have:=mono (aL j) hj;rw[sU] at this;constructor
   .constructor
    .intro q;exfalso;grind
    .intro q;omega
   .intro q;grind
  |succ i=>
   rw[kM];by_cases e:i<t.length
   .have e1:(gF (a::t)++[(a::t).getLast v8+1]).getD i 0=((a::t).getD i 0+(a::t).getD (i+1) 0)/2:=by
     rw[<-Ni pb,aJ,aJ,fV (by rw[A9];exact e)]
    rw[e1];have h1:=xm h (Nat.lt_succ_self i) pb;by_cases q:j<=i
    .have:=mono q pb
     constructor
     .exact⟨fun _=>by omega,fun _=>by grind⟩
     .grind
    .have:=mono (show i+1<=j by omega) hj
     constructor
     .exact⟨fun _=>by exfalso;grind,fun _=>by omega⟩
     .grind
   .have ei:i=t.length:=by omega
    have e1:(gF (a::t)++[(a::t).getLast v8+1]).getD i 0=(a::t).getLast v8+1:=by
     rw[aJ,jU (by rw[A9];omega),A9,ei];simp
    rw[e1];have:=Nh h v8 ((a::t).getD j 0) (by rw[aJ,aQ hj];exact bL _);constructor
    .exact⟨fun _=>by omega,fun _=>by grind⟩
    .grind
def IP(x:Rat): ∀{cuts:List Rat},cuts.Pairwise (· < ·)-> ∃i,i<=cuts.length/\ ∀j,j<cuts.length->(cuts.getD j 0<x↔j<i)
 |[],_=>⟨0,bZ _,fun j hj=>by simp at hj⟩
 |a::t,h=>by
  rw[bN] at h;by_cases q:a<x
  .obtain⟨i,h1,h2⟩:=IP x h.2
   refine⟨i+1,by simp;exact h1,fun j hj=>?_⟩
   cases j with
   |zero=>simp[q]
   |succ j=>rw[kM,h2 j omV];omega
  .refine⟨0,aL _,fun j hj=>⟨fun k=>?_,fun k=>by omega⟩⟩
   exfalso
   cases j with
   |zero=>simp at k;grind
   |succ j=>
    rw[kM] at k;have hj':j<t.length:=by simpa using hj
    have:=h.1 (t.getD j 0) (by rw[aJ,aQ hj'];exact bL _);grind
def J7{s:ak}:y∈jE out s↔y∈out\/(s.nl=false/\y=s.lo)\/(s.nh=false/\y=s.hi):=by
 unfold jE
 cases e1:s.nl<;>cases e2:s.nh<;>simp[ot]<;>grind
def NK:fi [v] x=true↔v.ins x:=by
 unfold fi pk pk ak.ins;have h1:=Ds x v.lo;have h2:=yq x v.hi;rw[decide_eq_true_eq]
 cases e1:v.nl<;>cases e2:v.nh<;>simp only[if_true,iL,if_false,false_or,true_or,h1,h2,and_true,true_and,show(0:Int)<1 from by decide,show(-1:Int)<0 from by decide]<;>grind
def JT(hl:v.nl=true\/v.lo∈cuts)(hh:v.nh=true\/v.hi∈cuts){g:Rat}(ho: ∀u∈cuts,(u<x↔u<g)/\u≠x/\u≠g)(h:v.ins x):v.ins g:=by
 refine⟨?_,?_⟩
 .rcases hl with e|e
  .exact .inl e
  .rcases h.1 with k|k
   .exact .inl k
   .exact .inr ((ho _ e).1.1 k)
 .rcases hh with e|e
  .exact .inl e
  .rcases h.2 with k|k
   .exact .inl k
   .obtain⟨a,b,c⟩:=ho _ e
    right;by_cases q:v.hi<g
    .have:=a.2 q;grind
    .grind
def XP{w:ak}{t:Rat}(hv:v.ins t)(hw:w.ins t): ∃z∈mA 2 [v] [w],z.ins t:=by
 have hmem: ∀y,y∈f9 ([v]++[w])↔((v.nl=false/\y=v.lo)\/(v.nh=false/\y=v.hi))\/(w.nl=false/\y=w.lo)\/(w.nh=false/\y=w.hi):=fun y=>by
  show y∈jE (jE [] v) w↔_;rw[J7,J7];simp
 have hasc:=(Ed ([v]++[w])).1;have h0: ∀u∈f9 ([v]++[w]),u≠t:=fun u hu e=>by
  subst e;rcases(hmem u).1 hu with(⟨a,b⟩|⟨a,b⟩)|⟨a,b⟩|⟨a,b⟩
  .have:=hv.1.resolve_left (by rw[a];decide);grind
  .have:=hv.2.resolve_left (by rw[a];decide);grind
  .have:=hw.1.resolve_left (by rw[a];decide);grind
  .have:=hw.2.resolve_left (by rw[a];decide);grind
 have l1:v.nl=true\/v.lo∈f9 ([v]++[w]):=by
  cases e:v.nl with
  |true=>exact .inl J
  |false=>exact .inr ((hmem _).2 (.inl (.inl ⟨e,J⟩)))
 have l2:v.nh=true\/v.hi∈f9 ([v]++[w]):=by
  cases e:v.nh with
  |true=>exact .inl J
  |false=>exact .inr ((hmem _).2 (.inl (.inr ⟨e,J⟩)))
 have l3:w.nl=true\/w.lo∈f9 ([v]++[w]):=by
  cases e:w.nl with
  |true=>exact .inl J
  |false=>exact .inr ((hmem _).2 (.inr (.inl ⟨e,J⟩)))
 have l4:w.nh=true\/w.hi∈f9 ([v]++[w]):=by
  cases e:w.nh with
  |true=>exact .inl J
  |false=>exact .inr ((hmem _).2 (.inr (.inr ⟨e,J⟩)))
 unfold mA si;generalize f9 ([v]++[w])=cuts at*;obtain⟨i,hi,ho⟩:=IP t hasc;have hord: ∀u∈cuts,(u<t↔u<(fg cuts).getD i 0)/\u≠t/\u≠(fg cuts).getD i 0:=fun u hu=>by
  obtain⟨j,hj,e⟩:=lT.1 hu;have e':cuts.getD j 0=u:=by rw[aJ,aQ hj];exact e
  obtain⟨g1,g2⟩:=Va hasc hi hj;have:=ho j hj;rw[e'] at g1 g2 this;exact⟨this.trans g1.symm,h0 u hu,g2⟩
 have hlen:(fg cuts).length=cuts.length+1:=xq;refine I1 hasc (i:=i) ?_ ?_ (by rw[aX,hlen];exact bZ _) (by rw[aX,hlen];omega)
 .rw[aJ,cY,aQ pb]
  show lA 2 (fi [v] _) (fi [w] _)=true;have e:(fg cuts)[i]' pb=(fg cuts).getD i 0:=by rw[aJ,aQ pb];rfl
  rw[e,NK.2 (JT l1 l2 hord hv),NK.2 (JT l3 l4 hord hw)];rfl
 .unfold c8 ak.ins
  dsimp only;refine⟨?_,?_⟩
  .by_cases z:i=0
   .left;simp[z]
   .right;rw[if_neg z];exact(ho (i-1) pb).2 pb
  .by_cases z:i=cuts.length
   .left;simp[z]
   .right
    rw[if_pos pb];have a:=ho i pb;have b:=h0 (cuts.getD i 0) (by rw[aJ,aQ pb];exact bL _);have c: ¬cuts.getD i 0<t:=fun k=>by have:=a.1 k;omega
    grind
def Jk(h:crossI l m=0):l.cutK m=0:=by
 have e:l.cutK m= -(crossI l m:Rat):=by unfold aa.cutK aa.nor aa.dir ab.dot crossI;push_cast;grind
 rw[e,h];rfl
def XJ{k:Rat}(hs:side=1\/side= -1)(h:0<(side:Rat)*k):k.num.sign=side:=by
 rcases hs with rfl|rfl
 .exact(vv k).2 v7
 .have:k.num.sign<0:=(xv k).2 v7
  have:=sT k.num;omega
def Td(hs:side=1\/side= -1)(hl:f.l.Ne){t:Rat}(ht:f.v.ins t)(hm:0<(side:Rat)*m.value (f.l.at t)): ∃g∈dB f m side,g.l=f.l/\g.v.ins t:=by
 have hv:=jq f.l m t;have ho: ¬jH f.l m=true:=fun e=>by
  unfold jH at e;rw[decide_eq_true_eq,lC] at e;rw[Jk e.1,show f.l.cutC m=m.value f.l.base from J,e.2] at hv;rw[hv] at hm;grind
 unfold dB;rw[if_neg ho];have hh: ∃w,gH f.l m side=[w]/\w.ins t:=by
  unfold gH;by_cases hc:crossI f.l m=0
  .rw[if_pos hc]
   rw[Jk hc,show f.l.cutC m=m.value f.l.base from J] at hv;rw[if_pos (XJ hs (by rw[hv] at hm;grind))];exact⟨_,J,aB1 t⟩
  .rw[if_neg hc]
   have hp:=wM hl hc;have hK:f.l.cutK m≠0:=fun e=>by
    have e2:f.l.cutK m= -(crossI f.l m:Rat):=by unfold aa.cutK aa.nor aa.dir ab.dot crossI;push_cast;grind
    rw[e2] at e;have:(crossI f.l m:Rat)=0:=by grind
    exact hc (dK.1 this)
   generalize hx:fH f.l (du f.l m)=x at*;have hv2: ∀u,m.value (f.l.at u)=f.l.cutK m*(u-x):=fun u=>by rw[jq,hp];grind
   rw[hv2] at hm;have e1:m.value (f.l.at (x+1))=f.l.cutK m:=by rw[hv2];grind
   rw[e1];generalize f.l.cutK m=K at*;by_cases q:K.num.sign=side
   .rw[if_pos q]
    refine⟨_,J, .inr ?_, .inl J⟩;show x<t;rcases hs with rfl|rfl
    .have:=(vv K).1 q
     have:=(vR this).1 (show 0<K*(t-x) by grind);grind
    .have:=(xv K).1 pb
     have:=(DA this).1 (show K*(t-x)<0 by grind);grind
   .rw[if_neg q]
    refine⟨_,J, .inl J, .inr ?_⟩;show t<x;have h3:=mn K;rcases hs with rfl|rfl
    .have kn:K<0:=by
      rcases h3 with h|h|h
      .exact absurd h hK
      .exact absurd ((vv K).2 h) q
      .exact h
     have:=(DA kn (b:=x-t)).1 v7;grind
    .have kp:0<K:=by
      rcases h3 with h|h|h
      .exact absurd h hK
      .exact h
      .exact absurd (by have:=(xv K).2 h;have:=sT K.num;omega) q
     have:=(vR kp (b:=x-t)).1 v7;grind
 obtain⟨w,e,hw⟩:=hh;rw[e];obtain⟨z,hz,hzt⟩:=XP ht hw;exact⟨⟨f.l,z⟩,eK hz,J,hzt⟩
def Bp(E:List bi)(c:List aa)(l:List bi):Prop:= ∀e∈E,∀t,e.v.ins t->cw c (e.l.at t)-> ∃f∈l,f.l=e.l/\f.v.ins t
def Bp.split{E l:List bi}(h:Bp E c l)(hE: ∀e∈E,e.l.Ne)(hs:side=1\/side= -1)(hm': ∀p,m'.value p=(side:Rat)*m.value p):Bp E (c++[m']) (l.flatMap fun g=>dB g m side):=fun e he t ht hin=>by
 obtain⟨h1,h2⟩:=i5.1 hin;obtain⟨f,hf,ef,hft⟩:=h e he t ht h1;rw[hm'] at h2;obtain⟨g,hg,eg,hgt⟩:=Td (f:=f) hs (by rw[ef];exact hE e he) hft (by rw[ef];exact h2);exact⟨g,fQ.2 ⟨f,hf,hg⟩,by rw[eg,ef],hgt⟩
def Hr{acc:ab->Bool}{E:List bi}(hE: ∀e∈E,e.l.Ne)(ha: ∀(c:List aa) (q p:ab),(∀e∈E,∀t,e.v.ins t-> ¬cw c (e.l.at t))->cw c q->cw c p->acc q=acc p): ∀{n:Nat} {l:List bi} {c:List aa} {p:ab},(∀f∈l,lx f)->pe n l->(∀m∈c,m.ok)->Bp E c l->cw c p->dP (ij acc n l c).lns p->(ij acc n l c).val p=acc p
 |n,[],c,p,_,_,hc,hcov,hp,_=>by
  have e:ij acc n [] c= .leaf (acc (gI c c)):=by cases n<;>rfl
  rw[e,Tr.val];exact ha c _ _ (fun e he t ht hin=>by obtain⟨f,hf,_⟩:=hcov e he t ht hin;cases hf) (Yy hc ((vj hc).2 ⟨p,hp⟩)) hp
 |0,f::t,_,_,_,hf,_,_,_,_=>by
  obtain⟨K,hK,hs⟩:=hf;obtain⟨m,hm,_⟩:=hs f aZ;have:K=[]:=cV pb;rw[this] at hm;cases hm
 |n+1,f::t,c,p,hok,hf,hc,hcov,hp,hoff=>by
  have fo:=hok f aZ;have hok': ∀side,∀g∈(f::t).flatMap fun g=>dB g f.l side,lx g:=fun side g hg=>by
   obtain⟨q,hq,hg⟩:=fQ.1 hg;exact(Ct (hok q hq) fo.lb g hg).1
  rw[ij] at hoff⊢;by_cases q:0<f.l.value p
  .rw[Tr.val_pos q]
   exact Hr hE ha (hok' 1) (hf.split hok) (gu hc fo.ok) (hcov.split hE (.inl J) fun p=>by grind) (i5.2 ⟨hp,q⟩) hoff.x
  .rw[Tr.val_neg q]
   have:=hoff.l;exact Hr hE ha (hok' (-1)) (hf.split hok) (gu hc fo.ok.rev) (hcov.split hE (.inr J) fun p=>by rw[fE];grind) (i5.2 ⟨hp,by rw[fE];grind⟩) hoff.y
def Pu(hr: ∀r∈rs,dl r)(ho:dP (so rs fill).lns p):(kw rs fill).val p=jA rs fill p:=by
 obtain⟨h1,h2⟩:=qA hr;have hok:(so rs fill).all aa.ok:=tE fun f hf=>(h2 f hf).ok;unfold kw;rw[Tr.val_restrict _ _ _ hok bO.nil (fun s hs=>by cases hs) ho];unfold so at ho⊢;refine Hr (E:=gr rs) (fun e he=>(h2 e he).ok.ne) (fun c q p hno hq hp=>YY hr hno hq hp) h2 ?_ (fun m hm=>by cases hm) (fun e he t ht _=>⟨e,he,J,ht⟩) (fun m hm=>by cases hm) ho;exact⟨(gr rs).map (·.l),by rw[aX];exact bZ _,fun f hf=>⟨f.l,eK hf, .inl J⟩⟩
structure Mx where
 ax:Rat
 ay:Rat
 ac:Rat
def Mx.ev(g:Mx)(p:ab):Rat:=g.ax*p.x+g.ay*p.y+g.ac
section
variable {v:ab}{b c:Bool}
end
def DO: ∀(c:az) (A B:bi->Rat),(∀u∈c,0<=A u/\(0<=B u\/0<A u))-> ∃e:Rat,0<e/\ ∀u∈c,0<=A u+e*B u
 |[],_,_,_=>⟨1,v6,fun u hu=>by cases hu⟩
 |s::t,A,B,h=>by
  obtain⟨e,e0,he⟩:=DO t A B fun u hu=>h u (aK _ hu);obtain⟨h1,h2⟩:=h s aZ;have hold: ∀q,0<=q->q<=e-> ∀u∈t,0<=A u+q*B u:=fun q q0 q1 u hu=>Eu (h u (aK _ hu)).1 (he u hu) q0 q1;by_cases hb:0<=B s
  .refine⟨e,e0,fun u hu=>?_⟩
   rcases aT.1 hu with rfl|hu
   .have:=cB (cM e0) hb;grind
   .exact he u hu
  .have ha:=h2.resolve_left hb
   have hq:0<A s/ -(B s):=(im (k:= -(B s)) v7).1 (by rw[show A s/ -(B s)* -(B s)=A s by grind];exact ha);have hm:A s/ -(B s)* -(B s)=A s:=by grind
   generalize A s/ -(B s)=q at*;by_cases k:q<=e
   .refine⟨q,hq,fun u hu=>?_⟩
    rcases aT.1 hu with rfl|hu
    .grind
    .exact hold q (cM hq) k u hu
   .refine⟨e,e0,fun u hu=>?_⟩
    rcases aT.1 hu with rfl|hu
    .have:=cB (show 0<=q-e by grind) (show 0<= -(B u) by grind)
     grind
    .exact he u hu
def CB(l m:aa)(t e:Rat):m.value (l.at (t+e))=m.value (l.at t)+e*m.nor.dot l.dir:=by
 rw[xF,gD]
def wB(h:s.v.Pos)(nh:s.v.nh=false):s.v.has s.v.hi:=by
 unfold ak.Pos at h;refine⟨?_, .inr fR⟩;rcases h with h|h|h
 .exact .inl h
 .rw[nh] at h;cases h
 .exact .inr (cM h)
def Ff(h:s.v.Pos)(nl:s.v.nl=false):s.v.has s.v.lo:=by
 unfold ak.Pos at h;refine⟨.inr fR,?_⟩;rcases h with h|h|h
 .rw[nl] at h;cases h
 .exact .inl h
 .exact .inr (cM h)
def aBp{c:az}(hc:bO c)(hs:s∈c)(nh:s.v.nh=false): ∃u∈c,u.l.value (s.l.at s.v.hi)=0/\u.l.nor.dot s.l.dir<0:=by
 obtain⟨p1,p2⟩:=hc.edge s hs;have hin:=(p2 _).1 (wB p1 nh);by_cases q: ∃u∈c,u.l.value (s.l.at s.v.hi)=0/\u.l.nor.dot s.l.dir<0
 .exact q
 .exfalso
  obtain⟨e,e0,he⟩:=DO c (fun u=>u.l.value (s.l.at s.v.hi)) (fun u=>u.l.nor.dot s.l.dir) fun u hu=>by
   have h1:=hin u hu;refine⟨h1,?_⟩;by_cases k:0<=u.l.nor.dot s.l.dir
   .exact .inl k
   .right
    by_cases z:u.l.value (s.l.at s.v.hi)=0
    .exact absurd ⟨u,hu,z,v7⟩ q
    .grind
  have hh:=(p2 (s.v.hi+e)).2 fun u hu=>by rw[CB];exact he u hu
  have:=hh.2;rw[nh] at this;rcases this with z|z
  .cases z
  .grind
def Um{c:az}(hc:bO c)(hs:s∈c)(nl:s.v.nl=false): ∃u∈c,u.l.value (s.l.at s.v.lo)=0/\0<u.l.nor.dot s.l.dir:=by
 obtain⟨p1,p2⟩:=hc.edge s hs;have hin:=(p2 _).1 (Ff p1 nl);by_cases q: ∃u∈c,u.l.value (s.l.at s.v.lo)=0/\0<u.l.nor.dot s.l.dir
 .exact q
 .exfalso
  obtain⟨e,e0,he⟩:=DO c (fun u=>u.l.value (s.l.at s.v.lo)) (fun u=> -(u.l.nor.dot s.l.dir)) fun u hu=>by
   have h1:=hin u hu;refine⟨h1,?_⟩;by_cases k:0<= -(u.l.nor.dot s.l.dir)
   .exact .inl k
   .right
    by_cases z:u.l.value (s.l.at s.v.lo)=0
    .exact absurd ⟨u,hu,z,v7⟩ q
    .grind
  have hh:=(p2 (s.v.lo+ -e)).2 fun u hu=>by rw[CB];have:=he u hu;grind
  have:=hh.1;rw[nl] at this;rcases this with z|z
  .cases z
  .grind
def Ov(h:ds.Pairwise dC){s:ab}(hs:ds[i]? =some s)(hw:ds[(i+1)%ds.length]? =some w):uF ds s w:=by
 obtain⟨hi,rfl⟩:=aS.1 hs;obtain⟨hj,rfl⟩:=aS.1 hw;have hp:=lZ.1 h;by_cases e:i+1<ds.length
 .have em:(i+1)%ds.length=i+1:=gQ e
  left;simp only[em];refine⟨hp i (i+1) hi e pb,fun d hd=>?_⟩;obtain⟨j,hj,rfl⟩:=lT.1 hd;rintro ⟨a,b⟩;rcases qL j i with k|k|k
  .exact y7 a (hp j i hj hi k)
  .subst k;exact uO _ a
  .by_cases z:j=i+1
   .subst z;exact uO _ b
   .exact y7 b (hp (i+1) j e hj pb)
 .have ei:i+1=ds.length:=by omega
  have em:(i+1)%ds.length=0:=by rw[ei,Nat.mod_self]
  right;simp only[em];refine⟨fun d hd a=>?_,fun d hd b=>?_⟩
  .obtain⟨j,hj,rfl⟩:=lT.1 hd
   by_cases k:j=i
   .subst k;exact uO _ a
   .exact y7 a (hp j i hj hi pb)
  .obtain⟨j,hj,rfl⟩:=lT.1 hd
   by_cases k:j=0
   .subst k;exact uO _ b
   .exact y7 b (hp 0 j pb hj pb)
def RS{s:ab}(hs:s.half≠0)(hw:w.half≠0)(hu:u.half≠0)(h1:0<s.cross u)(h2:0<u.cross w)(h3:0<s.cross w)(e:s.half=w.half):u.half=s.half:=by
 rcases l9 hs with k|k
 .rw[k] at e⊢
  have a:=mr.1 k;have b:=mr.1 e.symm;rw[mr];unfold ab.cross at*
  -- u is between s and w
  have i1:(s.x*w.y-s.y*w.x)*u.y=(u.x*w.y-u.y*w.x)*s.y+(s.x*u.y-s.y*u.x)*w.y:=by grind
  have i2:(s.x*w.y-s.y*w.x)*u.x=(u.x*w.y-u.y*w.x)*s.x+(s.x*u.y-s.y*u.x)*w.x:=by grind
  have y0:0<=s.y:=by grind
  have y1:0<=w.y:=by grind
  have m1:=cB (cM h2) y0;have m2:=cB (cM h1) y1;have uy:0<=u.y:=(jm h3).1 v7;by_cases z:0<u.y
  .exact .inl z
  .right
   have z0:u.y=0:=by grind
   have i3:(u.x*w.y-u.y*w.x)*s.y+(s.x*u.y-s.y*u.x)*w.y=0:=by rw[<-i1,z0];grind
   have A0:(u.x*w.y-u.y*w.x)*s.y=0:=by generalize (u.x*w.y-u.y*w.x)*s.y=A at*;generalize (s.x*u.y-s.y*u.x)*w.y=B at*;grind
   have B0:(s.x*u.y-s.y*u.x)*w.y=0:=by grind
   have n1:s.y=0:=by
    rcases fS.1 A0 with q|q
    .grind
    .exact q
   have n2:w.y=0:=by
    rcases fS.1 B0 with q|q
    .grind
    .exact q
   rw[n1,n2] at h3;grind
 .rw[k] at e⊢
  have a:=rC.1 k;have b:=rC.1 e.symm;rw[rC];unfold ab.cross at*;have i1:(s.x*w.y-s.y*w.x)*u.y=(u.x*w.y-u.y*w.x)*s.y+(s.x*u.y-s.y*u.x)*w.y:=by grind
  have y0:0<= -s.y:=by grind
  have y1:0<= -w.y:=by grind
  have m1:=cB (cM h2) y0;have m2:=cB (cM h1) y1;have uy:0<= -u.y:=(jm h3).1 v7;by_cases z:u.y<0
  .exact .inl z
  .right
   have z0:u.y=0:=by grind
   have i3:(u.x*w.y-u.y*w.x)*s.y+(s.x*u.y-s.y*u.x)*w.y=0:=by rw[<-i1,z0];grind
   have m3:(u.x*w.y-u.y*w.x)* -s.y= -((u.x*w.y-u.y*w.x)*s.y):=by grind
   have m4:(s.x*u.y-s.y*u.x)* -w.y= -((s.x*u.y-s.y*u.x)*w.y):=by grind
   rw[m3] at m1;rw[m4] at m2;have A0:(u.x*w.y-u.y*w.x)*s.y=0:=by generalize (u.x*w.y-u.y*w.x)*s.y=A at*;generalize (s.x*u.y-s.y*u.x)*w.y=B at*;grind
   have B0:(s.x*u.y-s.y*u.x)*w.y=0:=by grind
   have n1:s.y=0:=by
    rcases fS.1 A0 with q|q
    .grind
    .exact q
   have n2:w.y=0:=by
    rcases fS.1 B0 with q|q
    .grind
    .exact q
   rw[n1,n2] at h3;grind
def D3(nz: ∀d∈ds,d.half≠0){s:ab}(hs:s∈ds)(hu:u∈ds)(hw:w∈ds)(hn:uF ds s w)(h1:0<s.cross u)(h2:0<u.cross w)(h3:0<s.cross w):False:=by
 have zs:=l9 (nz s hs);have zu:=l9 (nz u hu);have zw:=l9 (nz w hw);rcases hn with⟨b,no⟩|⟨n1,n2⟩
 .by_cases e:s.half=w.half
  .have e2:=RS (nz s hs) (nz w hw) (nz u hu) h1 h2 h3 e
   exact no u hu ⟨.inr ⟨e2.symm,h1⟩, .inr ⟨pb,h2⟩⟩
  .have e1:s.half=1/\w.half=2:=by
    rcases b with b|⟨b,_⟩
    .omega
    .exact absurd b e
   rcases zu with k|k
   .exact no u hu ⟨.inr ⟨pb,h1⟩, .inl pb⟩
   .exact no u hu ⟨.inl pb, .inr ⟨pb,h2⟩⟩
 .have a:=n1 u hu
  have b:=n2 u hu;have a1: ¬s.half<u.half:=fun k=>a (.inl k);have a2:s.half≠u.half:=fun k=>a (.inr ⟨k,h1⟩);have b1: ¬u.half<w.half:=fun k=>b (.inl k);have b2:u.half≠w.half:=fun k=>b (.inr ⟨k,h2⟩);omega
def JE{n:ab}(hu:u.half≠0)(hw:w.half≠0)(hn:n.half≠0)(e1:w.half=u.half)(e2:u.half=n.half)(h1:0<u.cross n)(h2: ¬0<u.cross w):0<w.cross n:=by
 by_cases k:0<w.cross u
 .have b1:dC w u:= .inr ⟨e1,k⟩
  have b2:dC u n:= .inr ⟨e2,h1⟩;rcases yw b1 b2 with q|⟨_,q⟩
  .omega
  .exact q
 .have hz:w.cross u=0:=by rw[m7] at k⊢;grind
  by_cases q:0<w.cross n
  .exact q
  .exfalso
   have b2:dC u n:= .inr ⟨e2,h1⟩;by_cases q2:0<n.cross w
   .have b3:dC n w:= .inr ⟨pb,q2⟩
    rcases yw b2 b3 with z|⟨_,z⟩
    .omega
    .exact h2 z
   .have hz2:w.cross n=0:=by rw[m7] at q2;grind
    rcases l9 hw with hh|hh
    .have a:=mr.1 hh
     have b:=mr.1 (show u.half=1 by omega);have c:=mr.1 (show n.half=1 by omega);unfold ab.cross at*;have j1:w.x*(u.x*n.y-u.y*n.x)=0:=by grind
     have j2:w.y*(u.x*n.y-u.y*n.x)=0:=by grind
     rcases fS.1 j1 with z|z
     .rcases fS.1 j2 with z2|z2<;>grind
     .grind
    .have a:=rC.1 hh
     unfold ab.cross at*;have j1:w.x*(u.x*n.y-u.y*n.x)=0:=by grind
     have j2:w.y*(u.x*n.y-u.y*n.x)=0:=by grind
     rcases fS.1 j1 with z|z
     .rcases fS.1 j2 with z2|z2<;>grind
     .grind
def Xt(nz: ∀d∈ds,d.half≠0){s:ab}(hs:s∈ds)(hu:u∈ds)(hw:w∈ds)(hn:uF ds s w)(h1:0<s.cross u):0<s.cross w:=by
 have zs:=l9 (nz s hs);have zu:=l9 (nz u hu);have zw:=l9 (nz w hw);have hneg:=QX (nz s hs);have hnz:(kO s).half≠0:=by omega
 have e1:u.cross (kO s)=s.cross u:=by rw[B8,m7 s u];grind
 have e2:w.cross (kO s)=s.cross w:=by rw[B8,m7 s w];grind
 rcases hn with⟨b,no⟩|⟨n1,n2⟩
 .by_cases e:s.half=w.half
  .rcases b with b|⟨_,b⟩
   .omega
   .exact b
  .have e3:s.half=1/\w.half=2:=by
    rcases b with b|⟨b,_⟩
    .omega
    .exact absurd b e
   have nu:=no u hu;rcases zu with k|k
   .exact absurd ⟨.inr ⟨pb,h1⟩, .inl pb⟩ nu
   .rw[<-e2]
    exact JE (nz u hu) (nz w hw) hnz pb pb (by rw[e1];exact h1) fun q=>nu ⟨.inl pb, .inr ⟨pb,q⟩⟩
 .have a:=n1 u hu
  have b:=n2 u hu;have a1: ¬s.half<u.half:=fun k=>a (.inl k);have a2:s.half≠u.half:=fun k=>a (.inr ⟨k,h1⟩);have b1: ¬u.half<w.half:=fun k=>b (.inl k);rw[<-e2];exact JE (nz u hu) (nz w hw) hnz pb pb (by rw[e1];exact h1) fun q=>b (.inr ⟨pb,q⟩)
def H3(s u w:aa)(h p:ab):s.dir.cross u.dir*w.value p=s.dir.cross u.dir*w.value h+w.dir.cross u.dir*(s.value p-s.value h)+s.dir.cross w.dir*(u.value p-u.value h):=by
 rw[iF,iF,iF,iF,iF,iF];unfold ab.cross aa.dir;grind
def EZ{c:az}(hc:bO c): ∀d∈c.map (fun s=>s.l.dir),d.half≠0:=fun d hd=>by
 obtain⟨s,hs,rfl⟩:=aN.1 hd;exact E9 (hc.ok s hs)
def Uj{c:az}(hc:bO c){w:bi}(hs:s∈c)(hw:w∈c)(hn:uF (c.map fun s=>s.l.dir) s.l.dir w.l.dir)(nh:s.v.nh=false):0<s.l.dir.cross w.l.dir/\w.l.value (s.l.at s.v.hi)=0:=by
 obtain⟨u,hu,z1,z2⟩:=aBp hc hs nh;have su:0<s.l.dir.cross u.l.dir:=by rw[m7,AL];grind
 have nz:=EZ hc;have ms:=eK (f:=fun s:bi=>s.l.dir) hs;have mu:=eK (f:=fun s:bi=>s.l.dir) hu;have mw:=eK (f:=fun s:bi=>s.l.dir) hw;have sw:=Xt nz ms mu mw hn su;refine⟨sw,?_⟩;obtain⟨p1,p2⟩:=hc.edge s hs;have hin:=(p2 _).1 (wB p1 nh);have hs0:=kC (hc.ok s hs).ne s.v.hi;have h0:=hin w hw;by_cases q:w.l.value (s.l.at s.v.hi)=0
 .exact q
 .exfalso
  have wu:0<=w.l.dir.cross u.l.dir:=by
   by_cases k:0<u.l.dir.cross w.l.dir
   .exact(D3 nz ms mu mw hn su k sw).elim
   .rw[m7];grind
  obtain⟨t1,t2⟩:=xS hc hw;have e:=H3 s.l u.l w.l (s.l.at s.v.hi) (w.l.at w.v.sample);rw[t2,z1,hs0] at e;have g1:=eE su (show 0<w.l.value (s.l.at s.v.hi) by grind);have g2:=cB wu (t1 s hs);have g3:=cB (cM sw) (t1 u hu);grind
def Qg{c:az}(hc:bO c){w:bi}(hs:s∈c)(hw:w∈c)(hn:uF (c.map fun s=>s.l.dir) s.l.dir w.l.dir)(sw:0<s.l.dir.cross w.l.dir)(nl:w.v.nl=false):s.l.value (w.l.at w.v.lo)=0:=by
 obtain⟨u,hu,z1,z2⟩:=Um hc hw nl;have uw:0<u.l.dir.cross w.l.dir:=by rw[AL];exact z2
 have nz:=EZ hc;have ms:=eK (f:=fun s:bi=>s.l.dir) hs;have mu:=eK (f:=fun s:bi=>s.l.dir) hu;have mw:=eK (f:=fun s:bi=>s.l.dir) hw;obtain⟨p1,p2⟩:=hc.edge w hw;have hin:=(p2 _).1 (Ff p1 nl);have hw0:=kC (hc.ok w hw).ne w.v.lo;have h0:=hin s hs;by_cases q:s.l.value (w.l.at w.v.lo)=0
 .exact q
 .exfalso
  have us:0<=u.l.dir.cross s.l.dir:=by
   by_cases k:0<s.l.dir.cross u.l.dir
   .exact(D3 nz ms mu mw hn k uw sw).elim
   .rw[m7];grind
  obtain⟨t1,t2⟩:=xS hc hs;have e:=H3 u.l w.l s.l (w.l.at w.v.lo) (s.l.at s.v.sample);rw[t2,z1,hw0] at e;have g1:=eE uw (show 0<s.l.value (w.l.at w.v.lo) by grind);have g2:=cB (cM sw) (t1 u hu);have g3:=cB us (t1 w hw);grind
section
end
end Go.Sx
end
