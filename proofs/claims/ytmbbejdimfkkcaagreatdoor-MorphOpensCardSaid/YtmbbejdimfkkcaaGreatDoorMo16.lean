import Derived.Test.YtmbbejdimfkkcaaGreatDoorMo15
set_option linter.all false
set_option maxHeartbeats 4000000
set_option maxRecDepth 100000
section
namespace Go.Sx
open Go Go.Proofs Tryz
variable {GB:Gh}
section
variable {GB:Gh} {C:aH} {n:Nat} {Q0:Exit->Act->World->Prop} {fr fr':aF} {own own':bh} {cf cf':Cf} {vc:List Prop} {ops:Array Oper} {r:List Oper} {K:List Kt}
def Wb(k:Nat){d:DV}(hl:bi fr k=some (.d d))(h: ∀(GB':Gh) (pv:Value),b7 GB GB'->Is GB' d pv->av prog GB' C n Q0 ((k, .d (.v pv))::fr) own (.ops ops r K)):av prog GB C n Q0 fr own (.ops ops r K):=by
 refine⟨fun ρ G ov a w r0=>?_⟩;obtain⟨y,hy,hy'⟩:=r0.fx k _ hl;refine(h G y r0.gb hy').run ρ G ov a w ⟨b7.refl _,r0.h,r0.sz,r0.df,fun j f e=>?_,r0.bx,r0.dj,r0.fxd⟩;rw[kH] at e;split at e
 .rename_i hj
  cases e;subst hj
  exact⟨y,hy,(aP (G:=G)).2 J⟩
 .exact r0.fx j f e
def Vk(fr:aF)(own:bh)(cf:Cf):Option (TypeId×Nat×Nat×List FX×Bool×FX):=match di fr cf with
 |some ⟨_, .store t x y,_,_,_,_⟩=>match bt (ck fr cf) x with
  |some (.ov nm 0)=>match jo fr own cf nm with
   |some (.o ty cs lo)=>match bt (ck fr cf) y with
    |some fv=>some (t,nm,ty,cs,lo,fv)
    |_=>none
   |_=>none
  |_=>none
 |_=>none
def JQ[fu:Fu]{t nm ty len e:Nat}{cs:List FX}{lo:Bool}{fv:FX}{j:TypeInfo}(h:Vk fr own cf=some (t,nm,ty,cs,lo,fv))(hu:prog.underlying t=some (.array len e))(hj:prog.info? t=some j)(hc:fv.okc=true/\fv.cells.length=j.size/\j.size=cs.length)
  (hgo:c6 tt n fu.n fr own cf .un [(nm,some (.o ty (y9 cs 0 fv.cells) lo))] []=⟨vc,fr',own',cf'⟩)(k:av prog GB C n Q0 fr' own' cf')
  (hv:autoParam (ak vc) cL._auto_1):av prog GB C n Q0 fr own cf:=by
 unfold Vk at h;split at h<;>try (cases h;done)
 rename_i hh;split at h<;>try (cases h;done)
 rename_i e1;split at h<;>try (cases h;done)
 rename_i hb;split at h<;>cases h;rename_i e2;obtain⟨c1,c2,c3⟩:=hc;have:li prog t j.size:=⟨fun w=>Cd hu w,fun w=>w8 hj w⟩;refine us hh ?_ hgo hv k;intro hd tl tb K s1 s2 hf hk;refine⟨fun ρ G ov a w r Q=>?_⟩;have r1:=r.mono s1 s2;obtain⟨p,h1,h2⟩:=r1.ev e1;obtain⟨q,h3,h4⟩:=r1.ev e2;obtain⟨b,m,rfl,ha,h5,h6⟩:=r1.own h2 hb;obtain⟨h7,h8⟩:=h4.cells c1;obtain⟨own',u1,u2,u3⟩:=iE.of_mem (cs':=cH m 0 (aO q)) h6;exact Fd h1 h3 u1 (by rw[h7.len,c2]) (by rw[h5.len,c3];omega) (dV.2 h8) hd (fun a' w' rl=>r.wrote (m:=m) (s2 _ _ hb) ha (h5.ov h7) u2 u3 hk rl) a w Q ⟨r.h,r.sz,c7 a,r.df⟩
def aNd:TypeDesc->Bool
 | .struct _=>false
 | .array _ _=>false
 |_=>true
end
def sO(ns:List NQ):Nat->Tr->Prop
 |_, .leaf _=>True
 |k, .node l x y=>ns[k]? =some ⟨l,x.num (k+1),y.num (k+1+x.size)⟩/\sO ns (k+1) x/\sO ns (k+1+x.size) y
def sO.of: ∀{t:Tr} {ns a b:List NQ} {k:Nat},ns=a++t.wr k++b->a.length=k->sO ns k t
 | .leaf _,_,_,_,_,_,_=>trivial
 | .node l x y,ns,a,b,k,e,ha=>by
  simp only[Tr.wr,dT,gL] at e;refine⟨?_,sO.of (a:=a++[⟨l,x.num (k+1),y.num (k+1+x.size)⟩]) (b:=y.wr (k+1+x.size)++b) (by rw[e];simp) (by simp[ha]),sO.of (a:=a++⟨l,x.num (k+1),y.num (k+1+x.size)⟩::x.wr (k+1)) (b:=b) (by rw[e];simp) (by rw[aY,aS,Tr.wr_len,ha];omega)⟩;rw[e,jN we,ha,qK];rfl
abbrev JY (x:SV) (ns:List NQ) (A:Gh):Prop:= ∃es,gt A 8 x es/\IsLs A (ns.map eN) es
def sK(n k:Nat):List Value:=uO n (fun j=>Nat.blt j k)
def QY(n k:Nat):(sK n k).length=n:=U7 _ _
def VA{n k:Nat}(h:k<n):(sK n k)[k]? =some (.bool false):=IF h (by rw[Bool.eq_false_iff,ne_eq,lV];omega)
def QP(n k:Nat):(sK n k).set k (.bool true)=sK n (k+1):=by
 refine(azm n k _).trans (congrArg _ (funext fun j=>?_));unfold BH;rw[rW,fN,lV,lV,Nat.beq_eq];omega
def VI{G:Gh}{l:aa}{a b:Int}{v:Value}(h:Is G (eN ⟨l,a,b⟩) v): ∃x1 x2 x3:SV,v= .agg ⟨[.bool (decide (l.a<0)), .slice x1.a x1.n x1.c, .bool (decide (l.b<0)), .slice x2.a x2.n x2.c, .bool (decide (l.c<0)), .slice x3.a x3.n x3.c, .int .i64 a, .int .i64 b]⟩/\
  Is G (eL l) (.agg ⟨[.bool (decide (l.a<0)), .slice x1.a x1.n x1.c, .bool (decide (l.b<0)), .slice x2.a x2.n x2.c, .bool (decide (l.c<0)), .slice x3.a x3.n x3.c]⟩):=aLf (n:=RN.of ⟨l,a,b⟩) h
def aGK{G:Gh}{l:aa}{v:Value}(h:Is G (.tp [de l,vB true]) v): ∃n1 d1 p1 n2 d2 p2 n3 d3 p3,v= .tuple #[.agg ⟨[.int .i64 n1, .int .i64 d1, .pointer p1, .int .i64 n2, .int .i64 d2, .pointer p2, .int .i64 n3, .int .i64 d3, .pointer p3]⟩, .bool true]/\
  Is G (de l) (.agg ⟨[.int .i64 n1, .int .i64 d1, .pointer p1, .int .i64 n2, .int .i64 d2, .pointer p2, .int .i64 n3, .int .i64 d3, .pointer p3]⟩):=by
 obtain⟨m,rfl,g⟩:=mm.1 h;obtain⟨v1,m,rfl,h1,h⟩:=bA.1 g;obtain⟨v2,m,rfl,h2,h⟩:=bA.1 h;rw[fh] at h;subst h;obtain⟨n1,d1,p1,n2,d2,p2,n3,d3,p3,rfl⟩:=aJG h1;rw[aP.1 h2];exact⟨_,_,_,_,_,_,_,_,_,J,h1⟩
def WF{G:Gh}{l:aa}{v:Value}(h:Is G (.tp [eL l,vB true]) v): ∃x1 x2 x3:SV,v= .tuple #[.agg ⟨[.bool (decide (l.a<0)), .slice x1.a x1.n x1.c, .bool (decide (l.b<0)), .slice x2.a x2.n x2.c, .bool (decide (l.c<0)), .slice x3.a x3.n x3.c]⟩, .bool true]/\
  Is G (eL l) (.agg ⟨[.bool (decide (l.a<0)), .slice x1.a x1.n x1.c, .bool (decide (l.b<0)), .slice x2.a x2.n x2.c, .bool (decide (l.c<0)), .slice x3.a x3.n x3.c]⟩):=by
 obtain⟨m,rfl,g⟩:=mm.1 h;obtain⟨v1,m,rfl,h1,h⟩:=bA.1 g;obtain⟨v2,m,rfl,h2,h⟩:=bA.1 h;rw[fh] at h;subst h;obtain⟨x1,x2,x3,rfl⟩:=aKM h1;rw[aP.1 h2];exact⟨_,_,_,J,h1⟩
def aLX{l:aa}[hl:LB l](ho:l.ok):PF GB prog 127 [eL l] (.tp [eL l,vB true]):=by
 have hm:(RN.of ⟨l,0,0⟩).g.nm:=⟨IL _,IL _,IL _⟩;refine(Yc (RN.of_sm (n:=⟨l,0,0⟩) hl) hm).to ?_;rw[E4,if_pos hm,RN.of_l,decide_eq_true ⟨hm,ho⟩]
def Ro{G:Gh}{t:Tr}{vs:List Value}(hv:IsLs G [eA t] vs): ∃x:SV,x.n=(t.wr 0).length/\vs=[.agg ⟨[.int .i64 (t.num 0), .slice x.a x.n x.c]⟩]/\JY x (t.wr 0) G:=by
 obtain⟨v0,m,rfl,h0,hm⟩:=bA.1 hv;rw[fh] at hm;subst hm;obtain⟨m,rfl,g⟩:=eH.1 h0;obtain⟨v1,m,rfl,h1,hm⟩:=bA.1 g;obtain⟨v2,m,rfl,h2,hm⟩:=bA.1 hm;rw[fh] at hm;subst hm;obtain⟨s0,x,es,rfl,hsl,hes⟩:=ie.1 h2;rw[aP.1 h1];have hel:=hes.len;rw[aX] at hel;have hlen:=hsl.len;rw[hel] at hlen;refine⟨x,hlen,J,es,?_,hes⟩;rcases DY (s:=8) hsl hes (fun d hd=>by obtain⟨n,_,rfl⟩:=aU.1 hd;exact⟨rfl,rfl⟩) with e|e
 .exact⟨hsl.len,hsl.cap, .inl e⟩
 .rw[e] at hsl;exact hsl
theorem omV{p:Prop}(h:p:=by repeat (first|exact .hd .. |apply iE.tl)):p:=h
theorem ozc{p:Prop}(h:p:=by rw[hel];exact hbn):p:=h
def Yf{A:Gh}{ns:List NQ}{x:SV}(hx:JY x ns A)(hn:ns.length<=1000000): ∀{t:Tr} {k:Nat},sO ns k t->k+t.size<=ns.length->t.all LB->t.all aa.ok-> ∀{G:Gh} {rb sb:Nat} {lo lo2:Bool},[GL A G]->
  kD prog 102 [.pointer (some ⟨rb,0,none⟩), .int .i64 (t.num k)] [⟨rb,[.slice x.a x.n x.c, .slice (some ⟨sb,0,none⟩) ns.length ns.length, .int .i64 k, .bool false],186,lo⟩,⟨sb,sK ns.length k,4,lo2⟩] G
   (fun v css G'=> ∃p,v= .pointer p/\Is G' (eU t) (.pointer p)/\css=[[.slice x.a x.n x.c, .slice (some ⟨sb,0,none⟩) ns.length ns.length, .int .i64 (k+t.size:Nat), .bool false],sK ns.length (k+t.size)]):=by
 obtain⟨es,hx,hes⟩:=hx;have hel:=hes.len;rw[aX] at hel;have hlen:=hx.len;rw[hel] at hlen;obtain⟨xa,xn,xc⟩:=x;simp only[] at hlen;subst hlen;intro t
 induction t with
 |leaf bb=>
  intro k _ _ _ _ G rb sb lo lo2 _;refine kD.intro func102 J J ntmps102 J ?_;intro C _ _;show St C _ _ [⟨rb,_,_,false⟩,⟨sb,_,_,false⟩] _ _
  cases bb
  case true=>
   refine sR<|sa J J<|zE<|fw<|yf<|sR<|sm J J<|sy (mn J J) J<|sm J J<|ss J J J J<|ss J J J J<|?_;refine sy (HE J J) J<|sa J J<|zE<|uz J<|sR<|sm J J<|sy (mn J J) J<|?_;refine sc (zC J J (PF.fn0 (sA (b:=true)) (.cons (aP.2 J) .nil)) J ?_);rintro _ G1 _ hp;obtain⟨p,rfl⟩:=yh hp;refine sa J J<|zE<|lD<|?_;exact t6 (css:=[_,_]) (.tmp J .nil) J _ (List.Perm.refl _) (List.Sublist.refl _) ⟨p,J,hp,J⟩
  refine sR<|sa J J<|zE<|fw<|yf<|sR<|sm J J<|sy (mn J J) J<|sm J J<|ge J J (mo J) J<|ge J J (mn J J) J<|?_;refine sy (ta J J) J<|sa J J<|zE<|uz J<|sR<|sm J J<|sy (mn J J) J<|?_;refine sc (zC J J (PF.fn0 (sA (b:=false)) (.cons (aP.2 J) .nil)) J ?_);rintro _ G1 _ hp;obtain⟨p,rfl⟩:=yh hp;refine sa J J<|zE<|lD<|?_;exact t6 (css:=[_,_]) (.tmp J .nil) J _ (List.Perm.refl _) (List.Sublist.refl _) ⟨p,J,hp,J⟩
 |node l tx ty ih1 ih2=>
  intro k ⟨h0,h1,h2⟩ hk ⟨hb,hb1,hb2⟩ ⟨ho,ho1,ho2⟩ G rb sb lo lo2 _;haveI:=hb;have hsz:k+(Tr.node l tx ty).size=k+1+tx.size+ty.size:=by simp only[Tr.size];omega
  rw[hsz] at hk⊢;have hbn:k<ns.length:=by omega
  obtain⟨z,hzi,hz⟩:=hes.get (i:=k) (by rw[cJ,h0];rfl);obtain⟨x1,x2,x3,rfl,hzg⟩:=VI hz;refine kD.intro func102 J J ntmps102 J ?_;intro C _ _;show St C _ [(0, .pointer (some ⟨rb,0,none⟩)),(1, .int .i64 (k:Int))] [⟨rb,[.slice xa ns.length xc, .slice (some ⟨sb,0,none⟩) ns.length ns.length, .int .i64 k, .bool false],_,false⟩,⟨sb,sK ns.length k,_,false⟩] _ _;refine sR<|sa J J<|zE<|fw<|yf<|sR<|sm J J<|sy (mn J J) J<|sm J J<|?_;refine Aq 12 J (fun hg=>absurd hg we) (fun hg=>?_);refine ge J J (mo J) J<|ge J J (mn J J) J<|sy (ta J J) J<|sa J J<|zE<|?_;refine xj J (fun hc=>absurd hc we) (fun _=>?_);refine sR<|sm J J<|sy (Gn J J) J<|sm J J<|?_;refine Aq 22 J (fun hg=>absurd hg we) (fun hg=>?_);refine ge J J (mo J) J<|ge J J (mo J) J<|ge J J (og J) J<|ge J J (sj J) J<|ge J J (pp J J) J<|ge J J (wx J) J<|ge J J (Mi J J) J<|sy (ta J J) J<|sm J J<|?_;refine Aq 31 J (fun hg=>absurd hg we) (fun hg=>?_);refine ge J J (mo J) J<|ge J J (og J) J<|ge J J (sj J) J<|ge J J (pp J J) J<|ge J J (mo J) J<|ge J J (wc J J) J<|?_;refine ge J J (pp (v:= .bool false) J (by rw[cK,jT];exact VA hbn)) J<|sy (ta J J) J<|sa J J<|zE<|s5 J<|zK<|?_;refine sR<|sm J J<|sn J J<|sf J J<|ol J J J<|sm J J<|sy (wc J J) J<|?_;refine sc (vD J J (.tl _ _ _ _ _ _ _ _ (.hd ..)) (by rw[QY,cK,jT];exact hbn) J J ?_);rw[cK,jT,QP];refine zE<|sR<|sm J J<|sn J J<|sf J J<|ol J J J<|sy (Aa J J) J<|sn J J<|sf J J<|?_;refine sc (A9 J J J omV (nb J) J J ?_)
  rw[show(k:Int)+1=((k+1:Nat):Int) by omega];refine zE<|sR<|sm J J<|sn J J<|sf J J<|ol J J J<|sm J J<|sy (aKw (z:=⟨xa,ns.length,xc⟩) hx J J we (by show(k:Int)<(ns.length:Int);omega)) J<|?_;rw[cK];refine sy (Yj (i:=k) hx J ozc hzi) J<|?_;refine sc (vL J ?_);intro b5;refine sc (E9 J J J omV J (nb J) J J ?_);refine zE<|sR<|sf J J<|EN J J J<|?_;refine sc (zC J J (PF.fn0 (aJV ho) (.cons (hzg.up GL.le) .nil)) J ?_);rintro _ G6 _ hw;obtain⟨n1,d1,p1,n2,d2,p2,n3,d3,p3,rfl,hwl⟩:=aGK hw;refine sm J J<|sx J J J<|sx J J J<|?_;refine sc (vL J ?_);intro b6;refine sc (E9 J J J omV J (nb J) J J ?_);refine sa J J<|zE<|fw<|sR<|sm J J<|sy (uc J) J<|zE<|s5 J<|zK<|?_;refine sR<|sm J J<|sf J J<|ol J J J<|?_;have hrp:=ih1 h1 we hb1 ho1 (G:=G6) (rb:=rb) (sb:=sb) (lo:=false) (lo2:=false);refine sc (zz J J (jK (l₁:=[_,_]) (l₂:=[_,_])) hrp J ?_);rintro _ css G7 _ _ ⟨q1,rfl,hp1,rfl⟩;show St C _ _ [⟨rb,[.slice xa ns.length xc, .slice (some ⟨sb,0,none⟩) ns.length ns.length, .int .i64 (k+1+tx.size:Nat), .bool false],186,false⟩,⟨sb,sK ns.length (k+1+tx.size),4,false⟩,⟨b6,[.int .i64 n1, .int .i64 d1, .pointer p1, .int .i64 n2, .int .i64 d2, .pointer p2, .int .i64 n3, .int .i64 d3, .pointer p3],193,true⟩,⟨b5,[.bool (decide (l.a<0)), .slice x1.a x1.n x1.c, .bool (decide (l.b<0)), .slice x2.a x2.n x2.c, .bool (decide (l.c<0)), .slice x3.a x3.n x3.c, .int .i64 (tx.num (k+1)), .int .i64 (ty.num (k+1+tx.size))],94,true⟩] _ _
  refine sa J J<|zE<|fw<|?_;refine wk [⟨b6,[.int .i64 n1, .int .i64 d1, .pointer p1, .int .i64 n2, .int .i64 d2, .pointer p2, .int .i64 n3, .int .i64 d3, .pointer p3],193,true⟩,⟨b5,[.bool (decide (l.a<0)), .slice x1.a x1.n x1.c, .bool (decide (l.b<0)), .slice x2.a x2.n x2.c, .bool (decide (l.c<0)), .slice x3.a x3.n x3.c, .int .i64 (tx.num (k+1)), .int .i64 (ty.num (k+1+tx.size))],94,true⟩] (fun _=>false) [(0,true),(1,true),(2,true),(3,true),(4,true),(5,false),(6,false),(7,true)] follows omd<|?_;refine dL J J J J<|dM J J J<|dM J J J<|dF J J J<|q6 J J J J<|?_;have hrp:=ih2 h2 hk hb2 ho2 (G:=G7) (rb:=rb) (sb:=sb) (lo:=false) (lo2:=false);refine dc J J (zz J J (M:=[_,_]) (rest:=[_,_]) (List.Perm.refl _) hrp J ?_);rintro _ css G8 _ _ ⟨q2,rfl,hp2,rfl⟩;show St C _ _ [⟨rb,[.slice xa ns.length xc, .slice (some ⟨sb,0,none⟩) ns.length ns.length, .int .i64 (k+1+tx.size+ty.size:Nat), .bool false],186,false⟩,⟨sb,sK ns.length (k+1+tx.size+ty.size),4,false⟩,⟨b6,[.int .i64 n1, .int .i64 d1, .pointer p1, .int .i64 n2, .int .i64 d2, .pointer p2, .int .i64 n3, .int .i64 d3, .pointer p3],193,true⟩,⟨b5,[.bool (decide (l.a<0)), .slice x1.a x1.n x1.c, .bool (decide (l.b<0)), .slice x2.a x2.n x2.c, .bool (decide (l.c<0)), .slice x3.a x3.n x3.c, .int .i64 (tx.num (k+1)), .int .i64 (ty.num (k+1+tx.size))],94,true⟩] _ _;refine mA<|?_;refine dc J J (zC J J (PF.fn0 (Bo (l:=l) (x:=tx) (y:=ty)) (.cons (hwl.up GL.le) (.cons (hp1.up GL.le) (.cons hp2 .nil)))) J ?_);rintro _ G9 _ hp;obtain⟨p,rfl⟩:=yh hp
  refine mA<|dA J J J<|dn<|lD<|?_;exact t6 (css:=[_,_]) (.tmp J .nil) J _ (List.Perm.refl _) (.cons_cons _ (.cons_cons _ (jM _))) ⟨p,J,hp,J⟩
def Je{t:Tr}(hb:t.all LB)(ho:t.all aa.ok)(hs:t.size<=65536):PF GB prog 55 [eA t] (.tp [eU t,vB true]):=by
 intro G vs _ hv;obtain⟨⟨xa,xn,xc⟩,rfl,rfl,hx⟩:=Ro hv;have hn:=t.wr_len 0;show Fn _ _ [.agg ⟨[.int .i64 (t.num 0), .slice xa (t.wr 0).length xc]⟩] _ _;refine Fn.intro func55 J J ntmps55 J ?_;intro C _ _;refine sR<|?_;refine sc (u6 J J ?_);intro b1;refine sa J J<|sa J J<|zE<|fw<|sR<|sf J J<|ol J J J<|uB J J<|sy (CV J J) J<|zE<|?_;refine xj J (fun hc=>absurd hc we) (fun _=>?_);refine zK<|fw<|dr (fun _=>false) [(0,true),(1,true),(2,true),(3,true),(4,true),(5,false),(6,true),(7,false),(8,true)] follows omd<|dF J J J<|?_;refine q6 J J J J<|dF J J J<|q6 J J J J<|dy J (fun _=>wx J) J J<|?_;refine dc J J (JS J J we we we okS J ?_);intro b2;rw[cK,N8];refine mA<|dy J (fun _=>yp J) J J<|?_;refine dc J J (u6 J J ?_);intro b3;refine mA<|dA J J J<|dn<|sR<|sm J J<|sf J J<|ol J J J<|?_;refine sc (zz J J (M:=[_,_]) (rest:=[_]) (List.Perm.refl _) (Yf hx we (sO.of (a:=[]) (b:=[]) (k:=0) omc J) we hb ho (G:=G) (rb:=b3) (sb:=b2) (lo:=true) (lo2:=true)) J ?_);rintro _ css G4 _ _ ⟨p,rfl,hp,rfl⟩;show St C _ _ [⟨b3,[.slice xa (t.wr 0).length xc, .slice (some ⟨b2,0,none⟩) (t.wr 0).length (t.wr 0).length, .int .i64 (0+t.size:Nat), .bool false],186,true⟩,⟨b2,sK (t.wr 0).length (0+t.size),4,true⟩,⟨b1,[.int .i64 (t.num 0), .slice xa (t.wr 0).length xc],31,true⟩] _ _;refine sa J J<|zE<|fw<|fw<|dr (fun _=>false) [(0,true),(1,true),(2,true),(3,true),(4,true),(5,true),(6,true),(7,true),(8,true),(9,true),(10,true),(11,true),(12,true),(13,true)] follows omd<|?_
 refine dM J J J<|dy J (fun _=>og J) J J<|dF J J J<|q6 J J J J<|dM J J J<|?_;refine vJ J J J J (fun _=>mo J) J<|vJ J J J J (fun _=>og J) J<|vJ J J J J (fun _=>sj J) J<|vJ J J J J (fun _=>pp J J) J<|?_;refine vJ J J J J (fun _=>sj J) J<|vJ J J J J (fun _=>pp J J) J<|vJ J J J J (fun _=>wx J) J<|vJ J J J J (fun _=>Vl J J) J<|?_;refine dy J (fun _=>ta J J) J J<|dn<|?_;refine xj J (fun hc=>absurd hc we) (fun _=>?_);refine zK<|sR<|sm J J<|sa J J<|sa J J<|zE<|lD<|?_;refine zD (.tmp J (.tmp J .nil)) ?_;exact mm.2 ⟨_,J, .cons hp (.cons (aP.2 J) .nil)⟩
def aLV{A:Gh}{ns:List NQ}{x:SV}{r0:Int}(hx:JY x ns A)(hn:ns.length<=1000000): ∀{t:Tr} {k:Nat},sO ns k t->k+t.size<=ns.length->t.all LB->t.all aa.ok-> ∀{G:Gh} {sb:Nat} {lo2:Bool},[GL A G]->
  kD prog 69 [.agg ⟨[.int .i64 r0, .slice x.a x.n x.c]⟩, .int .i64 (t.num k), .slice (some ⟨sb,0,none⟩) ns.length ns.length] [⟨sb,sK ns.length k,4,lo2⟩] G
   (fun v css G'=> ∃q,v= .tuple #[.pointer q, .bool true]/\Is G' (eT t) (.pointer q)/\css=[sK ns.length (k+t.size)]):=by
 obtain⟨es,hx,hes⟩:=hx;have hel:=hes.len;rw[aX] at hel;have hlen:=hx.len;rw[hel] at hlen;obtain⟨xa,xn,xc⟩:=x;simp only[] at hlen;subst hlen;intro t
 induction t with
 |leaf bb=>
  intro k _ _ _ _ G sb lo2 _;refine kD.intro func69 J J ntmps69 J ?_;intro C _ _;show St C _ [(0, .agg ⟨[.int .i64 r0, .slice xa ns.length xc]⟩),(1, .int .i64 (RX bb)),(2, .slice (some ⟨sb,0,none⟩) ns.length ns.length)] [⟨sb,sK ns.length k,_,false⟩] _ _;refine sR<|?_;refine sc (u6 J J ?_);intro b1;refine sa J J<|sa J J<|zE<|fw<|sR<|sm J J<|sy (mn J J) J<|sm J J<|?_
  cases bb
  case true=>
   refine ss J J J J<|ss J J J J<|sy (HE J J) J<|?_;refine zE<|uz J<|sR<|sm J J<|sy (mn J J) J<|sy (yp J) J<|?_;refine sc (u6 J J ?_);intro b2;refine sa J J<|sa J J<|zE<|lD<|?_;refine DG b2 (.hd ..) ?_;intro G9 _ hfz;exact t6 (css:=[_]) (.tmp J (.tmp J .nil)) J (_::[_]) (jK (l₁:=[_]) (l₂:=[_])) (.cons_cons _ (jM _)) ⟨_,J,mF.2 ⟨b2,_,J,hfz.h,TO⟩,J⟩
  refine ge J J (mo J) J<|ge J J (mn J J) J<|sy (ta J J) J<|?_;refine zE<|uz J<|sR<|sm J J<|sy (mn J J) J<|sy (yp J) J<|?_;refine sc (u6 J J ?_);intro b2;refine sa J J<|sa J J<|zE<|lD<|?_;refine DG b2 (.hd ..) ?_;intro G9 _ hfz;exact t6 (css:=[_]) (.tmp J (.tmp J .nil)) J (_::[_]) (jK (l₁:=[_]) (l₂:=[_])) (.cons_cons _ (jM _)) ⟨_,J,mF.2 ⟨b2,_,J,hfz.h,TO⟩,J⟩
 |node l tx ty ih1 ih2=>
  intro k ⟨h0,h1,h2⟩ hk ⟨hb,hb1,hb2⟩ ⟨ho,ho1,ho2⟩ G sb lo2 _;haveI:=hb;have hsz:k+(Tr.node l tx ty).size=k+1+tx.size+ty.size:=by simp only[Tr.size];omega
  rw[hsz] at hk⊢;have hbn:k<ns.length:=by omega
  obtain⟨z,hzi,hz⟩:=hes.get (i:=k) (by rw[cJ,h0];rfl);obtain⟨x1,x2,x3,rfl,hzg⟩:=VI hz;obtain⟨ab,aoff,acs,ha,hga,hca⟩:=hx.mem.resolve_left (fun e=>by rw[e] at hel;simp at hel;omega);simp only at ha;subst ha;haveI:ub A ab acs:=⟨hga⟩;obtain⟨hk0,hk6,hk7⟩:=X3 (by
   have h9:=hca k ozc;rw[show es[k]' ozc=_ from Option.some.inj ((aZ ozc).symm.trans hzi)] at h9;exact h9)
  refine kD.intro func69 J J ntmps69 J ?_;intro C _ _;show St C _ [(0, .agg ⟨[.int .i64 r0, .slice (some ⟨ab,aoff,none⟩) ns.length xc]⟩),(1, .int .i64 (k:Int)),(2, .slice (some ⟨sb,0,none⟩) ns.length ns.length)] [⟨sb,sK ns.length k,_,false⟩] _ _;refine sR<|?_;refine sc (u6 J J ?_);intro b1;refine sa J J<|sa J J<|zE<|fw<|sR<|sm J J<|sy (mn J J) J<|sm J J<|?_;refine Aq 14 J (fun hg=>absurd hg we) (fun hg=>?_);refine ge J J (mo J) J<|ge J J (mn J J) J<|sy (ta J J) J<|zE<|?_;refine xj J (fun hc=>absurd hc we) (fun _=>?_);refine zK<|fw<|sR<|sm J J<|sy (Gn J J) J<|sm J J<|?_;refine Aq 24 J (fun hg=>absurd hg we) (fun hg=>?_);refine ge J J (mo J) J<|ge J J (sj J) J<|ge J J (pp J J) J<|ge J J (wx J) J<|ge J J (Mi J J) J<|sy (ta J J) J<|sm J J<|?_;refine Aq 31 J (fun hg=>absurd hg we) (fun hg=>?_);refine ge J J (mo J) J<|ge J J (mo J) J<|ge J J (wc J J) J<|?_;refine ge J J (pp (v:= .bool false) J (by rw[cK,jT];exact VA hbn)) J<|sy (ta J J) J<|zE<|s5 J<|?_;refine zK<|sR<|sm J J<|sm J J<|sy (wc J J) J<|?_;refine sc (vD J J (.tl _ _ _ _ _ _ _ _ (.hd ..)) (by rw[QY,cK,jT];exact hbn) J J ?_);rw[cK,jT,QP];refine zE<|sR<|sf J J<|ol J J J<|sm J J<|sy (xz J J) J<|?_;rw[cK];refine sf J J<|slg J hk0 J<|?_;refine sc (zC J J (PF.fn0 (aLX ho) (.cons (hzg.up GL.le) .nil)) J ?_);rintro _ G6 _ hw;obtain⟨y1,y2,y3,rfl,hw'⟩:=WF hw;refine sm J J<|sx J J J<|sx J J J<|?_;refine sc (vL J ?_);intro b3;refine sc (E9 J J J omV J (nb J) J J ?_)
  refine sa J J<|zE<|fw<|sR<|sm J J<|sy (uc J) J<|zE<|?_;refine s5 J<|zK<|?_;show St C _ _ [⟨b3,[.bool (decide (l.a<0)), .slice y1.a y1.n y1.c, .bool (decide (l.b<0)), .slice y2.a y2.n y2.c, .bool (decide (l.c<0)), .slice y3.a y3.n y3.c],54,true⟩,⟨b1,[.int .i64 r0, .slice (some ⟨ab,aoff,none⟩) ns.length xc],31,true⟩,⟨sb,sK ns.length (k+1),4,false⟩] _ _;refine fw<|wk [⟨b1,[.int .i64 r0, .slice (some ⟨ab,aoff,none⟩) ns.length xc],31,true⟩] (fun _=>false) [(0,true),(1,true),(2,true),(3,true),(4,true),(5,true),(6,true),(7,true),(8,false),(9,true),(10,true),(11,true),(12,true),(13,true)] follows omd<|?_;refine dL J J J J<|dF J J J<|q6 J J J J<|dM J J J<|?_;refine dy J (fun _=>xz J J) J J<|dF J J J<|?_;refine dy J (fun _=>tA J vo (by rw[cK];exact hk6)) J J<|dM J J J<|?_;have hrp:=ih1 h1 we hb1 ho1 (G:=G6) (sb:=sb) (lo2:=false);refine dc J J (zz J J (M:=[_]) (rest:=[_,_]) (jK (l₁:=[_,_]) (l₂:=[_])) hrp J ?_);rintro _ css G7 _ _ ⟨a1,rfl,hq1,rfl⟩;show St C _ _ [⟨sb,sK ns.length (k+1+tx.size),4,false⟩,⟨b3,[.bool (decide (l.a<0)), .slice y1.a y1.n y1.c, .bool (decide (l.b<0)), .slice y2.a y2.n y2.c, .bool (decide (l.c<0)), .slice y3.a y3.n y3.c],54,true⟩,⟨b1,[.int .i64 r0, .slice (some ⟨ab,aoff,none⟩) ns.length xc],31,true⟩] _ _;refine mA<|dM J J J<|dy J (fun _=>zj J J) J J<|dy J (fun _=>zj J J) J J<|dA J J J<|?_;refine dA J J J<|dn<|?_;refine fw<|sR<|sm J J<|sy (uc J) J<|zE<|s5 J<|zK<|?_;refine fw<|wk [⟨b1,[.int .i64 r0, .slice (some ⟨ab,aoff,none⟩) ns.length xc],31,true⟩] (fun _=>false) [(0,true),(1,true),(2,true),(3,true),(4,true),(5,true),(6,true),(7,true),(8,false),(9,true),(10,true),(11,true),(12,true),(13,true)] follows omd<|?_
  refine dL J J J J<|dF J J J<|q6 J J J J<|dM J J J<|?_;refine dy J (fun _=>xz J J) J J<|dF J J J<|?_;refine dy J (fun _=>tA J vo (by rw[cK];exact hk7)) J J<|dM J J J<|?_;have hrp:=ih2 h2 hk hb2 ho2 (G:=G7) (sb:=sb) (lo2:=false);refine dc J J (zz J J (M:=[_]) (rest:=[_,_]) (List.Perm.refl _) hrp J ?_);rintro _ css G8 _ _ ⟨a2,rfl,hq2,rfl⟩;show St C _ _ [⟨sb,sK ns.length (k+1+tx.size+ty.size),4,false⟩,⟨b3,[.bool (decide (l.a<0)), .slice y1.a y1.n y1.c, .bool (decide (l.b<0)), .slice y2.a y2.n y2.c, .bool (decide (l.c<0)), .slice y3.a y3.n y3.c],54,true⟩,⟨b1,[.int .i64 r0, .slice (some ⟨ab,aoff,none⟩) ns.length xc],31,true⟩] _ _;refine mA<|dM J J J<|dy J (fun _=>zj J J) J J<|dy J (fun _=>zj J J) J J<|dA J J J<|?_;refine dA J J J<|dn<|?_;refine sR<|EN J J J<|sm J J<|sm J J<|sy (yp J) J<|?_;refine sc (u6 J J ?_);intro b6;refine sm J J<|sa J J<|sa J J<|zE<|lD<|?_;refine DG b6 (.hd ..) ?_;intro G9 _ hfz;exact t6 (css:=[_]) (.tmp J (.tmp J .nil)) J (_::[_,_]) (List.Perm.refl _) (.cons_cons _ (jM _)) ⟨_,J,mF.2 ⟨b6,_,J,hfz.h,Yw (hw'.up GL.le) (hq1.up GL.le) (hq2.up GL.le)⟩,J⟩
def aFF{t:Tr}(hb:t.all LB)(ho:t.all aa.ok)(hs:t.size<=65536):PF GB prog 35 [eA t] (.tp [eT t,vB true]):=by
 intro G vs _ hv;obtain⟨⟨xa,xn,xc⟩,rfl,rfl,hx⟩:=Ro hv;have hn:=t.wr_len 0;show Fn _ _ [.agg ⟨[.int .i64 (t.num 0), .slice xa (t.wr 0).length xc]⟩] _ _;refine Fn.intro func35 J J ntmps35 J ?_;intro C _ _;refine sR<|?_;refine sc (u6 J J ?_);intro b1;refine sa J J<|sa J J<|zE<|fw<|sR<|sf J J<|ol J J J<|uB J J<|sy (CV J J) J<|zE<|?_;refine xj J (fun hc=>absurd hc we) (fun _=>?_);refine zK<|sR<|sf J J<|ol J J J<|uB J J<|?_;refine sc (JS J J we we we okS J ?_);intro b2;rw[cK,N8];refine sa J J<|zE<|sR<|EN J J J<|sf J J<|ol J J J<|sm J J<|?_;refine sc (zz J J (M:=[_]) (rest:=[_]) (List.Perm.refl _) (aLV (r0:=t.num 0) hx we (sO.of (a:=[]) (b:=[]) (k:=0) omc J) we hb ho (G:=G) (sb:=b2) (lo2:=true)) J ?_);rintro _ css G3 _ _ ⟨q,rfl,hq,rfl⟩;show St C _ _ [⟨b2,sK (t.wr 0).length (0+t.size),4,true⟩,⟨b1,[.int .i64 (t.num 0), .slice xa (t.wr 0).length xc],31,true⟩] _ _;refine sm J J<|sx J J J<|sx J J J<|sa J J<|sa J J<|zE<|fw<|sR<|sm J J<|uB J J<|sm J J<|zE<|yf<|?_;refine Ts (X:=Nat) (fun i=>[(27, .int .i64 (i:Nat)),(26, .int .i64 (t.wr 0).length),(25, .slice (some ⟨b2,0,none⟩) (t.wr 0).length (t.wr 0).length),(6, .bool true),(5, .pointer q)]) (fun _=>[⟨b2,sK (t.wr 0).length (0+t.size),4,true⟩,⟨b1,[.int .i64 (t.num 0), .slice xa (t.wr 0).length xc],31,true⟩]) (fun i _=>i<=(t.wr 0).length) (fun i=>(t.wr 0).length-i) 0 (aN _) (.cons J (.cons J (.cons J (.cons J (.cons J .nil))))) J ?_;rintro i Gx _ hi;refine sR<|sy (Gn J J) J<|zE<|fw<|?_
 refine Ou J (fun hc=>?_) (fun hc=>?_)
 .refine Pu<|Gc<|Gc<|RP<|sR<|sm J J<|sm J J<|sa J J<|sa J J<|zE<|lD<|?_
  exact zD (.tmp J (.tmp J .nil)) (mm.2 ⟨_,J, .cons (hq.up GL.le) (.cons (aP.2 J) .nil)⟩)
 have hi':i<(t.wr 0).length:=by omega
 refine zK<|fw<|yf<|sR<|sy (wc J J) J<|?_;refine sy (pp (v:= .bool true) J (by rw[cK,jT];exact IF hi' (by rw[lV];omega))) J<|sa J J<|zE<|Fa<|sm J J<|sm J J<|?_;refine ge J J (mo J) J<|sy (HE J J) J<|sa J J<|zE<|Fa<|sy (Aa J J) J<|sm J J<|zE<|?_;exact KN (i+1) hi' we (.cons (by show some (Value.int _ _)=some (.int _ _);congr 2) (.cons J (.cons J (.cons J (.cons J .nil))))) J
def J1(a b:Tr):DV:= .ag [eU a,eU b]
def aKz{k:Nat}{t:Tr}(h:gF k t):PF GB prog 55 [eA t] (.tp [eU t,vB true]):=Je h.lb h.ok (by have:=h.s;omega)
def Sc(l:List Rat):f8 l=uw bE l:=by
 unfold f8 uw;have key: ∀(l o:List Rat),l.foldl (fun out x=>lu x out) o=l.foldl (fun out x=>fe bE x out) o:=by
  intro l
  induction l with
  |nil=>intro o;rfl
  |cons a t ih=>intro o;rw[iQ,iQ,Bl,ih]
 exact key l []
def HC(l:List Rat):(f8 l).length<=l.length:=by
 have:=Es bE l [];rw[Sc];simpa[uw] using this
theorem Li{k:Nat}{l:List Rat}(h: ∀q∈l,BQ q k): ∀g∈cB l,BQ g (2*k+100):=fun g hg=>by
 cases l with
 |nil=>
  rw[cB,aT] at hg;subst hg;exact BQ.mono (k:=1) ⟨oma,oma⟩ we
 |cons a t=>
  rw[cB] at hg;rcases aW.1 hg with rfl|hg
  .haveI:=h a aQ
   exact BQ.mono (inferInstance:BQ (a-1) _) we
  .rcases bZ.1 hg with hg|hg
   .obtain⟨c,hc,d,hd,rfl⟩:=Il hg
    haveI:=h c hc;haveI:=h d hd;exact BQ.mono (inferInstance:BQ ((c+d)/2) _) we
   .rw[aT] at hg
    haveI:=h _ (List.getLast_mem (l:=a::t) omc);subst hg;exact BQ.mono (inferInstance:BQ ((a::t).getLast omc+1) _) we
def vn(a:aa)(t:List aa):List Rat:=t.filterMap fun b=>if crossI a b=0 then none else some (cx a b).x
def L6(a:aa)(t:List aa):ef (a::t)=(if a.b=0 then [a.base.x] else [])++(vn a t++ef t):=rfl
def aEV(a:aa)(t:List aa):(vn a t).length<=t.length:=kU _ _
def IR: ∀l:List aa,(ef l).length<=l.length*(l.length+1)
 |[]=>bV _
 |a::t=>by
  have h1:=IR t;have h2:=aEV a t;have h3:(if a.b=0 then [a.base.x] else []).length<=1:=by split<;>simp
  rw[L6,aY,aY,aS];have e:(t.length+1)*(t.length+1+1)=t.length*(t.length+1)+2*t.length+2:=by simp only[dS,fW];omega
  rw[e];omega
theorem C7: ∀{l:List aa},(∀a∈l,LB a)-> ∀x∈ef l,BQ x 900
 |[],_,x,h=>by cases h
 |a::t,hl,x,h=>by
  haveI:=hl a aQ;have ht: ∀b∈t,LB b:=fun b hb=>hl b (aJ _ hb);rw[L6] at h;rcases bZ.1 h with h|h
  .split at h
   .rw[aT] at h;subst h;infer_instance
   .cases h
  .rcases bZ.1 h with h|h
   .obtain⟨b,hb,e⟩:=jU.1 h
    haveI:=ht b hb;split at e
    .cases e
    .cases e;exact BQ.mono (inferInstance:BQ (cx a b).x 772)
   .exact C7 ht x h
def Pp(l:List aa)(x:Rat):(hH l x).length<=l.length:=kU _ _
theorem Nz{l:List aa}(hl: ∀a∈l,LB a){x:Rat}(hx:BQ x 1900): ∀y∈hH l x,BQ y 2400:=fun y hy=>by
 obtain⟨a,ha,hb,rfl⟩:=Oy hy;haveI:=hl a ha;unfold yA;exact BQ.mono (inferInstance:BQ (-(((a.a:Rat)*x+(a.c:Rat))/(a.b:Rat))) _) we
def P8{l:List aa}{k:Nat}{a:aa}{x:Rat}(h:l[k]? =some a):hH (l.drop k) x=(if a.b=0 then [] else [yA a x])++hH (l.drop (k+1)) x:=by
 obtain⟨hk,rfl⟩:=aR.1 h;rw[bK hk];unfold hH;rw[lY];split<;>(rename_i e;split at e<;>simp_all)
def RW{t:List aa}{k:Nat}{a b:aa}(h:t[k]? =some b):vn a (t.drop k)=(if crossI a b=0 then [] else [(cx a b).x])++vn a (t.drop (k+1)):=by
 obtain⟨hk,rfl⟩:=aR.1 h;rw[bK hk];unfold vn;rw[lY];split<;>(rename_i e;split at e<;>simp_all)
def Vh{l:List aa}{k:Nat}{a:aa}(h:l[k]? =some a):ef (l.drop k)=(if a.b=0 then [a.base.x] else [])++(vn a (l.drop (k+1))++ef (l.drop (k+1))):=by
 obtain⟨hk,rfl⟩:=aR.1 h;rw[bK hk,L6]
def Bv{α:Type}{a b c:List α}(h:a++b=c):a.length<=c.length:=by rw[<-h,aY];omega
def yj(l:List aa)(x:Rat):List ah:=(cB (f8 (hH l x))).map fun y=>⟨x,y⟩
def auD(l:List aa):qo l=(cB (f8 (ef l))).flatMap (yj l):=rfl
def QV(l:List aa)(x:Rat):(yj l x).length<=l.length+1:=by
 unfold yj;rw[aX,Bc];have:=HC (hH l x);have:=Pp l x;omega
def Oo{α β:Type}(f:α->List β)(m:Nat): ∀l:List α,(∀x,(f x).length<=m)->(l.flatMap f).length<=l.length*m
 |[],_=>by simp
 |a::t,h=>by
  have:=Oo f m t h;have:=h a;rw[gJ,aY,aS,fS];omega
def Nh{l:List aa}(h:l.length<=6000):(cB (f8 (ef l))).length<=36006001:=by
 have h1:=IR l;have h2:=HC (ef l);have h3:l.length*(l.length+1)<=6000*6001:=fZ h we;rw[Bc];omega
def TB{l:List aa}(h:l.length<=6000):(qo l).length<=216072012001:=by
 have h1:=Oo (yj l) 6001 (cB (f8 (ef l))) (fun x=>by have:=QV l x;omega);have h2:(cB (f8 (ef l))).length*6001<=36006001*6001:=bW _ (Nh h);rw[auD];omega
def awW{α β:Type}{f:α->List β}{l:List α}{k:Nat}{x:α}(h:l[k]? =some x):(l.drop k).flatMap f=f x++(l.drop (k+1)).flatMap f:=by
 obtain⟨hk,rfl⟩:=aR.1 h;rw[bK hk,gJ]
def ayh{α β:Type}{f:α->β}{l:List α}{k:Nat}{x:α}(h:l[k]? =some x):(l.drop k).map f=f x::(l.drop (k+1)).map f:=by
 obtain⟨hk,rfl⟩:=aR.1 h;rw[bK hk,bY]
def DS{α:Type}(l:List α):l.drop l.length=[]:=by simp
theorem omY{p:Prop}(h:p:=by dsimp only;exact⟨⟨by rw[uD hz,<-h1];exact hin.symm,we⟩,we⟩):p:=h
def R1{qs:List Rat}{k:Nat}(hb: ∀q∈qs,BQ q k)(hk:k<=100000)(hn:qs.length<=40000000:=by omega):PF GB prog 132 [.sl (qs.map eQ)] (.sl ((f8 qs).map eQ)):=by
 have hm':=ez eQ qs;refine fn (fu:=⟨15⟩) func132 J J ntmps132 J J (fun C=>?_);refine aj 8 (.d (vI (qs.length:Nat))) J (by rw[hm']<;>rfl)<|gx J<|Dl 3 J<|lp (X:=List Rat×Nat) (fun⟨xs,i⟩=>[(9, .d (vI (i:Nat))),(3, .d (.sl (xs.map eQ)))]) (fun⟨xs,i⟩=>[]) (fun⟨xs,i⟩=>xs=rD bE id qs i/\i<=qs.length) (fun⟨xs,i⟩=>qs.length-i) ⟨[],0⟩ J ⟨J,aN _⟩ (fun _=>J) (fun⟨xs,i⟩ hk=>?_)
 try dsimp only at hk⊢
 obtain⟨h1,h2⟩:=hk;refine br J J J (fun hc10=>?_) (fun hc10=>?_)
 .
  obtain⟨q,hz⟩: ∃s,qs[i]? =some s:=⟨_,aZ we⟩;haveI hqb:=hb q (aK hz);have hxl:=ez eQ xs;have hxn:xs.length<=i:=by rw[h1];exact KR
  have hxb: ∀u∈xs,BQ u k:=fun u hu=>by rw[h1] at hu;obtain⟨z,hz,he⟩:=Ib hu;rw[he];exact hb z hz
  refine ix (fu:=⟨11⟩) _ J (cp hz) J<|mg (fu:=⟨5⟩) (X:=Nat) (fun n=>[(6, .d (vI (n:Nat)))]) (fun n=>[]) (fun n=>me bE q xs=n) [6] [] rfl ?_ (fun _=>J) (fun n hnx=>?_)
  .
   refine gx J<|lp (fu:=⟨6⟩) (X:=Nat) (fun n=>[(6, .d (vI (n:Nat)))]) (fun n=>[]) (fun n=>n<=xs.length/\ ∀j (h:j<xs.length),j<n->bE xs[j] q<0) (fun n=>xs.length-n) 0 J ⟨aN _,fun j _ hj=>absurd hj we⟩ (fun _=>J) (fun n hk=>?_);obtain⟨n1,n2⟩:=hk;refine jP (v2:=fun hg16=>by simp only[ak];kernel_rfl) J J J J (fun hg16=>?_) (fun hg16=>?_)
   .
    refine ix _ J (pE) J<|cl J (lm (a:=xs[n]' we) (b:=q) (ha:=hxb _ (dQ we)) (hb:=hqb) we we) J<|br J J J (fun hc25=>?_) (fun hc25=>?_)
    .
     exact at_ (n+1) ⟨⟨we,fun j h hj=>by by_cases q:j=n;(subst q;exact hc25);exact n2 j h we⟩,we⟩
    .
     exact at_ n (tc bE n1 n2 (fun h=>hc25))
   .
    exact at_ n (tc bE n1 n2 (fun h=>absurd h we))
  .
   have hnl:n<=xs.length:=by rw[<-hnx];exact Ct _ _ _
   refine jP (v1:=fun hg31=>by simp only[ak];kernel_rfl) J J J J (fun hg31=>?_) (fun hg31=>?_)
   .
    have hnew: ∀h:n<xs.length,bE xs[n] q≠0:=fun h=>absurd h we;obtain⟨ys,hys⟩: ∃ys,ys=xs.take n++q::xs.drop n:=⟨_,rfl⟩;have hin:fe bE q xs=ys:=by rw[hys];exact qD bE hnx hnew
    have hyl:ys.length<=xs.length+1:=by rw[hys];simp;omega
    refine s3 n _ J J J J (fj _) omD J<|ro J J<|kp n xs.length _ J J okl J (fj _) hnl we J<|ap _ J J (q8 fj _ _ _) J<|kz (hv:=by simp only[ak];exact⟨omd,we⟩) (ho:=fun _=>⟨sE fj _ _,omc⟩) (ys.map eQ) J omz (sB fj _ _ _ _) J<|at_ ⟨ys,i+1⟩ omY
   .
    refine ix _ J (pE) J<|cl J (lm (a:=xs[n]' we) (b:=q) (ha:=hxb _ (dQ we)) (hb:=hqb) we we) J<|br J J J (fun hc40=>?_) (fun hc40=>?_)
    .
     have hnew: ∀h:n<xs.length,bE xs[n] q≠0:=fun h=>hc40;obtain⟨ys,hys⟩: ∃ys,ys=xs.take n++q::xs.drop n:=⟨_,rfl⟩;have hin:fe bE q xs=ys:=by rw[hys];exact qD bE hnx hnew
     have hyl:ys.length<=xs.length+1:=by rw[hys];simp;omega
     refine s3 n _ J J J J (fj _) omD J<|ro J J<|kp n xs.length _ J J okl J (fj _) hnl we J<|ap _ J J (q8 fj _ _ _) J<|kz (hv:=by simp only[ak];exact⟨omd,we⟩) (ho:=fun _=>⟨sE fj _ _,omc⟩) (ys.map eQ) J omz (sB fj _ _ _ _) J<|at_ ⟨ys,i+1⟩ omY
    .
     have hin:fe bE q xs=xs:=BE bE hnx we (Decidable.not_not.1 hc40);exact at_ ⟨xs,i+1⟩ omY
 .
  have hfin:f8 qs=xs:=by rw[Sc,h1,Kb,List.map_id]
  exact rz J oze
def O1{cuts:List Rat}{k:Nat}(hb: ∀q∈cuts,BQ q k)(hk':k<=100000)(hn:cuts.length<=40000000):PF GB prog 131 [.sl (cuts.map eQ)] (.sl ((cB cuts).map eQ)):=by
 have hm:=ez eQ cuts;refine fn (fu:=⟨10⟩) func131 J J ntmps131 J J (fun C=>?_);refine aj 6 (.d (vI (cuts.length:Nat))) J omu<|gx J<|br J J J (fun hc7=>?_) (fun hc7=>?_)
 .
  obtain rfl:cuts=[]:=cY we;refine rf J J<|rz J (by rw[cB];show DV.sl [_]=DV.sl [_];rw[Ml])
 .
  obtain⟨a,ct,rfl⟩: ∃a t,cuts=a::t:=by cases cuts with|nil=>exact absurd rfl hc7|cons a t=>exact⟨a,t,rfl⟩
  haveI hab:=hb a aQ;have hcl:ct.length+1<=40000000:=hn;refine ix _ J J J<|cl J (jh (n:=1)) J<|cl (fu:=⟨0⟩) J (sr (a:=a) (b:=((1:Int):Rat)) we we) J<|aj 14 (.d (eQ (a-1))) J J<|gx J<|ro J J<|lp (fu:=⟨6⟩) (X:=Nat) (fun i=>[(4, .d (vI ((i+1:Nat):Int))),(3, .rw 15)]) (fun i=>[(15,some (.b 61 3 (((a-1)::je ((a::ct).take (i+1))).map eQ) true))]) (fun i=>i<=ct.length) (fun i=>ct.length-i) 0 J (aN _) (fun _=>J) (fun i hk=>?_);have hm2:=ez eQ (a::ct);have hml:=DX (a::ct.take i);rw[aS,bL] at hml;have hml2:=DX (a::ct);rw[aS] at hml2;refine aj 18 (.d (vI ((ct.length+1:Nat):Int))) J okX<|gx J<|br (fu2:=⟨11⟩) J J J (fun hc19=>?_) (fun hc19=>?_)
  .
   obtain⟨u,hu⟩: ∃s,(a::ct)[i]? =some s:=⟨_,aZ omq⟩;obtain⟨w,hw⟩: ∃s,(a::ct)[i+1]? =some s:=⟨_,aZ omq⟩;haveI:=hb u (aK hu);haveI:=hb w (aK hw);refine ix _ J okZ J<|ix _ J (by rw[cK,cJ,hw];rfl) J<|?_;refine cl J (Gf (a:=u) (b:=w) we we) J<|rf J J<|ap (hv:=by simp only[ak];exact⟨omd,we⟩) (((a-1)::je ((a::ct).take (i+1+1))).map eQ) J (by rw[Jo hu hw,<-gL,aL];rfl) (fj [(u+w)/2]) J<|ek 34 15 J<|at_ (i+1) ⟨we,we⟩
  .
   obtain rfl:i=ct.length:=by omega
   obtain⟨z,hz⟩: ∃s,(a::ct)[ct.length]? =some s:=⟨_,aZ omc⟩;haveI:=hb z (aK hz);rw[show(a::ct).take (ct.length+1)=a::ct from cN (l:=a::ct)];refine aj 38 (.d (vI ((ct.length+1:Nat):Int))) J okX<|gx J<|ix _ J okD J<|cl J (jh (n:=1)) J<|?_;refine cl J (m8 (a:=z) (b:=((1:Int):Rat)) we we) J<|rf J J<|ap ((cB (a::ct)).map eQ) J (by rw[Vz hz,<-gL,aL];rfl) (fj [z+1]) J<|gw 45 J<|rz J J
theorem ozf{p:Prop}(h:p:=by rw[aX]<;>rfl):p:=h
def Wu{l:List aa}(hb: ∀a∈l,LB a)(ho: ∀a∈l,a.Ne)(hn:l.length<=6000):PF GB prog 70 [.sl (l.map eL)] (.sl ((qo l).map eP)):=by
 have hbl:=hb;have hml:=ez eL l;have htot:=TB hn;have hgl:=Nh hn;have hxl:=IR l;have hxl2:l.length*(l.length+1)<=6000*6001:=fZ hn we;refine fn (fu:=⟨15⟩) func70 J J ntmps70 J J (fun C=>?_);refine aj 19 (.d (vI (l.length:Nat))) J ozf<|gx J<|nr 3 3 61 3 J J J<|lp (X:=List Rat×Nat) (fun⟨cur,i⟩=>[(20, .d (vI (i:Nat))),(3, .rw 3)]) (fun⟨cur,i⟩=>[(3,some (.b 61 3 (cur.map eQ) true))]) (fun⟨cur,i⟩=>cur++ef (l.drop i)=ef l/\i<=l.length) (fun⟨cur,i⟩=>l.length-i) ⟨[],0⟩ J ⟨omc,aN _⟩ (fun _=>J) (fun⟨cur,i⟩ hk=>?_)
 try dsimp only at hk⊢
 obtain⟨h1,h2⟩:=hk;have hcl:=Bv h1;have hcm:=ez eQ cur;refine br (fu2:=⟨0⟩) J J J (fun hc21=>?_) (fun hc21=>?_)
 .
  obtain⟨a,ha⟩: ∃s,l[i]? =some s:=⟨_,aZ we⟩;haveI hab:=hb a (aK ha);have hao:=ho a (aK ha);refine ix (fu:=⟨7⟩) _ J (cp ha) J<|mg (X:=List Rat) (fun cur1=>[(3, .rw 3)]) (fun cur1=>[(3,some (.b 61 3 (cur1.map eQ) true))]) (fun cur1=>cur1++(vn a ((l.drop (i+1)).drop 0)++ef (l.drop (i+1)))=ef l) [3] [3] rfl ?_ (fun _=>J) (fun cur1 hc1=>?_)
  .
   refine gx J<|cl J (BS (z:=a.b)) J<|br J J J (fun hc28=>?_) (fun hc28=>?_)
   .
    refine cl J (BA (l:=a) hao) J<|rf J J<|ap ((cur++[a.base.x]).map eQ) J omO (fj [_]) J<|ek 34 3 J<|at_ (cur++[a.base.x]) (by rw[<-h1,Vh ha,if_pos (iV.1 hc28)];simp)
   .
    exact at_ cur (by rw[<-h1,Vh ha,if_neg (fun e=>hc28 (iV.2 e))];simp)
  .
   have hcl1:=Bv hc1;have hdl:(l.drop (i+1)).length<=6000:=by rw[gM];omega
   have hcm1:=ez eQ cur1;refine kp (fu:=⟨1⟩) (i+1) l.length ((l.drop (i+1)).map eL) J J (by rw[hml]) (by rw[bM (by rw[hml];exact bV _),iL]) (du l) we (by rw[hml];exact bV _) J<|aj 39 (.d (vI ((l.drop (i+1)).length:Nat))) J ozf<|gx J<|lp (X:=List Rat×Nat) (fun⟨cur2,j⟩=>[(40, .d (vI (j:Nat))),(3, .rw 3)]) (fun⟨cur2,j⟩=>[(3,some (.b 61 3 (cur2.map eQ) true))]) (fun⟨cur2,j⟩=>cur2++(vn a ((l.drop (i+1)).drop j)++ef (l.drop (i+1)))=ef l/\j<=(l.drop (i+1)).length) (fun⟨cur2,j⟩=>(l.drop (i+1)).length-j) ⟨cur1,0⟩ J ⟨hc1,aN _⟩ (fun _=>J) (fun⟨cur2,j⟩ hk=>?_)
   try dsimp only at hk⊢
   obtain⟨j1,j2⟩:=hk;have hcl2:=Bv j1;have hcm2:=ez eQ cur2;refine br J J J (fun hc41=>?_) (fun hc41=>?_)
   .
    obtain⟨b,hb⟩: ∃s,(l.drop (i+1))[j]? =some s:=⟨_,aZ we⟩;haveI hbb:=hbl b (iZ (aK hb));refine ix _ J (cp hb) J<|cl J (Em (l:=a) (m:=b)) J<|bd J J J (fun hc50=>?_) (fun hc50=>?_)
    .
     refine rf J J<|ap ((cur2++[(cx a b).x]).map eQ) J omO (fj [_]) J<|ek 55 3 J<|at_ ⟨cur2++[(cx a b).x],j+1⟩ (by dsimp only;exact⟨⟨by rw[<-j1,RW hb,if_neg hc50];simp,we⟩,we⟩)
    .
     exact at_ ⟨cur2,j+1⟩ (by dsimp only;exact⟨⟨by rw[<-j1,RW hb,if_pos (Decidable.not_not.1 hc50)];simp,we⟩,we⟩)
   .
    obtain rfl:j=(l.drop (i+1)).length:=by omega
    exact at_ ⟨cur2,i+1⟩ (by dsimp only;exact⟨⟨by rw[DS] at j1;exact j1,we⟩,we⟩)
 .
  obtain rfl:i=l.length:=by omega
  obtain rfl:cur=ef l:=by rw[DS] at h1;simpa[ef] using h1
  refine nj 3 J<|gx J<|cl J (R1 (qs:=ef l) (k:=900) (C7 hb) oma) J<|cl (fu:=⟨1⟩) J (O1 (cuts:=f8 (ef l)) (k:=900) (fun q hq=>C7 hb q (qm.1 hq)) oma (by have:=HC (ef l);omega)) J<|aj 61 (.d (vI ((cB (f8 (ef l))).length:Nat))) J ozf<|gx J<|nr 10 10 63 6 J J J<|lp (X:=List ah×Nat) (fun⟨pts,g⟩=>[(62, .d (vI (g:Nat))),(10, .rw 10)]) (fun⟨pts,g⟩=>[(10,some (.b 63 6 (pts.map eP) true))]) (fun⟨pts,g⟩=>pts++((cB (f8 (ef l))).drop g).flatMap (yj l)=qo l/\g<=(cB (f8 (ef l))).length) (fun⟨pts,g⟩=>(cB (f8 (ef l))).length-g) ⟨[],0⟩ J ⟨J,aN _⟩ (fun _=>J) (fun⟨pts,g⟩ hk=>?_)
  try dsimp only at hk⊢
  obtain⟨g1,g2⟩:=hk;have hpl:=Bv g1;have hpm:=ez eP pts;refine br J J J (fun hc63=>?_) (fun hc63=>?_)
  .
   obtain⟨x,hx⟩: ∃s,(cB (f8 (ef l)))[g]? =some s:=⟨_,aZ we⟩;haveI hxb:BQ x 1900:=Li (k:=900) (fun q hq=>C7 hb q (qm.1 hq)) x (aK hx);refine ix (fu:=⟨15⟩) _ J (cp hx) J<|aj 67 (.d (vI (l.length:Nat))) J ozf<|gx J<|nr 13 13 61 3 J J J<|lp (X:=List Rat×Nat) (fun⟨ys,j⟩=>[(68, .d (vI (j:Nat))),(13, .rw 13)]) (fun⟨ys,j⟩=>[(13,some (.b 61 3 (ys.map eQ) true))]) (fun⟨ys,j⟩=>ys++hH (l.drop j) x=hH l x/\j<=l.length) (fun⟨ys,j⟩=>l.length-j) ⟨[],0⟩ J ⟨J,aN _⟩ (fun _=>J) (fun⟨ys,j⟩ hk=>?_)
   try dsimp only at hk⊢
   obtain⟨y1,y2⟩:=hk;have hyl:=Bv y1;have hym:=ez eQ ys;have hyt:=Pp l x;refine br (fu2:=⟨0⟩) J J J (fun hc69=>?_) (fun hc69=>?_)
   .
    obtain⟨a,ha⟩: ∃s,l[j]? =some s:=⟨_,aZ we⟩;haveI hala:=hb a (aK ha);refine ix _ J (cp ha) J<|cl J (BS (z:=a.b)) J<|br J J J (fun hc75=>?_) (fun hc75=>?_)
    .
     have hab: ¬a.b=0:=fun e=>hc75 (iV.2 e);have habR:((a.b:Int):Rat)≠0:=fun e=>hab (cM.1 e);refine cl J (jf (z:=a.a)) J<|cl J (ik (a:=(a.a:Rat)) (b:=x)) J<|cl J (jf (z:=a.c)) J<|cl J (m8 (a:=(a.a:Rat)*x) (b:=(a.c:Rat))) J<|cl J (jf (z:=a.b)) J<|cl J (zr (a:=(a.a:Rat)*x+(a.c:Rat)) (b:=(a.b:Rat)) habR) J<|cl J (pz (q:=((a.a:Rat)*x+(a.c:Rat))/(a.b:Rat))) J<|rf J J<|ap (hv:=by simp only[ak];exact⟨omd,we⟩) ((ys++[yA a x]).map eQ) J omO (fj [_]) J<|ek 92 13 J<|at_ ⟨ys++[yA a x],j+1⟩ (by dsimp only;exact⟨⟨by rw[<-y1,P8 ha,if_neg hab];simp,we⟩,we⟩)
    .
     have hab:a.b=0:=iV.1 (Decidable.not_not.1 hc75);exact at_ ⟨ys,j+1⟩ (by dsimp only;exact⟨⟨by rw[<-y1,P8 ha,if_pos hab];simp,we⟩,we⟩)
   .
    obtain rfl:j=l.length:=by omega
    obtain rfl:ys=hH l x:=by rw[DS] at y1;simpa[hH] using y1
    have hyb:=Nz hb hxb;have hgy:(cB (f8 (hH l x))).length<=6001:=by have:=QV l x;unfold yj at this;rw[aX] at this;omega
    refine nj 13 J<|gx J<|cl J (R1 (qs:=hH l x) (k:=2400) hyb oma) J<|cl (fu:=⟨1⟩) J (O1 (cuts:=f8 (hH l x)) (k:=2400) (fun q hq=>hyb q (qm.1 hq)) oma (by have:=HC (hH l x);omega)) J<|aj 97 (.d (vI ((cB (f8 (hH l x))).length:Nat))) J ozf<|gx J<|lp (X:=List ah×Nat) (fun⟨pts2,j⟩=>[(98, .d (vI (j:Nat))),(10, .rw 10)]) (fun⟨pts2,j⟩=>[(10,some (.b 63 6 (pts2.map eP) true))]) (fun⟨pts2,j⟩=>pts2++(((cB (f8 (hH l x))).drop j).map (fun y=>(⟨x,y⟩:ah))++((cB (f8 (ef l))).drop (g+1)).flatMap (yj l))=qo l/\j<=(cB (f8 (hH l x))).length) (fun⟨pts2,j⟩=>(cB (f8 (hH l x))).length-j) ⟨pts,0⟩ J ⟨by rw[awW hx] at g1;exact g1,aN _⟩ (fun _=>J) (fun⟨pts2,j⟩ hk=>?_)
    try dsimp only at hk⊢
    obtain⟨w1,w2⟩:=hk;have hpl2:=Bv w1;have hpm2:=ez eP pts2;refine br J J J (fun hc99=>?_) (fun hc99=>?_)
    .
     obtain⟨y,hy⟩: ∃s,(cB (f8 (hH l x)))[j]? =some s:=⟨_,aZ we⟩;refine ix _ J (cp hy) J<|rf J J<|ap ((pts2++[(⟨x,y⟩:ah)]).map eP) J omO (SM [(⟨x,y⟩:ah)]) J<|ek 107 10 J<|at_ ⟨pts2++[⟨x,y⟩],j+1⟩ (by dsimp only;exact⟨⟨by rw[<-w1,ayh hy];simp,we⟩,we⟩)
    .
     obtain rfl:j=(cB (f8 (hH l x))).length:=by omega
     exact at_ ⟨pts2,g+1⟩ (by dsimp only;exact⟨⟨by rw[DS] at w1;exact w1,we⟩,we⟩)
  .
   obtain rfl:g=(cB (f8 (ef l))).length:=by omega
   obtain rfl:pts=qo l:=by rw[DS] at g1;simpa using g1
   refine gw 10 J<|rz J J
def ap2{b:Bool}:PR GB prog 72 [eT (Tr.leaf b)] 6 54 ((Tr.leaf b).lns.map eL):=by
 refine BP (fu:=⟨11⟩) func72 J J ntmps72 J J (fun C hmb=>?_);refine d7 J J J<|?_;exact M2 J J J
def Wr{l:aa}{x y:Tr}(hs:(Tr.node l x y).size<=100000)(ihx:PR GB prog 72 [eT x] 6 54 (x.lns.map eL))(ihy:PR GB prog 72 [eT y] 6 54 (y.lns.map eL)):PR GB prog 72 [eT (Tr.node l x y)] 6 54 ((Tr.node l x y).lns.map eL):=by
 have hsx:=t8 x;have hsy:=t8 y;have hsz:(Tr.node l x y).size=1+x.size+y.size:=J;refine BP (fu:=⟨11⟩) func72 J J ntmps72 J J (fun C hmb=>?_);refine cv J J J<|ro J J<|cr J ihx J<|ap (hbd:=by simp only[aX,aS,eX];omega) ((l::x.lns).map eL) J (by rw[bY];rfl) (du _) J<|cr J ihy J<|ap (hbd:=by simp only[aX,aS,eX];omega) ((l::(x.lns++y.lns)).map eL) J (by rw[bY,bY,aL];rfl) (du _) J<|?_;exact Ca J J J J
theorem omM{p:Prop}(h:p:=by have:(Tr.node l x y).size=1+x.size+y.size:=J;omega):p:=h
def Hj: ∀{t:Tr},t.size<=100000->PR GB prog 72 [eT t] 6 54 (t.lns.map eL)
 | .leaf _,_=>ap2
 | .node l x y,h=>Wr h (Hj omM) (Hj omM)
def yg:Tr->ah->Bool
 | .leaf _,_=>true
 | .node l x y,p=>if(l.value p).num.sign=1 then yg x p else if(l.value p).num.sign= -1 then yg y p else false
def Ul{t:Tr}{p:ah}{i:Nat}[hp:aD p i](hb:t.all LB)(hi:i<=400000:=by decide):PF GB prog 73 [eT t,eP p] (.tp [vB (kI t p),vB (yg t p)]):=by
 refine fn func73 J J ntmps73 J J (fun C=>?_);refine lp (fu:=⟨3⟩) (X:=Tr) (fun s=>[(0, .d (eT s))]) (fun s=>[]) (fun s=>kI s p=kI t p/\yg s p=yg t p/\s.all LB) (fun s=>s.size) t J ⟨J,J,hb⟩ (fun _=>J) (fun s hk=>?_);obtain⟨h1,h2,hb2⟩:=hk;rcases s with b|⟨l,x,y⟩
 .
  have hA:kI t p=b:=h1.symm;have hO:yg t p=true:=h2.symm;refine gx (fu:=⟨3⟩) J<|d7 J J J<|rz J (by rw[hA,hO];rfl)
 .
  have hAn:=h1.symm;have hOn:=h2.symm;rw[kI] at hAn;rw[yg] at hOn;haveI:=hb2.1;refine gx (fu:=⟨3⟩) J<|cv J J J<|cl J (DO (l:=l) (p:=p) (i:=i) hi) J<|br J J J (fun hc17=>?_) (fun hc17=>?_)
  .
   exact at_ x ⟨⟨by rw[hAn,if_pos hc17],by rw[hOn,if_pos hc17],hb2.2.1⟩,(by simp only[Tr.size];omega)⟩
  .
   refine br J J J (fun hc23=>?_) (fun hc23=>?_)
   .
    exact at_ y ⟨⟨by rw[hAn,if_neg hc17,if_pos hc23],by rw[hOn,if_neg hc17,if_pos hc23],hb2.2.2⟩,(by simp only[Tr.size];omega)⟩
   .
    exact rz J (by rw[hAn,hOn,if_neg hc17,if_neg hc23,if_neg hc17,if_neg hc23];rfl)
def OG(ls:List aa):(mE ls).length<=ls.length:=by
 have:=Es et (ls.map aa.canon) [];unfold mE uw;rw[aX,eX] at this;omega
theorem Xx{l:List aa}(hl: ∀a∈l,LB a): ∀p∈qo l,aD p 4900:=fun p hp=>by
 obtain⟨h1,h2⟩:=Lz.1 hp;have hx:BQ p.x 1900:=Li (k:=900) (fun q hq=>C7 hl q (qm.1 hq)) _ h1;have hy:BQ p.y 4900:=Li (k:=2400) (fun q hq=>Nz hl hx q (qm.1 hq)) _ h2;exact⟨hx.mono oma,hy⟩
theorem P4{ls:List aa}(h: ∀l∈ls,LB l): ∀l∈mE ls,LB l:=fun l hl=>by
 obtain⟨x,hx,rfl⟩:=EV hl;haveI:=h x hx
 infer_instance
def XU{ls:List aa}(h: ∀l∈ls,l.ok): ∀l∈mE ls,l.Ne:=fun l hl=>by
 obtain⟨x,hx,rfl⟩:=EV hl;exact(O8 (h x hx)).ne
structure qk (a b:Tr):Prop where
 ga:a.gd
 gb:b.gd
 sa:a.size<=3000
 sb:b.size<=3000
theorem qk.lb{a b:Tr}(h:qk a b): ∀l∈a.lns++b.lns,LB l:=fun l hl=>(bZ.1 hl).elim (l9.1 h.ga.lb l) (l9.1 h.gb.lb l)
def qk.ok{a b:Tr}(h:qk a b): ∀l∈a.lns++b.lns,l.ok:=fun l hl=>(bZ.1 hl).elim (pd h.ga.ok l) (pd h.gb.ok l)
def qk.len{a b:Tr}(h:qk a b):(a.lns++b.lns).length<=6000:=by rw[aY,t8,t8];have:=h.sa;have:=h.sb;omega
def qk.fl{a b:Tr}(h:qk a b):(oB a b).length<=216072012001:=TB (cX (OG _) h.len)
theorem qk.fb{a b:Tr}(h:qk a b): ∀p∈oB a b,aD p 4900:=Xx (P4 h.lb)
def aH1{a b:Tr}{k:Nat}{p:ah}(hz:(oB a b)[k]? =some p)(h:kI a p≠kI b p):uu a b=false:=by
 rw[uu,sT];exact⟨p,aK hz,by simpa using h⟩
def aGc{a b:Tr}(h: ∀j p,(oB a b)[j]? =some p->j<(oB a b).length->kI a p=kI b p):uu a b=true:=by
 rw[uu,dV];intro p hp;obtain⟨j,hj,rfl⟩:=List.getElem_of_mem hp;simpa using h j _ (aZ hj) hj
def Xs{a b:Tr}(h:qk a b):PF GB prog 36 [eT a,eT b] (vB (uu a b)):=by
 have hsa:=h.sa;have hsb:=h.sb;have hll:=h.len;have hfl:=h.fl;have hla:=t8 a;have hlb:=t8 b;refine fn func36 J J ntmps36 J J (fun C=>?_);refine cr J (Hj (t:=a) we) J<|cr J (Hj (t:=b) we) J<|ap (hbd:=by simp only[aX];omega) ((a.lns++b.lns).map eL) J (by rw[aL]) (du _) J<|fz 15 J J<|cl J (aul (ls:=a.lns++b.lns) h.lb we) J<|cl (fu:=⟨1⟩) J (Wu (l:=mE (a.lns++b.lns)) (P4 h.lb) (XU h.ok) (cX (OG _) hll)) J<|aj 18 (.d (vI ((oB a b).length:Nat))) J (by rw[aX];rfl)<|gx J<|lp (X:=Nat) (fun k=>[(19, .d (vI (k:Nat)))]) (fun k=>[]) (fun k=>k<=(oB a b).length/\ ∀j q,(oB a b)[j]? =some q->j<k->kI a q=kI b q) (fun k=>(oB a b).length-k) 0 J ⟨aN _,fun j q _ hj=>absurd hj we⟩ (fun _=>J) (fun k hk=>?_);obtain⟨k1,k2⟩:=hk;refine br J J J (fun hc20=>?_) (fun hc20=>?_)
 .
  obtain⟨p,hz⟩: ∃s,(oB a b)[k]? =some s:=⟨_,aZ we⟩;haveI hpb:=h.fb p (aK hz);refine ix _ J (cp (l:=oB a b) hz) J<|cl J (Ul (t:=a) (p:=p) (i:=4900) h.ga.lb) J<|cl J (Ul (t:=b) (p:=p) (i:=4900) h.gb.lb) J<|bb J J J (fun hc37=>?_) (fun hc37=>?_)
  .
   exact rz J (by rw[aH1 hz (by simpa using hc37)];rfl)
  .
   exact at_ (k+1) ⟨⟨we,fun j q hq hj=>by by_cases e:j=k;(subst e;rw[hz] at hq;cases hq;simpa using hc37);exact k2 j q hq we⟩,we⟩
 .
  exact rz J (by rw[aGc fun j q hq hj=>k2 j q hq we];rfl)
def KY{c:List aa}(hok: ∀l∈c,l.ok):l7 c=true↔ ∃p,d8 c p:=by
 rw[<-Bj hok];unfold l7 jv
 cases c with
 |nil=>simp
 |cons a b=>
  rw[if_neg omq];simp only[decide_eq_true_eq,aX,List.isEmpty_cons,pR,gK];constructor
  .intro h
   obtain⟨m,hm⟩:=List.exists_mem_of_length_pos (l:=cj (a::b)) we;exact⟨m,ke.1 hm⟩
  .rintro ⟨m,hm⟩
   have:=pY (ke.2 hm);omega
def gG:Tr->List aa->List (List aa×Bool)
 | .leaf b,c=>if l7 c then [(cj c,b)] else []
 | .node l x y,c=>if l7 c then gG x (cj c++[l])++gG y (cj c++[l.rev]) else []
def CC: ∀(t:Tr) (c:List aa),(gG t c).length<=t.size+1
 | .leaf _,c=>by rw[gG];split<;>simp[Tr.size]
 | .node l x y,c=>by
  have h1:=CC x (cj c++[l]);have h2:=CC y (cj c++[l.rev]);rw[gG,Tr.size];split
  .rw[aY];omega
  .simp
def W8{l m:aa}(hl:l.ok)(hm:m.ok)(h:gr l.dir m.dir=0): ∃k e:Rat,0<k/\ ∀p,m.value p=k*l.value p+e:=by
 obtain⟨h1,h2⟩:=Yv.1 h;have z1:=FS hl;have key: ∃k:Rat,0<k/\m.dir.x=k*l.dir.x/\m.dir.y=k*l.dir.y:=by
  unfold ah.cross at h2;rcases wo l.dir with⟨e,k⟩|⟨e,k⟩|⟨e,k⟩
  .rw[e] at h1
   have k2:=qf.1 h1.symm;rcases k with k|⟨k,k'⟩
   .have y2:0<m.dir.y:=by
     rcases k2 with k2|⟨k2,k3⟩
     .exact k2
     .exfalso
      rw[k2] at h2;have:=c9 k k3;grind
    refine⟨m.dir.y/l.dir.y,?_,omb,omb⟩;have:0<m.dir.y/l.dir.y:=(gk k).1 (by rw[show m.dir.y/l.dir.y*l.dir.y=m.dir.y by grind];exact y2);exact this
   .rw[k] at h2
    have y2:m.dir.y=0:=by
     rcases dY.1 (show l.dir.x*m.dir.y=0 by grind) with q|q
     .rw[q] at k';exact absurd k' oma
     .exact q
    have x2:0<m.dir.x:=by
     rcases k2 with k2|⟨_,k3⟩
     .rw[y2] at k2;exact absurd k2 oma
     .exact k3
    refine⟨m.dir.x/l.dir.x,(gk k').1 (by rw[show m.dir.x/l.dir.x*l.dir.x=m.dir.x by grind];exact x2),omb,by rw[y2,k];grind⟩
  .rw[e] at h1
   have k2:=vE.1 h1.symm;rcases k with k|⟨k,k'⟩
   .have y2:m.dir.y<0:=by
     rcases k2 with k2|⟨k2,k3⟩
     .exact k2
     .exfalso
      rw[k2] at h2;have:=c9 (show 0< -l.dir.y by grind) (show 0< -m.dir.x by grind);grind
    refine⟨m.dir.y/l.dir.y,(gk (show 0< -l.dir.y by grind)).1 (by rw[show m.dir.y/l.dir.y* -l.dir.y= -m.dir.y by grind];grind),omb,omb⟩
   .rw[k] at h2
    have y2:m.dir.y=0:=by
     rcases dY.1 (show l.dir.x*m.dir.y=0 by grind) with q|q
     .rw[q] at k';exact absurd k' oma
     .exact q
    have x2:m.dir.x<0:=by
     rcases k2 with k2|⟨_,k3⟩
     .rw[y2] at k2;exact absurd k2 oma
     .exact k3
    refine⟨m.dir.x/l.dir.x,(gk (show 0< -l.dir.x by grind)).1 (by rw[show m.dir.x/l.dir.x* -l.dir.x= -m.dir.x by grind];grind),omb,by rw[y2,k];grind⟩
  .exact absurd e z1
 obtain⟨k,k0,kx,ky⟩:=key;simp only[aa.dir] at kx ky;refine⟨k,(m.c:Rat)-k*(l.c:Rat),k0,fun p=>?_⟩;rw[iG,iG,kx];have:(m.a:Rat)=k*(l.a:Rat):=by grind
 rw[this];grind
def Vo{e:ao}(hne: ∃q,bu e q){l m:aa}(hl:l.ok)(hm:m.ok)(pl: ∀p,bu e p->0<l.value p)(pm: ∀p,bu e p->0<m.value p)(tl: ∃p,iu e p/\l.value p=0)(tm: ∃p,iu e p/\m.value p=0)(ha:gr l.dir m.dir=0):l=m:=by
 obtain⟨k,c,k0,hk⟩:=W8 hl hm ha;obtain⟨p,p1,p2⟩:=tl;obtain⟨q,q1,q2⟩:=tm;have g1:=uG hne pm p1;rw[hk,p2] at g1;have g2:=uG hne pl q1;have g3:=cI (dZ k0) g2;rw[hk] at q2;have c0:c=0:=by grind
 have hz: ∀t,m.value (l.at t)=0:=fun t=>by rw[hk,ly hl.ne,c0];grind
 rcases Be hm hl hz with h|h
 .exact h.symm
 .exfalso
  obtain⟨u,hu⟩:=hne;have a:=pl u hu;have b:=pm u hu;rw[h,en] at b;grind
def zo{c:ao}(hc:bw c){s:bD}(hs:s∈c):iu c (s.l.at s.v.sample)/\s.l.value (s.l.at s.v.sample)=0:=
 ⟨((hc.edge s hs).2 _).1 (oP (hc.edge s hs).1).has,ly (hc.ok s hs).ne _⟩
def fk(c:ao):Prop:=(c.map fun s=>s.l.dir).Pairwise eG
def KV{p:Nat->Bool}{N:Nat}(hm: ∀i j,i<=j->j<N->p j=true->p i=true): ∀(d i j:Nat),j-i<=d->i<=j->j<=N->(∀k,k<i->p k=true)->(∀k,j<=k->k<N->p k=false)->(∀k,k<gm p i j->p k=true)/\ ∀k,gm p i j<=k->k<N->p k=false
 |0,i,j,h,hij,hN,h1,h2=>by
  obtain rfl:i=j:=by omega
  rw[gm,dif_neg we];exact⟨h1,h2⟩
 |d+1,i,j,h,hij,hN,h1,h2=>by
  by_cases q:i<j
  .rw[gm,dif_pos q]
   by_cases r:p ((i+j)/2)=true
   .rw[if_pos r]
    exact KV hm d _ _ we we hN (fun k hk=>hm k ((i+j)/2) we we r) h2
   .rw[if_neg r]
    refine KV hm d _ _ we we we h1 fun k hk hkN=>?_
    cases hp:p k with
    |false=>rfl
    |true=>exact absurd (hm _ k hk hkN hp) r
  .obtain rfl:i=j:=by omega
   rw[gm,dif_neg q];exact⟨h1,h2⟩
def UF{ds:List ah}{d:ah}{n:Nat}(h:ds.Pairwise eG)(h1: ∀x∈ds.take n,eG x d)(h2: ∀x∈ds.drop n,eG d x):(ds.take n++d::ds.drop n).Pairwise eG:=by
 have hs:=h;rw[<-kR n ds,gN] at hs;obtain⟨a,b,c⟩:=hs;rw[gN];refine⟨a,cZ.2 ⟨h2,b⟩,fun x hx y hy=>?_⟩;rcases aW.1 hy with rfl|hy
 .exact h1 x hx
 .exact c x hx y hy
def Jq(l:aa): ∀c:ao,((eu l c).map fun s=>s.l.dir).Sublist (c.map fun s=>s.l.dir)
 |[]=>List.Sublist.refl _
 |s::c=>by
  rw[eu];split
  .exact(Jq l c).cons_cons _
  .exact(Jq l c).cons _
def Pn{α:Type}{l:List α}{n:Nat}{x:α}(h:x∈l.take n): ∃i,i<n/\l[i]? =some x:=by
 obtain⟨i,hi,e⟩:=oT.1 h;rw[bL] at hi;exact⟨i,we,by rw[List.getElem_take] at e;rw[aZ we,e]⟩
def QT{α:Type}{l:List α}{n:Nat}{x:α}(h:x∈l.drop n): ∃i,n<=i/\i<l.length/\l[i]? =some x:=by
 obtain⟨i,hi,e⟩:=oT.1 h;rw[gM] at hi;exact⟨n+i,we,we,by rw[List.getElem_drop] at e;rw[aZ we,e]⟩
def Hd{c:ao}{l:aa}(hc:bw c)(hl:l.ok)(ha:fk c)(hb:cw c l=true):fk (bG c l):=by
 have hg:=(gz hc hl hb).1;unfold bG at hg⊢
 cases hp:kw c l with
 |none=>exact ha
 |some v=>
  simp only[hp] at hg⊢;have hs:fk (eu l c):=ha.sublist (Jq l c);have nt: ∀s∈eu l c,gr s.l.dir l.dir≠0:=fun s h e=>by
   have m1:s∈lA (eu l c) l v:=rA.2 (.inr h);have m2:(⟨l,v⟩:bD)∈lA (eu l c) l v:=rA.2 (.inl J);have ee:=Vo hg.ne (hg.ok s m1) hl (fun p hp=>hp s m1) (fun p hp=>hp ⟨l,v⟩ m2) ⟨_,zo hg m1⟩ ⟨_,zo hg m2⟩ e;obtain⟨s0,g1,_,rfl⟩:=r4.1 h;obtain⟨_,q,q1,q2⟩:=Mw hl.ne hp;have h5:=q1 s0 g1;have e5:s0.l=l:=ee;rw[e5] at h5;grind
  generalize eu l c=d at*;have hmo: ∀i j,i<=j->j<d.length->jq d l j=true->jq d l i=true:=fun i j hij hj h=>by
   unfold jq at h⊢;rw[aZ hj] at h;rw[aZ we];simp only[decide_eq_true_eq,Av] at h⊢;by_cases q:i=j
   .subst q;exact h
   .have:=qT.1 hs i j omq omq we
    simp only[qV] at this;exact DH this h
  obtain⟨k1,k2⟩:=KV hmo d.length 0 d.length we we (bV _) (fun k h=>absurd h we) (fun k h h'=>absurd h' we);unfold lA fk;generalize gm (jq d l) 0 d.length=n at*;rw[aL,bY,iT,iL];refine UF hs (fun x hx=>?_) (fun x hx=>?_)
  .rw[<-iT] at hx
   obtain⟨s,h1,rfl⟩:=aU.1 hx;obtain⟨i,hi,e⟩:=Pn h1;have:=k1 i hi;unfold jq at this;rw[e] at this;simpa[Av] using this
  .rw[<-iL] at hx
   obtain⟨s,h1,rfl⟩:=aU.1 hx;obtain⟨i,hi,hi2,e⟩:=QT h1;have:=k2 i hi hi2;unfold jq at this;rw[e] at this;have h3: ¬eG s.l.dir l.dir:=by simpa[Av] using this
   by_cases q:eG l.dir s.l.dir
   .exact q
   .exact absurd (TG h3 q) (nt s (iZ h1))
def K4: ∀{t:Tr} {c:ao},t.all aa.ok->bw c->fk c-> ∀x∈t.parts c,fk x.2
 | .leaf b,c,_,_,ha,x,h=>by
  rw[Tr.parts,aT] at h;subst h;exact ha
 | .node l u v,c,ht,hc,ha,x,h=>by
  rw[Tr.parts] at h;rcases bZ.1 h with h|h
  .split at h
   .rename_i hb
    exact K4 ht.2.1 (gz hc ht.1 hb).1 (Hd hc ht.1 ha hb) x h
   .cases h
  .split at h
   .rename_i hb
    exact K4 ht.2.2 (gz hc ht.1.rev hb).1 (Hd hc ht.1.rev ha hb) x h
   .cases h
def tO(c:List aa):Prop:=(c.map aa.dir).Pairwise eG
def MV{c:List aa}{e:ao}(hs: ∀s∈e,s.l∈c){l:aa}(hl:l.ok)(he:(gg l c ar.all).isSome=true): ∃w:ar,w.Pos/\ ∀t,w.ins t->iu e (l.at t)/\l.value (l.at t)=0/\ ∀m∈c,m≠l->0<m.value (l.at t):=by
 obtain⟨w,hw⟩:=rZ.1 he;obtain⟨h1,h2⟩:=Eh l c _ w AE hw;refine⟨w,h1,fun t ht=>?_⟩;have h3:=((h2 t).1 ht).2;refine⟨fun s hs'=>?_,ly hl.ne t,h3⟩;by_cases q:s.l=l
 .rw[q,ly hl.ne];exact iR
 .exact dZ (h3 _ (hs s hs') q)
def Se{α:Type}{p:α->Bool}: ∀(l:List α),(∀i x,i<(l.takeWhile p).length->l[i]? =some x->p x=true)/\ ∀x,l[(l.takeWhile p).length]? =some x->p x=false
 |[]=>⟨fun i x h _=>by simp at h,fun x h=>by simp at h⟩
 |a::l=>by
  obtain⟨h1,h2⟩:=Se (p:=p) l;rw[oN]
  cases ha:p a with
  |false=>
   refine⟨fun i x h _=>by simp at h,fun x h=>?_⟩;simp at h;rw[<-h];exact ha
  |true=>
   simp only[if_true,aS];refine⟨fun i x h e=>?_,fun x h=>h2 x omE⟩
   cases i with
   |zero=>simp at e;rw[<-e];exact ha
   |succ i=>exact h1 i x we (by simpa using e)
def Yh{out:List aa}{l:aa}(ha:tO out)(ht: ∀m∈out,gr m.dir l.dir=0->m=l):tO (qn out l):=by
 unfold qn;split
 .exact ha
 .rename_i hne
  obtain⟨k1,k2⟩:=Se (p:=fun x:aa=>decide (gr x.dir l.dir<0)) out;have e0:n8 out l=(out.takeWhile fun x=>decide (gr x.dir l.dir<0)).length:=J;rw[<-e0] at k1 k2;generalize n8 out l=n at*;unfold tO;rw[aL,bY,iT,iL];refine UF ha (fun x hx=>?_) (fun x hx=>?_)
  .rw[<-iT] at hx
   obtain⟨m,h1,rfl⟩:=aU.1 hx;obtain⟨i,hi,e⟩:=Pn h1;simpa[Av] using k1 i m hi e
  .rw[<-iL] at hx
   obtain⟨m,h1,rfl⟩:=aU.1 hx;obtain⟨i,hi,hi2,e⟩:=QT h1;have hn:n<out.length:=by omega
   have h3: ¬eG (out[n]).dir l.dir:=by simpa[Av] using k2 _ (aZ hn)
   have h4:eG l.dir (out[n]).dir:=by
    by_cases q:eG l.dir (out[n]).dir
    .exact q
    .exact absurd (by rw[aZ hn,ht _ (dQ hn) (TG h3 q)]) hne
   by_cases q:i=n
   .subst q
    rw[aZ hn] at e
    cases e
    exact h4
   .have:=qT.1 ha n i omq omq we
    simp only[qV] at this;rw[aZ hi2] at e
    cases e
    exact DH h4 this
def H3{c:List aa}(ht: ∀l∈c,∀m∈c,(gg l c ar.all).isSome=true->(gg m c ar.all).isSome=true->gr m.dir l.dir=0->m=l): ∀{t out:List aa},(∀l∈t,l∈c)->(∀m∈out,m∈c/\(gg m c ar.all).isSome=true)->tO out->tO (ot c t out)
 |[],out,_,_,ha=>ha
 |l::t,out,hc,ho,ha=>by
  have hl:=hc l aQ;rw[ot];by_cases q:(gg l c ar.all).isSome=true
  .rw[if_pos q]
   refine H3 ht (fun l h=>hc l (aJ _ h)) (fun m hm=>?_) (Yh ha fun m hm e=>ht l hl m (ho m hm).1 q (ho m hm).2 e);rcases IH.1 hm with rfl|h
   .exact⟨hl,q⟩
   .exact ho m h
  .rw[if_neg q]
   exact H3 ht (fun l h=>hc l (aJ _ h)) ho ha
def aua{c:List aa}(hok: ∀l∈c,l.ok)(hne: ∃p,d8 c p):tO (cj c):=by
 obtain⟨e,_,hg,hi,hs⟩:=F4 hok hne;refine H3 (fun l hl m hm el em h=>?_) (fun l h=>h) (fun m h=>by cases h) .nil;obtain⟨w1,p1,k1⟩:=MV (fun s h=>(hs s h).1) (hok l hl) el;obtain⟨w2,p2,k2⟩:=MV (fun s h=>(hs s h).1) (hok m hm) em;obtain⟨a1,a2,_⟩:=k1 _ (oP p1);obtain⟨b1,b2,_⟩:=k2 _ (oP p2);exact Vo hg.ne (hok m hm) (hok l hl) (fun p hp=>(hi p).1 hp m hm) (fun p hp=>(hi p).1 hp l hl) ⟨_,b1,b2⟩ ⟨_,a1,a2⟩ h
def OH{v:ar}{t u:Rat}(h:v.ins t)(k:v.has u):v.ins ((t+u)*(1/2)):=by
 obtain⟨lo,hi,nl,nh⟩:=v;unfold ar.ins at*;unfold ar.has at k
 cases nl<;>cases nh<;>simp at* <;>grind
def Fm{c d:ao}(hc: ∃q,bu c q)(h: ∀p,bu c p↔bu d p){p:ah}(hp:iu c p):iu d p:=fun s hs=>uG hc (fun q hq=>(h q).1 hq s hs) hp
def Yk{c:List aa}{d:ao}(hok: ∀l∈c,l.ok)(hd:bw d)(h: ∀p,bu d p↔d8 c p)(l:aa):l∈d.map (·.l)↔l∈cj c:=by
 have hne: ∃p,d8 c p:=hd.ne.elim fun q hq=>⟨q,(h q).1 hq⟩;obtain⟨e,_,hg,hi,hs⟩:=F4 hok hne;have hde: ∀p,bu d p↔bu e p:=fun p=>by rw[h,hi]
 constructor
 .intro hl
  obtain⟨s,k,rfl⟩:=aU.1 hl;obtain⟨t1,t2⟩:=zo hd k;have t3:=Fm hd.ne hde t1;have: ¬bu e (s.l.at s.v.sample):=fun q=>by
   have:=(hde _).2 q s k;rw[t2] at this;exact absurd this oma
  obtain⟨u,hu,hz⟩: ∃u∈e,u.l.value (s.l.at s.v.sample)=0:=by
   by_cases q: ∃u∈e,u.l.value (s.l.at s.v.sample)=0
   .exact q
   .exfalso
    refine this fun u hu=>?_;have g1:=t3 u hu;have g2:u.l.value (s.l.at s.v.sample)≠0:=fun e=>q ⟨u,hu,e⟩;grind
  have:=UD hd k (hg.ok u hu) (fun p hp=>(hde p).1 hp u hu) hz;rw[<-this];exact ke.2 (hs u hu)
 .intro hl
  obtain⟨l1,l2⟩:=ke.1 hl;obtain⟨w,p1,k1⟩:=MV (fun s h=>(hs s h).1) (hok l l1) l2;have hed: ∀p,bu e p↔bu d p:=fun p=>(hde p).symm;have hi1:=oP p1;obtain⟨⟨u1,m1,n1⟩,⟨u2,m2,n2⟩⟩:=KM hi1;have g1:=OH hi1 n1;have g2:=OH hi1 n2;obtain⟨c0,c1,_⟩:=k1 _ hi1;have c2:=Fm hg.ne hed c0;have: ¬bu d (l.at w.sample):=fun q=>by
   have:=(h _).1 q l l1;rw[c1] at this;exact absurd this oma
  obtain⟨s,hsd,hz⟩: ∃s∈d,s.l.value (l.at w.sample)=0:=by
   by_cases q: ∃u∈d,u.l.value (l.at w.sample)=0
   .exact q
   .exfalso
    refine this fun u hu=>?_;have g1:=c2 u hu;have g2:u.l.value (l.at w.sample)≠0:=fun e=>q ⟨u,hu,e⟩;grind
  have e1:=Fm hg.ne hed (k1 _ g1).1 s hsd;have e2:=Fm hg.ne hed (k1 _ g2).1 s hsd;rw[mv] at hz e1 e2;have hK:l.cutK s.l=0:=by
   rcases jI (l.cutK s.l) with h|h|h
   .exact h
   .exfalso
    have:=c9 (a:=w.sample-u1) (b:=l.cutK s.l) omb h;grind
   .exfalso
    have:=c9 (a:=u2-w.sample) (b:= -l.cutK s.l) omb omb;grind
  have hz2: ∀t,s.l.value (l.at t)=0:=fun t=>by rw[mv,hK];rw[hK] at hz;grind
  rcases Be (hd.ok s hsd) (hok l l1) hz2 with q|q
  .rw[<-q];exact dX hsd
  .exfalso
   obtain⟨u,hu⟩:=hd.ne;have a:=hu s hsd;have b:=(h u).1 hu l l1;rw[q,en] at a;grind
def QQ: ∀{l m:List aa},tO l->tO m->(∀x,x∈l↔x∈m)->l=m
 |[],[],_,_,_=>rfl
 |[],b::m,_,_,h=>absurd ((h b).2 aQ) omc
 |a::l,[],_,_,h=>absurd ((h a).1 aQ) omc
 |a::l,b::m,h1,h2,h=>by
  obtain⟨p1,p2⟩:=cZ.1 h1;obtain⟨q1,q2⟩:=cZ.1 h2;have p1': ∀x∈l,eG a.dir x.dir:=fun x hx=>p1 _ (dX hx);have q1': ∀x∈m,eG b.dir x.dir:=fun x hx=>q1 _ (dX hx);have e:a=b:=by
   rcases aW.1 ((h a).1 aQ) with e|e
   .exact e
   .rcases aW.1 ((h b).2 aQ) with f|f
    .exact f.symm
    .exact(Cn (q1' a e) (p1' b f)).elim
  subst e;congr 1;refine QQ p2 q2 fun x=>⟨fun hx=>?_,fun hx=>?_⟩
  .rcases aW.1 ((h x).1 (aJ _ hx)) with e|e
   .subst e;exact(zk _ (p1' _ hx)).elim
   .exact e
  .rcases aW.1 ((h x).2 (aJ _ hx)) with e|e
   .subst e;exact(zk _ (q1' _ hx)).elim
   .exact e
def Mk{c:List aa}{d:ao}(hok: ∀l∈c,l.ok)(hd:bw d)(ha:fk d)(h: ∀p,bu d p↔d8 c p):cj c=d.map (·.l):=by
 refine QQ (aua hok (hd.ne.elim fun q hq=>⟨q,(h q).1 hq⟩)) ?_ fun x=>(Yk hok hd h x).symm;unfold tO;rw[oU];exact ha
def WY{c:List aa}(h:l7 c≠true)(t:Tr):gG t c=[]:=by
 cases t<;>rw[gG,if_neg h]
def Mo: ∀{t:Tr} {c:List aa} {d:ao},t.all aa.ok->(∀l∈c,l.ok)->bw d->fk d->(∀p,bu d p↔d8 c p)->gG t c=(t.parts d).map fun x=>(x.2.map (·.l),x.1)
 | .leaf b,c,d,_,hok,hd,ha,h=>by
  have hb:l7 c=true:=(KY hok).2 (hd.ne.elim fun q hq=>⟨q,(h q).1 hq⟩);rw[gG,if_pos hb,Tr.parts,Mk hok hd ha h];rfl
 | .node l x y,c,d,ht,hok,hd,ha,h=>by
  have hne: ∃p,d8 c p:=hd.ne.elim fun q hq=>⟨q,(h q).1 hq⟩;have hb:l7 c=true:=(KY hok).2 hne;have hck: ∀m∈cj c,m.ok:=fun m hm=>hok m (ke.1 hm).1;have go: ∀(k:aa) (u:Tr),k.ok->u.all aa.ok->(∀{c:List aa} {d:ao},(∀l∈c,l.ok)->bw d->fk d->(∀p,bu d p↔d8 c p)->gG u c=(u.parts d).map fun x=>(x.2.map (·.l),x.1))->gG u (cj c++[k])=(if cw d k then u.parts (bG d k) else []).map fun x=>(x.2.map (·.l),x.1):=fun k u hk hu ih=>by
   have hok2:=jp hck hk;have hin: ∀p,d8 (cj c++[k]) p↔bu d p/\0<k.value p:=fun p=>by rw[lH,CY hok hne,h]
   by_cases q:cw d k=true
   .rw[if_pos q]
    obtain⟨g1,g2⟩:=gz hd hk q;exact ih hok2 g1 (Hd hd hk ha q) fun p=>by rw[g2,hin]
   .rw[if_neg q]
    refine WY (fun e=>q ((oz hd hk).2 ?_)) u;obtain⟨p,hp⟩:=(KY hok2).1 e;exact⟨p,(hin p).1 hp⟩
  rw[gG,if_pos hb,Tr.parts,aL,go l x ht.1 ht.2.1 (fun a b c d=>Mo ht.2.1 a b c d),go l.rev y ht.1.rev ht.2.2 fun a b c d=>Mo ht.2.2 a b c d]
def I3{c:ao}(hc:bw c){s:bD}(hs:s∈c)(h:s.v.nh=true): ∀u∈c,0<=u.l.nor.dot s.l.dir:=fun u hu=>by
 obtain⟨p1,p2⟩:=hc.edge s hs;have hi:=(oP p1).has;have key: ∀n:Rat,0<=n->0<=u.l.value (s.l.at (s.v.sample+n)):=fun n hn=>((p2 _).1 ⟨hi.1.imp id fun q=>by grind, .inl h⟩) u hu;have h0:=key 0 oma;rw[mv] at h0;by_cases q:0<=u.l.nor.dot s.l.dir
 .exact q
 .exfalso
  have q':0< -(s.l.cutK u.l):=by unfold aa.cutK;grind
  have h1:=key ((s.l.cutC u.l+s.v.sample*s.l.cutK u.l+1)/ -(s.l.cutK u.l)) (by
   have:=(gk (s:=(s.l.cutC u.l+s.v.sample*s.l.cutK u.l+1)/ -(s.l.cutK u.l)) q').1 (by rw[show(s.l.cutC u.l+s.v.sample*s.l.cutK u.l+1)/ -(s.l.cutK u.l)* -(s.l.cutK u.l)=s.l.cutC u.l+s.v.sample*s.l.cutK u.l+1 by grind];grind);grind)
  rw[mv] at h1;have:(s.l.cutC u.l+s.v.sample*s.l.cutK u.l+1)/ -(s.l.cutK u.l)*s.l.cutK u.l= -(s.l.cutC u.l+s.v.sample*s.l.cutK u.l+1):=by grind
  grind
def U6{c:ao}(hc:bw c){s:bD}(hs:s∈c)(h:s.v.nl=true): ∀u∈c,u.l.nor.dot s.l.dir<=0:=fun u hu=>by
 obtain⟨p1,p2⟩:=hc.edge s hs;have hi:=(oP p1).has;have key: ∀n:Rat,0<=n->0<=u.l.value (s.l.at (s.v.sample-n)):=fun n hn=>((p2 _).1 ⟨.inl h,hi.2.imp id fun q=>by grind⟩) u hu;have h0:=key 0 oma;rw[mv] at h0;by_cases q:u.l.nor.dot s.l.dir<=0
 .exact q
 .exfalso
  have q':0<s.l.cutK u.l:=by unfold aa.cutK;grind
  have h1:=key ((s.l.cutC u.l+s.v.sample*s.l.cutK u.l+1)/s.l.cutK u.l) (by
   have:=(gk (s:=(s.l.cutC u.l+s.v.sample*s.l.cutK u.l+1)/s.l.cutK u.l) q').1 (by rw[show(s.l.cutC u.l+s.v.sample*s.l.cutK u.l+1)/s.l.cutK u.l*s.l.cutK u.l=s.l.cutC u.l+s.v.sample*s.l.cutK u.l+1 by grind];grind);grind)
  rw[mv] at h1;have:(s.l.cutC u.l+s.v.sample*s.l.cutK u.l+1)/s.l.cutK u.l*s.l.cutK u.l=s.l.cutC u.l+s.v.sample*s.l.cutK u.l+1:=by grind
  grind
def ul(c:List aa)(v:ah):Bool:=c.all fun l=>decide (0<=Int.sign (l.dir.cross v).num)
def aHY(k:Rat):0<=Int.sign k.num↔0<=k:=by
 have h1:=Hi k;constructor<;>intro h
 .by_cases q:0<=k
  .exact q
  .exact absurd (h1.2 omb) we
 .by_cases q:0<=Int.sign k.num
  .exact q
  .exact absurd (h1.1 we) omb
def RA{c:ao}{v:ah}:ul (c.map (·.l)) v=true↔ ∀u∈c,0<=u.l.nor.dot v:=by
 unfold ul;rw[List.all_map,dV];simp only[Function.comp,decide_eq_true_eq,aHY,CQ]
def GZ:aa:=⟨1,0,0⟩
def rk(c:List aa)(i:Nat):List ah:=
 if 0<Int.sign ((c.getD i GZ).dir.cross (c.getD ((i+1)%c.length) GZ).dir).num then [cx (c.getD i GZ) (c.getD ((i+1)%c.length) GZ)] else []
def gj(c:List aa):List ah:=(List.range c.length).flatMap (rk c)
def tz{c:List aa}{i:Nat}{l m:aa}(h1:c[i]? =some l)(h2:c[(i+1)%c.length]? =some m):rk c i=if 0<Int.sign (l.dir.cross m.dir).num then [cx l m] else []:=by
 unfold rk;rw[aV,aV,h1,h2];rfl
def DZ(c:List aa)(k:Nat):(List.range (k+1)).flatMap (rk c)=(List.range k).flatMap (rk c)++rk c k:=by
 rw[rT,qN];simp
def Gz(c:List aa): ∀k,((List.range k).flatMap (rk c)).length<=k
 |0=>bV _
 |k+1=>by
  have:=Gz c k;have h2:(rk c k).length<=1:=by unfold rk;split<;>simp
  rw[DZ,aY];omega
def Xj{c:List aa}{p:ah}(h:p∈gj c): ∃l∈c,∃m∈c,p=cx l m:=by
 obtain⟨i,hi,hp⟩:=fJ.1 h;have hi':=kZ.1 hi;have e1:=aZ hi';have e2:=aZ (l:=c) (dW (i+1) (show 0<c.length by omega));rw[tz e1 e2] at hp;split at hp
 .exact⟨_,dQ _,_,dQ _,aT.1 hp⟩
 .cases hp
def aIf{t:Tr}(ht:t.all aa.ok):((gG t []).filter (·.2)).map (·.1)=(bO t).map fun c=>c.map (·.l):=by
 rw[Mo (d:=[]) ht (fun l h=>by cases h) bw.nil .nil (fun p=>⟨fun _ _ h=>okA,fun _ _ h=>okA⟩)];unfold bO;rw[List.filter_map,oU,oU];rfl
def ary{t:Tr}(ht:t.all aa.ok): ∀c∈bO t,bw c:=fun c hc=>(Ce ht bw.nil (nC.1 hc)).1
def d8.open{c:List aa}{q:ah}(u:ah)(h:d8 c q): ∃e:Rat,0<e/\ ∀d,0<=d->d<=e->d8 c (cD q u d):=by
 have hd:bu (c.map fun m=>(⟨m,ar.all⟩:bD)) q:=fun s hs=>by
  obtain⟨m,hm,rfl⟩:=aU.1 hs;exact h m hm
 obtain⟨e,he,ho⟩:=hd.open u;exact⟨e,he,fun d d0 d1 m hm=>ho d d0 d1 ⟨m,ar.all⟩ (dX hm)⟩
def Hq(l:aa)(t u:Rat):l.at (t+u)=cD (l.at t) l.dir u:=by
 rw[<-AQ,<-AQ];unfold cD;simp only[ah.mk.injEq];constructor<;>grind
def IM(a:Int){g:Nat}(h:g∣a.natAbs):(g:Int)*zv (decide (a<0)) (a.natAbs/g)=a:=by
 obtain⟨k,hk⟩:=h;by_cases g0:g=0
 .subst g0;simp at hk⊢;omega
 have e:a.natAbs/g=k:=by rw[hk];exact rN k (iM g0)
 rw[e];unfold zv;have hc:((g*k:Nat):Int)=(g:Int)*(k:Int):=by push_cast;rfl
 by_cases n:a<0
 .simp only[n,decide_true,if_true];rw[tY];omega
 .simp only[n,decide_false];show(g:Int)*(k:Int)=a;omega
def Py{a b c:Int}(h: ¬(a=0/\b=0)): ∃g:Int,0<g/\g*(m7 a b c).a=a/\g*(m7 a b c).b=b/\g*(m7 a b c).c=c:=by
 have hg:0<Nat.gcd (Nat.gcd a.natAbs b.natAbs) c.natAbs:=nJ _ (iM fun e=>h ⟨lQ.1 (mR e),lQ.1 (mW e)⟩);refine⟨(Nat.gcd (Nat.gcd a.natAbs b.natAbs) c.natAbs:Nat),we,?_,?_,?_⟩
 .exact IM a (rK (lK _ _) (lK _ _))
 .exact IM b (rK (lK _ _) (mK _ _))
 .exact IM c (mK _ _)
def Tc{v w:ZP}(h:v≠w): ∃g:Rat,0<g/\(ji v.1 v.2 w.1 w.2).value v.q=0/\(ji v.1 v.2 w.1 w.2).value w.q=0/\w.q=cD v.q (ji v.1 v.2 w.1 w.2).dir g:=by
 obtain⟨m,n⟩:=v;obtain⟨p,q⟩:=w;have hne: ¬(jl n q=0/\jr m p=0):=fun e=>h (by unfold jl jr at e;rw[Prod.mk.injEq];omega);obtain⟨g,g0,ga,gb,gc⟩:=Py (c:=oD m n p q) hne;dsimp only;unfold ji;generalize m7 (jl n q) (jr m p) (oD m n p q)=l at*;have g0':(0:Rat)<(g:Rat):=by exact_mod_cast g0
 have ra:(g:Rat)*(l.a:Rat)= -((q:Rat)-(n:Rat)):=by rw[<-bS,ga];unfold jl;push_cast;grind
 have rb:(g:Rat)*(l.b:Rat)=(p:Rat)-(m:Rat):=by rw[<-bS,gb];unfold jr;push_cast;grind
 have rc:(g:Rat)*(l.c:Rat)= -(-((q:Rat)-(n:Rat))*(m:Rat)+((p:Rat)-(m:Rat))*(n:Rat)):=by rw[<-bS,gc];unfold oD jl jr;push_cast;grind
 have z: ∀x:Rat,(g:Rat)*x=0->x=0:=fun x hx=>by
  rcases dY.1 hx with e|e
  .rw[e] at g0';exact absurd g0' oma
  .exact e
 refine⟨g,g0',z _ ?_,z _ ?_,?_⟩
 .rw[iG];unfold ZP.q iP;dsimp only;grind
 .rw[iG];unfold ZP.q iP;dsimp only;grind
 .unfold ZP.q iP cD aa.dir;simp only[ah.mk.injEq];constructor<;>grind
end Go.Sx
end
